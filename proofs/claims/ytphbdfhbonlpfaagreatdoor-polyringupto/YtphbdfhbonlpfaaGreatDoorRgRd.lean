/- How the readings of the arguments stand as plain values. -/
import Derived.Test.YtphbdfhbonlpfaaGreatDoorRows
import Derived.Test.YtphbdfhbonlpfaaGreatDoorRgTy
import Derived.ReaderBy
import Derived.Test.YtphbdfhbonlpfaaGreatDoorRgPl3
import Derived.Test.YtphbdfhbonlpfaaGreatDoorCards
import Derived.Test.YtphbdfhbonlpfaaGreatDoorTie
import Derived.ChangeOld
import Derived.ChangeSame
import Derived.Carry
import Derived.RowKit
import Derived.WalkKit
import Derived.ProofKit
import Derived.OpenShut
import Derived.Deep.DeepHandedRow
import Derived.Lib.LaidTab
open List
namespace Go.Ab
open Go
open Go.Proofs.YtphbdfhbonlpfaaGreatDoor.Rows (uptoBulk uptoBulkAll)
def Ou (w:World):A5:=λb=>w.heap[b]?
def CCs (σ:A5) (xs:List AV) (cs:List Value):Prop := cs.length=xs.length/\∀(j:Nat) (a:AV) (c:Value),xs[j]? = some a->cs[j]? = some c->CC σ a c/\Fj c=true
section
variable {H:Type} {enc:TypeId×Value->H} {P:Program} {w:World}
variable {σ:A5} {a:Addr} {n:Nat} {α β:Type} {e t:TypeId} {Q:α->Nat->Prop} {g:β->List AV} {R:β->Nat->Prop}
def Rd (enc:TypeId×Value->H) (P:Program) (w:World) (n:Nat) (t:TypeId) (f:α->List AV) (Q:α->Nat->Prop):Prop := ∀(cs:List Value) (d:DataW H),DataW.ofBy (keyOf P) enc P w 0 true true n t cs=some d->uptoBulk d<=1048576->∃a:α,CCs (Ou w) (f a) cs/\Q a (uptoBulk d)
theorem K4 (t:TypeId) (f:α->List AV) (Q:α->Nat->Prop):Rd enc P w 0 t f Q:=λ_ _ h=>by cases h
theorem Bbc (d:DataW H):1<=uptoBulk d:=by cases d with| lit l=>cases l <;> simp[uptoBulk]| _=>simp[uptoBulk]
theorem Yi {a:AV} {c:Value} (h:CC σ a c) (h1:Fj c=true):CCs σ [a] [c]:=by refine⟨rfl,λj x y hx hy=>?_⟩;cases j with| zero=>cases hx;cases hy;exact⟨h,h1⟩| succ j=>cases hx
theorem Bbd {xs bs:List AV} {cs b:List Value} (h:CCs σ xs cs) (h':CCs σ bs b):CCs σ (xs++bs) (cs++b):=by
 refine⟨by simp[h.1,h'.1],λj x y hx hy=>?_⟩;rcases Nat.lt_or_ge j xs.length with hj|hj
 .rw[getElem?_append_left hj]at hx;rw[getElem?_append_left (by rw[h.1];exact hj)]at hy;exact h.2 j x y hx hy
 .rw[getElem?_append_right hj]at hx;rw[getElem?_append_right (by rw[h.1];exact hj),h.1]at hy;exact h'.2 _ x y hx hy
theorem Pq (k:IntKind) (n:Nat) (hu:P.underlying t=some (.int k)):Rd enc P w n t (λa:Int=>[O k a]) (λa _=>k.min<=a/\a<=k.max):=by
 intro cs d h _;cases n with
 | zero=>cases h
 | succ n=>
  rcases cs with _|⟨c,_|⟨f,r⟩⟩
  .simp[DataW.ofBy,hu]at h
  .cases c <;> simp[DataW.ofBy,hu]at h;rename_i b m;obtain⟨⟨rfl,hw⟩,_⟩:=h;exact⟨m,Yi (.val _) rfl,by simpa[Lit.wf] using hw⟩
  .simp[DataW.ofBy,hu]at h
theorem Bbe (n:Nat) (hu:P.underlying t=some .bool):Rd enc P w n t (λa:Bool=>[Ar a]) (λ_ _=>True):=by
 intro cs d h _;cases n with
 | zero=>cases h
 | succ n=>
  rcases cs with _|⟨c,_|⟨b,r⟩⟩
  .simp[DataW.ofBy,hu]at h
  .cases c <;> simp[DataW.ofBy,hu]at h;exact⟨_,Yi (.val _) rfl,trivial⟩
  .simp[DataW.ofBy,hu]at h
theorem Awy (n:Nat) (hu:P.underlying t=some .string):Rd enc P w n t (λa:ByteArray=>[Es a]) (λa b=>a.size<=b):=by
 intro cs d h _;cases n with
 | zero=>cases h
 | succ n=>
  rcases cs with _|⟨c,_|⟨f,r⟩⟩
  .simp[DataW.ofBy,hu]at h
  .cases c
   case string s=>
    have h':(if s.size<=maxLen then some (DataW.lit (H:=H) (.string s.data.toList)) else none)=some d:=(by unfold DataW.ofBy at h;rw[hu]at h;exact h);split at h'
    .cases h';refine⟨_,Yi (.val _) rfl,?_⟩;have e:s.data.toList.length=s.size:=(by rw[Array.length_toList];rfl);simp only[uptoBulk];omega
    .cases h'
   all_goals (unfold DataW.ofBy at h;rw[hu]at h;cases h)
  .simp[DataW.ofBy,hu]at h
def QL {α:Type} (Q:α->Nat->Prop):List α->Nat->Prop
 | [],_=>True
 | a::l,m=>∃m1 m2,1<=m1/\m1+m2<=m/\Q a m1/\QL Q l m2
theorem Bbf {sz:Nat} {f:α->List AV} (ih:Rd enc P w n e f Q) (g:Nat->Option (List Value)):∀(L:List Nat) (c:List (DataW H)), L.mapM (λi=>(g i).bind (DataW.ofBy (keyOf P) enc P w 0 true true n e))=some c->uptoBulkAll c<=1048576 -> ∃l:List α,l.length=L.length/\QL Q l (uptoBulkAll c)/\∀(i:Nat) (a:α),l[i]? = some a->∃k cs,L[i]? = some k/\g k=some cs/\CCs (Ou w) (f a) cs:=by
 intro L;induction L with
 | nil=>intro c h _;exact⟨[],rfl,trivial,λi a h=>by cases h⟩
 | cons k L j=>intro c h hb;simp only[mapM_cons,Option.pure_def,Option.bind_eq_bind,Option.bind_eq_some_iff]at h;obtain⟨d,⟨cs,h1,h2⟩,b,h3,A⟩:=h;cases A;simp only[uptoBulkAll]at hb;obtain⟨a,ha,hq⟩:=ih cs d h2 ω;obtain⟨l,y,u,s⟩:=j b h3 ω;refine⟨a::l,by simp[y],⟨uptoBulk d,uptoBulkAll b,Bbc d,by simp[uptoBulkAll],hq,u⟩,?_⟩;intro i x hx;cases i with| zero=>cases hx;exact⟨k,cs,rfl,h1,ha⟩| succ i=>obtain⟨z,q,g1,g2,g3⟩:=s i x hx;exact⟨z,q,g1,g2,g3⟩
theorem Ps {α:Type} {Q:α->Nat->Prop}:∀{l:List α} {m:Nat},QL Q l m->l.length<=m
 | [],_,_=>Nat.zero_le _
 | _::l,_,⟨m1,m2,h1,h2,_,b⟩=>by have:=Ps b;simp only[length_cons];omega
theorem S0 {α:Type} {Q:α->Nat->Prop}:∀{l:List α} {m:Nat},QL Q l m->∀a∈l,∃b,b<=m/\Q a b
 | _::l,_,⟨m1,m2,h1,h2,h3,c⟩,a,ha=>by
  rcases mem_cons.1 ha with rfl|ha
  .exact⟨m1,ω,h3⟩
  .obtain⟨b,g1,g2⟩:=S0 c a ha;exact⟨b,ω,g2⟩
theorem Ahr {cs:List Value} (h:w.cells? 0 a n=some cs):cs.length=n/\∀j,j<n->w.cell? (a.add j)=cs[j]?:=by
 unfold World.cells? at h;rw[if_pos (Nat.zero_le _)]at h;have key:∀(L:List Nat) (cs:List Value),L.mapM (λi=>w.cell? (a.add i))=some cs->cs.length=L.length/\∀(i k:Nat),L[i]? = some k->w.cell? (a.add k)=cs[i]?:=by
  intro L;induction L with
  | nil=>intro cs h;cases h;exact⟨rfl,λi k h=>by cases h⟩
  | cons x L ih=>intro cs h;simp only[mapM_cons,Option.pure_def,Option.bind_eq_bind,Option.bind_eq_some_iff]at h;obtain⟨v,h1,vs,h2,h3⟩:=h;cases h3;obtain⟨i1,i2⟩:=ih vs h2;refine⟨by simp[i1],λi k hk=>?_⟩;cases i with| zero=>cases hk;simpa using h1| succ i=>simpa using i2 i k hk
 obtain⟨h1,h2⟩:=key _ _ h;rw[length_range]at h1;exact⟨h1,λj hj=>h2 j j (by simp[hj])⟩
theorem Awz (h:a.spot=none) (m:Nat):a.add m=⟨a.block,a.off+m,none⟩:=by
 unfold Addr.add;split
 .rename_i e;subst e;cases a;simp_all
 .rfl
theorem Ahs (sz:Nat) {f:α->List AV} (g:α->AV) (hu:P.underlying t=some (.slice e)) (L:P.cellsOf e=sz) (hpos:0<sz) (hg:∀a,(g a).cells=f a) (hf:∀a,(f a).length=sz) (ih:Rd enc P w n e f Q):Rd enc P w (n+1) t (λl:List α=>[.sl sz (l.map g)]) (λl b=>∃m,m+1<=b/\QL Q l m):=by
 intro cs d h hb;rcases cs with _|⟨c,_|⟨c',r⟩⟩
 .simp[DataW.ofBy,hu]at h
 .cases c
  case slice base len cap=>
   cases base with
   | none=>have:d = .nil/\len=0:=(by unfold DataW.ofBy at h;rw[hu]at h;split at h <;> simp_all);obtain⟨rfl,rfl⟩:=this;exact⟨[],Yi (.nil sz _ _) rfl,0,by simp[uptoBulk],trivial⟩
   | some a=>
    have h':(if 0<=a.block/\len<=cap/\cap<=maxLen then
     ((range len).mapM λi=>(w.cells? 0 (a.add (i*P.cellsOf e)) (P.cellsOf e)).bind (DataW.ofBy (keyOf P) enc P w 0 true true n e)).bind λu=> (if true=true then (range (cap-len)).mapM λj=>(w.cells? 0 (a.add ((len+j)*P.cellsOf e)) (P.cellsOf e)).bind (DataW.ofBy (keyOf P) enc P w 0 true true n e) else some []).map λrest=>DataW.slice u rest else none)=some d:=by unfold DataW.ofBy at h;rw[hu]at h;exact h
    split at h'
    .rename_i hc;simp only[Option.bind_eq_some_iff,Option.map_eq_some_iff]at h';obtain⟨u,h1,rest,h2,rfl⟩:=h';rw[L]at h1;simp only[uptoBulk]at hb;obtain⟨l,G,V,l3⟩:=Bbf (sz:=sz) ih (λi=>w.cells? 0 (a.add (i*sz)) sz) _ _ h1 ω;have Y:=Ps V;rw[length_range]at G;refine⟨l,?_,uptoBulkAll u,by simp only[uptoBulk];omega,V⟩;cases R:l with
     | nil=>rw[R]at G;have:len=0:=G.symm;subst this;exact Yi (.nil sz _ _) rfl
     | cons x l'=>
      rw[<-R];refine Yi ?_ rfl;have D:∀(i:Nat) (y:α),l[i]? = some y->∃cs,w.cells? 0 (a.add (i*sz)) sz=some cs/\CCs (Ou w) (f y) cs:=(by intro i y hy;obtain⟨k,cs,g1,g2,g3⟩:=l3 i y hy;have hk:k=i:=(by rw[getElem?_range (by have:=(List.getElem?_eq_some_iff.1 hy).1;omega)]at g1;exact (Option.some.inj g1).symm);subst hk;exact⟨cs,g2,g3⟩);have J:l[0]? = some x:=(by rw[R];rfl);obtain⟨U,c1,c2⟩:=D 0 x J;have c3:=(Ahr c1).2 0 hpos;have a1:U.length=sz:=(Ahr c1).1;rw[getElem?_eq_getElem ω]at c3;have s:a.spot=none/\∃C E fr,w.heap[a.block]? = some (.cells C E fr):=by
       have S:(a.add (0*sz)).add 0=a:=(by simp[Addr.add]);rw[S]at c3;unfold World.cell? at c3;split at c3
       .rename_i C E fr I;split at c3
        .cases c3
        .rename_i X;refine⟨?_,C,E,fr,I⟩;cases M:a.spot with| none=>rfl| some _=>rw[M]at X;simp at X
       .cases c3
      obtain⟨s,C,E,fr,I⟩:=s;have z:∀i j:Nat,w.cell? ((a.add (i*sz)).add j)=C[a.off+i*sz+j]?:=(by intro i j;rw[Awz s,Awz rfl];unfold World.cell?;rw[I];rfl);have q:∀(i:Nat) (y:α) (j:Nat) (c:AV),l[i]? = some y->(g y).cells[j]? = some c->∃v,C[a.off+i*sz+j]? = some v/\CC (Ou w) c v/\Fj v=true:=(by intro i y j c hy hc;obtain⟨cs,Z,e2⟩:=D i y hy;rw[hg]at hc;have hj:=(List.getElem?_eq_some_iff.1 hc).1;rw[hf]at hj;have B:j<cs.length:=(by rw[(Ahr Z).1];exact hj);have:=(Ahr Z).2 j hj;rw[z,getElem?_eq_getElem B]at this;exact⟨_,this,e2.2 j c _ hc (getElem?_eq_getElem B)⟩);have hb':a=⟨a.block,a.off,none⟩:=(by cases a;simp_all);rw[hb'];have N:l.length=(l.map g).length:=ψ;rw[<-G,N];refine CC.sl (l.map g) a.block a.off cap sz C E fr (λi j=>(C[a.off+i*sz+j]?).getD undef) I ?_ ?_ ?_ ?_ ζ ζ
      .intro i y hy;simp only[getElem?_map,Option.map_eq_some_iff]at hy;obtain⟨y,_,rfl⟩:=hy;rw[hg,hf]
      .intro i y j c hy hc;simp only[getElem?_map,Option.map_eq_some_iff]at hy;obtain⟨y,hy,rfl⟩:=hy;obtain⟨v,A,v2,v3⟩:=q i y j c hy hc;rw[A];exact v2
      .intro i y j c hy hc;simp only[getElem?_map,Option.map_eq_some_iff]at hy;obtain⟨y,hy,rfl⟩:=hy;obtain⟨v,A,v2,v3⟩:=q i y j c hy hc;rw[A];exact v3
      .intro i j hi hj;rw[length_map]at hi;have hy:l[i]? = some l[i]:=getElem?_eq_getElem hi;have hc:(g l[i]).cells[j]? = some ((g l[i]).cells[j]'(by rw[hg,hf];exact hj)):=getElem?_eq_getElem _;obtain⟨v,A,_⟩:=q i _ j _ hy hc;rw[A];rfl
    .cases h'
  all_goals simp[DataW.ofBy,hu]at h
 .simp[DataW.ofBy,hu]at h
def RdL (enc:TypeId×Value->H) (P:Program) (w:World) (n b off:Nat) (fs:List (TypeId×Nat×Nat)) (f:α->List AV) (Q:α->Nat->Prop):Prop := ∀(cs:List Value) (ds:List (DataW H)),cs.length=b->fs.mapM (λx=>DataW.ofBy (keyOf P) enc P w 0 true true n x.1 ((cs.drop x.2.1).take x.2.2))=some ds->uptoBulkAll ds<=1048576 -> ∃a:α,CCs (Ou w) (f a) (cs.drop off)/\Q a (uptoBulkAll ds)
theorem Ns (n b:Nat):RdL enc P w n b b [] (λ_:Unit=>[]) (λ_ _=>True):=by intro cs ds h _ _;exact⟨(),⟨by simp[h],λj a c h=>by cases h⟩,trivial⟩
theorem H3 {c off:Nat} (sz:Nat) {fs:List (TypeId×Nat×Nat)} {f:α->List AV} (h1:Rd enc P w n t f Q) (h2:RdL enc P w n c (off+sz) fs g R):RdL enc P w n c off ((t,off,sz)::fs) (λp:α×β=>f p.1++g p.2) (λp m=>∃m1 m2,m1+m2=m/\Q p.1 m1/\R p.2 m2):=by intro cs ds j h hb;simp only[mapM_cons,Option.pure_def,Option.bind_eq_bind,Option.bind_eq_some_iff]at h;obtain⟨d,q,i,l,k⟩:=h;cases k;simp only[uptoBulkAll]at hb ⊢;obtain⟨a,a1,a2⟩:=h1 _ d q ω;obtain⟨b,b1,b2⟩:=h2 cs i j l ω;refine⟨(a,b),?_,_,_,rfl,a2,b2⟩;have:=Bbd a1 b1;rwa [<-drop_drop,take_append_drop]at this
theorem Nt {fs:Array Field} {i:Nat} {L:List (TypeId×Nat×Nat)} {f:α->List AV} (φ:β->α) (hu:P.underlying t=some (.struct fs)) (l:fs.toList.map (λx=>(x.type,x.offset,P.cellsOf x.type))=L) (ht:P.cellsOf t=i) (j:∀b,f (φ b)=g b) (k:∀b m,R b m->Q (φ b) (m+1)) (h:RdL enc P w n i 0 L g R):Rd enc P w (n+1) t f Q:=by
 intro cs d hd hb;have c:(if cs.length=P.cellsOf t then (fs.toList.mapM λx=>DataW.ofBy (keyOf P) enc P w 0 true true n x.type ((cs.drop x.offset).take (P.cellsOf x.type))).map DataW.agg else none)=some d:=by unfold DataW.ofBy at hd;rw[hu]at hd;split at hd <;> simp_all
 split at c
 .rename_i hc;simp only[Option.map_eq_some_iff]at c;obtain⟨ds,h1,rfl⟩:=c;simp only[uptoBulk]at hb;obtain⟨b,b1,b2⟩:=h cs ds (hc.trans ht) (by rw[<-l,mapM_map];exact h1) ω;refine⟨φ b,?_,k b _ b2⟩;rw[j];simpa using b1
 .cases c
end
end Go.Ab
namespace Go.Ab
open Go Go.Proofs Go.Proofs.Tryz
open Go.Proofs.YtphbdfhbonlpfaaGreatDoor.Rows (uptoBulk uptoBulkAll)
section
variable {H:Type} {enc:TypeId×Value->H} {w:World}
variable {n:Nat} {α:Type} {Q:α->Nat->Prop}
theorem Aw0 {a:Int} (h:IntKind.i64.min<=a/\a<=IntKind.i64.max):Fh a:=by have c:IntKind.i64.min = -9223372036854775808:=δ;have b:IntKind.i64.max=9223372036854775807:=δ;rw[c,b]at h;exact h
theorem Am0:∀{l:List Af} {m:Nat},QL (λa b=>Bl a<=b) l m->Dd l<=m
 | [],_,_=>Nat.zero_le _
 | _::l,_,⟨m1,m2,h1,h2,h3,c⟩=>by have:=Am0 c;simp only[Dd];omega
theorem Aw1:∀{l:List Ai} {m:Nat},QL (λa b=>Bo a<=b/\iR a) l m->B7 l<=m/\Fa l
 | [],_,_=>⟨Nat.zero_le _,trivial⟩
 | _::l,_,⟨m1,m2,h1,h2,h3,c⟩=>by have:=Aw1 c;simp only[B7,Fa];exact⟨ω,h3.2,this.2⟩
theorem Aw2 (h:Rd enc prog w n 23 (λl:List Af=>[.sl 3 (l.map D2)]) (λl b=>∃m,m+1<=b/\QL (λa b=>Bl a<=b) l m)) : Rd enc prog w (n+1) 25 (λa:Af=>(D2 a).cells) (λa b=>Bl a<=b):=by
 refine Nt (λp:Int×Int×List Af×Unit=>⟨p.1,p.2.1,p.2.2.1⟩) Go.Proofs.Tryz.underlying25 κ κ (λb=>?_) ?_ (H3 1 (Pq .i64 n Go.Proofs.Tryz.underlying3) (H3 1 (Pq .i64 n Go.Proofs.Tryz.underlying3) (H3 1 h (Ns n 3))))
 .simp[D2,AV.cells,Li]
 .rintro⟨a,b,l,_⟩ m ⟨m1,m2,rfl,_,m3,m4,rfl,_,m5,m6,rfl,⟨k,hk,hq⟩,_⟩;have:=Am0 hq;simp only[Bl]at *;omega
theorem Am1:∀n:Nat,Rd enc prog w n 25 (λa:Af=>(D2 a).cells) (λa b=>Bl a<=b)
 | 0=>K4 _ _ _
 | 1=>Aw2 (K4 _ _ _)
 | n+2=>Aw2 (Ahs 3 D2 Go.Proofs.Tryz.underlying23 κ δ (λ_=>rfl) (λ_=>rfl) (Am1 n))
theorem Aw3 (n:Nat):Rd enc prog w n 23 (λl:List Af=>[.sl 3 (l.map D2)]) (λl b=>∃m,m+1<=b/\QL (λa b=>Bl a<=b) l m):=by cases n with| zero=>exact K4 _ _ _| succ n=>exact Ahs 3 D2 Go.Proofs.Tryz.underlying23 κ δ (λ_=>rfl) (λ_=>rfl) (Am1 n)
theorem Aw4 (h:Rd enc prog w n 110 (λl:List Ai=>[.sl 2 (l.map Et)]) (λl b=>∃m,m+1<=b/\QL (λa b=>Bo a<=b/\iR a) l m)) : Rd enc prog w (n+1) 112 (λa:Ai=>(Et a).cells) (λa b=>Bo a<=b/\iR a):=by
 refine Nt (λp:Int×List Ai×Unit=>⟨p.1,p.2.1⟩) Go.Proofs.Tryz.underlying112 κ κ (λb=>?_) ?_ (H3 1 (Pq .i64 n Go.Proofs.Tryz.underlying3) (H3 1 h (Ns n 2)))
 .simp[Et,AV.cells,Lj]
 .rintro⟨a,l,_⟩ m ⟨m1,m2,rfl,ha,m5,m6,rfl,⟨k,hk,hq⟩,_⟩;have:=Aw1 hq;have ha:=Aw0 ha;simp only[Bo,iR]at *;exact⟨ω,ha,this.2⟩
theorem Aw5:∀n:Nat,Rd enc prog w n 112 (λa:Ai=>(Et a).cells) (λa b=>Bo a<=b/\iR a)
 | 0=>K4 _ _ _
 | 1=>Aw4 (K4 _ _ _)
 | n+2=>Aw4 (Ahs 2 Et Go.Proofs.Tryz.underlying110 κ δ (λ_=>rfl) (λ_=>rfl) (Aw5 n))
theorem Vk {t e:TypeId} (sz:Nat) {f:α->List AV} (g:α->AV) (hu:prog.underlying t=some (.slice e)) (c:prog.cellsOf e=sz) (hpos:0<sz) (hg:∀a,(g a).cells=f a) (hf:∀a,(f a).length=sz) (ih:∀n,Rd enc prog w n e f Q) (n:Nat):Rd enc prog w n t (λl:List α=>[.sl sz (l.map g)]) (λl b=>∃m,m+1<=b/\QL Q l m):=by cases n with| zero=>exact K4 _ _ _| succ n=>exact Ahs sz g hu c hpos hg hf (ih n)
theorem Bbg (n:Nat):Rd enc prog w n 147 (λa:Oe=>(Ael a).cells) (λa b=>a.S.size<=b/\Dd a.R<=b):=by
 cases n with
 | zero=>exact K4 _ _ _
 | succ n=>
  refine Nt (λp:ByteArray×List Af×Unit=>⟨p.1,p.2.1⟩) Go.Proofs.Tryz.underlying147 κ κ (λb=>?_) ?_ (H3 1 (Awy n Go.Proofs.Tryz.underlying9) (H3 1 (Aw3 n) (Ns n 2)))
  .simp[Ael,AV.cells,Li]
  .rintro⟨a,l,_⟩ m ⟨m1,m2,rfl,ha,m5,m6,rfl,⟨k,hk,hq⟩,_⟩;have:=Am0 hq;simp only at *;exact⟨ω,ω⟩
theorem Bbh (n:Nat):Rd enc prog w n 145 (λa:Al=>(Ce a).cells) (λa b=>a.S.size<=b/\a.O.length<=b/\∀y∈a.O,y.S.size<=b/\Dd y.R<=b):=by
 cases n with
 | zero=>exact K4 _ _ _
 | succ n=>
  refine Nt (λp:ByteArray×Int×List Oe×Unit=>⟨p.1,p.2.1,p.2.2.1⟩) Go.Proofs.Tryz.underlying145 κ κ (λb=>?_) ?_ (H3 1 (Awy n Go.Proofs.Tryz.underlying9) (H3 1 (Pq .i64 n Go.Proofs.Tryz.underlying3) (H3 1 (Vk 2 Ael Go.Proofs.Tryz.underlying143 κ δ (λ_=>rfl) (λ_=>rfl) Bbg n) (Ns n 3))))
  .simp[Ce,AV.cells]
  .rintro⟨a,b,l,_⟩ m ⟨m1,m2,rfl,ha,m3,m4,rfl,_,m5,m6,rfl,⟨k,hk,hq⟩,_⟩;have h1:=Ps hq;have h2:=S0 hq;simp only at *;refine⟨ω,ω,λy hy=>?_⟩;obtain⟨c,g1,g2,g3⟩:=h2 y hy;exact⟨ω,ω⟩
theorem Bbi (n:Nat):Rd enc prog w n 27 (λa:Bs=>(Ke a).cells) (λa b=>b<=1048576->CSz a):=by
 cases n with
 | zero=>exact K4 _ _ _
 | succ n=>
  refine Nt (λp:List Al×List Af×Af×Unit=>⟨p.1,p.2.1,p.2.2.1⟩) Go.Proofs.Tryz.underlying27 κ κ (λb=>?_) ?_ (H3 1 (Vk 3 Ce Go.Proofs.Tryz.underlying22 κ δ (λ_=>rfl) (λ_=>rfl) Bbh n) (H3 1 (Aw3 n) (H3 3 (Am1 n) (Ns n 5))))
  .simp[Ke,D2,AV.cells,Li]
  .rintro⟨a,b,l,_⟩ m ⟨m1,m2,rfl,⟨k,hk,hq⟩,m3,m4,rfl,⟨h,f,hq'⟩,m5,m6,rfl,j,_⟩ i;have h1:=Ps hq;have h2:=S0 hq;have h3:=Ps hq';have g:=S0 hq';simp only at *;refine⟨⟨by dsimp only;omega,λx hx=>?_,λx hx=>?_,λx hx y hy=>?_⟩,by dsimp only;omega,λt ht=>?_,by dsimp only;omega⟩
   .obtain⟨c,g1,g2,g3,g4⟩:=h2 x hx;refine⟨ω,λy hy=>?_⟩;have:=(g4 y hy).2;omega
   .obtain⟨c,g1,g2,g3,g4⟩:=h2 x hx;omega
   .obtain⟨c,g1,g2,g3,g4⟩:=h2 x hx;have:=(g4 y hy).1;omega
   .obtain⟨c,g1,g2⟩:=g t ht;omega
theorem Bbj (P:α->Prop) (h:∀a b,Q a b->P a) {l:List α} {m:Nat} (hq:QL Q l m):∀a∈l,P a:=λa ha=>by obtain⟨c,_,g⟩:=S0 hq a ha;exact h a c g
theorem Aw6 (n:Nat):Rd enc prog w n 32 (λl:List Int=>[.sl 1 (l.map (O .u32))]) (λl b=>l.length<=b/\Nc l):=by intro cs d h hb;obtain⟨a,h1,m,h2,h3⟩:=Vk (Q:=λa _=>IntKind.u32.min<=a/\a<=IntKind.u32.max) 1 (O .u32) Go.Proofs.Tryz.underlying32 κ δ (λ_=>rfl) (λ_=>rfl) (λn=>Pq .u32 n Go.Proofs.Tryz.underlying56) n cs d h hb;refine⟨a,h1,by have:=Ps h3;omega,λx hx=>?_⟩;have:=Bbj (λx=>IntKind.u32.min<=x/\x<=IntKind.u32.max) (λ_ _ h=>h) h3 x hx;have f:IntKind.u32.min=0:=δ;have c:IntKind.u32.max=4294967295:=δ;rw[f,c]at this;omega
theorem Bbk (n:Nat):Rd enc prog w n 34 (λa:A7=>(Dm a).cells) (λa b=>RB b a):=by
 cases n with
 | zero=>exact K4 _ _ _
 | succ n=>
  refine Nt (λp:Bool×List Int×List Int×Unit=>⟨p.1,p.2.1,p.2.2.1⟩) Go.Proofs.Tryz.underlying34 κ κ (λb=>?_) ?_ (H3 1 (Bbe n Go.Proofs.Tryz.underlying4) (H3 1 (Aw6 n) (H3 1 (Aw6 n) (Ns n 3))))
  .simp[Dm,AV.cells]
  .rintro⟨a,b,l,_⟩ m ⟨m1,m2,rfl,_,m3,m4,rfl,h1,m5,m6,rfl,h2,_⟩;simp only at *;exact⟨h1.2,h2.2,by dsimp only;omega,by dsimp only;omega⟩
theorem Bbl (n:Nat):Rd enc prog w n 114 (λa:Bf=>(F0 a).cells) (λa b=>Bo a.I<=b/\iR a.I/\Fh a.v):=by
 cases n with
 | zero=>exact K4 _ _ _
 | succ n=>
  refine Nt (λp:Int×Ai×Unit=>⟨p.1,p.2.1⟩) Go.Proofs.Tryz.underlying114 κ κ (λb=>?_) ?_ (H3 1 (Pq .i64 n Go.Proofs.Tryz.underlying3) (H3 2 (Aw5 n) (Ns n 3)))
  .simp[F0,Et,AV.cells]
  .rintro⟨a,b,_⟩ m ⟨m1,m2,rfl,h1,m3,m4,rfl,h2,_⟩;have h1:=Aw0 h1;simp only at *;exact⟨ω,h2.2,h1⟩
theorem Bbm (n:Nat):Rd enc prog w n 193 (λa:Ek=>(Jg a).cells) (λ_ _=>True):=by cases n with| zero=>exact K4 _ _ _| succ n=>refine Nt (λp:Int×Int×Unit=>⟨p.1,p.2.1⟩) Go.Proofs.Tryz.underlying193 κ κ (λb=>?_) (λ_ _ _=>trivial) (H3 1 (Pq .i64 n Go.Proofs.Tryz.underlying3) (H3 1 (Pq .i64 n Go.Proofs.Tryz.underlying2) (Ns n 2)));simp[Jg,AV.cells]
theorem Bbn (n:Nat):Rd enc prog w n 73 (λa:Bz=>(J4 a).cells) (λa b=>a.T.length<=b):=by
 cases n with
 | zero=>exact K4 _ _ _
 | succ n=>
  refine Nt (λp:Int×List Ek×Unit=>⟨p.1,p.2.1⟩) Go.Proofs.Tryz.underlying73 κ κ (λb=>?_) ?_ (H3 1 (Pq .i64 n Go.Proofs.Tryz.underlying2) (H3 1 (Vk 2 Jg Go.Proofs.Tryz.underlying71 κ δ (λ_=>rfl) (λ_=>rfl) Bbm n) (Ns n 2)))
  .simp[J4,AV.cells]
  .rintro⟨a,l,_⟩ m ⟨m1,m2,rfl,ha,m5,m6,rfl,⟨k,hk,hq⟩,_⟩;have:=Ps hq;simp only at *;omega
theorem Bbo (n:Nat):Rd enc prog w n 117 (λa:Bi=>(F1 a).cells) (λa b=>a.L.T.length<=b):=by
 cases n with
 | zero=>exact K4 _ _ _
 | succ n=>
  refine Nt (λp:Bz×Int×Unit=>⟨p.1,p.2.1⟩) Go.Proofs.Tryz.underlying117 κ κ (λb=>?_) ?_ (H3 2 (Bbn n) (H3 1 (Pq .i64 n Go.Proofs.Tryz.underlying3) (Ns n 3)))
  .simp[F1,J4,AV.cells]
  .rintro⟨a,l,_⟩ m ⟨m1,m2,rfl,ha,m5,m6,rfl,_,_⟩;simp only at *;omega
theorem Bbp (n:Nat):Rd enc prog w n 50 (λa:Bd=>(Ib a).cells) (λa b=>b<=1048576->MSz a):=by
 cases n with
 | zero=>exact K4 _ _ _
 | succ n=>
  refine Nt (λp:List Bf×List Bi×Unit=>⟨p.1,p.2.1⟩) Go.Proofs.Tryz.underlying50 κ κ (λb=>?_) ?_ (H3 1 (Vk 3 F0 Go.Proofs.Tryz.underlying47 κ δ (λ_=>rfl) (λ_=>rfl) Bbl n) (H3 1 (Vk 3 F1 Go.Proofs.Tryz.underlying48 κ δ (λ_=>rfl) (λ_=>rfl) Bbo n) (Ns n 2)))
  .simp[Ib,AV.cells]
  .rintro⟨a,l,_⟩ m ⟨m1,m2,rfl,⟨i,h,hq'⟩,m5,m6,rfl,⟨k,hk,hq⟩,_⟩ j;have h1:=Ps hq;have h2:=S0 hq;have h3:=Ps hq';have g:=S0 hq';simp only at *;refine⟨by dsimp only;omega,by dsimp only;omega,λf hf=>?_,λf hf=>?_,λx hx=>?_⟩
   .obtain⟨c,g1,g2,g3⟩:=g f hf;omega
   .obtain⟨c,g1,g2,g3⟩:=g f hf;exact g3
   .obtain⟨c,g1,g2⟩:=h2 x hx;omega
theorem Bbq (n:Nat):Rd enc prog w n 52 (λa:Aj=>(Cn a).cells) (λa b=>b<=1048576->TSz a):=by
 cases n with
 | zero=>exact K4 _ _ _
 | succ n=>
  refine Nt (λp:A7×Bd×Unit=>⟨p.1,p.2.1⟩) Go.Proofs.Tryz.underlying52 κ κ (λb=>?_) ?_ (H3 3 (Bbk n) (H3 2 (Bbp n) (Ns n 5)))
  .simp[Cn,Dm,Ib,AV.cells]
  .rintro⟨a,l,_⟩ m ⟨m1,m2,rfl,h1,m5,m6,rfl,h2,_⟩ c;simp only at *;exact⟨RB.mono h1 ω,h2 ω⟩
theorem Am2 (n:Nat):Rd enc prog w n 28 (λl:List Aj=>[.sl 5 (l.map Cn)]) (λl b=>b<=1048576->l.length<=1048576/\∀t∈l,TSz t):=by intro cs d h hb;obtain⟨a,h1,m,h2,h3⟩:=Vk (Q:=λa b=>b<=1048576->TSz a) 5 Cn Go.Proofs.Tryz.underlying28 κ δ (λ_=>rfl) (λ_=>rfl) Bbq n cs d h hb;refine⟨a,h1,λf=>⟨by have:=Ps h3;omega,λx hx=>?_⟩⟩;obtain⟨c,g1,g2⟩:=S0 h3 x hx;exact g2 ω
end
end Go.Ab
namespace Go.Ab
open Go Go.Proofs Go.ChangeShapes Go.WideShapes Go.ChangeAt Go.RowKit Go.Proofs.Tryz
open Go.Proofs.YtphbdfhbonlpfaaGreatDoor.Rows (uptoBulk uptoBulkAll uptoSmall)
set_option maxRecDepth 100000
variable {W:World}
theorem Aw7 {P:Program} {x:String×DataW Unit} {l:List (String×DataW Unit)} (h:laidMet P (x::l) W):laidMet P l W:=by obtain⟨ps,⟨s,t',cs,fuel,p,q,k,g,f,hd,i,c⟩,j,hc⟩:=h;subst c;refine⟨q,i,(nodup_append.1 j).2.1,λb off hb=>hc b off ?_⟩;simp[hb]
theorem Bbr (h:laidMetH prog YtphbdfhbonlpfaaGreatDoor.Rows.polyRingRow.laid W):Vl (Ou W):=by
 have h1:laidMet prog [("internal/strconv.uint64pow10",YtphbdfhbonlpfaaGreatDoor.Rows.laid_internal_strconv_uint64pow10)] W:=Aw7 (Aw7 h);have h2:Lib.TabIs prog W "internal/strconv.uint64pow10" .u64 Lib.pow10Tab :=
  Lib.tabIs_of_head (g:=0) (rest:=[]) κ κ Go.Proofs.Tryz.underlying366 Go.Proofs.Tryz.underlying55 κ κ h1
 have g:prog.globalNamed "internal/strconv.uint64pow10" = some 0:=κ;unfold Lib.TabIs World.var? at h2;rw[g]at h2;simp only[Option.bind_some]at h2;split at h2
 .rename_i cs E fr hc;cases h2;exact⟨E,fr,hc⟩
 .cases h2
theorem Bbs (g:Vl (Ou W)):St (Ou W) ι0 H0 (λ_=>none) W W := ⟨(λ_ _ h=>h),(λ_ _ h=>by cases h),(λ_=>rfl),(λ_ _ _ h=>by cases h),rfl,rfl,rfl,g,Nat.le_refl _⟩
theorem Bbt {σ:A5} {xs:List AV} {cs:Array Value} (h:CCs σ xs cs.toList):CC σ (.agg xs) (.agg cs) :=
 .agg xs cs (by simpa using h.1) (λi c v h1 h2=>(h.2 i c v h1 (by simpa using h2)).1)
section
variable {H:Type} {enc:TypeId×Value->H} {W:World} {base:Nat} {t:TypeId} {v:Value} {d:DataW H} {p:List MemPlace}
variable {α:Type} {Q:α->Nat->Prop}
theorem Bbu {g:α->List AV} {fs:Array Field} (hu:prog.underlying t=some (.struct fs)) (b:Value.okWide prog W .any base t v) (hd:DataW.Trod enc prog W 0 (λ_=>true) true t v d p) (hb:uptoBulk d<=1048576) (rd:∀n,Rd enc prog W n t g Q):∃a,CC (Ou W) (.agg (g a)) v/\Q a (uptoBulk d):=by unfold Value.okWide at b;rw[hu]at b;obtain⟨cs,rfl,_⟩:=b;obtain⟨n,c⟩:=hd.by;obtain⟨a,h1,h2⟩:=rd n _ d c hb;exact⟨a,Bbt h1,h2⟩
theorem Am3 {g:α->AV} (b:v.cells = #[v]) (hd:DataW.Trod enc prog W 0 (λ_=>true) true t v d p) (hb:uptoBulk d<=1048576) (rd:∀n,Rd enc prog W n t (λa=>[g a]) Q):∃a,CC (Ou W) (g a) v/\Q a (uptoBulk d):=by obtain⟨n,c⟩:=hd.by;obtain⟨a,h1,h2⟩:=rd n _ d c hb;rw[b]at h1;exact⟨a,(h1.2 0 _ _ rfl rfl).1,h2⟩
theorem Am4 {e:TypeId} (hu:prog.underlying t=some (.slice e)) (b:Value.okWide prog W .any base t v):v.cells = #[v]:=by unfold Value.okWide at b;rw[hu]at b;cases v with| agg cs=>simp only[Cell.okWide,Cell.ok,hu]at b| _=>rfl
end
section
variable {H:Type} {enc:TypeId×Value->H} {P:Program}
theorem Aw8 (f:laidOutB P=true) {w w':World} {c:Nat->Bool}:∀{ts:List TypeId} {vs:List Value} {g:List (DataW H)} {ps:List MemPlace}, (ts.all λt=>P.readableRec t&&decide (t<P.types.size))=true->DataW.TrodAll enc P w 0 (λ_=>true) true ts vs g ps->(∀p∈ps,w.sameAt w' p)->(∀p∈ps,c p.block=true)->DataW.TrodAll enc P w' 0 c true ts vs g ps
 | [],[],[],_,_,h,_,_=>h
 | t::ts,_::_,_::_,_,b,⟨p,q,h,i,e⟩,hk,hp=>by subst e;simp only[all_cons,Bool.and_eq_true,decide_eq_true_eq]at b;exact⟨p,q,WideElems.Trod_stays f b.1.1 b.1.2 h (λx hx=>hk x (by simp[hx])) (λx hx=>hp x (by simp[hx])),Aw8 f b.2 i (λx hx=>hk x (by simp[hx])) (λx hx=>hp x (by simp[hx])),rfl⟩
theorem Bbv (S:laidOutB P=true) {f:Func} {s:ChangeSpec} {g:Bool} {W l:World} {args:Array Value} {k:List (DataW H)} {j:List MemPlace} {t:TypeId} (G:s.vars = []) (I:DataW.Whole enc P f.params.toList s.vars false W args.toList k [] j) (R:(f.params.toList.all λt=>P.readableRec t&&decide (t<P.types.size))=true) (E:(s.fn H k).results = [.lit (.bool true)]/\(s.fn H k).args=k/\(s.fn H k).vars = []) (B:f.resultTypes = #[t]) (ht:P.underlying t=some .bool) (z:∀(b:Nat) (o:Obj),W.heap[b]? = some o->l.heap[b]? = some o) (D:l.os=W.os) (u:l.output=W.output) : s.post enc P f false true g false W args (.bool true) l:=by
 have A:=I;obtain⟨p,q,V,J,rfl,U,_⟩:=I;rw[G]at J;obtain rfl:q = []:=J;have y:=A.lt;rw[append_nil]at *;have c:∀b,b<W.heap.size->l.heap[b]? = W.heap[b]?:=λb hb=>by rw[Array.getElem?_eq_getElem hb];exact z b _ (Array.getElem?_eq_getElem hb)
 have same:∀x∈p,W.sameAt l x:=by intro x hx;have:=c x.block (y x hx);cases x with| cell b o=>exact World.cell?_of_block (w:=W) this| map b=>exact this
 obtain⟨N,M,L⟩:=E;refine⟨k,[],p,[],p,[],A,?_,?_,?_,⟨D,u,λi hi=>?_⟩,λh=>by cases h⟩
 .rw[append_nil,N,B];exact trodAll_mk1 (shut_bool ht _)
 .rw[append_nil,M];exact Aw8 S R V same (λx hx=>by simpa using y x hx)
 .rw[append_nil,L,G];rfl
 .rw[c i hi];split <;> simp_all
end
end Go.Ab
