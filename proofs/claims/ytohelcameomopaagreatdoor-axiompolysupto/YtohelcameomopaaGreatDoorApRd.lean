/- How the readings of the arguments stand as plain values. -/
import Derived.Test.YtohelcameomopaaGreatDoorRows
import Derived.Test.YtohelcameomopaaGreatDoorApTy
import Derived.ReaderBy
import Derived.Test.YtohelcameomopaaGreatDoorApPl3
import Derived.Test.YtohelcameomopaaGreatDoorCards
import Derived.Test.YtohelcameomopaaGreatDoorTie
import Derived.ChangeOld
import Derived.ChangeSame
import Derived.Carry
import Derived.RowKit
import Derived.WalkKit
import Derived.ProofKit
import Derived.OpenShut
import Derived.Deep.DeepHandedRow
import Derived.Lib.LaidTab
namespace Go.Ab
open Go
open Go.Proofs.YtohelcameomopaaGreatDoor.Rows (uptoBulk uptoBulkAll)
def Ns (w:World):Ax:=λb=>w.heap[b]?
def CCs (σ:Ax) (xs:List AV) (cs:List Value):Prop := cs.length=xs.length/\∀(j:Nat) (a:AV) (c:Value),xs[j]? = some a->cs[j]? = some c->CC σ a c/\Ej c=true
section
variable {H:Type} {enc:TypeId×Value->H} {P:Program} {w:World}
def Rd (enc:TypeId×Value->H) (P:Program) (w:World) (n:Nat) (t:TypeId) {α:Type} (f:α->List AV) (Q:α->Nat->Prop):Prop := ∀(cs:List Value) (d:DataW H),DataW.ofBy (keyOf P) enc P w 0 true true n t cs=some d->uptoBulk d<=1048576->∃a:α,CCs (Ns w) (f a) cs/\Q a (uptoBulk d)
theorem Nt (t:TypeId) {α:Type} (f:α->List AV) (Q:α->Nat->Prop):Rd enc P w 0 t f Q:=λ_ _ h=>by cases h
theorem A5a (d:DataW H):1<=uptoBulk d:=by cases d with| lit l=>cases l <;> simp [uptoBulk]| _=>simp [uptoBulk]
theorem Zq {σ:Ax} {a:AV} {c:Value} (h:CC σ a c) (h1:Ej c=true):CCs σ [a] [c]:=by refine ⟨rfl,λj x y hx hy=>?_⟩;cases j with| zero=>cases hx; cases hy; exact ⟨h,h1⟩| succ j=>cases hx
theorem A5b {σ:Ax} {xs bs:List AV} {cs b:List Value} (h:CCs σ xs cs) (h':CCs σ bs b):CCs σ (xs++bs) (cs++b):=by
 refine ⟨by simp [h.1,h'.1],λj x y hx hy=>?_⟩;rcases Nat.lt_or_ge j xs.length with hj | hj
 .rw [List.getElem?_append_left hj] at hx;rw [List.getElem?_append_left (by rw [h.1]; exact hj)] at hy;exact h.2 j x y hx hy
 .rw [List.getElem?_append_right hj] at hx;rw [List.getElem?_append_right (by rw [h.1]; exact hj),h.1] at hy;exact h'.2 _ x y hx hy
theorem Qp (k:IntKind) {t:TypeId} (n:Nat) (hu:P.underlying t=some (.int k)):Rd enc P w n t (λa:Int=>[O k a]) (λa _=>k.min<=a/\a<=k.max):=by
 intro cs d h _;cases n with
 | zero=>cases h
 | succ n=>
  rcases cs with _ | ⟨c,_ | ⟨f,r⟩⟩
  .simp [DataW.ofBy,hu] at h
  .cases c <;> simp [DataW.ofBy,hu] at h;rename_i b m;obtain ⟨⟨rfl,hw⟩,_⟩:=h;exact ⟨m,Zq (.val _) rfl,by simpa [Lit.wf] using hw⟩
  .simp [DataW.ofBy,hu] at h
theorem Asj {t:TypeId} (n:Nat) (hu:P.underlying t=some .string):Rd enc P w n t (λa:ByteArray=>[Dz a]) (λa b=>a.size<=b):=by
 intro cs d h _;cases n with
 | zero=>cases h
 | succ n=>
  rcases cs with _ | ⟨c,_ | ⟨f,r⟩⟩
  .simp [DataW.ofBy,hu] at h
  .cases c
   case string s=>
    have h':(if s.size<=maxLen then some (DataW.lit (H:=H) (.string s.data.toList)) else none)=some d:=(by unfold DataW.ofBy at h; rw [hu] at h; exact h);split at h'
    .cases h';refine ⟨_,Zq (.val _) rfl,?_⟩;have e:s.data.toList.length=s.size:=(by rw [Array.length_toList]; rfl);simp only [uptoBulk];omega
    .cases h'
   all_goals (unfold DataW.ofBy at h; rw [hu] at h; cases h)
  .simp [DataW.ofBy,hu] at h
def QL {α:Type} (Q:α->Nat->Prop):List α->Nat->Prop
 | [],_=>True
 | a::l,m=>∃m1 m2,1<=m1/\m1+m2<=m/\Q a m1/\QL Q l m2
theorem A5c {e:TypeId} {sz n:Nat} {α:Type} {f:α->List AV} {Q:α->Nat->Prop} (ih:Rd enc P w n e f Q) (g:Nat->Option (List Value)):∀(L:List Nat) (c:List (DataW H)), L.mapM (λi=>(g i).bind (DataW.ofBy (keyOf P) enc P w 0 true true n e))=some c->uptoBulkAll c<=1048576 -> ∃l:List α,l.length=L.length/\QL Q l (uptoBulkAll c)/\∀(i:Nat) (a:α),l[i]? = some a->∃k cs,L[i]? = some k/\g k=some cs/\CCs (Ns w) (f a) cs:=by
 intro L;induction L with
 | nil=>intro c h _;exact ⟨[],rfl,trivial,λi a h=>by cases h⟩
 | cons k L j=>intro c h hb;simp only [List.mapM_cons,Option.pure_def,Option.bind_eq_bind,Option.bind_eq_some_iff] at h;obtain ⟨d,⟨cs,h1,h2⟩,b,h3,A⟩:=h;cases A;simp only [uptoBulkAll] at hb;obtain ⟨a,ha,hq⟩:=ih cs d h2 ω;obtain ⟨l,y,u,s⟩:=j b h3 ω;refine ⟨a::l,by simp [y],⟨uptoBulk d,uptoBulkAll b,A5a d,by simp [uptoBulkAll],hq,u⟩,?_⟩;intro i x hx;cases i with| zero=>cases hx; exact ⟨k,cs,rfl,h1,ha⟩| succ i=>obtain ⟨z,q,g1,g2,g3⟩:=s i x hx;exact ⟨z,q,g1,g2,g3⟩
theorem V9 {α:Type} {Q:α->Nat->Prop}:∀{l:List α} {m:Nat},QL Q l m->l.length<=m
 | [],_,_=>Nat.zero_le _
 | _::l,_,⟨m1,m2,h1,h2,_,b⟩=>by have:=V9 b; simp only [List.length_cons]; omega
theorem Ad5 {α:Type} {Q:α->Nat->Prop}:∀{l:List α} {m:Nat},QL Q l m->∀a∈l,∃b,b<=m/\Q a b
 | _::l,_,⟨m1,m2,h1,h2,h3,c⟩,a,ha=>by
  rcases List.mem_cons.1 ha with rfl | ha
  .exact ⟨m1,ω,h3⟩
  .obtain ⟨b,g1,g2⟩:=Ad5 c a ha;exact ⟨b,ω,g2⟩
theorem Ad6 {a:Addr} {n:Nat} {cs:List Value} (h:w.cells? 0 a n=some cs):cs.length=n/\∀j,j<n->w.cell? (a.add j)=cs[j]?:=by
 unfold World.cells? at h;rw [if_pos (Nat.zero_le _)] at h;have key:∀(L:List Nat) (cs:List Value),L.mapM (λi=>w.cell? (a.add i))=some cs->cs.length=L.length/\∀(i k:Nat),L[i]? = some k->w.cell? (a.add k)=cs[i]?:=by
  intro L;induction L with
  | nil=>intro cs h; cases h; exact ⟨rfl,λi k h=>by cases h⟩
  | cons x L ih=>intro cs h;simp only [List.mapM_cons,Option.pure_def,Option.bind_eq_bind,Option.bind_eq_some_iff] at h;obtain ⟨v,h1,vs,h2,h3⟩:=h;cases h3;obtain ⟨i1,i2⟩:=ih vs h2;refine ⟨by simp [i1],λi k hk=>?_⟩;cases i with| zero=>cases hk; simpa using h1| succ i=>simpa using i2 i k hk
 obtain ⟨h1,h2⟩:=key _ _ h;rw [List.length_range] at h1;exact ⟨h1,λj hj=>h2 j j (by simp [hj])⟩
theorem Ask {a:Addr} (h:a.spot=none) (m:Nat):a.add m=⟨a.block,a.off+m,none⟩:=by
 unfold Addr.add;split
 .rename_i e; subst e; cases a; simp_all
 .rfl
theorem Ajk {t e:TypeId} (sz:Nat) {n:Nat} {α:Type} {f:α->List AV} (g:α->AV) {Q:α->Nat->Prop} (hu:P.underlying t=some (.slice e)) (M:P.cellsOf e=sz) (hpos:0<sz) (U:∀a,(g a).cells=f a) (V:∀a,(f a).length=sz) (ih:Rd enc P w n e f Q):Rd enc P w (n+1) t (λl:List α=>[.sl sz (l.map g)]) (λl b=>∃m,m+1<=b/\QL Q l m):=by
 intro cs d h hb;rcases cs with _ | ⟨c,_ | ⟨c',r⟩⟩
 .simp [DataW.ofBy,hu] at h
 .cases c
  case slice base len cap=>
   cases base with
   | none=>have:d = .nil/\len=0:=(by unfold DataW.ofBy at h;rw [hu] at h;split at h <;> simp_all);obtain ⟨rfl,rfl⟩:=this;exact ⟨[],Zq (.nil sz _ _) rfl,0,by simp [uptoBulk],trivial⟩
   | some a=>
    have h':(if 0<=a.block/\len<=cap/\cap<=maxLen then
     ((List.range len).mapM λi=>(w.cells? 0 (a.add (i*P.cellsOf e)) (P.cellsOf e)).bind (DataW.ofBy (keyOf P) enc P w 0 true true n e)).bind λu=> (if true=true then (List.range (cap-len)).mapM λj=>(w.cells? 0 (a.add ((len+j)*P.cellsOf e)) (P.cellsOf e)).bind (DataW.ofBy (keyOf P) enc P w 0 true true n e) else some []).map λrest=>DataW.slice u rest else none)=some d:=by unfold DataW.ofBy at h;rw [hu] at h;exact h
    split at h'
    .rename_i hc;simp only [Option.bind_eq_some_iff,Option.map_eq_some_iff] at h';obtain ⟨u,h1,rest,h2,rfl⟩:=h';rw [M] at h1;simp only [uptoBulk] at hb;obtain ⟨l,I,Z,l3⟩:=A5c (sz:=sz) ih (λi=>w.cells? 0 (a.add (i*sz)) sz) _ _ h1 ω;have a1:=V9 Z;rw [List.length_range] at I;refine ⟨l,?_,uptoBulkAll u,by simp only [uptoBulk]; omega,Z⟩;cases S:l with
     | nil=>rw [S] at I;have:len=0:=I.symm;subst this;exact Zq (.nil sz _ _) rfl
     | cons x l'=>
      rw [<-S];refine Zq ?_ rfl;have G:∀(i:Nat) (y:α),l[i]? = some y->∃cs,w.cells? 0 (a.add (i*sz)) sz=some cs/\CCs (Ns w) (f y) cs:=(by intro i y hy;obtain ⟨k,cs,g1,g2,g3⟩:=l3 i y hy;have hk:k=i:=(by rw [List.getElem?_range (by have:=(List.getElem?_eq_some_iff.1 hy).1; omega)] at g1;exact (Option.some.inj g1).symm);subst hk;exact ⟨cs,g2,g3⟩);have L:l[0]? = some x:=(by rw [S]; rfl);obtain ⟨Y,c1,c2⟩:=G 0 x L;have A:=(Ad6 c1).2 0 hpos;have a6:Y.length=sz:=(Ad6 c1).1;rw [List.getElem?_eq_getElem ω] at A;have s:a.spot=none/\∃C E fr,w.heap[a.block]? = some (.cells C E fr):=by
       have X:(a.add (0*sz)).add 0=a:=(by simp [Addr.add]);rw [X] at A;unfold World.cell? at A;split at A
       .rename_i C E fr J;split at A
        .cases A
        .rename_i hs;refine ⟨?_,C,E,fr,J⟩;cases N:a.spot with| none=>rfl| some _=>rw [N] at hs; simp at hs
       .cases A
      obtain ⟨s,C,E,fr,J⟩:=s;have z:∀i j:Nat,w.cell? ((a.add (i*sz)).add j)=C[a.off+i*sz+j]?:=(by intro i j;rw [Ask s,Ask rfl];unfold World.cell?;rw [J]; rfl);have q:∀(i:Nat) (y:α) (j:Nat) (c:AV),l[i]? = some y->(g y).cells[j]? = some c->∃v,C[a.off+i*sz+j]? = some v/\CC (Ns w) c v/\Ej v=true:=(by intro i y j c hy hc;obtain ⟨cs,e1,e2⟩:=G i y hy;rw [U] at hc;have hj:=(List.getElem?_eq_some_iff.1 hc).1;rw [V] at hj;have D:j<cs.length:=(by rw [(Ad6 e1).1]; exact hj);have:=(Ad6 e1).2 j hj;rw [z,List.getElem?_eq_getElem D] at this;exact ⟨_,this,e2.2 j c _ hc (List.getElem?_eq_getElem D)⟩);have hb':a=⟨a.block,a.off,none⟩:=(by cases a; simp_all);rw [hb'];have R:l.length=(l.map g).length:=ψ;rw [<-I,R];refine CC.sl (l.map g) a.block a.off cap sz C E fr (λi j=>(C[a.off+i*sz+j]?).getD undef) J ?_ ?_ ?_ ?_ (by simp; omega) (by simp; omega)
      .intro i y hy;simp only [List.getElem?_map,Option.map_eq_some_iff] at hy;obtain ⟨y,_,rfl⟩:=hy;rw [U,V]
      .intro i y j c hy hc;simp only [List.getElem?_map,Option.map_eq_some_iff] at hy;obtain ⟨y,hy,rfl⟩:=hy;obtain ⟨v,B,v2,v3⟩:=q i y j c hy hc;rw [B]; exact v2
      .intro i y j c hy hc;simp only [List.getElem?_map,Option.map_eq_some_iff] at hy;obtain ⟨y,hy,rfl⟩:=hy;obtain ⟨v,B,v2,v3⟩:=q i y j c hy hc;rw [B]; exact v3
      .intro i j hi hj;rw [List.length_map] at hi;have hy:l[i]? = some l[i]:=List.getElem?_eq_getElem hi;have hc:(g l[i]).cells[j]? = some ((g l[i]).cells[j]'(by rw [U,V]; exact hj)):=List.getElem?_eq_getElem _;obtain ⟨v,B,_⟩:=q i _ j _ hy hc;rw [B]; rfl
    .cases h'
  all_goals simp [DataW.ofBy,hu] at h
 .simp [DataW.ofBy,hu] at h
def RdL (enc:TypeId×Value->H) (P:Program) (w:World) (n b off:Nat) (fs:List (TypeId×Nat×Nat)) {α:Type} (f:α->List AV) (Q:α->Nat->Prop):Prop := ∀(cs:List Value) (ds:List (DataW H)),cs.length=b->fs.mapM (λx=>DataW.ofBy (keyOf P) enc P w 0 true true n x.1 ((cs.drop x.2.1).take x.2.2))=some ds->uptoBulkAll ds<=1048576 -> ∃a:α,CCs (Ns w) (f a) (cs.drop off)/\Q a (uptoBulkAll ds)
theorem Td (n b:Nat):RdL enc P w n b b [] (λ_:Unit=>[]) (λ_ _=>True):=by intro cs ds h _ _;exact ⟨(),⟨by simp [h],λj a c h=>by cases h⟩,trivial⟩
theorem H8 {n c off:Nat} (sz:Nat) {t:TypeId} {fs:List (TypeId×Nat×Nat)} {α β:Type} {f:α->List AV} {g:β->List AV} {Q:α->Nat->Prop} {R:β->Nat->Prop} (h1:Rd enc P w n t f Q) (h2:RdL enc P w n c (off+sz) fs g R):RdL enc P w n c off ((t,off,sz)::fs) (λp:α×β=>f p.1++g p.2) (λp m=>∃m1 m2,m1+m2=m/\Q p.1 m1/\R p.2 m2):=by intro cs ds j h hb;simp only [List.mapM_cons,Option.pure_def,Option.bind_eq_bind,Option.bind_eq_some_iff] at h;obtain ⟨d,q,i,l,k⟩:=h;cases k;simp only [uptoBulkAll] at hb ⊢;obtain ⟨a,a1,a2⟩:=h1 _ d q ω;obtain ⟨b,b1,b2⟩:=h2 cs i j l ω;refine ⟨(a,b),?_,_,_,rfl,a2,b2⟩;have:=A5b a1 b1;rwa [<-List.drop_drop,List.take_append_drop] at this
theorem Te {t:TypeId} {fs:Array Field} {n i:Nat} {L:List (TypeId×Nat×Nat)} {α β:Type} {g:β->List AV} {f:α->List AV} {R:β->Nat->Prop} {Q:α->Nat->Prop} (φ:β->α) (hu:P.underlying t=some (.struct fs)) (l:fs.toList.map (λx=>(x.type,x.offset,P.cellsOf x.type))=L) (ht:P.cellsOf t=i) (j:∀b,f (φ b)=g b) (k:∀b m,R b m->Q (φ b) (m+1)) (h:RdL enc P w n i 0 L g R):Rd enc P w (n+1) t f Q:=by
 intro cs d hd hb;have c:(if cs.length=P.cellsOf t then (fs.toList.mapM λx=>DataW.ofBy (keyOf P) enc P w 0 true true n x.type ((cs.drop x.offset).take (P.cellsOf x.type))).map DataW.agg else none)=some d:=by unfold DataW.ofBy at hd;rw [hu] at hd;split at hd <;> simp_all
 split at c
 .rename_i hc;simp only [Option.map_eq_some_iff] at c;obtain ⟨ds,h1,rfl⟩:=c;simp only [uptoBulk] at hb;obtain ⟨b,b1,b2⟩:=h cs ds (hc.trans ht) (by rw [<-l,List.mapM_map]; exact h1) ω;refine ⟨φ b,?_,k b _ b2⟩;rw [j]; simpa using b1
 .cases c
end
end Go.Ab
namespace Go.Ab
open Go Go.Proofs Go.Proofs.Tryz
open Go.Proofs.YtohelcameomopaaGreatDoor.Rows (uptoBulk uptoBulkAll)
section
variable {H:Type} {enc:TypeId×Value->H} {w:World}
theorem Ajl:∀{l:List Ai} {m:Nat},QL (λa b=>Bo a<=b) l m->Cu l<=m
 | [],_,_=>Nat.zero_le _
 | _::l,_,⟨m1,m2,h1,h2,h3,c⟩=>by have:=Ajl c; simp only [Cu]; omega
theorem Asl {n:Nat} (h:Rd enc prog w n 23 (λl:List Ai=>[.sl 3 (l.map Ei)]) (λl b=>∃m,m+1<=b/\QL (λa b=>Bo a<=b) l m)) : Rd enc prog w (n+1) 25 (λa:Ai=>(Ei a).cells) (λa b=>Bo a<=b):=by
 refine Te (λp:Int×Int×List Ai×Unit=>⟨p.1,p.2.1,p.2.2.1⟩) Go.Proofs.Tryz.underlying25 κ κ (λb=>?_) ?_ (H8 1 (Qp .i64 n Go.Proofs.Tryz.underlying3) (H8 1 (Qp .i64 n Go.Proofs.Tryz.underlying3) (H8 1 h (Td n 3))))
 .simp [Ei,AV.cells,J8]
 .rintro ⟨a,b,l,_⟩ m ⟨m1,m2,rfl,_,m3,m4,rfl,_,m5,m6,rfl,⟨k,hk,hq⟩,_⟩;have:=Ajl hq;simp only [Bo] at *; omega
theorem Ajm:∀n:Nat,Rd enc prog w n 25 (λa:Ai=>(Ei a).cells) (λa b=>Bo a<=b)
 | 0=>Nt _ _ _
 | 1=>Asl (Nt _ _ _)
 | n+2=>Asl (Ajk 3 Ei Go.Proofs.Tryz.underlying23 κ δ (λ_=>rfl) (λ_=>rfl) (Ajm n))
theorem Asm (n:Nat):Rd enc prog w n 23 (λl:List Ai=>[.sl 3 (l.map Ei)]) (λl b=>∃m,m+1<=b/\QL (λa b=>Bo a<=b) l m):=by cases n with| zero=>exact Nt _ _ _| succ n=>exact Ajk 3 Ei Go.Proofs.Tryz.underlying23 κ δ (λ_=>rfl) (λ_=>rfl) (Ajm n)
theorem Ajn {t e:TypeId} (sz:Nat) {α:Type} {f:α->List AV} (g:α->AV) {Q:α->Nat->Prop} (hu:prog.underlying t=some (.slice e)) (c:prog.cellsOf e=sz) (hpos:0<sz) (h:∀a,(g a).cells=f a) (i:∀a,(f a).length=sz) (ih:∀n,Rd enc prog w n e f Q) (n:Nat):Rd enc prog w n t (λl:List α=>[.sl sz (l.map g)]) (λl b=>∃m,m+1<=b/\QL Q l m):=by cases n with| zero=>exact Nt _ _ _| succ n=>exact Ajk sz g hu c hpos h i (ih n)
theorem A5d (n:Nat):Rd enc prog w n 175 (λa:Mg=>(Abq a).cells) (λa b=>a.Name.size<=b/\Cu a.Args<=b):=by
 cases n with
 | zero=>exact Nt _ _ _
 | succ n=>
  refine Te (λp:ByteArray×List Ai×Unit=>⟨p.1,p.2.1⟩) Go.Proofs.Tryz.underlying175 κ κ (λb=>?_) ?_ (H8 1 (Asj n Go.Proofs.Tryz.underlying9) (H8 1 (Asm n) (Td n 2)))
  .simp [Abq,AV.cells,J8]
  .rintro ⟨a,l,_⟩ m ⟨m1,m2,rfl,ha,m5,m6,rfl,⟨k,hk,hq⟩,_⟩;have:=Ajl hq;simp only at *;exact ⟨ω,ω⟩
theorem A5e (n:Nat):Rd enc prog w n 172 (λa:A3=>(Ct a).cells) (λa b=>a.Name.size<=b/\a.Cons.length<=b/\∀y∈a.Cons,y.Name.size<=b/\Cu y.Args<=b):=by
 cases n with
 | zero=>exact Nt _ _ _
 | succ n=>
  refine Te (λp:ByteArray×Int×List Mg×Unit=>⟨p.1,p.2.1,p.2.2.1⟩) Go.Proofs.Tryz.underlying172 κ κ (λb=>?_) ?_ (H8 1 (Asj n Go.Proofs.Tryz.underlying9) (H8 1 (Qp .i64 n Go.Proofs.Tryz.underlying3) (H8 1 (Ajn 2 Abq Go.Proofs.Tryz.underlying170 κ δ (λ_=>rfl) (λ_=>rfl) A5d n) (Td n 3))))
  .simp [Ct,AV.cells]
  .rintro ⟨a,b,l,_⟩ m ⟨m1,m2,rfl,ha,m3,m4,rfl,_,m5,m6,rfl,⟨k,hk,hq⟩,_⟩;have h1:=V9 hq;have h2:=Ad5 hq;simp only at *;refine ⟨ω,ω,λy hy=>?_⟩;obtain ⟨c,g1,g2,g3⟩:=h2 y hy;exact ⟨ω,ω⟩
theorem A5f (n:Nat):Rd enc prog w n 27 (λa:Bk=>(Fx a).cells) (λa b=>b<=1048576->CSz a):=by
 cases n with
 | zero=>exact Nt _ _ _
 | succ n=>
  refine Te (λp:List A3×List Ai×Ai×Unit=>⟨p.1,p.2.1,p.2.2.1⟩) Go.Proofs.Tryz.underlying27 κ κ (λb=>?_) ?_ (H8 1 (Ajn 3 Ct Go.Proofs.Tryz.underlying22 κ δ (λ_=>rfl) (λ_=>rfl) A5e n) (H8 1 (Asm n) (H8 3 (Ajm n) (Td n 5))))
  .simp [Fx,Ei,AV.cells,J8]
  .rintro ⟨a,b,l,_⟩ m ⟨m1,m2,rfl,⟨k,hk,hq⟩,m3,m4,rfl,⟨h,f,hq'⟩,m5,m6,rfl,i,_⟩ hm;have h1:=V9 hq;have h2:=Ad5 hq;have h3:=V9 hq';have g:=Ad5 hq';simp only at *;refine ⟨⟨by dsimp only; omega,λx hx=>?_,λx hx=>?_,λx hx y hy=>?_⟩,by dsimp only; omega,λt ht=>?_,by dsimp only; omega⟩
   .obtain ⟨c,g1,g2,g3,g4⟩:=h2 x hx;refine ⟨ω,λy hy=>?_⟩;have:=(g4 y hy).2;omega
   .obtain ⟨c,g1,g2,g3,g4⟩:=h2 x hx;omega
   .obtain ⟨c,g1,g2,g3,g4⟩:=h2 x hx;have:=(g4 y hy).1;omega
   .obtain ⟨c,g1,g2⟩:=g t ht;omega
theorem A5g (n:Nat):Rd enc prog w n 69 (λa:A5=>(Cp a).cells) (λ_ _=>True):=by cases n with| zero=>exact Nt _ _ _| succ n=>refine Te (λp:Int×Int×Unit=>⟨p.1,p.2.1⟩) Go.Proofs.Tryz.underlying69 κ κ (λb=>?_) (λ_ _ _=>trivial) (H8 1 (Qp .i64 n Go.Proofs.Tryz.underlying3) (H8 1 (Qp .i64 n Go.Proofs.Tryz.underlying2) (Td n 2)));simp [Cp,AV.cells]
theorem Asn (n:Nat):Rd enc prog w n 30 (λa:Bb=>(D0 a).cells) (λa b=>a.Terms.length<=b):=by
 cases n with
 | zero=>exact Nt _ _ _
 | succ n=>
  refine Te (λp:Int×List A5×Unit=>⟨p.1,p.2.1⟩) Go.Proofs.Tryz.underlying30 κ κ (λb=>?_) ?_ (H8 1 (Qp .i64 n Go.Proofs.Tryz.underlying2) (H8 1 (Ajn 2 Cp Go.Proofs.Tryz.underlying28 κ δ (λ_=>rfl) (λ_=>rfl) A5g n) (Td n 2)))
  .simp [D0,AV.cells]
  .rintro ⟨a,l,_⟩ m ⟨m1,m2,rfl,ha,m5,m6,rfl,⟨k,hk,hq⟩,_⟩;have:=V9 hq;simp only at *;omega
theorem A5h (n:Nat):Rd enc prog w n 32 (λa:Eu=>(Jr a).cells) (λa b=>a.E.Terms.length<=b/\a.F.Terms.length<=b):=by
 cases n with
 | zero=>exact Nt _ _ _
 | succ n=>
  refine Te (λp:Int×Bb×Bb×Int×Unit=>⟨p.1,p.2.1,p.2.2.1,p.2.2.2.1⟩) Go.Proofs.Tryz.underlying32 κ κ (λb=>?_) ?_ (H8 1 (Qp .i64 n Go.Proofs.Tryz.underlying3) (H8 2 (Asn n) (H8 2 (Asn n) (H8 1 (Qp .i64 n Go.Proofs.Tryz.underlying3) (Td n 6)))))
  .simp [Jr,D0,AV.cells]
  .rintro ⟨a,l,f,c,_⟩ m ⟨m1,m2,rfl,_,m3,m4,rfl,h1,m5,m6,rfl,h2,_⟩;simp only at *;exact ⟨ω,ω⟩
end
end Go.Ab
namespace Go.Ab
open Go Go.Proofs Go.ChangeShapes Go.WideShapes Go.ChangeAt Go.RowKit Go.Proofs.Tryz
open Go.Proofs.YtohelcameomopaaGreatDoor.Rows (uptoBulk uptoBulkAll uptoSmall)
set_option maxRecDepth 100000
theorem Aso {P:Program} {W:World} {x:String×DataW Unit} {l:List (String×DataW Unit)} (h:laidMet P (x::l) W):laidMet P l W:=by obtain ⟨ps,⟨s,k,cs,fuel,p,q,j,ht',f,hd,g,c⟩,i,hc⟩:=h;subst c;refine ⟨q,g,(List.nodup_append.1 i).2.1,λb off hb=>hc b off ?_⟩;simp [hb]
theorem A5i {W:World} (h:laidMetH prog YtohelcameomopaaGreatDoor.Rows.axiomPolysRow.laid W):Tf (Ns W):=by
 have h1:laidMet prog [("internal/strconv.uint64pow10",YtohelcameomopaaGreatDoor.Rows.laid_internal_strconv_uint64pow10)] W:=Aso (Aso h);have h2:Lib.TabIs prog W "internal/strconv.uint64pow10" .u64 Lib.pow10Tab :=
  Lib.tabIs_of_head (g:=0) (rest:=[]) κ κ Go.Proofs.Tryz.underlying410 Go.Proofs.Tryz.underlying134 κ κ h1
 have g:prog.globalNamed "internal/strconv.uint64pow10" = some 0:=κ;unfold Lib.TabIs World.var? at h2;rw [g] at h2;simp only [Option.bind_some] at h2;split at h2
 .rename_i cs E fr hc;cases h2;exact ⟨E,fr,hc⟩
 .cases h2
theorem A5j {W:World} (g:Tf (Ns W)):St (Ns W) ι0 H0 (λ_=>none) W W := ⟨(λ_ _ h=>h),(λ_ _ h=>by cases h),(λ_=>rfl),(λ_ _ _ h=>by cases h),rfl,rfl,rfl,g,Nat.le_refl _⟩
theorem A5k {σ:Ax} {xs:List AV} {cs:Array Value} (h:CCs σ xs cs.toList):CC σ (.agg xs) (.agg cs) :=
 .agg xs cs (by simpa using h.1) (λi c v h1 h2=>(h.2 i c v h1 (by simpa using h2)).1)
section
variable {H:Type} {enc:TypeId×Value->H} {W:World} {base:Nat} {t:TypeId} {v:Value} {d:DataW H} {p:List MemPlace}
theorem Asp {α:Type} {g:α->List AV} {Q:α->Nat->Prop} {fs:Array Field} (hu:prog.underlying t=some (.struct fs)) (b:Value.okWide prog W .any base t v) (hd:DataW.Trod enc prog W 0 (λ_=>true) true t v d p) (hb:uptoBulk d<=1048576) (c:∀n,Rd enc prog W n t g Q):∃a,CC (Ns W) (.agg (g a)) v/\Q a (uptoBulk d):=by unfold Value.okWide at b;rw [hu] at b;obtain ⟨cs,rfl,_⟩:=b;obtain ⟨n,f⟩:=hd.by;obtain ⟨a,h1,h2⟩:=c n _ d f hb;exact ⟨a,A5k h1,h2⟩
end
section
variable {H:Type} {enc:TypeId×Value->H} {P:Program}
theorem Asq (f:laidOutB P=true) {w w':World} {c:Nat->Bool}:∀{ts:List TypeId} {vs:List Value} {g:List (DataW H)} {ps:List MemPlace}, (ts.all λt=>P.readableRec t&&decide (t<P.types.size))=true->DataW.TrodAll enc P w 0 (λ_=>true) true ts vs g ps->(∀p∈ps,w.sameAt w' p)->(∀p∈ps,c p.block=true)->DataW.TrodAll enc P w' 0 c true ts vs g ps
 | [],[],[],_,_,h,_,_=>h
 | t::ts,_::_,_::_,_,b,⟨p,q,h,i,e⟩,hk,hp=>by subst e;simp only [List.all_cons,Bool.and_eq_true,decide_eq_true_eq] at b;exact ⟨p,q,WideElems.Trod_stays f b.1.1 b.1.2 h (λx hx=>hk x (by simp [hx])) (λx hx=>hp x (by simp [hx])),Asq f b.2 i (λx hx=>hk x (by simp [hx])) (λx hx=>hp x (by simp [hx])),rfl⟩
theorem A5l (S:laidOutB P=true) {f:Func} {s:ChangeSpec} {g:Bool} {W l:World} {args:Array Value} {k:List (DataW H)} {j:List MemPlace} {t:TypeId} (G:s.vars = []) (I:DataW.Whole enc P f.params.toList s.vars false W args.toList k [] j) (R:(f.params.toList.all λt=>P.readableRec t&&decide (t<P.types.size))=true) (E:(s.fn H k).results = [.lit (.bool true)]/\(s.fn H k).args=k/\(s.fn H k).vars = []) (B:f.resultTypes = #[t]) (ht:P.underlying t=some .bool) (z:∀(b:Nat) (o:Obj),W.heap[b]? = some o->l.heap[b]? = some o) (D:l.os=W.os) (u:l.output=W.output) : s.post enc P f false true g false W args (.bool true) l:=by
 have A:=I;obtain ⟨p,q,V,J,rfl,U,_⟩:=I;rw [G] at J;obtain rfl:q = []:=J;have y:=A.lt;rw [List.append_nil] at *;have c:∀b,b<W.heap.size->l.heap[b]? = W.heap[b]?:=λb hb=>by rw [Array.getElem?_eq_getElem hb];exact z b _ (Array.getElem?_eq_getElem hb)
 have same:∀x∈p,W.sameAt l x:=by intro x hx;have:=c x.block (y x hx);cases x with| cell b o=>exact World.cell?_of_block (w:=W) this| map b=>exact this
 obtain ⟨N,M,L⟩:=E;refine ⟨k,[],p,[],p,[],A,?_,?_,?_,⟨D,u,λi hi=>?_⟩,λh=>by cases h⟩
 .rw [List.append_nil,N,B];exact trodAll_mk1 (shut_bool ht _)
 .rw [List.append_nil,M];exact Asq S R V same (λx hx=>by simpa using y x hx)
 .rw [List.append_nil,L,G]; rfl
 .rw [c i hi];split <;> simp_all
end
end Go.Ab
