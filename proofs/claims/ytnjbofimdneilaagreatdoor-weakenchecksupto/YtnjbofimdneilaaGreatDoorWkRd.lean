/- Readings. -/
import Derived.Test.YtnjbofimdneilaaGreatDoorRows
import Derived.Test.YtnjbofimdneilaaGreatDoorWkTy
import Derived.ReaderBy
import Derived.Test.YtnjbofimdneilaaGreatDoorWkPl2
import Derived.Test.YtnjbofimdneilaaGreatDoorCards
import Derived.Test.YtnjbofimdneilaaGreatDoorTie
import Derived.ChangeOld
import Derived.ChangeSame
import Derived.Carry
import Derived.RowKit
import Derived.WalkKit
import Derived.ProofKit
import Derived.OpenShut
import Derived.Deep.DeepHandedRow
import Derived.Lib.LaidTab
open List
namespace Go.Ab
open Go
open Go.Proofs.YtnjbofimdneilaaGreatDoor.Rows (uptoBulk uptoBulkAll)
def Py(w:World):Bd:=λb=>w.heap[b]?
def CCs(σ:Bd)(xs:Λ AV)(cs:Λ Value):Prop:=cs.length=xs.length/\∀(j:Nat)(a:AV)(c:Value),xs[j]?=some a->cs[j]?=some c->CC σ a c/\Fu c=true
section
variable{H:Type}{enc:TypeId×Value->H}{P:Program}{w:World}
variable{a:Addr}{σ:Bd}{n:Nat}{α β:Type}{e t:TypeId}{Q:α->Nat->Prop}{g:β->Λ AV}{R:β->Nat->Prop}
def Rd(enc:TypeId×Value->H)(P:Program)(w:World)(n:Nat)(t:TypeId)(f:α->Λ AV)(Q:α->Nat->Prop):Prop:=∀(cs:Λ Value)(d:DataW H),DataW.ofBy (keyOf P) enc P w 0 true true n t cs=some d->uptoBulk d<=1048576->∃a:α,CCs (Py w) (f a) cs/\Q a (uptoBulk d)
theorem Ku(t:TypeId)(f:α->Λ AV)(Q:α->Nat->Prop):Rd enc P w 0 t f Q:=λ_ _ h=>by cases h
theorem Bg1(d:DataW H):1<=uptoBulk d:=by cases d with|lit l=>cases l<;>simp[uptoBulk]|_=>simp[uptoBulk]
theorem Aaw{a:AV}{c:Value}(h:CC σ a c)(i:Fu c=true):CCs σ [a] [c]:=by refine⟨rfl,λj x y b k=>?_⟩;cases j with|zero=>cases b;cases k;exact⟨h,i⟩|succ j=>cases b
theorem Bg2{xs bs:Λ AV}{cs b:Λ Value}(h:CCs σ xs cs)(m:CCs σ bs b):CCs σ (xs++bs) (cs++b):=by refine⟨by simp[h.1,m.1],λj x y k l=>?_⟩;rcases Nat.lt_or_ge j xs.length with i|i;rw[getElem?_append_left i]at k;rw[getElem?_append_left (by rw[h.1];exact i)]at l;exact h.2 j x y k l;rw[getElem?_append_right i]at k;rw[getElem?_append_right (by rw[h.1];exact i),h.1]at l;exact m.2 _ x y k l
theorem Oy(k:IntKind)(n:Nat)(i:P.underlying t=some (.int k)):Rd enc P w n t (λa:Int=>[O k a]) (λa _=>k.min<=a/\a<=k.max):=by intro cs d h _;cases n with|zero=>cases h|succ n=>rcases cs with _|⟨c,_|⟨f,r⟩⟩;simp[DataW.ofBy,i]at h;cases c<;>simp[DataW.ofBy,i]at h;rename_i b m;obtain⟨⟨rfl,j⟩,_⟩:=h;exact⟨m,Aaw (.val _) rfl,by simpa[Lit.wf]using j⟩;simp[DataW.ofBy,i]at h
theorem Bg3(n:Nat)(i:P.underlying t=some .bool):Rd enc P w n t (λa:Bool=>[Av a]) (λ_ _=>True):=by intro cs d h _;cases n with|zero=>cases h|succ n=>rcases cs with _|⟨c,_|⟨b,r⟩⟩;simp[DataW.ofBy,i]at h;cases c<;>simp[DataW.ofBy,i]at h;exact⟨_,Aaw (.val _) rfl,trivial⟩;simp[DataW.ofBy,i]at h
theorem A0v(n:Nat)(i:P.underlying t=some .string):Rd enc P w n t (λa:Β=>[E4 a]) (λa b=>a.size<=b):=by
 intro cs d h _;cases n with
 |zero=>cases h
 |succ n=>
  rcases cs with _|⟨c,_|⟨f,r⟩⟩;simp[DataW.ofBy,i]at h
  .cases c
   case string s=>
    have j:(if s.size<=maxLen then some (DataW.lit (H:=H) (.string s.data.toList))else none)=some d:=(by unfold DataW.ofBy at h;rw[i]at h;exact h);split at j
    .cases j;refine⟨_,Aaw (.val _) rfl,?_⟩;have e:s.data.toList.length=s.size:=(by rw[Array.length_toList];rfl);simp only[uptoBulk];omega
    .cases j
   all_goals (unfold DataW.ofBy at h;rw[i]at h;cases h)
  simp[DataW.ofBy,i]at h
def QL{α:Type}(Q:α->Nat->Prop):Λ α->Nat->Prop
 |[],_=>True
 |a::l,m=>∃b h,1<=b/\b+h<=m/\Q a b/\QL Q l h
theorem Bg4{sz:Nat}{f:α->Λ AV}(ih:Rd enc P w n e f Q)(g:Nat->Ο (List Value)):∀(L:Dr)(c:Λ (DataW H)), L.mapM (λi=>(g i).bind (DataW.ofBy (keyOf P) enc P w 0 true true n e))=some c->uptoBulkAll c<=1048576->∃l:Λ α,l.length=L.length/\QL Q l (uptoBulkAll c)/\∀(i:Nat)(a:α),l[i]?=some a->∃k cs,L[i]?=some k/\g k=some cs/\CCs (Py w) (f a) cs:=by intro L;induction L with|nil=>intro c h _;exact⟨[],rfl,trivial,λi a h=>by cases h⟩|cons k L j=>intro c h o;simp only[mapM_cons,Option.pure_def,Option.bind_eq_bind,Option.bind_eq_some_iff]at h;obtain⟨d,⟨cs,r,B⟩,b,C,A⟩:=h;cases A;simp only[uptoBulkAll]at o;obtain⟨a,D,E⟩:=ih cs d B ω;obtain⟨l,y,u,s⟩:=j b C ω;refine⟨a::l,by simp[y],⟨uptoBulk d,uptoBulkAll b,Bg1 d,by simp[uptoBulkAll],E,u⟩,?_⟩;intro i x m;cases i with|zero=>cases m;exact⟨k,cs,rfl,r,D⟩|succ i=>obtain⟨z,q,F,G,I⟩:=s i x m;exact⟨z,q,F,G,I⟩
theorem Ny{α:Type}{Q:α->Nat->Prop}:∀{l:Λ α}{m:Nat},QL Q l m->l.length<=m
 |[],_,_=>Nat.zero_le _
 |_::l,_,⟨h,i,j,k,_,b⟩=>by have:=Ny b;simp only[length_cons];omega
theorem Pz{α:Type}{Q:α->Nat->Prop}:∀{l:Λ α}{m:Nat},QL Q l m->∀a∈l,∃b,b<=m/\Q a b
 |_::l,_,⟨i,o,q,r,j,c⟩,a,h=>by rcases mem_cons.1 h with rfl|h;exact⟨i,ω,j⟩;obtain⟨b,s,k⟩:=Pz c a h;exact⟨b,ω,k⟩
theorem Aj4{cs:Λ Value}(h:w.cells? 0 a n=some cs):cs.length=n/\∀j,j<n->w.cell? (a.add j)=cs[j]?:=by unfold World.cells? at h;rw[if_pos (Nat.zero_le _)]at h;(have l:∀(L:Dr)(cs:Λ Value),L.mapM (λi=>w.cell? (a.add i))=some cs->cs.length=L.length/\∀(i k:Nat),L[i]?=some k->w.cell? (a.add k)=cs[i]?:=by intro L;induction L with|nil=>intro cs h;cases h;exact⟨rfl,λi k h=>by cases h⟩|cons x L ih=>intro cs h;simp only[mapM_cons,Option.pure_def,Option.bind_eq_bind,Option.bind_eq_some_iff]at h;obtain⟨v,b,q,m,r⟩:=h;cases r;obtain⟨s,u⟩:=ih q m;refine⟨by simp[s],λi k o=>?_⟩;cases i with|zero=>cases o;simpa using b|succ i=>simpa using u i k o);obtain⟨b,m⟩:=l _ _ h;rw[length_range]at b;exact⟨b,λj y=>m j j (by simp[y])⟩
theorem A0w(h:a.spot=none)(m:Nat):a.add m=⟨a.block,a.off+m,none⟩:=by unfold Addr.add;split;rename_i e;subst e;cases a;simp_all;rfl
theorem Aj5(sz:Nat){f:α->Λ AV}(g:α->AV)(hu:P.underlying t=some (.slice e))(L:P.cellsOf e=sz)(a0:0<sz)(hg:∀a,(g a).cells=f a)(S:∀a,(f a).length=sz)(ih:Rd enc P w n e f Q):Rd enc P w (n+1) t (λl:List α=>[.sl sz (l.map g)]) (λl b=>∃m,m+1<=b/\QL Q l m):=by
 intro cs d h hb;rcases cs with _|⟨c,_|⟨c',r⟩⟩;simp[DataW.ofBy,hu]at h
 .cases c
  case slice base len K=>
   cases base with
   |none=>have:d=.nil/\len=0:=(by unfold DataW.ofBy at h;rw[hu]at h;split at h<;>simp_all);obtain⟨rfl,rfl⟩:=this;exact⟨[],Aaw (.nil sz _ _) rfl,0,by simp[uptoBulk],trivial⟩
   |some a=>
    have h':(if 0<=a.block/\len<=K/\K<=maxLen then
     ((range len).mapM λi=>(w.cells? 0 (a.add (i*P.cellsOf e)) (P.cellsOf e)).bind (DataW.ofBy (keyOf P) enc P w 0 true true n e)).bind λu=>(if true=true then(range (K-len)).mapM λj=>(w.cells? 0 (a.add ((len+j)*P.cellsOf e)) (P.cellsOf e)).bind (DataW.ofBy (keyOf P) enc P w 0 true true n e)else some []).map λT=>DataW.slice u T else none)=some d:=by unfold DataW.ofBy at h;rw[hu]at h;exact h
    split at h'
    .rename_i F;simp only[Option.bind_eq_some_iff,Option.map_eq_some_iff]at h';obtain⟨u,h1,T,h2,rfl⟩:=h';rw[L]at h1;simp only[uptoBulk]at hb;obtain⟨l,G,X,l3⟩:=Bg4 (sz:=sz) ih (λi=>w.cells? 0 (a.add (i*sz)) sz) _ _ h1 ω;have Z:=Ny X;rw[length_range]at G;refine⟨l,?_,uptoBulkAll u,by simp only[uptoBulk];omega,X⟩;cases R:l with
     |nil=>rw[R]at G;have:len=0:=G.symm;subst this;exact Aaw (.nil sz _ _) rfl
     |cons x l'=>
      rw[<-R];refine Aaw ?_ rfl;have D:∀(i:Nat)(y:α),l[i]?=some y->∃cs,w.cells? 0 (a.add (i*sz)) sz=some cs/\CCs (Py w) (f y) cs:=(by intro i y o;obtain⟨k,cs,g1,g2,g3⟩:=l3 i y o;have hk:k=i:=(by rw[getElem?_range (by have:=(List.getElem?_eq_some_iff.1 o).1;omega)]at g1;exact(Option.some.inj g1).symm);subst hk;exact⟨cs,g2,g3⟩);have J:l[0]?=some x:=(by rw[R];rfl);obtain⟨V,c1,c2⟩:=D 0 x J;have c3:=(Aj4 c1).2 0 a0;have a1:V.length=sz:=(Aj4 c1).1;rw[getElem?_eq_getElem ω]at c3;have s:a.spot=none/\∃C E fr,w.heap[a.block]?=some (.cells C E fr):=by
       have U:(a.add (0*sz)).add 0=a:=(by simp[Addr.add]);rw[U]at c3;unfold World.cell? at c3;split at c3
       .rename_i C E fr I;split at c3
        .cases c3
        .rename_i Y;refine⟨?_,C,E,fr,I⟩;cases M:a.spot with|none=>rfl|some _=>rw[M]at Y;simp at Y
       .cases c3
      obtain⟨s,C,E,fr,I⟩:=s;have z:∀i j:Nat,w.cell? ((a.add (i*sz)).add j)=C[a.off+i*sz+j]?:=(by intro i j;rw[A0w s,A0w rfl];unfold World.cell?;rw[I];rfl);have q:∀(i:Nat)(y:α)(j:Nat)(c:AV),l[i]?=some y->(g y).cells[j]?=some c->∃v,C[a.off+i*sz+j]?=some v/\CC (Py w) c v/\Fu v=true:=(by intro i y j c o F;obtain⟨cs,e1,e2⟩:=D i y o;rw[hg]at F;have hj:=(List.getElem?_eq_some_iff.1 F).1;rw[S]at hj;have B:j<cs.length:=(by rw[(Aj4 e1).1];exact hj);have:=(Aj4 e1).2 j hj;rw[z,getElem?_eq_getElem B]at this;exact⟨_,this,e2.2 j c _ F (getElem?_eq_getElem B)⟩);have a2:a=⟨a.block,a.off,none⟩:=(by cases a;simp_all);rw[a2];have N:l.length=(l.map g).length:=ψ;rw[<-G,N];refine CC.sl (l.map g) a.block a.off K sz C E fr (λi j=>(C[a.off+i*sz+j]?).getD undef) I ?_ ?_ ?_ ?_ ζ ζ
      .intro i y o;simp only[getElem?_map,Option.map_eq_some_iff]at o;obtain⟨y,_,rfl⟩:=o;rw[hg,S]
      .intro i y j c o F;simp only[getElem?_map,Option.map_eq_some_iff]at o;obtain⟨y,o,rfl⟩:=o;obtain⟨v,A,v2,v3⟩:=q i y j c o F;rw[A];exact v2
      .intro i y j c o F;simp only[getElem?_map,Option.map_eq_some_iff]at o;obtain⟨y,o,rfl⟩:=o;obtain⟨v,A,v2,v3⟩:=q i y j c o F;rw[A];exact v3
      .intro i j hi hj;rw[length_map]at hi;have o:l[i]?=some l[i]:=getElem?_eq_getElem hi;have F:(g l[i]).cells[j]?=some ((g l[i]).cells[j]'(by rw[hg,S];exact hj)):=getElem?_eq_getElem _;obtain⟨v,A,_⟩:=q i _ j _ o F;rw[A];rfl
    .cases h'
  all_goals simp[DataW.ofBy,hu]at h
 simp[DataW.ofBy,hu]at h
def RdL(enc:TypeId×Value->H)(P:Program)(w:World)(n b off:Nat)(fs:Λ (TypeId×Nat×Nat))(f:α->Λ AV)(Q:α->Nat->Prop):Prop:=∀(cs:Λ Value)(h:Λ (DataW H)),cs.length=b->fs.mapM (λx=>DataW.ofBy (keyOf P) enc P w 0 true true n x.1 ((cs.drop x.2.1).take x.2.2))=some h->uptoBulkAll h<=1048576->∃a:α,CCs (Py w) (f a) (cs.drop off)/\Q a (uptoBulkAll h)
theorem Mz(n b:Nat):RdL enc P w n b b [] (λ_:Unit=>[]) (λ_ _=>True):=by intro cs i h _ _;exact⟨(),⟨by simp[h],λj a c h=>by cases h⟩,trivial⟩
theorem Gl{c off:Nat}(sz:Nat){fs:Λ (TypeId×Nat×Nat)}{f:α->Λ AV}(s:Rd enc P w n t f Q)(u:RdL enc P w n c (off+sz) fs g R):RdL enc P w n c off ((t,off,sz)::fs) (λp:α×β=>f p.1++g p.2) (λp m=>∃o r,o+r=m/\Q p.1 o/\R p.2 r):=by intro cs D j h x;simp only[mapM_cons,Option.pure_def,Option.bind_eq_bind,Option.bind_eq_some_iff]at h;obtain⟨d,q,i,l,k⟩:=h;cases k;simp only[uptoBulkAll]at x⊢;obtain⟨a,y,A⟩:=s _ d q ω;obtain⟨b,B,C⟩:=u cs i j l ω;refine⟨(a,b),?_,_,_,rfl,A,C⟩;have:=Bg2 y B;rwa [<-drop_drop,take_append_drop]at this
theorem M0{fs:Array Field}{i:Nat}{L:Λ (TypeId×Nat×Nat)}{f:α->Λ AV}(φ:β->α)(q:P.underlying t=some (.struct fs))(l:fs.toList.map (λx=>(x.type,x.offset,P.cellsOf x.type))=L)(r:P.cellsOf t=i)(j:∀b,f (φ b)=g b)(k:∀b m,R b m->Q (φ b) (m+1))(h:RdL enc P w n i 0 L g R):Rd enc P w (n+1) t f Q:=by intro cs d o s;(have c:(if cs.length=P.cellsOf t then(fs.toList.mapM λx=>DataW.ofBy (keyOf P) enc P w 0 true true n x.type ((cs.drop x.offset).take (P.cellsOf x.type))).map DataW.agg else none)=some d:=by unfold DataW.ofBy at o;rw[q]at o;split at o<;>simp_all);split at c;rename_i u;simp only[Option.map_eq_some_iff]at c;obtain⟨y,A,rfl⟩:=c;simp only[uptoBulk]at s;obtain⟨b,B,C⟩:=h cs y (u.trans r) (by rw[<-l,mapM_map];exact A) ω;refine⟨φ b,?_,k b _ C⟩;rw[j];simpa using B;cases c
end
end Go.Ab
namespace Go.Ab
open Go Go.Proofs Go.Proofs.Tryz
open Go.Proofs.YtnjbofimdneilaaGreatDoor.Rows (uptoBulk uptoBulkAll)
section
variable{H:Type}{enc:TypeId×Value->H}{w:World}
variable{n:Nat}{α:Type}{Q:α->Nat->Prop}
theorem A0x{a:Int}(h:IntKind.i64.min<=a/\a<=IntKind.i64.max):I64 a:=by have c:IntKind.i64.min = -9223372036854775808:=δ;have b:IntKind.i64.max=9223372036854775807:=δ;rw[c,b]at h;exact h
theorem Aqj:∀{l:A1}{m:Nat},QL (λa b=>B3 a<=b) l m->Dq l<=m
 |[],_,_=>Nat.zero_le _
 |_::l,_,⟨h,i,j,k,o,c⟩=>by have:=Aqj c;simp only[Dq];omega
theorem A0y:∀{l:Bo}{m:Nat},QL (λa b=>C5 a<=b/\iR a) l m->Ey l<=m/\iRs l
 |[],_,_=>⟨Nat.zero_le _,trivial⟩
 |_::l,_,⟨i,j,k,o,h,c⟩=>by have:=A0y c;simp only[Ey,iRs];exact⟨ω,h.2,this.2⟩
theorem A0z(h:Rd enc prog w n 23 (λl:List Ak=>[.sl 3 (l.map Fz)]) (λl b=>∃m,m+1<=b/\QL (λa b=>B3 a<=b) l m)):Rd enc prog w (n+1) 25 (λa:Ak=>(Fz a).cells) (λa b=>B3 a<=b):=by refine M0 (λp:Int×Int×List Ak×Unit=>⟨p.1,p.2.1,p.2.2.1⟩) underlying25 κ κ (λb=>?_) ?_ (Gl 1 (Oy .i64 n underlying3) (Gl 1 (Oy .i64 n underlying3) (Gl 1 h (Mz n 3))));simp[Fz,AV.cells,Lv];rintro⟨a,b,l,_⟩ m ⟨j,o,rfl,_,q,r,rfl,_,s,u,rfl,⟨k,x,i⟩,_⟩;have:=Aqj i;simp only[B3]at *;omega
theorem Aqk:∀n:Nat,Rd enc prog w n 25 (λa:Ak=>(Fz a).cells) (λa b=>B3 a<=b)
 |0=>Ku _ _ _
 |1=>A0z (Ku _ _ _)
 |n+2=>A0z (Aj5 3 Fz underlying23 κ δ (λ_=>rfl) (λ_=>rfl) (Aqk n))
theorem A00(n:Nat):Rd enc prog w n 23 (λl:List Ak=>[.sl 3 (l.map Fz)]) (λl b=>∃m,m+1<=b/\QL (λa b=>B3 a<=b) l m):=by cases n with|zero=>exact Ku _ _ _|succ n=>exact Aj5 3 Fz underlying23 κ δ (λ_=>rfl) (λ_=>rfl) (Aqk n)
theorem A01(h:Rd enc prog w n 77 (λl:List A3=>[.sl 2 (l.map Hz)]) (λl b=>∃m,m+1<=b/\QL (λa b=>C5 a<=b/\iR a) l m)):Rd enc prog w (n+1) 79 (λa:A3=>(Hz a).cells) (λa b=>C5 a<=b/\iR a):=by refine M0 (λp:Int×List A3×Unit=>⟨p.1,p.2.1⟩) underlying79 κ κ (λb=>?_) ?_ (Gl 1 (Oy .i64 n underlying3) (Gl 1 h (Mz n 2)));simp[Hz,AV.cells,Nl];rintro⟨a,l,_⟩ m ⟨o,q,rfl,i,r,s,rfl,⟨k,u,j⟩,_⟩;have:=A0y j;have i:=A0x i;simp only[C5,iR]at *;exact⟨ω,i,this.2⟩
theorem A02:∀n:Nat,Rd enc prog w n 79 (λa:A3=>(Hz a).cells) (λa b=>C5 a<=b/\iR a)
 |0=>Ku _ _ _
 |1=>A01 (Ku _ _ _)
 |n+2=>A01 (Aj5 2 Hz underlying77 κ δ (λ_=>rfl) (λ_=>rfl) (A02 n))
theorem Q2{t e:TypeId}(sz:Nat){f:α->Λ AV}(g:α->AV)(j:prog.underlying t=some (.slice e))(c:prog.cellsOf e=sz)(i:0<sz)(hg:∀a,(g a).cells=f a)(h:∀a,(f a).length=sz)(ih:∀n,Rd enc prog w n e f Q)(n:Nat):Rd enc prog w n t (λl:List α=>[.sl sz (l.map g)]) (λl b=>∃m,m+1<=b/\QL Q l m):=by cases n with|zero=>exact Ku _ _ _|succ n=>exact Aj5 sz g j c i hg h (ih n)
theorem Bg5(n:Nat):Rd enc prog w n 178 (λa:Ph=>(Ag0 a).cells) (λa b=>a.S.size<=b/\Dq a.R<=b):=by cases n with|zero=>exact Ku _ _ _|succ n=>refine M0 (λp:Β×List Ak×Unit=>⟨p.1,p.2.1⟩) underlying178 κ κ (λb=>?_) ?_ (Gl 1 (A0v n underlying9) (Gl 1 (A00 n) (Mz n 2)));simp[Ag0,AV.cells,Lv];rintro⟨a,l,_⟩ m ⟨i,j,rfl,o,q,r,rfl,⟨k,s,h⟩,_⟩;have:=Aqj h;simp only at *;exact⟨ω,ω⟩
theorem Bg6(n:Nat):Rd enc prog w n 175 (λa:A5=>(Di a).cells) (λa b=>a.S.size<=b/\a.O.length<=b/\∀y∈a.O,y.S.size<=b/\Dq y.R<=b):=by cases n with|zero=>exact Ku _ _ _|succ n=>refine M0 (λp:Β×Int×List Ph×Unit=>⟨p.1,p.2.1,p.2.2.1⟩) underlying175 κ κ (λb=>?_) ?_ (Gl 1 (A0v n underlying9) (Gl 1 (Oy .i64 n underlying3) (Gl 1 (Q2 2 Ag0 underlying173 κ δ (λ_=>rfl) (λ_=>rfl) Bg5 n) (Mz n 3))));simp[Di,AV.cells];rintro⟨a,b,l,_⟩ m ⟨o,q,rfl,r,s,u,rfl,_,x,A,rfl,⟨k,B,h⟩,_⟩;have C:=Ny h;have i:=Pz h;simp only at *;refine⟨ω,ω,λy j=>?_⟩;obtain⟨c,D,E,F⟩:=i y j;exact⟨ω,ω⟩
theorem Bg7(n:Nat):Rd enc prog w n 27 (λa:A9=>(Gk a).cells) (λa b=>b<=1048576->CSz a):=by cases n with|zero=>exact Ku _ _ _|succ n=>refine M0 (λp:List A5×List Ak×Ak×Unit=>⟨p.1,p.2.1,p.2.2.1⟩) underlying27 κ κ (λb=>?_) ?_ (Gl 1 (Q2 3 Di underlying22 κ δ (λ_=>rfl) (λ_=>rfl) Bg6 n) (Gl 1 (A00 n) (Gl 3 (Aqk n) (Mz n 5))));simp[Gk,Fz,AV.cells,Lv];rintro⟨a,b,l,_⟩ m ⟨E,F,rfl,⟨k,G,B⟩,I,J,rfl,⟨h,f,j⟩,K,L,rfl,i,_⟩ M;have N:=Ny B;have r:=Pz B;have S:=Ny j;have g:=Pz j;simp only at *;refine⟨⟨by dsimp only;omega,λx o=>?_,λx o=>?_,λx o y s=>?_⟩,by dsimp only;omega,λt D=>?_,by dsimp only;omega⟩;obtain⟨c,u,A,C,q⟩:=r x o;refine⟨ω,λy s=>?_⟩;have:=(q y s).2;omega;obtain⟨c,u,A,C,q⟩:=r x o;omega;obtain⟨c,u,A,C,q⟩:=r x o;have:=(q y s).1;omega;obtain⟨c,u,A⟩:=g t D;omega
theorem Bg8(P:α->Prop)(h:∀a b,Q a b->P a){l:Λ α}{m:Nat}(i:QL Q l m):∀a∈l,P a:=λa j=>by obtain⟨c,_,g⟩:=Pz i a j;exact h a c g
theorem A03(n:Nat):Rd enc prog w n 37 (λl:List Int=>[.sl 1 (l.map fo)]) (λl b=>l.length<=b/\No l):=by intro cs d h j;obtain⟨a,k,m,q,i⟩:=Q2 (Q:=λa _=>IntKind.u32.min<=a/\a<=IntKind.u32.max) 1 fo underlying37 κ δ (λ_=>rfl) (λ_=>rfl) (λn=>Oy .u32 n underlying75) n cs d h j;refine⟨a,k,by have:=Ny i;omega,λx o=>?_⟩;have:=Bg8 (λx=>IntKind.u32.min<=x/\x<=IntKind.u32.max) (λ_ _ h=>h) i x o;have f:IntKind.u32.min=0:=δ;have c:IntKind.u32.max=4294967295:=δ;rw[f,c]at this;omega
theorem Aql(n:Nat):Rd enc prog w n 39 (λa:Am=>(B4 a).cells) (λa b=>RB b a):=by cases n with|zero=>exact Ku _ _ _|succ n=>refine M0 (λp:Bool×List Int×List Int×Unit=>⟨p.1,p.2.1,p.2.2.1⟩) underlying39 κ κ (λb=>?_) ?_ (Gl 1 (Bg3 n underlying4) (Gl 1 (A03 n) (Gl 1 (A03 n) (Mz n 3))));simp[B4,AV.cells];rintro⟨a,b,l,_⟩ m ⟨j,k,rfl,_,o,q,rfl,h,r,s,rfl,i,_⟩;simp only at *;exact⟨h.2,i.2,by dsimp only;omega,by dsimp only;omega⟩
theorem Bg9(n:Nat):Rd enc prog w n 81 (λa:Bm=>(F0 a).cells) (λa b=>C5 a.I<=b/\iR a.I/\I64 a.v):=by cases n with|zero=>exact Ku _ _ _|succ n=>refine M0 (λp:Int×A3×Unit=>⟨p.1,p.2.1⟩) underlying81 κ κ (λb=>?_) ?_ (Gl 1 (Oy .i64 n underlying3) (Gl 2 (A02 n) (Mz n 3)));simp[F0,Hz,AV.cells];rintro⟨a,b,_⟩ m ⟨j,k,rfl,h,l,o,rfl,i,_⟩;have h:=A0x h;simp only at *;exact⟨ω,i.2,h⟩
theorem Bha(n:Nat):Rd enc prog w n 42 (λa:Bh=>(Da a).cells) (λ_ _=>True):=by cases n with|zero=>exact Ku _ _ _|succ n=>refine M0 (λp:Int×Int×Unit=>⟨p.1,p.2.1⟩) underlying42 κ κ (λb=>?_) (λ_ _ _=>trivial) (Gl 1 (Oy .i64 n underlying3) (Gl 1 (Oy .i64 n underlying2) (Mz n 2)));simp[Da,AV.cells]
theorem Aj6(n:Nat):Rd enc prog w n 45 (λa:Ao=>(C1 a).cells) (λa b=>a.T.length<=b):=by cases n with|zero=>exact Ku _ _ _|succ n=>refine M0 (λp:Int×List Bh×Unit=>⟨p.1,p.2.1⟩) underlying45 κ κ (λb=>?_) ?_ (Gl 1 (Oy .i64 n underlying2) (Gl 1 (Q2 2 Da underlying43 κ δ (λ_=>rfl) (λ_=>rfl) Bha n) (Mz n 2)));simp[C1,AV.cells];rintro⟨a,l,_⟩ m ⟨i,j,rfl,o,q,r,rfl,⟨k,s,h⟩,_⟩;have:=Ny h;simp only at *;omega
theorem Bhb(n:Nat):Rd enc prog w n 55 (λa:Gx=>(Mm a).cells) (λa b=>a.E.T.length<=b/\a.F.T.length<=b):=by cases n with|zero=>exact Ku _ _ _|succ n=>refine M0 (λp:Int×Ao×Ao×Int×Unit=>⟨p.1,p.2.1,p.2.2.1,p.2.2.2.1⟩) underlying55 κ κ (λb=>?_) ?_ (Gl 1 (Oy .i64 n underlying3) (Gl 2 (Aj6 n) (Gl 2 (Aj6 n) (Gl 1 (Oy .i64 n underlying3) (Mz n 6)))));simp[Mm,C1,AV.cells];rintro⟨a,l,f,c,_⟩ m ⟨h,i,rfl,_,j,k,rfl,o,q,r,rfl,s,_⟩;simp only at *;exact⟨ω,ω⟩
theorem Bhc(n:Nat):Rd enc prog w n 28 (λl:List Ao=>[.sl 2 (l.map C1)]) (λl b=>l.length<=b/\∀f∈l,f.T.length<=b):=by intro cs d h j;obtain⟨a,k,m,q,i⟩:=Q2 (Q:=λa b=>a.T.length<=b) 2 C1 underlying28 κ δ (λ_=>rfl) (λ_=>rfl) Aj6 n cs d h j;refine⟨a,k,by have:=Ny i;omega,λx o=>?_⟩;obtain⟨c,r,s⟩:=Pz i x o;omega
theorem A04(n:Nat):Rd enc prog w n 56 (λl:List Am=>[.sl 3 (l.map B4)]) (λl b=>l.length<=b/\∀r∈l,RB b r):=by intro cs d h j;obtain⟨a,k,m,s,i⟩:=Q2 (Q:=λa b=>RB b a) 3 B4 underlying56 κ δ (λ_=>rfl) (λ_=>rfl) Aql n cs d h j;refine⟨a,k,by have:=Ny i;omega,λx o=>?_⟩;obtain⟨c,u,q⟩:=Pz i x o;exact q.mono ω
theorem Bhd(n:Nat):Rd enc prog w n 47 (λa:A8=>(En a).cells) (λa b=>a.L.T.length<=b):=by cases n with|zero=>exact Ku _ _ _|succ n=>refine M0 (λp:Ao×Int×Unit=>⟨p.1,p.2.1⟩) underlying47 κ κ (λb=>?_) ?_ (Gl 2 (Aj6 n) (Gl 1 (Oy .i64 n underlying3) (Mz n 3)));simp[En,C1,AV.cells];rintro⟨a,l,_⟩ m ⟨h,i,rfl,j,k,o,rfl,_,_⟩;simp only at *;omega
theorem A05(n:Nat):Rd enc prog w n 51 (λa:Ax=>(Hn a).cells) (λa b=>b<=1048576->Ep a):=by cases n with|zero=>exact Ku _ _ _|succ n=>refine M0 (λp:List Bm×List A8×Unit=>⟨p.1,p.2.1⟩) underlying51 κ κ (λb=>?_) ?_ (Gl 1 (Q2 3 F0 underlying49 κ δ (λ_=>rfl) (λ_=>rfl) Bg9 n) (Gl 1 (Q2 3 En underlying48 κ δ (λ_=>rfl) (λ_=>rfl) Bhd n) (Mz n 2)));simp[Hn,AV.cells];rintro⟨a,l,_⟩ m ⟨B,C,rfl,⟨j,i,o⟩,D,E,rfl,⟨k,F,q⟩,_⟩ G;have I:=Ny q;have y:=Pz q;have J:=Ny o;have h:=Pz o;simp only at *;refine⟨by dsimp only;omega,by dsimp only;omega,λf c=>?_,λf c=>?_,λx A=>?_⟩;obtain⟨g,r,s,u⟩:=h f c;omega;obtain⟨g,r,s,u⟩:=h f c;exact u;obtain⟨g,r,s⟩:=y x A;omega
theorem Bhe(n:Nat):Rd enc prog w n 53 (λa:Af=>(Bl a).cells) (λa b=>b<=1048576->TSz a):=by cases n with|zero=>exact Ku _ _ _|succ n=>refine M0 (λp:Am×Ax×Unit=>⟨p.1,p.2.1⟩) underlying53 κ κ (λb=>?_) ?_ (Gl 3 (Aql n) (Gl 2 (A05 n) (Mz n 5)));simp[Bl,B4,Hn,AV.cells];rintro⟨a,l,_⟩ m ⟨j,k,rfl,h,o,q,rfl,i,_⟩ r;simp only at *;exact⟨RB.mono h ω,i ω⟩
theorem A06(n:Nat):Rd enc prog w n 29 (λl:List Af=>[.sl 5 (l.map Bl)]) (λl b=>b<=1048576->l.length<=1048576/\∀t∈l,TSz t):=by intro cs d h j;obtain⟨a,k,m,r,i⟩:=Q2 (Q:=λa b=>b<=1048576->TSz a) 5 Bl underlying29 κ δ (λ_=>rfl) (λ_=>rfl) Bhe n cs d h j;refine⟨a,k,λs=>⟨by have:=Ny i;omega,λx o=>?_⟩⟩;obtain⟨c,u,q⟩:=Pz i x o;exact q ω
theorem Bhf(n:Nat):Rd enc prog w n 58 (λa:Fm=>(Lw a).cells) (λa b=>b<=1048576->(a.X.E.T.length<=1048576/\a.X.F.T.length<=1048576)/\RB 1048576 a.C/\Ep a.W/\(a.Y.length<=1048576/\∀r∈a.Y,RB 1048576 r)/\(a.Z.length<=1048576/\∀r∈a.Z,RB 1048576 r)):=by cases n with|zero=>exact Ku _ _ _|succ n=>refine M0 (λp:Gx×Am×Ax×List Am×List Am×Unit=>⟨p.1,p.2.1,p.2.2.1,p.2.2.2.1,p.2.2.2.2.1⟩) underlying58 κ κ (λb=>?_) ?_ (Gl 6 (Bhb n) (Gl 3 (Aql n) (Gl 2 (A05 n) (Gl 1 (A04 n) (Gl 1 (A04 n) (Mz n 13))))));simp[Lw,Mm,B4,Hn,AV.cells];rintro⟨a,c,k,f,g,_⟩ m ⟨s,u,rfl,x,y,A,rfl,l,B,C,rfl,o,D,E,rfl,j,F,q,rfl,i,_⟩ G;simp only at *;exact⟨⟨ω,ω⟩,l.mono ω,o ω,⟨ω,λr h=>(j.2 r h).mono ω⟩,ω,λr h=>(i.2 r h).mono ω⟩
theorem Bhg(n:Nat):Rd enc prog w n 30 (λl:List Fm=>[.sl 13 (l.map Lw)]) (λl b=>b<=1048576->l.length<=1048576/\∀a∈l,(a.X.E.T.length<=1048576/\a.X.F.T.length<=1048576)/\RB 1048576 a.C/\Ep a.W/\(a.Y.length<=1048576/\∀r∈a.Y,RB 1048576 r)/\(a.Z.length<=1048576/\∀r∈a.Z,RB 1048576 r)):=by intro cs d h j;obtain⟨a,k,m,s,i⟩:=Q2 (Q:=λ(a:Fm) b=>b<=1048576->(a.X.E.T.length<=1048576/\a.X.F.T.length<=1048576)/\RB 1048576 a.C/\Ep a.W/\(a.Y.length<=1048576/\∀r∈a.Y,RB 1048576 r)/\(a.Z.length<=1048576/\∀r∈a.Z,RB 1048576 r)) 13 Lw underlying30 κ δ (λ_=>rfl) (λ_=>rfl) Bhf n cs d h j;refine⟨a,k,λu=>⟨by have:=Ny i;omega,λx o=>?_⟩⟩;obtain⟨c,y,q⟩:=Pz i x o;exact q ω
end
end Go.Ab
namespace Go.Ab
open Go Go.Proofs Go.ChangeShapes Go.WideShapes Go.ChangeAt Go.RowKit Go.Proofs.Tryz
open Go.Proofs.YtnjbofimdneilaaGreatDoor.Rows (uptoBulk uptoBulkAll uptoSmall)
set_option maxRecDepth 100000
variable{W:World}
theorem A07{P:Program}{x:String×DataW Unit}{l:Λ (String×DataW Unit)}(h:laidMet P (x::l) W):laidMet P l W:=by obtain⟨y,⟨k,j,cs,fuel,p,q,i,o,f,A,g,c⟩,r,s⟩:=h;subst c;refine⟨q,g,(nodup_append.1 r).2.1,λb m u=>s b m ?_⟩;simp[u]
theorem Bhh(h:laidMetH prog YtnjbofimdneilaaGreatDoor.Rows.weakenChecksRow.laid W):Xl (Py W):=by have i:laidMet prog [("internal/strconv.uint64pow10",YtnjbofimdneilaaGreatDoor.Rows.laid_internal_strconv_uint64pow10)] W:=A07 (A07 h);have b:Lib.TabIs prog W "internal/strconv.uint64pow10" .u64 Lib.pow10Tab:=Lib.tabIs_of_head (g:=0) (rest:=[]) κ κ underlying439 underlying74 κ κ i;have g:prog.globalNamed "internal/strconv.uint64pow10" = some 0:=κ;unfold Lib.TabIs World.var? at b;rw[g]at b;simp only[Option.bind_some]at b;split at b;rename_i cs E j k;cases b;exact⟨E,j,k⟩;cases b
theorem Bhi(g:Xl (Py W)):St (Py W) ι0 H0 (λ_=>none) W W:=⟨λ_ _ h=>h,(λ_ _ h=>by cases h),λ_=>rfl,(λ_ _ _ h=>by cases h),rfl,rfl,rfl,g,Nat.le_refl _⟩
theorem Bhj{σ:Bd}{xs:Λ AV}{cs:Array Value}(h:CCs σ xs cs.toList):CC σ (.agg xs) (.agg cs) :=
 .agg xs cs (by simpa using h.1) (λi c v b j=>(h.2 i c v b (by simpa using j)).1)
section
variable{H:Type}{enc:TypeId×Value->H}{W:World}{base:Nat}{t:TypeId}{v:Value}{d:DataW H}{p:Λ MemPlace}
variable{α:Type}{Q:α->Nat->Prop}
theorem Bhk{g:α->Λ AV}{fs:Array Field}(h:prog.underlying t=some (.struct fs))(b:Value.okWide prog W .any base t v)(i:DataW.Trod enc prog W 0 (λ_=>true) true t v d p)(hb:uptoBulk d<=1048576)(rd:∀n,Rd enc prog W n t g Q):∃a,CC (Py W) (.agg (g a)) v/\Q a (uptoBulk d):=by unfold Value.okWide at b;rw[h]at b;obtain⟨cs,rfl,_⟩:=b;obtain⟨n,j⟩:=i.by;obtain⟨a,k,l⟩:=rd n _ d j hb;exact⟨a,Bhj k,l⟩
theorem Aj7{g:α->AV}(b:v.cells=#[v])(i:DataW.Trod enc prog W 0 (λ_=>true) true t v d p)(hb:uptoBulk d<=1048576)(rd:∀n,Rd enc prog W n t (λa=>[g a]) Q):∃a,CC (Py W) (g a) v/\Q a (uptoBulk d):=by obtain⟨n,j⟩:=i.by;obtain⟨a,h,k⟩:=rd n _ d j hb;rw[b]at h;exact⟨a,(h.2 0 _ _ rfl rfl).1,k⟩
theorem Aj8{e:TypeId}(h:prog.underlying t=some (.slice e))(b:Value.okWide prog W .any base t v):v.cells=#[v]:=by unfold Value.okWide at b;rw[h]at b;cases v with|agg cs=>simp only[Cell.okWide,Cell.ok,h]at b|_=>rfl
end
section
variable{H:Type}{enc:TypeId×Value->H}{P:Program}
theorem A08(f:laidOutB P=true){w w':World}{c:Nat->Bool}:∀{ts:Λ TypeId}{vs:Λ Value}{g:Λ (DataW H)}{ps:Λ MemPlace}, (ts.all λt=>P.readableRec t&&decide (t<P.types.size))=true->DataW.TrodAll enc P w 0 (λ_=>true) true ts vs g ps->(∀p∈ps,w.sameAt w' p)->(∀p∈ps,c p.block=true)->DataW.TrodAll enc P w' 0 c true ts vs g ps
 |[],[],[],_,_,h,_,_=>h
 |t::ts,_::_,_::_,_,b,⟨p,q,h,i,e⟩,k,hp=>by subst e;simp only[all_cons,Bool.and_eq_true,decide_eq_true_eq]at b;exact⟨p,q,WideElems.Trod_stays f b.1.1 b.1.2 h (λx j=>k x (by simp[j])) λx j=>hp x (by simp[j]),A08 f b.2 i (λx j=>k x (by simp[j])) λx j=>hp x (by simp[j]),rfl⟩
theorem Bhl(S:laidOutB P=true){f:Func}{s:ChangeSpec}{g:Bool}{W l:World}{args:Array Value}{k:Λ (DataW H)}{j:Λ MemPlace}{t:TypeId}(G:s.vars=[])(I:DataW.Whole enc P f.params.toList s.vars false W args.toList k [] j)(R:(f.params.toList.all λt=>P.readableRec t&&decide (t<P.types.size))=true)(E:(s.fn H k).results=[.lit (.bool true)]/\(s.fn H k).args=k/\(s.fn H k).vars=[])(B:f.resultTypes=#[t])(C:P.underlying t=some .bool)(z:∀(b:Nat)(o:Obj),W.heap[b]?=some o->l.heap[b]?=some o)(D:l.os=W.os)(u:l.output=W.output):s.post enc P f false true g false W args (.bool true) l:=by have A:=I;obtain⟨p,q,V,J,rfl,U,_⟩:=I;rw[G]at J;obtain rfl:q=[]:=J;have y:=A.lt;rw[append_nil]at *;(have c:∀b,b<W.heap.size->l.heap[b]?=W.heap[b]?:=λb r=>by rw[Array.getElem?_eq_getElem r];exact z b _ (Array.getElem?_eq_getElem r));(have same:∀x∈p,W.sameAt l x:=by intro x m;have:=c x.block (y x m);cases x with|cell b o=>exact World.cell?_of_block (w:=W) this|map b=>exact this);obtain⟨N,M,L⟩:=E;refine⟨k,[],p,[],p,[],A,?_,?_,?_,⟨D,u,λi F=>?_⟩,λh=>by cases h⟩;rw[append_nil,N,B];exact trodAll_mk1 (shut_bool C _);rw[append_nil,M];exact A08 S R V same (λx m=>by simpa using y x m);rw[append_nil,L,G];rfl;rw[c i F];split<;>simp_all
end
end Go.Ab
