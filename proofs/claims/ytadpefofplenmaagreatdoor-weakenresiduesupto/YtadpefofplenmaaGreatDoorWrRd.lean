/- Readings. -/
import Derived.Test.YtadpefofplenmaaGreatDoorRows
import Derived.Test.YtadpefofplenmaaGreatDoorWrTy
import Derived.ReaderBy
import Derived.Test.YtadpefofplenmaaGreatDoorWrPl3
import Derived.Test.YtadpefofplenmaaGreatDoorCards
import Derived.Test.YtadpefofplenmaaGreatDoorTie
import Derived.ChangeOld
import Derived.ChangeSame
import Derived.Carry
import Derived.RowKit
import Derived.WalkKit
import Derived.ProofKit
import Derived.OpenShut
import Derived.Deep.DeepHandedRow
import Derived.Lib.LaidTab
open List
namespace Go.Ab
open Go
open Go.Proofs.YtadpefofplenmaaGreatDoor.Rows (uptoBulk uptoBulkAll)
def Pp(w:World):Bb:=λb=>w.heap[b]?
def CCs(σ:Bb)(xs:Λ AV)(cs:Λ Value):Prop:=cs.length=xs.length/\∀(j:Nat)(a:AV)(c:Value),xs[j]?=some a->cs[j]?=some c->CC σ a c/\Fr c=true
section
variable{H:Type}{enc:TypeId×Value->H}{P:Program}{w:World}
variable{a:Addr}{σ:Bb}{n:Nat}{α β:Type}{e t:TypeId}{Q:α->Nat->Prop}{g:β->Λ AV}{R:β->Nat->Prop}
def Rd(enc:TypeId×Value->H)(P:Program)(w:World)(n:Nat)(t:TypeId)(f:α->Λ AV)(Q:α->Nat->Prop):Prop:=∀(cs:Λ Value)(d:DataW H),DataW.ofBy (keyOf P) enc P w 0 true true n t cs=some d->uptoBulk d<=1048576->∃a:α,CCs (Pp w) (f a) cs/\Q a (uptoBulk d)
theorem Ko(t:TypeId)(f:α->Λ AV)(Q:α->Nat->Prop):Rd enc P w 0 t f Q:=λ_ _ h=>by cases h
theorem Bf6(d:DataW H):1<=uptoBulk d:=by cases d with|lit l=>cases l<;>simp[uptoBulk]|_=>simp[uptoBulk]
theorem Z7{a:AV}{c:Value}(h:CC σ a c)(i:Fr c=true):CCs σ [a] [c]:=by refine⟨rfl,λj x y b k=>?_⟩;cases j with|zero=>cases b;cases k;exact⟨h,i⟩|succ j=>cases b
theorem Bf7{xs bs:Λ AV}{cs b:Λ Value}(h:CCs σ xs cs)(m:CCs σ bs b):CCs σ (xs++bs) (cs++b):=by refine⟨by simp[h.1,m.1],λj x y k l=>?_⟩;rcases Nat.lt_or_ge j xs.length with i|i;rw[getElem?_append_left i]at k;rw[getElem?_append_left (by rw[h.1];exact i)]at l;exact h.2 j x y k l;rw[getElem?_append_right i]at k;rw[getElem?_append_right (by rw[h.1];exact i),h.1]at l;exact m.2 _ x y k l
theorem Oo(k:IntKind)(n:Nat)(i:P.underlying t=some (.int k)):Rd enc P w n t (λa:Int=>[O k a]) (λa _=>k.min<=a/\a<=k.max):=by intro cs d h _;cases n with|zero=>cases h|succ n=>rcases cs with _|⟨c,_|⟨f,r⟩⟩;simp[DataW.ofBy,i]at h;cases c<;>simp[DataW.ofBy,i]at h;rename_i b m;obtain⟨⟨rfl,j⟩,_⟩:=h;exact⟨m,Z7 (.val _) rfl,by simpa[Lit.wf]using j⟩;simp[DataW.ofBy,i]at h
theorem Bf8(n:Nat)(i:P.underlying t=some .bool):Rd enc P w n t (λa:Bool=>[Av a]) (λ_ _=>True):=by intro cs d h _;cases n with|zero=>cases h|succ n=>rcases cs with _|⟨c,_|⟨b,r⟩⟩;simp[DataW.ofBy,i]at h;cases c<;>simp[DataW.ofBy,i]at h;exact⟨_,Z7 (.val _) rfl,trivial⟩;simp[DataW.ofBy,i]at h
theorem Azw(n:Nat)(i:P.underlying t=some .string):Rd enc P w n t (λa:Β=>[E5 a]) (λa b=>a.size<=b):=by
 intro cs d h _;cases n with
 |zero=>cases h
 |succ n=>
  rcases cs with _|⟨c,_|⟨f,r⟩⟩;simp[DataW.ofBy,i]at h
  .cases c
   case string s=>
    have j:(if s.size<=maxLen then some (DataW.lit (H:=H) (.string s.data.toList))else none)=some d:=(by unfold DataW.ofBy at h;rw[i]at h;exact h);split at j
    .cases j;refine⟨_,Z7 (.val _) rfl,?_⟩;have e:s.data.toList.length=s.size:=(by rw[Array.length_toList];rfl);simp only[uptoBulk];omega
    .cases j
   all_goals (unfold DataW.ofBy at h;rw[i]at h;cases h)
  simp[DataW.ofBy,i]at h
def QL{α:Type}(Q:α->Nat->Prop):Λ α->Nat->Prop
 |[],_=>True
 |a::l,m=>∃b h,1<=b/\b+h<=m/\Q a b/\QL Q l h
theorem Bf9{sz:Nat}{f:α->Λ AV}(ih:Rd enc P w n e f Q)(g:Nat->Ο (List Value)):∀(L:D2)(c:Λ (DataW H)), L.mapM (λi=>(g i).bind (DataW.ofBy (keyOf P) enc P w 0 true true n e))=some c->uptoBulkAll c<=1048576->∃l:Λ α,l.length=L.length/\QL Q l (uptoBulkAll c)/\∀(i:Nat)(a:α),l[i]?=some a->∃k cs,L[i]?=some k/\g k=some cs/\CCs (Pp w) (f a) cs:=by intro L;induction L with|nil=>intro c h _;exact⟨[],rfl,trivial,λi a h=>by cases h⟩|cons k L j=>intro c h o;simp only[mapM_cons,Option.pure_def,Option.bind_eq_bind,Option.bind_eq_some_iff]at h;obtain⟨d,⟨cs,r,B⟩,b,C,A⟩:=h;cases A;simp only[uptoBulkAll]at o;obtain⟨a,D,E⟩:=ih cs d B ω;obtain⟨l,y,u,s⟩:=j b C ω;refine⟨a::l,by simp[y],⟨uptoBulk d,uptoBulkAll b,Bf6 d,by simp[uptoBulkAll],E,u⟩,?_⟩;intro i x m;cases i with|zero=>cases m;exact⟨k,cs,rfl,r,D⟩|succ i=>obtain⟨z,q,F,G,I⟩:=s i x m;exact⟨z,q,F,G,I⟩
theorem Oq{α:Type}{Q:α->Nat->Prop}:∀{l:Λ α}{m:Nat},QL Q l m->l.length<=m
 |[],_,_=>Nat.zero_le _
 |_::l,_,⟨h,i,j,k,_,b⟩=>by have:=Oq b;simp only[length_cons];omega
theorem Qu{α:Type}{Q:α->Nat->Prop}:∀{l:Λ α}{m:Nat},QL Q l m->∀a∈l,∃b,b<=m/\Q a b
 |_::l,_,⟨i,o,q,r,j,c⟩,a,h=>by rcases mem_cons.1 h with rfl|h;exact⟨i,ω,j⟩;obtain⟨b,s,k⟩:=Qu c a h;exact⟨b,ω,k⟩
theorem Ai9{cs:Λ Value}(h:w.cells? 0 a n=some cs):cs.length=n/\∀j,j<n->w.cell? (a.add j)=cs[j]?:=by unfold World.cells? at h;rw[if_pos (Nat.zero_le _)]at h;(have l:∀(L:D2)(cs:Λ Value),L.mapM (λi=>w.cell? (a.add i))=some cs->cs.length=L.length/\∀(i k:Nat),L[i]?=some k->w.cell? (a.add k)=cs[i]?:=by intro L;induction L with|nil=>intro cs h;cases h;exact⟨rfl,λi k h=>by cases h⟩|cons x L ih=>intro cs h;simp only[mapM_cons,Option.pure_def,Option.bind_eq_bind,Option.bind_eq_some_iff]at h;obtain⟨v,b,q,m,r⟩:=h;cases r;obtain⟨s,u⟩:=ih q m;refine⟨by simp[s],λi k o=>?_⟩;cases i with|zero=>cases o;simpa using b|succ i=>simpa using u i k o);obtain⟨b,m⟩:=l _ _ h;rw[length_range]at b;exact⟨b,λj y=>m j j (by simp[y])⟩
theorem Azx(h:a.spot=none)(m:Nat):a.add m=⟨a.block,a.off+m,none⟩:=by unfold Addr.add;split;rename_i e;subst e;cases a;simp_all;rfl
theorem Aja(sz:Nat){f:α->Λ AV}(g:α->AV)(hu:P.underlying t=some (.slice e))(L:P.cellsOf e=sz)(a0:0<sz)(hg:∀a,(g a).cells=f a)(S:∀a,(f a).length=sz)(ih:Rd enc P w n e f Q):Rd enc P w (n+1) t (λl:List α=>[.sl sz (l.map g)]) (λl b=>∃m,m+1<=b/\QL Q l m):=by
 intro cs d h hb;rcases cs with _|⟨c,_|⟨c',r⟩⟩;simp[DataW.ofBy,hu]at h
 .cases c
  case slice base len K=>
   cases base with
   |none=>have:d=.nil/\len=0:=(by unfold DataW.ofBy at h;rw[hu]at h;split at h<;>simp_all);obtain⟨rfl,rfl⟩:=this;exact⟨[],Z7 (.nil sz _ _) rfl,0,by simp[uptoBulk],trivial⟩
   |some a=>
    have h':(if 0<=a.block/\len<=K/\K<=maxLen then
     ((range len).mapM λi=>(w.cells? 0 (a.add (i*P.cellsOf e)) (P.cellsOf e)).bind (DataW.ofBy (keyOf P) enc P w 0 true true n e)).bind λu=>(if true=true then(range (K-len)).mapM λj=>(w.cells? 0 (a.add ((len+j)*P.cellsOf e)) (P.cellsOf e)).bind (DataW.ofBy (keyOf P) enc P w 0 true true n e)else some []).map λT=>DataW.slice u T else none)=some d:=by unfold DataW.ofBy at h;rw[hu]at h;exact h
    split at h'
    .rename_i F;simp only[Option.bind_eq_some_iff,Option.map_eq_some_iff]at h';obtain⟨u,h1,T,h2,rfl⟩:=h';rw[L]at h1;simp only[uptoBulk]at hb;obtain⟨l,G,X,l3⟩:=Bf9 (sz:=sz) ih (λi=>w.cells? 0 (a.add (i*sz)) sz) _ _ h1 ω;have Z:=Oq X;rw[length_range]at G;refine⟨l,?_,uptoBulkAll u,by simp only[uptoBulk];omega,X⟩;cases R:l with
     |nil=>rw[R]at G;have:len=0:=G.symm;subst this;exact Z7 (.nil sz _ _) rfl
     |cons x l'=>
      rw[<-R];refine Z7 ?_ rfl;have D:∀(i:Nat)(y:α),l[i]?=some y->∃cs,w.cells? 0 (a.add (i*sz)) sz=some cs/\CCs (Pp w) (f y) cs:=(by intro i y o;obtain⟨k,cs,g1,g2,g3⟩:=l3 i y o;have hk:k=i:=(by rw[getElem?_range (by have:=(List.getElem?_eq_some_iff.1 o).1;omega)]at g1;exact(Option.some.inj g1).symm);subst hk;exact⟨cs,g2,g3⟩);have J:l[0]?=some x:=(by rw[R];rfl);obtain⟨V,c1,c2⟩:=D 0 x J;have c3:=(Ai9 c1).2 0 a0;have a1:V.length=sz:=(Ai9 c1).1;rw[getElem?_eq_getElem ω]at c3;have s:a.spot=none/\∃C E fr,w.heap[a.block]?=some (.cells C E fr):=by
       have U:(a.add (0*sz)).add 0=a:=(by simp[Addr.add]);rw[U]at c3;unfold World.cell? at c3;split at c3
       .rename_i C E fr I;split at c3
        .cases c3
        .rename_i Y;refine⟨?_,C,E,fr,I⟩;cases M:a.spot with|none=>rfl|some _=>rw[M]at Y;simp at Y
       .cases c3
      obtain⟨s,C,E,fr,I⟩:=s;have z:∀i j:Nat,w.cell? ((a.add (i*sz)).add j)=C[a.off+i*sz+j]?:=(by intro i j;rw[Azx s,Azx rfl];unfold World.cell?;rw[I];rfl);have q:∀(i:Nat)(y:α)(j:Nat)(c:AV),l[i]?=some y->(g y).cells[j]?=some c->∃v,C[a.off+i*sz+j]?=some v/\CC (Pp w) c v/\Fr v=true:=(by intro i y j c o F;obtain⟨cs,e1,e2⟩:=D i y o;rw[hg]at F;have hj:=(List.getElem?_eq_some_iff.1 F).1;rw[S]at hj;have B:j<cs.length:=(by rw[(Ai9 e1).1];exact hj);have:=(Ai9 e1).2 j hj;rw[z,getElem?_eq_getElem B]at this;exact⟨_,this,e2.2 j c _ F (getElem?_eq_getElem B)⟩);have a2:a=⟨a.block,a.off,none⟩:=(by cases a;simp_all);rw[a2];have N:l.length=(l.map g).length:=ψ;rw[<-G,N];refine CC.sl (l.map g) a.block a.off K sz C E fr (λi j=>(C[a.off+i*sz+j]?).getD undef) I ?_ ?_ ?_ ?_ ζ ζ
      .intro i y o;simp only[getElem?_map,Option.map_eq_some_iff]at o;obtain⟨y,_,rfl⟩:=o;rw[hg,S]
      .intro i y j c o F;simp only[getElem?_map,Option.map_eq_some_iff]at o;obtain⟨y,o,rfl⟩:=o;obtain⟨v,A,v2,v3⟩:=q i y j c o F;rw[A];exact v2
      .intro i y j c o F;simp only[getElem?_map,Option.map_eq_some_iff]at o;obtain⟨y,o,rfl⟩:=o;obtain⟨v,A,v2,v3⟩:=q i y j c o F;rw[A];exact v3
      .intro i j hi hj;rw[length_map]at hi;have o:l[i]?=some l[i]:=getElem?_eq_getElem hi;have F:(g l[i]).cells[j]?=some ((g l[i]).cells[j]'(by rw[hg,S];exact hj)):=getElem?_eq_getElem _;obtain⟨v,A,_⟩:=q i _ j _ o F;rw[A];rfl
    .cases h'
  all_goals simp[DataW.ofBy,hu]at h
 simp[DataW.ofBy,hu]at h
def RdL(enc:TypeId×Value->H)(P:Program)(w:World)(n b off:Nat)(fs:Λ (TypeId×Nat×Nat))(f:α->Λ AV)(Q:α->Nat->Prop):Prop:=∀(cs:Λ Value)(h:Λ (DataW H)),cs.length=b->fs.mapM (λx=>DataW.ofBy (keyOf P) enc P w 0 true true n x.1 ((cs.drop x.2.1).take x.2.2))=some h->uptoBulkAll h<=1048576->∃a:α,CCs (Pp w) (f a) (cs.drop off)/\Q a (uptoBulkAll h)
theorem Mt(n b:Nat):RdL enc P w n b b [] (λ_:Unit=>[]) (λ_ _=>True):=by intro cs i h _ _;exact⟨(),⟨by simp[h],λj a c h=>by cases h⟩,trivial⟩
theorem Gf{c off:Nat}(sz:Nat){fs:Λ (TypeId×Nat×Nat)}{f:α->Λ AV}(s:Rd enc P w n t f Q)(u:RdL enc P w n c (off+sz) fs g R):RdL enc P w n c off ((t,off,sz)::fs) (λp:α×β=>f p.1++g p.2) (λp m=>∃o r,o+r=m/\Q p.1 o/\R p.2 r):=by intro cs D j h x;simp only[mapM_cons,Option.pure_def,Option.bind_eq_bind,Option.bind_eq_some_iff]at h;obtain⟨d,q,i,l,k⟩:=h;cases k;simp only[uptoBulkAll]at x⊢;obtain⟨a,y,A⟩:=s _ d q ω;obtain⟨b,B,C⟩:=u cs i j l ω;refine⟨(a,b),?_,_,_,rfl,A,C⟩;have:=Bf7 y B;rwa [<-drop_drop,take_append_drop]at this
theorem Mu{fs:Array Field}{i:Nat}{L:Λ (TypeId×Nat×Nat)}{f:α->Λ AV}(φ:β->α)(q:P.underlying t=some (.struct fs))(l:fs.toList.map (λx=>(x.type,x.offset,P.cellsOf x.type))=L)(r:P.cellsOf t=i)(j:∀b,f (φ b)=g b)(k:∀b m,R b m->Q (φ b) (m+1))(h:RdL enc P w n i 0 L g R):Rd enc P w (n+1) t f Q:=by intro cs d o s;(have c:(if cs.length=P.cellsOf t then(fs.toList.mapM λx=>DataW.ofBy (keyOf P) enc P w 0 true true n x.type ((cs.drop x.offset).take (P.cellsOf x.type))).map DataW.agg else none)=some d:=by unfold DataW.ofBy at o;rw[q]at o;split at o<;>simp_all);split at c;rename_i u;simp only[Option.map_eq_some_iff]at c;obtain⟨y,A,rfl⟩:=c;simp only[uptoBulk]at s;obtain⟨b,B,C⟩:=h cs y (u.trans r) (by rw[<-l,mapM_map];exact A) ω;refine⟨φ b,?_,k b _ C⟩;rw[j];simpa using B;cases c
end
end Go.Ab
namespace Go.Ab
open Go Go.Proofs Go.Proofs.Tryz
open Go.Proofs.YtadpefofplenmaaGreatDoor.Rows (uptoBulk uptoBulkAll)
section
variable{H:Type}{enc:TypeId×Value->H}{w:World}
variable{n:Nat}{α:Type}{Q:α->Nat->Prop}
theorem Azy{a:Int}(h:IntKind.i64.min<=a/\a<=IntKind.i64.max):I64 a:=by have c:IntKind.i64.min = -9223372036854775808:=δ;have b:IntKind.i64.max=9223372036854775807:=δ;rw[c,b]at h;exact h
theorem App:∀{l:A1}{m:Nat},QL (λa b=>B2 a<=b) l m->Dk l<=m
 |[],_,_=>Nat.zero_le _
 |_::l,_,⟨h,i,j,k,o,c⟩=>by have:=App c;simp only[Dk];omega
theorem Azz:∀{l:Bg}{m:Nat},QL (λa b=>Cz a<=b/\iR a) l m->Ez l<=m/\iRs l
 |[],_,_=>⟨Nat.zero_le _,trivial⟩
 |_::l,_,⟨i,j,k,o,h,c⟩=>by have:=Azz c;simp only[Ez,iRs];exact⟨ω,h.2,this.2⟩
theorem Az0(h:Rd enc prog w n 23 (λl:List Ai=>[.sl 3 (l.map Fx)]) (λl b=>∃m,m+1<=b/\QL (λa b=>B2 a<=b) l m)):Rd enc prog w (n+1) 25 (λa:Ai=>(Fx a).cells) (λa b=>B2 a<=b):=by refine Mu (λp:Int×Int×List Ai×Unit=>⟨p.1,p.2.1,p.2.2.1⟩) underlying25 κ κ (λb=>?_) ?_ (Gf 1 (Oo .i64 n underlying3) (Gf 1 (Oo .i64 n underlying3) (Gf 1 h (Mt n 3))));simp[Fx,AV.cells,Lp];rintro⟨a,b,l,_⟩ m ⟨j,o,rfl,_,q,r,rfl,_,s,u,rfl,⟨k,x,i⟩,_⟩;have:=App i;simp only[B2]at *;omega
theorem Apq:∀n:Nat,Rd enc prog w n 25 (λa:Ai=>(Fx a).cells) (λa b=>B2 a<=b)
 |0=>Ko _ _ _
 |1=>Az0 (Ko _ _ _)
 |n+2=>Az0 (Aja 3 Fx underlying23 κ δ (λ_=>rfl) (λ_=>rfl) (Apq n))
theorem Az1(n:Nat):Rd enc prog w n 23 (λl:List Ai=>[.sl 3 (l.map Fx)]) (λl b=>∃m,m+1<=b/\QL (λa b=>B2 a<=b) l m):=by cases n with|zero=>exact Ko _ _ _|succ n=>exact Aja 3 Fx underlying23 κ δ (λ_=>rfl) (λ_=>rfl) (Apq n)
theorem Az2(h:Rd enc prog w n 83 (λl:List Ay=>[.sl 2 (l.map Hx)]) (λl b=>∃m,m+1<=b/\QL (λa b=>Cz a<=b/\iR a) l m)):Rd enc prog w (n+1) 85 (λa:Ay=>(Hx a).cells) (λa b=>Cz a<=b/\iR a):=by refine Mu (λp:Int×List Ay×Unit=>⟨p.1,p.2.1⟩) underlying85 κ κ (λb=>?_) ?_ (Gf 1 (Oo .i64 n underlying3) (Gf 1 h (Mt n 2)));simp[Hx,AV.cells,Nd];rintro⟨a,l,_⟩ m ⟨o,q,rfl,i,r,s,rfl,⟨k,u,j⟩,_⟩;have:=Azz j;have i:=Azy i;simp only[Cz,iR]at *;exact⟨ω,i,this.2⟩
theorem Az3:∀n:Nat,Rd enc prog w n 85 (λa:Ay=>(Hx a).cells) (λa b=>Cz a<=b/\iR a)
 |0=>Ko _ _ _
 |1=>Az2 (Ko _ _ _)
 |n+2=>Az2 (Aja 2 Hx underlying83 κ δ (λ_=>rfl) (λ_=>rfl) (Az3 n))
theorem R5{t e:TypeId}(sz:Nat){f:α->Λ AV}(g:α->AV)(j:prog.underlying t=some (.slice e))(c:prog.cellsOf e=sz)(i:0<sz)(hg:∀a,(g a).cells=f a)(h:∀a,(f a).length=sz)(ih:∀n,Rd enc prog w n e f Q)(n:Nat):Rd enc prog w n t (λl:List α=>[.sl sz (l.map g)]) (λl b=>∃m,m+1<=b/\QL Q l m):=by cases n with|zero=>exact Ko _ _ _|succ n=>exact Aja sz g j c i hg h (ih n)
theorem Bga(n:Nat):Rd enc prog w n 222 (λa:Pb=>(Age a).cells) (λa b=>a.S.size<=b/\Dk a.R<=b):=by cases n with|zero=>exact Ko _ _ _|succ n=>refine Mu (λp:Β×List Ai×Unit=>⟨p.1,p.2.1⟩) underlying222 κ κ (λb=>?_) ?_ (Gf 1 (Azw n underlying9) (Gf 1 (Az1 n) (Mt n 2)));simp[Age,AV.cells,Lp];rintro⟨a,l,_⟩ m ⟨i,j,rfl,o,q,r,rfl,⟨k,s,h⟩,_⟩;have:=App h;simp only at *;exact⟨ω,ω⟩
theorem Bgb(n:Nat):Rd enc prog w n 219 (λa:A4=>(Dc a).cells) (λa b=>a.S.size<=b/\a.O.length<=b/\∀y∈a.O,y.S.size<=b/\Dk y.R<=b):=by cases n with|zero=>exact Ko _ _ _|succ n=>refine Mu (λp:Β×Int×List Pb×Unit=>⟨p.1,p.2.1,p.2.2.1⟩) underlying219 κ κ (λb=>?_) ?_ (Gf 1 (Azw n underlying9) (Gf 1 (Oo .i64 n underlying3) (Gf 1 (R5 2 Age underlying217 κ δ (λ_=>rfl) (λ_=>rfl) Bga n) (Mt n 3))));simp[Dc,AV.cells];rintro⟨a,b,l,_⟩ m ⟨o,q,rfl,r,s,u,rfl,_,x,A,rfl,⟨k,B,h⟩,_⟩;have C:=Oq h;have i:=Qu h;simp only at *;refine⟨ω,ω,λy j=>?_⟩;obtain⟨c,D,E,F⟩:=i y j;exact⟨ω,ω⟩
theorem Bgc(n:Nat):Rd enc prog w n 27 (λa:A8=>(Gi a).cells) (λa b=>b<=1048576->CSz a):=by cases n with|zero=>exact Ko _ _ _|succ n=>refine Mu (λp:List A4×List Ai×Ai×Unit=>⟨p.1,p.2.1,p.2.2.1⟩) underlying27 κ κ (λb=>?_) ?_ (Gf 1 (R5 3 Dc underlying22 κ δ (λ_=>rfl) (λ_=>rfl) Bgb n) (Gf 1 (Az1 n) (Gf 3 (Apq n) (Mt n 5))));simp[Gi,Fx,AV.cells,Lp];rintro⟨a,b,l,_⟩ m ⟨E,F,rfl,⟨k,G,B⟩,I,J,rfl,⟨h,f,j⟩,K,L,rfl,i,_⟩ M;have N:=Oq B;have r:=Qu B;have S:=Oq j;have g:=Qu j;simp only at *;refine⟨⟨by dsimp only;omega,λx o=>?_,λx o=>?_,λx o y s=>?_⟩,by dsimp only;omega,λt D=>?_,by dsimp only;omega⟩;obtain⟨c,u,A,C,q⟩:=r x o;refine⟨ω,λy s=>?_⟩;have:=(q y s).2;omega;obtain⟨c,u,A,C,q⟩:=r x o;omega;obtain⟨c,u,A,C,q⟩:=r x o;have:=(q y s).1;omega;obtain⟨c,u,A⟩:=g t D;omega
theorem Bgd(P:α->Prop)(h:∀a b,Q a b->P a){l:Λ α}{m:Nat}(i:QL Q l m):∀a∈l,P a:=λa j=>by obtain⟨c,_,g⟩:=Qu i a j;exact h a c g
theorem Az4(n:Nat):Rd enc prog w n 38 (λl:List Int=>[.sl 1 (l.map fo)]) (λl b=>l.length<=b/\Ni l):=by intro cs d h j;obtain⟨a,k,m,q,i⟩:=R5 (Q:=λa _=>IntKind.u32.min<=a/\a<=IntKind.u32.max) 1 fo underlying38 κ δ (λ_=>rfl) (λ_=>rfl) (λn=>Oo .u32 n underlying77) n cs d h j;refine⟨a,k,by have:=Oq i;omega,λx o=>?_⟩;have:=Bgd (λx=>IntKind.u32.min<=x/\x<=IntKind.u32.max) (λ_ _ h=>h) i x o;have f:IntKind.u32.min=0:=δ;have c:IntKind.u32.max=4294967295:=δ;rw[f,c]at this;omega
theorem Apr(n:Nat):Rd enc prog w n 40 (λa:An=>(B9 a).cells) (λa b=>RB b a):=by cases n with|zero=>exact Ko _ _ _|succ n=>refine Mu (λp:Bool×List Int×List Int×Unit=>⟨p.1,p.2.1,p.2.2.1⟩) underlying40 κ κ (λb=>?_) ?_ (Gf 1 (Bf8 n underlying4) (Gf 1 (Az4 n) (Gf 1 (Az4 n) (Mt n 3))));simp[B9,AV.cells];rintro⟨a,b,l,_⟩ m ⟨j,k,rfl,_,o,q,rfl,h,r,s,rfl,i,_⟩;simp only at *;exact⟨h.2,i.2,by dsimp only;omega,by dsimp only;omega⟩
theorem Bge(n:Nat):Rd enc prog w n 87 (λa:Bl=>(Fy a).cells) (λa b=>Cz a.I<=b/\iR a.I/\I64 a.v):=by cases n with|zero=>exact Ko _ _ _|succ n=>refine Mu (λp:Int×Ay×Unit=>⟨p.1,p.2.1⟩) underlying87 κ κ (λb=>?_) ?_ (Gf 1 (Oo .i64 n underlying3) (Gf 2 (Az3 n) (Mt n 3)));simp[Fy,Hx,AV.cells];rintro⟨a,b,_⟩ m ⟨j,k,rfl,h,l,o,rfl,i,_⟩;have h:=Azy h;simp only at *;exact⟨ω,i.2,h⟩
theorem Bgf(n:Nat):Rd enc prog w n 43 (λa:Bh=>(C9 a).cells) (λ_ _=>True):=by cases n with|zero=>exact Ko _ _ _|succ n=>refine Mu (λp:Int×Int×Unit=>⟨p.1,p.2.1⟩) underlying43 κ κ (λb=>?_) (λ_ _ _=>trivial) (Gf 1 (Oo .i64 n underlying3) (Gf 1 (Oo .i64 n underlying2) (Mt n 2)));simp[C9,AV.cells]
theorem Aps(n:Nat):Rd enc prog w n 46 (λa:Aq=>(Dq a).cells) (λa b=>a.T.length<=b):=by cases n with|zero=>exact Ko _ _ _|succ n=>refine Mu (λp:Int×List Bh×Unit=>⟨p.1,p.2.1⟩) underlying46 κ κ (λb=>?_) ?_ (Gf 1 (Oo .i64 n underlying2) (Gf 1 (R5 2 C9 underlying44 κ δ (λ_=>rfl) (λ_=>rfl) Bgf n) (Mt n 2)));simp[Dq,AV.cells];rintro⟨a,l,_⟩ m ⟨i,j,rfl,o,q,r,rfl,⟨k,s,h⟩,_⟩;have:=Oq h;simp only at *;omega
theorem Bgg(n:Nat):Rd enc prog w n 56 (λa:Hu=>(N8 a).cells) (λa b=>a.E.T.length<=b/\a.F.T.length<=b):=by cases n with|zero=>exact Ko _ _ _|succ n=>refine Mu (λp:Int×Aq×Aq×Int×Unit=>⟨p.1,p.2.1,p.2.2.1,p.2.2.2.1⟩) underlying56 κ κ (λb=>?_) ?_ (Gf 1 (Oo .i64 n underlying3) (Gf 2 (Aps n) (Gf 2 (Aps n) (Gf 1 (Oo .i64 n underlying3) (Mt n 6)))));simp[N8,Dq,AV.cells];rintro⟨a,l,f,c,_⟩ m ⟨h,i,rfl,_,j,k,rfl,o,q,r,rfl,s,_⟩;simp only at *;exact⟨ω,ω⟩
theorem Az5(n:Nat):Rd enc prog w n 57 (λl:List An=>[.sl 3 (l.map B9)]) (λl b=>l.length<=b/\∀r∈l,RB b r):=by intro cs d h j;obtain⟨a,k,m,s,i⟩:=R5 (Q:=λa b=>RB b a) 3 B9 underlying57 κ δ (λ_=>rfl) (λ_=>rfl) Apr n cs d h j;refine⟨a,k,by have:=Oq i;omega,λx o=>?_⟩;obtain⟨c,u,q⟩:=Qu i x o;exact q.mono ω
theorem Bgh(n:Nat):Rd enc prog w n 48 (λa:A6=>(Em a).cells) (λa b=>a.L.T.length<=b):=by cases n with|zero=>exact Ko _ _ _|succ n=>refine Mu (λp:Aq×Int×Unit=>⟨p.1,p.2.1⟩) underlying48 κ κ (λb=>?_) ?_ (Gf 2 (Aps n) (Gf 1 (Oo .i64 n underlying3) (Mt n 3)));simp[Em,Dq,AV.cells];rintro⟨a,l,_⟩ m ⟨h,i,rfl,j,k,o,rfl,_,_⟩;simp only at *;omega
theorem Az6(n:Nat):Rd enc prog w n 52 (λa:Aw=>(Hi a).cells) (λa b=>b<=1048576->Eo a):=by cases n with|zero=>exact Ko _ _ _|succ n=>refine Mu (λp:List Bl×List A6×Unit=>⟨p.1,p.2.1⟩) underlying52 κ κ (λb=>?_) ?_ (Gf 1 (R5 3 Fy underlying50 κ δ (λ_=>rfl) (λ_=>rfl) Bge n) (Gf 1 (R5 3 Em underlying49 κ δ (λ_=>rfl) (λ_=>rfl) Bgh n) (Mt n 2)));simp[Hi,AV.cells];rintro⟨a,l,_⟩ m ⟨B,C,rfl,⟨j,i,o⟩,D,E,rfl,⟨k,F,q⟩,_⟩ G;have I:=Oq q;have y:=Qu q;have J:=Oq o;have h:=Qu o;simp only at *;refine⟨by dsimp only;omega,by dsimp only;omega,λf c=>?_,λf c=>?_,λx A=>?_⟩;obtain⟨g,r,s,u⟩:=h f c;omega;obtain⟨g,r,s,u⟩:=h f c;exact u;obtain⟨g,r,s⟩:=y x A;omega
theorem Bgi(n:Nat):Rd enc prog w n 54 (λa:Ae=>(Bk a).cells) (λa b=>b<=1048576->TSz a):=by cases n with|zero=>exact Ko _ _ _|succ n=>refine Mu (λp:An×Aw×Unit=>⟨p.1,p.2.1⟩) underlying54 κ κ (λb=>?_) ?_ (Gf 3 (Apr n) (Gf 2 (Az6 n) (Mt n 5)));simp[Bk,B9,Hi,AV.cells];rintro⟨a,l,_⟩ m ⟨j,k,rfl,h,o,q,rfl,i,_⟩ r;simp only at *;exact⟨RB.mono h ω,i ω⟩
theorem Az7(n:Nat):Rd enc prog w n 28 (λl:List Ae=>[.sl 5 (l.map Bk)]) (λl b=>b<=1048576->l.length<=1048576/\∀t∈l,TSz t):=by intro cs d h j;obtain⟨a,k,m,r,i⟩:=R5 (Q:=λa b=>b<=1048576->TSz a) 5 Bk underlying28 κ δ (λ_=>rfl) (λ_=>rfl) Bgi n cs d h j;refine⟨a,k,λs=>⟨by have:=Oq i;omega,λx o=>?_⟩⟩;obtain⟨c,u,q⟩:=Qu i x o;exact q ω
theorem Bgj(n:Nat):Rd enc prog w n 59 (λa:Gj=>(Nf a).cells) (λa b=>b<=1048576->(a.X.E.T.length<=1048576/\a.X.F.T.length<=1048576)/\RB 1048576 a.C/\Eo a.W/\(a.Y.length<=1048576/\∀r∈a.Y,RB 1048576 r)/\(a.Z.length<=1048576/\∀r∈a.Z,RB 1048576 r)):=by cases n with|zero=>exact Ko _ _ _|succ n=>refine Mu (λp:Hu×An×Aw×List An×List An×Unit=>⟨p.1,p.2.1,p.2.2.1,p.2.2.2.1,p.2.2.2.2.1⟩) underlying59 κ κ (λb=>?_) ?_ (Gf 6 (Bgg n) (Gf 3 (Apr n) (Gf 2 (Az6 n) (Gf 1 (Az5 n) (Gf 1 (Az5 n) (Mt n 13))))));simp[Nf,N8,B9,Hi,AV.cells];rintro⟨a,c,k,f,g,_⟩ m ⟨s,u,rfl,x,y,A,rfl,l,B,C,rfl,o,D,E,rfl,j,F,q,rfl,i,_⟩ G;simp only at *;exact⟨⟨ω,ω⟩,l.mono ω,o ω,⟨ω,λr h=>(j.2 r h).mono ω⟩,ω,λr h=>(i.2 r h).mono ω⟩
theorem Bgk(n:Nat):Rd enc prog w n 29 (λl:List Gj=>[.sl 13 (l.map Nf)]) (λl b=>b<=1048576->l.length<=1048576/\∀a∈l,(a.X.E.T.length<=1048576/\a.X.F.T.length<=1048576)/\RB 1048576 a.C/\Eo a.W/\(a.Y.length<=1048576/\∀r∈a.Y,RB 1048576 r)/\(a.Z.length<=1048576/\∀r∈a.Z,RB 1048576 r)):=by intro cs d h j;obtain⟨a,k,m,s,i⟩:=R5 (Q:=λ(a:Gj) b=>b<=1048576->(a.X.E.T.length<=1048576/\a.X.F.T.length<=1048576)/\RB 1048576 a.C/\Eo a.W/\(a.Y.length<=1048576/\∀r∈a.Y,RB 1048576 r)/\(a.Z.length<=1048576/\∀r∈a.Z,RB 1048576 r)) 13 Nf underlying29 κ δ (λ_=>rfl) (λ_=>rfl) Bgj n cs d h j;refine⟨a,k,λu=>⟨by have:=Oq i;omega,λx o=>?_⟩⟩;obtain⟨c,y,q⟩:=Qu i x o;exact q ω
end
end Go.Ab
namespace Go.Ab
open Go Go.Proofs Go.ChangeShapes Go.WideShapes Go.ChangeAt Go.RowKit Go.Proofs.Tryz
open Go.Proofs.YtadpefofplenmaaGreatDoor.Rows (uptoBulk uptoBulkAll uptoSmall)
set_option maxRecDepth 100000
variable{W:World}
theorem Az8{P:Program}{x:String×DataW Unit}{l:Λ (String×DataW Unit)}(h:laidMet P (x::l) W):laidMet P l W:=by obtain⟨y,⟨k,j,cs,fuel,p,q,i,o,f,A,g,c⟩,r,s⟩:=h;subst c;refine⟨q,g,(nodup_append.1 r).2.1,λb m u=>s b m ?_⟩;simp[u]
theorem Bgl(h:laidMetH prog YtadpefofplenmaaGreatDoor.Rows.weakenResiduesRow.laid W):W7 (Pp W):=by have i:laidMet prog [("internal/strconv.uint64pow10",YtadpefofplenmaaGreatDoor.Rows.laid_internal_strconv_uint64pow10)] W:=Az8 (Az8 h);have b:Lib.TabIs prog W "internal/strconv.uint64pow10" .u64 Lib.pow10Tab:=Lib.tabIs_of_head (g:=0) (rest:=[]) κ κ underlying429 underlying76 κ κ i;have g:prog.globalNamed "internal/strconv.uint64pow10" = some 0:=κ;unfold Lib.TabIs World.var? at b;rw[g]at b;simp only[Option.bind_some]at b;split at b;rename_i cs E j k;cases b;exact⟨E,j,k⟩;cases b
theorem Bgm(g:W7 (Pp W)):St (Pp W) ι0 H0 (λ_=>none) W W:=⟨λ_ _ h=>h,(λ_ _ h=>by cases h),λ_=>rfl,(λ_ _ _ h=>by cases h),rfl,rfl,rfl,g,Nat.le_refl _⟩
theorem Bgn{σ:Bb}{xs:Λ AV}{cs:Array Value}(h:CCs σ xs cs.toList):CC σ (.agg xs) (.agg cs) :=
 .agg xs cs (by simpa using h.1) (λi c v b j=>(h.2 i c v b (by simpa using j)).1)
section
variable{H:Type}{enc:TypeId×Value->H}{W:World}{base:Nat}{t:TypeId}{v:Value}{d:DataW H}{p:Λ MemPlace}
variable{α:Type}{Q:α->Nat->Prop}
theorem Bgo{g:α->Λ AV}{fs:Array Field}(h:prog.underlying t=some (.struct fs))(b:Value.okWide prog W .any base t v)(i:DataW.Trod enc prog W 0 (λ_=>true) true t v d p)(hb:uptoBulk d<=1048576)(rd:∀n,Rd enc prog W n t g Q):∃a,CC (Pp W) (.agg (g a)) v/\Q a (uptoBulk d):=by unfold Value.okWide at b;rw[h]at b;obtain⟨cs,rfl,_⟩:=b;obtain⟨n,j⟩:=i.by;obtain⟨a,k,l⟩:=rd n _ d j hb;exact⟨a,Bgn k,l⟩
theorem Apt{g:α->AV}(b:v.cells=#[v])(i:DataW.Trod enc prog W 0 (λ_=>true) true t v d p)(hb:uptoBulk d<=1048576)(rd:∀n,Rd enc prog W n t (λa=>[g a]) Q):∃a,CC (Pp W) (g a) v/\Q a (uptoBulk d):=by obtain⟨n,j⟩:=i.by;obtain⟨a,h,k⟩:=rd n _ d j hb;rw[b]at h;exact⟨a,(h.2 0 _ _ rfl rfl).1,k⟩
theorem Apu{e:TypeId}(h:prog.underlying t=some (.slice e))(b:Value.okWide prog W .any base t v):v.cells=#[v]:=by unfold Value.okWide at b;rw[h]at b;cases v with|agg cs=>simp only[Cell.okWide,Cell.ok,h]at b|_=>rfl
end
section
variable{H:Type}{enc:TypeId×Value->H}{P:Program}
theorem Az9(f:laidOutB P=true){w w':World}{c:Nat->Bool}:∀{ts:Λ TypeId}{vs:Λ Value}{g:Λ (DataW H)}{ps:Λ MemPlace}, (ts.all λt=>P.readableRec t&&decide (t<P.types.size))=true->DataW.TrodAll enc P w 0 (λ_=>true) true ts vs g ps->(∀p∈ps,w.sameAt w' p)->(∀p∈ps,c p.block=true)->DataW.TrodAll enc P w' 0 c true ts vs g ps
 |[],[],[],_,_,h,_,_=>h
 |t::ts,_::_,_::_,_,b,⟨p,q,h,i,e⟩,k,hp=>by subst e;simp only[all_cons,Bool.and_eq_true,decide_eq_true_eq]at b;exact⟨p,q,WideElems.Trod_stays f b.1.1 b.1.2 h (λx j=>k x (by simp[j])) λx j=>hp x (by simp[j]),Az9 f b.2 i (λx j=>k x (by simp[j])) λx j=>hp x (by simp[j]),rfl⟩
theorem Bgp(S:laidOutB P=true){f:Func}{s:ChangeSpec}{g:Bool}{W l:World}{args:Array Value}{k:Λ (DataW H)}{j:Λ MemPlace}{t:TypeId}(G:s.vars=[])(I:DataW.Whole enc P f.params.toList s.vars false W args.toList k [] j)(R:(f.params.toList.all λt=>P.readableRec t&&decide (t<P.types.size))=true)(E:(s.fn H k).results=[.lit (.bool true)]/\(s.fn H k).args=k/\(s.fn H k).vars=[])(B:f.resultTypes=#[t])(C:P.underlying t=some .bool)(z:∀(b:Nat)(o:Obj),W.heap[b]?=some o->l.heap[b]?=some o)(D:l.os=W.os)(u:l.output=W.output):s.post enc P f false true g false W args (.bool true) l:=by have A:=I;obtain⟨p,q,V,J,rfl,U,_⟩:=I;rw[G]at J;obtain rfl:q=[]:=J;have y:=A.lt;rw[append_nil]at *;(have c:∀b,b<W.heap.size->l.heap[b]?=W.heap[b]?:=λb r=>by rw[Array.getElem?_eq_getElem r];exact z b _ (Array.getElem?_eq_getElem r));(have same:∀x∈p,W.sameAt l x:=by intro x m;have:=c x.block (y x m);cases x with|cell b o=>exact World.cell?_of_block (w:=W) this|map b=>exact this);obtain⟨N,M,L⟩:=E;refine⟨k,[],p,[],p,[],A,?_,?_,?_,⟨D,u,λi F=>?_⟩,λh=>by cases h⟩;rw[append_nil,N,B];exact trodAll_mk1 (shut_bool C _);rw[append_nil,M];exact Az9 S R V same (λx m=>by simpa using y x m);rw[append_nil,L,G];rfl;rw[c i F];split<;>simp_all
end
end Go.Ab
