/- Readings. -/
import Derived.Test.YtgfjdimemmhmeaaGreatDoorRows
import Derived.Test.YtgfjdimemmhmeaaGreatDoorMuTy
import Derived.ReaderBy
import Derived.Test.YtgfjdimemmhmeaaGreatDoorMuPl3
import Derived.Test.YtgfjdimemmhmeaaGreatDoorCards
import Derived.Test.YtgfjdimemmhmeaaGreatDoorTie
import Derived.ChangeOld
import Derived.ChangeSame
import Derived.Carry
import Derived.RowKit
import Derived.WalkKit
import Derived.ProofKit
import Derived.OpenShut
import Derived.Deep.DeepHandedRow
import Derived.Lib.LaidTab
open List
namespace Go.Ab
open Go
open Go.Proofs.YtgfjdimemmhmeaaGreatDoor.Rows (uptoBulk uptoBulkAll)
def P1(w:World):Bb:=λb=>w.heap[b]?
def CCs(σ:Bb)(xs:Λ AV)(cs:Λ Value):Prop:=cs.length=xs.length/\∀(j:Nat)(a:AV)(c:Value),xs[j]?=some a->cs[j]?=some c->CC σ a c/\F7 c=true
section
variable{H:Type}{enc:TypeId×Value->H}{P:Program}{w:World}
variable{a:Addr}{σ:Bb}{n:Nat}{α β:Type}{e t:TypeId}{Q:α->Nat->Prop}{g:β->Λ AV}{R:β->Nat->Prop}
def Rd(enc:TypeId×Value->H)(P:Program)(w:World)(n:Nat)(t:TypeId)(f:α->Λ AV)(Q:α->Nat->Prop):Prop:=∀(cs:Λ Value)(d:DataW H),DataW.ofBy (keyOf P) enc P w 0 true true n t cs=some d->uptoBulk d<=1048576->∃a:α,CCs (P1 w) (f a) cs/\Q a (uptoBulk d)
theorem L8(t:TypeId)(f:α->Λ AV)(Q:α->Nat->Prop):Rd enc P w 0 t f Q:=λ_ _ h=>by cases h
theorem Bf8(d:DataW H):1<=uptoBulk d:=by cases d with|lit l=>cases l<;>simp[uptoBulk]|_=>simp[uptoBulk]
theorem Aap{a:AV}{c:Value}(h:CC σ a c)(i:F7 c=true):CCs σ [a] [c]:=by refine⟨rfl,λj x y b k=>?_⟩;cases j with|zero=>cases b;cases k;exact⟨h,i⟩|succ j=>cases b
theorem Bf9{xs bs:Λ AV}{cs b:Λ Value}(h:CCs σ xs cs)(m:CCs σ bs b):CCs σ (xs++bs) (cs++b):=by refine⟨by simp[h.1,m.1],λj x y k l=>?_⟩;rcases Nat.lt_or_ge j xs.length with i|i;rw[getElem?_append_left i]at k;rw[getElem?_append_left (by rw[h.1];exact i)]at l;exact h.2 j x y k l;rw[getElem?_append_right i]at k;rw[getElem?_append_right (by rw[h.1];exact i),h.1]at l;exact m.2 _ x y k l
theorem Q6(k:IntKind)(n:Nat)(i:P.underlying t=some (.int k)):Rd enc P w n t (λa:Int=>[O k a]) (λa _=>k.min<=a/\a<=k.max):=by intro cs d h _;cases n with|zero=>cases h|succ n=>rcases cs with _|⟨c,_|⟨f,r⟩⟩;simp[DataW.ofBy,i]at h;cases c<;>simp[DataW.ofBy,i]at h;rename_i b m;obtain⟨⟨rfl,j⟩,_⟩:=h;exact⟨m,Aap (.val _) rfl,by simpa[Lit.wf]using j⟩;simp[DataW.ofBy,i]at h
theorem Bga(n:Nat)(i:P.underlying t=some .bool):Rd enc P w n t (λa:Bool=>[Ax a]) (λ_ _=>True):=by intro cs d h _;cases n with|zero=>cases h|succ n=>rcases cs with _|⟨c,_|⟨b,r⟩⟩;simp[DataW.ofBy,i]at h;cases c<;>simp[DataW.ofBy,i]at h;exact⟨_,Aap (.val _) rfl,trivial⟩;simp[DataW.ofBy,i]at h
theorem A0l(n:Nat)(i:P.underlying t=some .string):Rd enc P w n t (λa:Β=>[Fg a]) (λa b=>a.size<=b):=by
 intro cs d h _;cases n with
 |zero=>cases h
 |succ n=>
  rcases cs with _|⟨c,_|⟨f,r⟩⟩;simp[DataW.ofBy,i]at h
  .cases c
   case string s=>
    have j:(if s.size<=maxLen then some (DataW.lit (H:=H) (.string s.data.toList))else none)=some d:=(by unfold DataW.ofBy at h;rw[i]at h;exact h);split at j
    .cases j;refine⟨_,Aap (.val _) rfl,?_⟩;have e:s.data.toList.length=s.size:=(by rw[Array.length_toList];rfl);simp only[uptoBulk];omega
    .cases j
   all_goals (unfold DataW.ofBy at h;rw[i]at h;cases h)
  simp[DataW.ofBy,i]at h
def QL{α:Type}(Q:α->Nat->Prop):Λ α->Nat->Prop
 |[],_=>True
 |a::l,m=>∃b h,1<=b/\b+h<=m/\Q a b/\QL Q l h
theorem Bgb{sz:Nat}{f:α->Λ AV}(ih:Rd enc P w n e f Q)(g:Nat->Ο (List Value)):∀(L:Ca)(c:Λ (DataW H)), L.mapM (λi=>(g i).bind (DataW.ofBy (keyOf P) enc P w 0 true true n e))=some c->uptoBulkAll c<=1048576->∃l:Λ α,l.length=L.length/\QL Q l (uptoBulkAll c)/\∀(i:Nat)(a:α),l[i]?=some a->∃k cs,L[i]?=some k/\g k=some cs/\CCs (P1 w) (f a) cs:=by intro L;induction L with|nil=>intro c h _;exact⟨[],rfl,trivial,λi a h=>by cases h⟩|cons k L j=>intro c h o;simp only[mapM_cons,Option.pure_def,Option.bind_eq_bind,Option.bind_eq_some_iff]at h;obtain⟨d,⟨cs,r,B⟩,b,C,A⟩:=h;cases A;simp only[uptoBulkAll]at o;obtain⟨a,D,E⟩:=ih cs d B ω;obtain⟨l,y,u,s⟩:=j b C ω;refine⟨a::l,by simp[y],⟨uptoBulk d,uptoBulkAll b,Bf8 d,by simp[uptoBulkAll],E,u⟩,?_⟩;intro i x m;cases i with|zero=>cases m;exact⟨k,cs,rfl,r,D⟩|succ i=>obtain⟨z,q,F,G,I⟩:=s i x m;exact⟨z,q,F,G,I⟩
theorem Q7{α:Type}{Q:α->Nat->Prop}:∀{l:Λ α}{m:Nat},QL Q l m->l.length<=m
 |[],_,_=>Nat.zero_le _
 |_::l,_,⟨h,i,j,k,_,b⟩=>by have:=Q7 b;simp only[length_cons];omega
theorem U6{α:Type}{Q:α->Nat->Prop}:∀{l:Λ α}{m:Nat},QL Q l m->∀a∈l,∃b,b<=m/\Q a b
 |_::l,_,⟨i,o,q,r,j,c⟩,a,h=>by rcases mem_cons.1 h with rfl|h;exact⟨i,ω,j⟩;obtain⟨b,s,k⟩:=U6 c a h;exact⟨b,ω,k⟩
theorem Akg{cs:Λ Value}(h:w.cells? 0 a n=some cs):cs.length=n/\∀j,j<n->w.cell? (a.add j)=cs[j]?:=by unfold World.cells? at h;rw[if_pos (Nat.zero_le _)]at h;(have l:∀(L:Ca)(cs:Λ Value),L.mapM (λi=>w.cell? (a.add i))=some cs->cs.length=L.length/\∀(i k:Nat),L[i]?=some k->w.cell? (a.add k)=cs[i]?:=by intro L;induction L with|nil=>intro cs h;cases h;exact⟨rfl,λi k h=>by cases h⟩|cons x L ih=>intro cs h;simp only[mapM_cons,Option.pure_def,Option.bind_eq_bind,Option.bind_eq_some_iff]at h;obtain⟨v,b,q,m,r⟩:=h;cases r;obtain⟨s,u⟩:=ih q m;refine⟨by simp[s],λi k o=>?_⟩;cases i with|zero=>cases o;simpa using b|succ i=>simpa using u i k o);obtain⟨b,m⟩:=l _ _ h;rw[length_range]at b;exact⟨b,λj y=>m j j (by simp[y])⟩
theorem A0m(h:a.spot=none)(m:Nat):a.add m=⟨a.block,a.off+m,none⟩:=by unfold Addr.add;split;rename_i e;subst e;cases a;simp_all;rfl
theorem Akh(sz:Nat){f:α->Λ AV}(g:α->AV)(hu:P.underlying t=some (.slice e))(L:P.cellsOf e=sz)(a0:0<sz)(hg:∀a,(g a).cells=f a)(hf:∀a,(f a).length=sz)(ih:Rd enc P w n e f Q):Rd enc P w (n+1) t (λl:List α=>[.sl sz (l.map g)]) (λl b=>∃m,m+1<=b/\QL Q l m):=by
 intro cs d h hb;rcases cs with _|⟨c,_|⟨c',r⟩⟩;simp[DataW.ofBy,hu]at h
 .cases c
  case slice base len K=>
   cases base with
   |none=>have:d=.nil/\len=0:=(by unfold DataW.ofBy at h;rw[hu]at h;split at h<;>simp_all);obtain⟨rfl,rfl⟩:=this;exact⟨[],Aap (.nil sz _ _) rfl,0,by simp[uptoBulk],trivial⟩
   |some a=>
    have h':(if 0<=a.block/\len<=K/\K<=maxLen then
     ((range len).mapM λi=>(w.cells? 0 (a.add (i*P.cellsOf e)) (P.cellsOf e)).bind (DataW.ofBy (keyOf P) enc P w 0 true true n e)).bind λu=>(if true=true then(range (K-len)).mapM λj=>(w.cells? 0 (a.add ((len+j)*P.cellsOf e)) (P.cellsOf e)).bind (DataW.ofBy (keyOf P) enc P w 0 true true n e)else some []).map λT=>DataW.slice u T else none)=some d:=by unfold DataW.ofBy at h;rw[hu]at h;exact h
    split at h'
    .rename_i F;simp only[Option.bind_eq_some_iff,Option.map_eq_some_iff]at h';obtain⟨u,h1,T,h2,rfl⟩:=h';rw[L]at h1;simp only[uptoBulk]at hb;obtain⟨l,G,V,l3⟩:=Bgb (sz:=sz) ih (λi=>w.cells? 0 (a.add (i*sz)) sz) _ _ h1 ω;have Y:=Q7 V;rw[length_range]at G;refine⟨l,?_,uptoBulkAll u,by simp only[uptoBulk];omega,V⟩;cases R:l with
     |nil=>rw[R]at G;have:len=0:=G.symm;subst this;exact Aap (.nil sz _ _) rfl
     |cons x l'=>
      rw[<-R];refine Aap ?_ rfl;have D:∀(i:Nat)(y:α),l[i]?=some y->∃cs,w.cells? 0 (a.add (i*sz)) sz=some cs/\CCs (P1 w) (f y) cs:=(by intro i y o;obtain⟨k,cs,g1,g2,g3⟩:=l3 i y o;have hk:k=i:=(by rw[getElem?_range (by have:=(List.getElem?_eq_some_iff.1 o).1;omega)]at g1;exact(Option.some.inj g1).symm);subst hk;exact⟨cs,g2,g3⟩);have J:l[0]?=some x:=(by rw[R];rfl);obtain⟨U,c1,c2⟩:=D 0 x J;have c3:=(Akg c1).2 0 a0;have a1:U.length=sz:=(Akg c1).1;rw[getElem?_eq_getElem ω]at c3;have s:a.spot=none/\∃C E fr,w.heap[a.block]?=some (.cells C E fr):=by
       have S:(a.add (0*sz)).add 0=a:=(by simp[Addr.add]);rw[S]at c3;unfold World.cell? at c3;split at c3
       .rename_i C E fr I;split at c3
        .cases c3
        .rename_i X;refine⟨?_,C,E,fr,I⟩;cases M:a.spot with|none=>rfl|some _=>rw[M]at X;simp at X
       .cases c3
      obtain⟨s,C,E,fr,I⟩:=s;have z:∀i j:Nat,w.cell? ((a.add (i*sz)).add j)=C[a.off+i*sz+j]?:=(by intro i j;rw[A0m s,A0m rfl];unfold World.cell?;rw[I];rfl);have q:∀(i:Nat)(y:α)(j:Nat)(c:AV),l[i]?=some y->(g y).cells[j]?=some c->∃v,C[a.off+i*sz+j]?=some v/\CC (P1 w) c v/\F7 v=true:=(by intro i y j c o F;obtain⟨cs,Z,e2⟩:=D i y o;rw[hg]at F;have hj:=(List.getElem?_eq_some_iff.1 F).1;rw[hf]at hj;have B:j<cs.length:=(by rw[(Akg Z).1];exact hj);have:=(Akg Z).2 j hj;rw[z,getElem?_eq_getElem B]at this;exact⟨_,this,e2.2 j c _ F (getElem?_eq_getElem B)⟩);have a2:a=⟨a.block,a.off,none⟩:=(by cases a;simp_all);rw[a2];have N:l.length=(l.map g).length:=ψ;rw[<-G,N];refine CC.sl (l.map g) a.block a.off K sz C E fr (λi j=>(C[a.off+i*sz+j]?).getD undef) I ?_ ?_ ?_ ?_ ζ ζ
      .intro i y o;simp only[getElem?_map,Option.map_eq_some_iff]at o;obtain⟨y,_,rfl⟩:=o;rw[hg,hf]
      .intro i y j c o F;simp only[getElem?_map,Option.map_eq_some_iff]at o;obtain⟨y,o,rfl⟩:=o;obtain⟨v,A,v2,v3⟩:=q i y j c o F;rw[A];exact v2
      .intro i y j c o F;simp only[getElem?_map,Option.map_eq_some_iff]at o;obtain⟨y,o,rfl⟩:=o;obtain⟨v,A,v2,v3⟩:=q i y j c o F;rw[A];exact v3
      .intro i j hi hj;rw[length_map]at hi;have o:l[i]?=some l[i]:=getElem?_eq_getElem hi;have F:(g l[i]).cells[j]?=some ((g l[i]).cells[j]'(by rw[hg,hf];exact hj)):=getElem?_eq_getElem _;obtain⟨v,A,_⟩:=q i _ j _ o F;rw[A];rfl
    .cases h'
  all_goals simp[DataW.ofBy,hu]at h
 simp[DataW.ofBy,hu]at h
def RdL(enc:TypeId×Value->H)(P:Program)(w:World)(n b off:Nat)(fs:Λ (TypeId×Nat×Nat))(f:α->Λ AV)(Q:α->Nat->Prop):Prop:=∀(cs:Λ Value)(h:Λ (DataW H)),cs.length=b->fs.mapM (λx=>DataW.ofBy (keyOf P) enc P w 0 true true n x.1 ((cs.drop x.2.1).take x.2.2))=some h->uptoBulkAll h<=1048576->∃a:α,CCs (P1 w) (f a) (cs.drop off)/\Q a (uptoBulkAll h)
theorem O0(n b:Nat):RdL enc P w n b b [] (λ_:Unit=>[]) (λ_ _=>True):=by intro cs i h _ _;exact⟨(),⟨by simp[h],λj a c h=>by cases h⟩,trivial⟩
theorem Ij{c off:Nat}(sz:Nat){fs:Λ (TypeId×Nat×Nat)}{f:α->Λ AV}(s:Rd enc P w n t f Q)(u:RdL enc P w n c (off+sz) fs g R):RdL enc P w n c off ((t,off,sz)::fs) (λp:α×β=>f p.1++g p.2) (λp m=>∃o r,o+r=m/\Q p.1 o/\R p.2 r):=by intro cs D j h x;simp only[mapM_cons,Option.pure_def,Option.bind_eq_bind,Option.bind_eq_some_iff]at h;obtain⟨d,q,i,l,k⟩:=h;cases k;simp only[uptoBulkAll]at x⊢;obtain⟨a,y,A⟩:=s _ d q ω;obtain⟨b,B,C⟩:=u cs i j l ω;refine⟨(a,b),?_,_,_,rfl,A,C⟩;have:=Bf9 y B;rwa [<-drop_drop,take_append_drop]at this
theorem O1{fs:Array Field}{i:Nat}{L:Λ (TypeId×Nat×Nat)}{f:α->Λ AV}(φ:β->α)(q:P.underlying t=some (.struct fs))(l:fs.toList.map (λx=>(x.type,x.offset,P.cellsOf x.type))=L)(r:P.cellsOf t=i)(j:∀b,f (φ b)=g b)(k:∀b m,R b m->Q (φ b) (m+1))(h:RdL enc P w n i 0 L g R):Rd enc P w (n+1) t f Q:=by intro cs d o s;(have c:(if cs.length=P.cellsOf t then(fs.toList.mapM λx=>DataW.ofBy (keyOf P) enc P w 0 true true n x.type ((cs.drop x.offset).take (P.cellsOf x.type))).map DataW.agg else none)=some d:=by unfold DataW.ofBy at o;rw[q]at o;split at o<;>simp_all);split at c;rename_i u;simp only[Option.map_eq_some_iff]at c;obtain⟨y,A,rfl⟩:=c;simp only[uptoBulk]at s;obtain⟨b,B,C⟩:=h cs y (u.trans r) (by rw[<-l,mapM_map];exact A) ω;refine⟨φ b,?_,k b _ C⟩;rw[j];simpa using B;cases c
end
end Go.Ab
namespace Go.Ab
open Go Go.Proofs Go.Proofs.Tryz
open Go.Proofs.YtgfjdimemmhmeaaGreatDoor.Rows (uptoBulk uptoBulkAll)
section
variable{H:Type}{enc:TypeId×Value->H}{w:World}
variable{n:Nat}{α:Type}{Q:α->Nat->Prop}
theorem A0n{a:Int}(h:IntKind.i64.min<=a/\a<=IntKind.i64.max):Fj a:=by have c:IntKind.i64.min = -9223372036854775808:=δ;have b:IntKind.i64.max=9223372036854775807:=δ;rw[c,b]at h;exact h
theorem Aqh:∀{l:A1}{m:Nat},QL (λa b=>Bu a<=b) l m->Dr l<=m
 |[],_,_=>Nat.zero_le _
 |_::l,_,⟨h,i,j,k,o,c⟩=>by have:=Aqh c;simp only[Dr];omega
theorem A0o:∀{l:A2}{m:Nat},QL (λa b=>Br a<=b/\iR a) l m->Bv l<=m/\Eu l
 |[],_,_=>⟨Nat.zero_le _,trivial⟩
 |_::l,_,⟨i,j,k,o,h,c⟩=>by have:=A0o c;simp only[Bv,Eu];exact⟨ω,h.2,this.2⟩
theorem A0p(h:Rd enc prog w n 23 (λl:List Ah=>[.sl 3 (l.map Eb)]) (λl b=>∃m,m+1<=b/\QL (λa b=>Bu a<=b) l m)):Rd enc prog w (n+1) 25 (λa:Ah=>(Eb a).cells) (λa b=>Bu a<=b):=by refine O1 (λp:Int×Int×List Ah×Unit=>⟨p.1,p.2.1,p.2.2.1⟩) underlying25 κ κ (λb=>?_) ?_ (Ij 1 (Q6 .i64 n underlying3) (Ij 1 (Q6 .i64 n underlying3) (Ij 1 h (O0 n 3))));simp[Eb,AV.cells,Mg];rintro⟨a,b,l,_⟩ m ⟨j,o,rfl,_,q,r,rfl,_,s,u,rfl,⟨k,x,i⟩,_⟩;have:=Aqh i;simp only[Bu]at *;omega
theorem Aqi:∀n:Nat,Rd enc prog w n 25 (λa:Ah=>(Eb a).cells) (λa b=>Bu a<=b)
 |0=>L8 _ _ _
 |1=>A0p (L8 _ _ _)
 |n+2=>A0p (Akh 3 Eb underlying23 κ δ (λ_=>rfl) (λ_=>rfl) (Aqi n))
theorem A0q(n:Nat):Rd enc prog w n 23 (λl:List Ah=>[.sl 3 (l.map Eb)]) (λl b=>∃m,m+1<=b/\QL (λa b=>Bu a<=b) l m):=by cases n with|zero=>exact L8 _ _ _|succ n=>exact Akh 3 Eb underlying23 κ δ (λ_=>rfl) (λ_=>rfl) (Aqi n)
theorem A0r(h:Rd enc prog w n 92 (λl:List Af=>[.sl 2 (l.map Eg)]) (λl b=>∃m,m+1<=b/\QL (λa b=>Br a<=b/\iR a) l m)):Rd enc prog w (n+1) 94 (λa:Af=>(Eg a).cells) (λa b=>Br a<=b/\iR a):=by refine O1 (λp:Int×List Af×Unit=>⟨p.1,p.2.1⟩) underlying94 κ κ (λb=>?_) ?_ (Ij 1 (Q6 .i64 n underlying3) (Ij 1 h (O0 n 2)));simp[Eg,AV.cells,Lc];rintro⟨a,l,_⟩ m ⟨o,q,rfl,i,r,s,rfl,⟨k,u,j⟩,_⟩;have:=A0o j;have i:=A0n i;simp only[Br,iR]at *;exact⟨ω,i,this.2⟩
theorem A0s:∀n:Nat,Rd enc prog w n 94 (λa:Af=>(Eg a).cells) (λa b=>Br a<=b/\iR a)
 |0=>L8 _ _ _
 |1=>A0r (L8 _ _ _)
 |n+2=>A0r (Akh 2 Eg underlying92 κ δ (λ_=>rfl) (λ_=>rfl) (A0s n))
theorem Xv{t e:TypeId}(sz:Nat){f:α->Λ AV}(g:α->AV)(i:prog.underlying t=some (.slice e))(c:prog.cellsOf e=sz)(h:0<sz)(hg:∀a,(g a).cells=f a)(j:∀a,(f a).length=sz)(ih:∀n,Rd enc prog w n e f Q)(n:Nat):Rd enc prog w n t (λl:List α=>[.sl sz (l.map g)]) (λl b=>∃m,m+1<=b/\QL Q l m):=by cases n with|zero=>exact L8 _ _ _|succ n=>exact Akh sz g i c h hg j (ih n)
theorem Bgc(n:Nat):Rd enc prog w n 149 (λa:Pm=>(Ag9 a).cells) (λa b=>a.S.size<=b/\Dr a.R<=b):=by cases n with|zero=>exact L8 _ _ _|succ n=>refine O1 (λp:Β×List Ah×Unit=>⟨p.1,p.2.1⟩) underlying149 κ κ (λb=>?_) ?_ (Ij 1 (A0l n underlying9) (Ij 1 (A0q n) (O0 n 2)));simp[Ag9,AV.cells,Mg];rintro⟨a,l,_⟩ m ⟨i,j,rfl,o,q,r,rfl,⟨k,s,h⟩,_⟩;have:=Aqh h;simp only at *;exact⟨ω,ω⟩
theorem Bgd(n:Nat):Rd enc prog w n 147 (λa:Ao=>(Ce a).cells) (λa b=>a.S.size<=b/\a.O.length<=b/\∀y∈a.O,y.S.size<=b/\Dr y.R<=b):=by cases n with|zero=>exact L8 _ _ _|succ n=>refine O1 (λp:Β×Int×List Pm×Unit=>⟨p.1,p.2.1,p.2.2.1⟩) underlying147 κ κ (λb=>?_) ?_ (Ij 1 (A0l n underlying9) (Ij 1 (Q6 .i64 n underlying3) (Ij 1 (Xv 2 Ag9 underlying145 κ δ (λ_=>rfl) (λ_=>rfl) Bgc n) (O0 n 3))));simp[Ce,AV.cells];rintro⟨a,b,l,_⟩ m ⟨o,q,rfl,r,s,u,rfl,_,x,A,rfl,⟨k,B,h⟩,_⟩;have C:=Q7 h;have i:=U6 h;simp only at *;refine⟨ω,ω,λy j=>?_⟩;obtain⟨c,D,E,F⟩:=i y j;exact⟨ω,ω⟩
theorem Bge(n:Nat):Rd enc prog w n 27 (λa:Bh=>(J7 a).cells) (λa b=>b<=1048576->CSz a):=by cases n with|zero=>exact L8 _ _ _|succ n=>refine O1 (λp:List Ao×List Ah×Ah×Unit=>⟨p.1,p.2.1,p.2.2.1⟩) underlying27 κ κ (λb=>?_) ?_ (Ij 1 (Xv 3 Ce underlying22 κ δ (λ_=>rfl) (λ_=>rfl) Bgd n) (Ij 1 (A0q n) (Ij 3 (Aqi n) (O0 n 5))));simp[J7,Eb,AV.cells,Mg];rintro⟨a,b,l,_⟩ m ⟨F,G,rfl,⟨k,I,C⟩,J,K,rfl,⟨h,f,o⟩,L,M,rfl,j,_⟩ i;have N:=Q7 C;have s:=U6 C;have S:=Q7 o;have g:=U6 o;simp only at *;refine⟨⟨by dsimp only;omega,λx q=>?_,λx q=>?_,λx q y u=>?_⟩,by dsimp only;omega,λt E=>?_,by dsimp only;omega⟩;obtain⟨c,A,B,D,r⟩:=s x q;refine⟨ω,λy u=>?_⟩;have:=(r y u).2;omega;obtain⟨c,A,B,D,r⟩:=s x q;omega;obtain⟨c,A,B,D,r⟩:=s x q;have:=(r y u).1;omega;obtain⟨c,A,B⟩:=g t E;omega
theorem Bgf(P:α->Prop)(h:∀a b,Q a b->P a){l:Λ α}{m:Nat}(i:QL Q l m):∀a∈l,P a:=λa j=>by obtain⟨c,_,g⟩:=U6 i a j;exact h a c g
theorem A0t(n:Nat):Rd enc prog w n 45 (λl:List Int=>[.sl 1 (l.map fo)]) (λl b=>l.length<=b/\Od l):=by intro cs d h j;obtain⟨a,k,m,q,i⟩:=Xv (Q:=λa _=>IntKind.u32.min<=a/\a<=IntKind.u32.max) 1 fo underlying45 κ δ (λ_=>rfl) (λ_=>rfl) (λn=>Q6 .u32 n underlying143) n cs d h j;refine⟨a,k,by have:=Q7 i;omega,λx o=>?_⟩;have:=Bgf (λx=>IntKind.u32.min<=x/\x<=IntKind.u32.max) (λ_ _ h=>h) i x o;have f:IntKind.u32.min=0:=δ;have c:IntKind.u32.max=4294967295:=δ;rw[f,c]at this;omega
theorem Bgg(n:Nat):Rd enc prog w n 47 (λa:Ay=>(C8 a).cells) (λa b=>RB b a):=by cases n with|zero=>exact L8 _ _ _|succ n=>refine O1 (λp:Bool×List Int×List Int×Unit=>⟨p.1,p.2.1,p.2.2.1⟩) underlying47 κ κ (λb=>?_) ?_ (Ij 1 (Bga n underlying4) (Ij 1 (A0t n) (Ij 1 (A0t n) (O0 n 3))));simp[C8,AV.cells];rintro⟨a,b,l,_⟩ m ⟨j,k,rfl,_,o,q,rfl,h,r,s,rfl,i,_⟩;simp only at *;exact⟨h.2,i.2,by dsimp only;omega,by dsimp only;omega⟩
theorem Bgh(n:Nat):Rd enc prog w n 96 (λa:Bd=>(Ev a).cells) (λa b=>Br a.I<=b/\iR a.I/\Fj a.v):=by cases n with|zero=>exact L8 _ _ _|succ n=>refine O1 (λp:Int×Af×Unit=>⟨p.1,p.2.1⟩) underlying96 κ κ (λb=>?_) ?_ (Ij 1 (Q6 .i64 n underlying3) (Ij 2 (A0s n) (O0 n 3)));simp[Ev,Eg,AV.cells];rintro⟨a,b,_⟩ m ⟨j,k,rfl,h,l,o,rfl,i,_⟩;have h:=A0n h;simp only at *;exact⟨ω,i.2,h⟩
theorem Bgi(n:Nat):Rd enc prog w n 175 (λa:F3=>(Ld a).cells) (λ_ _=>True):=by cases n with|zero=>exact L8 _ _ _|succ n=>refine O1 (λp:Int×Int×Unit=>⟨p.1,p.2.1⟩) underlying175 κ κ (λb=>?_) (λ_ _ _=>trivial) (Ij 1 (Q6 .i64 n underlying3) (Ij 1 (Q6 .i64 n underlying2) (O0 n 2)));simp[Ld,AV.cells]
theorem Bgj(n:Nat):Rd enc prog w n 69 (λa:Bp=>(J8 a).cells) (λa b=>a.T.length<=b):=by cases n with|zero=>exact L8 _ _ _|succ n=>refine O1 (λp:Int×List F3×Unit=>⟨p.1,p.2.1⟩) underlying69 κ κ (λb=>?_) ?_ (Ij 1 (Q6 .i64 n underlying2) (Ij 1 (Xv 2 Ld underlying67 κ δ (λ_=>rfl) (λ_=>rfl) Bgi n) (O0 n 2)));simp[J8,AV.cells];rintro⟨a,l,_⟩ m ⟨i,j,rfl,o,q,r,rfl,⟨k,s,h⟩,_⟩;have:=Q7 h;simp only at *;omega
theorem Bgk(n:Nat):Rd enc prog w n 108 (λa:Bf=>(Em a).cells) (λa b=>a.L.T.length<=b):=by cases n with|zero=>exact L8 _ _ _|succ n=>refine O1 (λp:Bp×Int×Unit=>⟨p.1,p.2.1⟩) underlying108 κ κ (λb=>?_) ?_ (Ij 2 (Bgj n) (Ij 1 (Q6 .i64 n underlying3) (O0 n 3)));simp[Em,J8,AV.cells];rintro⟨a,l,_⟩ m ⟨h,i,rfl,j,k,o,rfl,_,_⟩;simp only at *;omega
theorem Bgl(n:Nat):Rd enc prog w n 51 (λa:A4=>(Ie a).cells) (λa b=>b<=1048576->MSz a):=by cases n with|zero=>exact L8 _ _ _|succ n=>refine O1 (λp:List Bd×List Bf×Unit=>⟨p.1,p.2.1⟩) underlying51 κ κ (λb=>?_) ?_ (Ij 1 (Xv 3 Ev underlying48 κ δ (λ_=>rfl) (λ_=>rfl) Bgh n) (Ij 1 (Xv 3 Em underlying49 κ δ (λ_=>rfl) (λ_=>rfl) Bgk n) (O0 n 2)));simp[Ie,AV.cells];rintro⟨a,l,_⟩ m ⟨C,D,rfl,⟨i,h,o⟩,E,F,rfl,⟨k,G,r⟩,_⟩ j;have I:=Q7 r;have A:=U6 r;have J:=Q7 o;have g:=U6 o;simp only at *;refine⟨by dsimp only;omega,by dsimp only;omega,λf q=>?_,λf q=>?_,λx B=>?_⟩;obtain⟨c,s,u,y⟩:=g f q;omega;obtain⟨c,s,u,y⟩:=g f q;exact y;obtain⟨c,s,u⟩:=A x B;omega
theorem Bgm(n:Nat):Rd enc prog w n 53 (λa:Aj=>(Ci a).cells) (λa b=>b<=1048576->TSz a):=by cases n with|zero=>exact L8 _ _ _|succ n=>refine O1 (λp:Ay×A4×Unit=>⟨p.1,p.2.1⟩) underlying53 κ κ (λb=>?_) ?_ (Ij 3 (Bgg n) (Ij 2 (Bgl n) (O0 n 5)));simp[Ci,C8,Ie,AV.cells];rintro⟨a,l,_⟩ m ⟨j,k,rfl,h,o,q,rfl,i,_⟩ c;simp only at *;exact⟨RB.mono h ω,i ω⟩
theorem A0u(n:Nat):Rd enc prog w n 28 (λl:List Aj=>[.sl 5 (l.map Ci)]) (λl b=>b<=1048576->l.length<=1048576/\∀t∈l,TSz t):=by intro cs d h j;obtain⟨a,k,m,r,i⟩:=Xv (Q:=λa b=>b<=1048576->TSz a) 5 Ci underlying28 κ δ (λ_=>rfl) (λ_=>rfl) Bgm n cs d h j;refine⟨a,k,λf=>⟨by have:=Q7 i;omega,λx o=>?_⟩⟩;obtain⟨c,s,q⟩:=U6 i x o;exact q ω
end
end Go.Ab
namespace Go.Ab
open Go Go.Proofs Go.ChangeShapes Go.WideShapes Go.ChangeAt Go.RowKit Go.Proofs.Tryz
open Go.Proofs.YtgfjdimemmhmeaaGreatDoor.Rows (uptoBulk uptoBulkAll uptoSmall)
set_option maxRecDepth 100000
variable{W:World}
theorem A0v{P:Program}{x:String×DataW Unit}{l:Λ (String×DataW Unit)}(h:laidMet P (x::l) W):laidMet P l W:=by obtain⟨u,⟨j,t',cs,fuel,p,q,i,g,f,y,m,c⟩,o,r⟩:=h;subst c;refine⟨q,m,(nodup_append.1 o).2.1,λb k s=>r b k ?_⟩;simp[s]
theorem Bgn(h:laidMetH prog YtgfjdimemmhmeaaGreatDoor.Rows.polyMultipliesRow.laid W):Xx (P1 W):=by have i:laidMet prog [("internal/strconv.uint64pow10",YtgfjdimemmhmeaaGreatDoor.Rows.laid_internal_strconv_uint64pow10)] W:=A0v (A0v h);have b:Lib.TabIs prog W "internal/strconv.uint64pow10" .u64 Lib.pow10Tab:=Lib.tabIs_of_head (g:=0) (rest:=[]) κ κ underlying391 underlying142 κ κ i;have g:prog.globalNamed "internal/strconv.uint64pow10" = some 0:=κ;unfold Lib.TabIs World.var? at b;rw[g]at b;simp only[Option.bind_some]at b;split at b;rename_i cs E j k;cases b;exact⟨E,j,k⟩;cases b
theorem Bgo(g:Xx (P1 W)):St (P1 W) ι0 H0 (λ_=>none) W W:=⟨λ_ _ h=>h,(λ_ _ h=>by cases h),λ_=>rfl,(λ_ _ _ h=>by cases h),rfl,rfl,rfl,g,Nat.le_refl _⟩
theorem Bgp{σ:Bb}{xs:Λ AV}{cs:Array Value}(h:CCs σ xs cs.toList):CC σ (.agg xs) (.agg cs) :=
 .agg xs cs (by simpa using h.1) (λi c v b j=>(h.2 i c v b (by simpa using j)).1)
section
variable{H:Type}{enc:TypeId×Value->H}{W:World}{base:Nat}{t:TypeId}{v:Value}{d:DataW H}{p:Λ MemPlace}
variable{α:Type}{Q:α->Nat->Prop}
theorem Bgq{g:α->Λ AV}{fs:Array Field}(h:prog.underlying t=some (.struct fs))(b:Value.okWide prog W .any base t v)(i:DataW.Trod enc prog W 0 (λ_=>true) true t v d p)(hb:uptoBulk d<=1048576)(rd:∀n,Rd enc prog W n t g Q):∃a,CC (P1 W) (.agg (g a)) v/\Q a (uptoBulk d):=by unfold Value.okWide at b;rw[h]at b;obtain⟨cs,rfl,_⟩:=b;obtain⟨n,j⟩:=i.by;obtain⟨a,k,l⟩:=rd n _ d j hb;exact⟨a,Bgp k,l⟩
theorem A0w{g:α->AV}(b:v.cells=#[v])(i:DataW.Trod enc prog W 0 (λ_=>true) true t v d p)(hb:uptoBulk d<=1048576)(rd:∀n,Rd enc prog W n t (λa=>[g a]) Q):∃a,CC (P1 W) (g a) v/\Q a (uptoBulk d):=by obtain⟨n,j⟩:=i.by;obtain⟨a,h,k⟩:=rd n _ d j hb;rw[b]at h;exact⟨a,(h.2 0 _ _ rfl rfl).1,k⟩
theorem A0x{e:TypeId}(h:prog.underlying t=some (.slice e))(b:Value.okWide prog W .any base t v):v.cells=#[v]:=by unfold Value.okWide at b;rw[h]at b;cases v with|agg cs=>simp only[Cell.okWide,Cell.ok,h]at b|_=>rfl
end
section
variable{H:Type}{enc:TypeId×Value->H}{P:Program}
theorem A0y(c:laidOutB P=true){w w':World}{b:Nat->Bool}:∀{ts:Λ TypeId}{vs:Λ Value}{f:Λ (DataW H)}{ps:Λ MemPlace}, (ts.all λt=>P.readableRec t&&decide (t<P.types.size))=true->DataW.TrodAll enc P w 0 (λ_=>true) true ts vs f ps->(∀p∈ps,w.sameAt w' p)->(∀p∈ps,b p.block=true)->DataW.TrodAll enc P w' 0 b true ts vs f ps
 |[],[],[],_,_,h,_,_=>h
 |t::ts,_::_,_::_,_,j,⟨p,q,h,g,e⟩,k,hp=>by subst e;simp only[all_cons,Bool.and_eq_true,decide_eq_true_eq]at j;exact⟨p,q,WideElems.Trod_stays c j.1.1 j.1.2 h (λx i=>k x (by simp[i])) λx i=>hp x (by simp[i]),A0y c j.2 g (λx i=>k x (by simp[i])) λx i=>hp x (by simp[i]),rfl⟩
theorem Bgr(R:laidOutB P=true){f:Func}{s:ChangeSpec}{g:Bool}{W l:World}{args:Array Value}{k:Λ (DataW H)}{j:Λ MemPlace}{t:TypeId}(G:s.vars=[])(I:DataW.Whole enc P f.params.toList s.vars false W args.toList k [] j)(C:(f.params.toList.all λt=>P.readableRec t&&decide (t<P.types.size))=true)(E:(s.fn H k).results=[.lit (.bool true)]/\(s.fn H k).args=k/\(s.fn H k).vars=[])(B:f.resultTypes=#[t])(F:P.underlying t=some .bool)(z:∀(b:Nat)(o:Obj),W.heap[b]?=some o->l.heap[b]?=some o)(D:l.os=W.os)(u:l.output=W.output):s.post enc P f false true g false W args (.bool true) l:=by have A:=I;obtain⟨p,q,U,J,rfl,S,_⟩:=I;rw[G]at J;obtain rfl:q=[]:=J;have y:=A.lt;rw[append_nil]at *;(have c:∀b,b<W.heap.size->l.heap[b]?=W.heap[b]?:=λb r=>by rw[Array.getElem?_eq_getElem r];exact z b _ (Array.getElem?_eq_getElem r));(have same:∀x∈p,W.sameAt l x:=by intro x m;have:=c x.block (y x m);cases x with|cell b o=>exact World.cell?_of_block (w:=W) this|map b=>exact this);obtain⟨N,M,L⟩:=E;refine⟨k,[],p,[],p,[],A,?_,?_,?_,⟨D,u,λi K=>?_⟩,λh=>by cases h⟩;rw[append_nil,N,B];exact trodAll_mk1 (shut_bool F _);rw[append_nil,M];exact A0y R C U same (λx m=>by simpa using y x m);rw[append_nil,L,G];rfl;rw[c i K];split<;>simp_all
end
end Go.Ab
