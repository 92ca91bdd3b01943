/- Readings. -/
import Derived.Test.YthfkffcjnfocdaaGreatDoorRows
import Derived.Test.YthfkffcjnfocdaaGreatDoorUfTy
import Derived.ReaderBy
import Derived.Test.YthfkffcjnfocdaaGreatDoorUfPl2
import Derived.Test.YthfkffcjnfocdaaGreatDoorCards
import Derived.Test.YthfkffcjnfocdaaGreatDoorTie
import Derived.ChangeOld
import Derived.ChangeSame
import Derived.Carry
import Derived.RowKit
import Derived.WalkKit
import Derived.ProofKit
import Derived.OpenShut
import Derived.Deep.DeepHandedRow
import Derived.Lib.LaidTab
open List
namespace Go.Ab
open Go
open Go.Proofs.YthfkffcjnfocdaaGreatDoor.Rows (uptoBulk uptoBulkAll)
variable{b:Nat}{o:Obj}{w:World}
def Kl(w:World):Aw:=λb=>match w.heap[b]? with|none=>none|some o=>bif Eh o then none else some o
theorem Aq6(h:w.heap[b]?=some o)(c:Eh o=false):Kl w b=some o:=by unfold Kl;rw[h];simp only[c,cond_false]
theorem Aq7(h:Kl w b=some o):Eh o=false/\w.heap[b]?=some o:=by unfold Kl at h;cases i:w.heap[b]? with|none=>rw[i]at h;cases h|some f=>rw[i]at h;cases c:Eh f with|false=>simp only[c,cond_false,Option.some.injEq]at h;subst h;exact⟨c,rfl⟩|true=>simp only[c,cond_true]at h;cases h
def CCs(σ:Aw)(xs:Λ AV)(cs:Λ Value):Prop:=cs.length=xs.length/\∀(j:Nat)(a:AV)(c:Value),xs[j]?=some a->cs[j]?=some c->CC σ a c/\Em c=true
section
variable{H:Type}{enc:TypeId×Value->H}{P:Program}{w:World}
variable{a:Addr}{σ:Aw}{n:Nat}{α β:Type}{e t:TypeId}{Q:α->Nat->Prop}{g:β->Λ AV}{R:β->Nat->Prop}
def Rd(enc:TypeId×Value->H)(P:Program)(w:World)(n:Nat)(t:TypeId)(f:α->Λ AV)(Q:α->Nat->Prop):Prop:=∀(cs:Λ Value)(d:DataW H),DataW.ofBy (keyOf P) enc P w 0 true true n t cs=some d->uptoBulk d<=1048576->∃a:α,CCs (Kl w) (f a) cs/\Q a (uptoBulk d)
theorem Lk(t:TypeId)(f:α->Λ AV)(Q:α->Nat->Prop):Rd enc P w 0 t f Q:=λ_ _ h=>by cases h
theorem Bj2(d:DataW H):1<=uptoBulk d:=by cases d with|lit l=>cases l<;>simp[uptoBulk]|_=>simp[uptoBulk]
theorem Aai{a:AV}{c:Value}(h:CC σ a c)(k:Em c=true):CCs σ [a] [c]:=by refine⟨rfl,λj x y i l=>?_⟩;cases j with|zero=>cases i;cases l;exact⟨h,k⟩|succ j=>cases i
theorem Bj3{xs bs:Λ AV}{cs b:Λ Value}(h:CCs σ xs cs)(m:CCs σ bs b):CCs σ (xs++bs) (cs++b):=by refine⟨by simp[h.1,m.1],λj x y k l=>?_⟩;rcases Nat.lt_or_ge j xs.length with i|i;rw[getElem?_append_left i]at k;rw[getElem?_append_left (by rw[h.1];exact i)]at l;exact h.2 j x y k l;rw[getElem?_append_right i]at k;rw[getElem?_append_right (by rw[h.1];exact i),h.1]at l;exact m.2 _ x y k l
theorem My(k:IntKind)(n:Nat)(i:P.underlying t=some (.int k)):Rd enc P w n t (λa:Int=>[O k a]) (λa _=>k.min<=a/\a<=k.max):=by intro cs d h _;cases n with|zero=>cases h|succ n=>rcases cs with _|⟨c,_|⟨f,r⟩⟩;simp[DataW.ofBy,i]at h;cases c<;>simp[DataW.ofBy,i]at h;rename_i b m;obtain⟨⟨rfl,j⟩,_⟩:=h;exact⟨m,Aai (.val _) rfl,by simpa[Lit.wf]using j⟩;simp[DataW.ofBy,i]at h
theorem Bj4(n:Nat)(i:P.underlying t=some .bool):Rd enc P w n t (λa:Bool=>[Ay a]) (λ_ _=>True):=by intro cs d h _;cases n with|zero=>cases h|succ n=>rcases cs with _|⟨c,_|⟨b,r⟩⟩;simp[DataW.ofBy,i]at h;cases c<;>simp[DataW.ofBy,i]at h;exact⟨_,Aai (.val _) rfl,trivial⟩;simp[DataW.ofBy,i]at h
theorem A2s(n:Nat)(i:P.underlying t=some .string):Rd enc P w n t (λa:Β=>[Hh a]) (λa b=>a.size<=b):=by
 intro cs d h _;cases n with
 |zero=>cases h
 |succ n=>
  rcases cs with _|⟨c,_|⟨f,r⟩⟩;simp[DataW.ofBy,i]at h
  .cases c
   case string s=>
    have j:(if s.size<=maxLen then some (DataW.lit (H:=H) (.string s.data.toList))else none)=some d:=(by unfold DataW.ofBy at h;rw[i]at h;exact h);split at j
    .cases j;refine⟨_,Aai (.val _) rfl,?_⟩;have e:s.data.toList.length=s.size:=(by rw[Array.length_toList];rfl);simp only[uptoBulk];omega
    .cases j
   all_goals (unfold DataW.ofBy at h;rw[i]at h;cases h)
  simp[DataW.ofBy,i]at h
def QL{α:Type}(Q:α->Nat->Prop):Λ α->Nat->Prop
 |[],_=>True
 |a::l,m=>∃h i,1<=h/\h+i<=m/\Q a h/\QL Q l i
theorem Bj5{sz:Nat}{f:α->Λ AV}(ih:Rd enc P w n e f Q)(g:Nat->Ο (List Value)):∀(L:D4)(c:Λ (DataW H)), L.mapM (λi=>(g i).bind (DataW.ofBy (keyOf P) enc P w 0 true true n e))=some c->uptoBulkAll c<=1048576->∃l:Λ α,l.length=L.length/\QL Q l (uptoBulkAll c)/\∀(i:Nat)(a:α),l[i]?=some a->∃k cs,L[i]?=some k/\g k=some cs/\CCs (Kl w) (f a) cs:=by intro L;induction L with|nil=>intro c h _;exact⟨[],rfl,trivial,λi a h=>by cases h⟩|cons k L j=>intro c h r;simp only[mapM_cons,Option.pure_def,Option.bind_eq_bind,Option.bind_eq_some_iff]at h;obtain⟨d,⟨cs,A,B⟩,b,C,E⟩:=h;cases E;simp only[uptoBulkAll]at r;obtain⟨a,F,G⟩:=ih cs d B ω;obtain⟨l,y,u,s⟩:=j b C ω;refine⟨a::l,by simp[y],⟨uptoBulk d,uptoBulkAll b,Bj2 d,by simp[uptoBulkAll],G,u⟩,?_⟩;intro i x m;cases i with|zero=>cases m;exact⟨k,cs,rfl,A,F⟩|succ i=>obtain⟨z,q,I,J,K⟩:=s i x m;exact⟨z,q,I,J,K⟩
theorem Qd{α:Type}{Q:α->Nat->Prop}:∀{l:Λ α}{m:Nat},QL Q l m->l.length<=m
 |[],_,_=>Nat.zero_le _
 |_::l,_,⟨i,j,k,q,_,h⟩=>by have:=Qd h;simp only[length_cons];omega
theorem Te{α:Type}{Q:α->Nat->Prop}:∀{l:Λ α}{m:Nat},QL Q l m->∀a∈l,∃b,b<=m/\Q a b
 |_::l,_,⟨i,r,s,u,j,k⟩,a,h=>by rcases mem_cons.1 h with rfl|h;exact⟨i,ω,j⟩;obtain⟨b,x,q⟩:=Te k a h;exact⟨b,ω,q⟩
theorem Ak3{cs:Λ Value}(h:w.cells? 0 a n=some cs):cs.length=n/\∀j,j<n->w.cell? (a.add j)=cs[j]?:=by unfold World.cells? at h;rw[if_pos (Nat.zero_le _)]at h;(have m:∀(L:D4)(cs:Λ Value),L.mapM (λi=>w.cell? (a.add i))=some cs->cs.length=L.length/\∀(i k:Nat),L[i]?=some k->w.cell? (a.add k)=cs[i]?:=by intro L;induction L with|nil=>intro cs h;cases h;exact⟨rfl,λi k h=>by cases h⟩|cons x L ih=>intro cs h;simp only[mapM_cons,Option.pure_def,Option.bind_eq_bind,Option.bind_eq_some_iff]at h;obtain⟨v,l,s,q,u⟩:=h;cases u;obtain⟨y,A⟩:=ih s q;refine⟨by simp[y],λi k r=>?_⟩;cases i with|zero=>cases r;simpa using l|succ i=>simpa using A i k r);obtain⟨l,q⟩:=m _ _ h;rw[length_range]at l;exact⟨l,λj B=>q j j (by simp[B])⟩
theorem A2t(h:a.spot=none)(m:Nat):a.add m=⟨a.block,a.off+m,none⟩:=by unfold Addr.add;split;rename_i e;subst e;cases a;simp_all;rfl
theorem Afg(sz:Nat){f:α->Λ AV}(g:α->AV)(hu:P.underlying t=some (.slice e))(L:P.cellsOf e=sz)(a2:0<sz)(hg:∀a,(g a).cells=f a)(hf:∀a,(f a).length=sz)(ih:Rd enc P w n e f Q):Rd enc P w (n+1) t (λl:List α=>[.sl sz (l.map g)]) (λl b=>∃m,m+1<=b/\QL Q l m):=by
 intro cs d h hb;rcases cs with _|⟨c,_|⟨c',r⟩⟩;simp[DataW.ofBy,hu]at h
 .cases c
  case slice G len a0=>
   cases G with
   |none=>have:d=.nil/\len=0:=(by unfold DataW.ofBy at h;rw[hu]at h;split at h<;>simp_all);obtain⟨rfl,rfl⟩:=this;exact⟨[],Aai (.nil sz _ _) rfl,0,by simp[uptoBulk],trivial⟩
   |some a=>
    have h':(if 0<=a.block/\len<=a0/\a0<=maxLen then
     ((range len).mapM λi=>(w.cells? 0 (a.add (i*P.cellsOf e)) (P.cellsOf e)).bind (DataW.ofBy (keyOf P) enc P w 0 true true n e)).bind λu=>(if true=true then(range (a0-len)).mapM λj=>(w.cells? 0 (a.add ((len+j)*P.cellsOf e)) (P.cellsOf e)).bind (DataW.ofBy (keyOf P) enc P w 0 true true n e)else some []).map λa3=>DataW.slice u a3 else none)=some d:=by unfold DataW.ofBy at h;rw[hu]at h;exact h
    split at h'
    .rename_i T;simp only[Option.bind_eq_some_iff,Option.map_eq_some_iff]at h';obtain⟨u,h1,a3,h2,rfl⟩:=h';rw[L]at h1;simp only[uptoBulk]at hb;obtain⟨l,I,X,l3⟩:=Bj5 (sz:=sz) ih (λi=>w.cells? 0 (a.add (i*sz)) sz) _ _ h1 ω;have Z:=Qd X;rw[length_range]at I;refine⟨l,?_,uptoBulkAll u,by simp only[uptoBulk];omega,X⟩;cases S:l with
     |nil=>rw[S]at I;have:len=0:=I.symm;subst this;exact Aai (.nil sz _ _) rfl
     |cons x l'=>
      rw[<-S];refine Aai ?_ rfl;have F:∀(i:Nat)(y:α),l[i]?=some y->∃cs,w.cells? 0 (a.add (i*sz)) sz=some cs/\CCs (Kl w) (f y) cs:=(by intro i y K;obtain⟨k,cs,g1,g2,g3⟩:=l3 i y K;have hk:k=i:=(by rw[getElem?_range (by have:=(List.getElem?_eq_some_iff.1 K).1;omega)]at g1;exact(Option.some.inj g1).symm);subst hk;exact⟨cs,g2,g3⟩);have B:l[0]?=some x:=(by rw[S];rfl);obtain⟨V,c1,c2⟩:=F 0 x B;have c3:=(Ak3 c1).2 0 a2;have a1:V.length=sz:=(Ak3 c1).1;rw[getElem?_eq_getElem ω]at c3;have s:a.spot=none/\∃C E fr,w.heap[a.block]?=some (.cells C E fr):=by
       have U:(a.add (0*sz)).add 0=a:=(by simp[Addr.add]);rw[U]at c3;unfold World.cell? at c3;split at c3
       .rename_i C E fr J;split at c3
        .cases c3
        .rename_i Y;refine⟨?_,C,E,fr,J⟩;cases M:a.spot with|none=>rfl|some _=>rw[M]at Y;simp at Y
       .cases c3
      obtain⟨s,C,E,fr,J⟩:=s;have A:∀i j:Nat,w.cell? ((a.add (i*sz)).add j)=C[a.off+i*sz+j]?:=(by intro i j;rw[A2t s,A2t rfl];unfold World.cell?;rw[J];rfl);have q:∀(i:Nat)(y:α)(j:Nat)(c:AV),l[i]?=some y->(g y).cells[j]?=some c->∃v,C[a.off+i*sz+j]?=some v/\CC (Kl w) c v/\Em v=true:=(by intro i y j c K T;obtain⟨cs,e1,e2⟩:=F i y K;rw[hg]at T;have hj:=(List.getElem?_eq_some_iff.1 T).1;rw[hf]at hj;have D:j<cs.length:=(by rw[(Ak3 e1).1];exact hj);have:=(Ak3 e1).2 j hj;rw[A,getElem?_eq_getElem D]at this;exact⟨_,this,e2.2 j c _ T (getElem?_eq_getElem D)⟩);have a4:a=⟨a.block,a.off,none⟩:=(by cases a;simp_all);rw[a4];have N:Eh (.cells C E fr)=false:=(by have T:(g x).cells[0]?=some ((g x).cells[0]'(by rw[hg,hf];exact a2)):=getElem?_eq_getElem _;obtain⟨v,z,_,v3⟩:=q 0 x 0 _ B T;exact O9 z (Vf v3));have R:l.length=(l.map g).length:=ψ;rw[<-I,R];refine CC.sl (l.map g) a.block a.off a0 sz C E fr (λi j=>(C[a.off+i*sz+j]?).getD undef) (Aq6 J N) ?_ ?_ ?_ ?_ ζ ζ
      .intro i y K;simp only[getElem?_map,Option.map_eq_some_iff]at K;obtain⟨y,_,rfl⟩:=K;rw[hg,hf]
      .intro i y j c K T;simp only[getElem?_map,Option.map_eq_some_iff]at K;obtain⟨y,K,rfl⟩:=K;obtain⟨v,z,v2,v3⟩:=q i y j c K T;rw[z];exact v2
      .intro i y j c K T;simp only[getElem?_map,Option.map_eq_some_iff]at K;obtain⟨y,K,rfl⟩:=K;obtain⟨v,z,v2,v3⟩:=q i y j c K T;rw[z];exact v3
      .intro i j hi hj;rw[length_map]at hi;have K:l[i]?=some l[i]:=getElem?_eq_getElem hi;have T:(g l[i]).cells[j]?=some ((g l[i]).cells[j]'(by rw[hg,hf];exact hj)):=getElem?_eq_getElem _;obtain⟨v,z,_⟩:=q i _ j _ K T;rw[z];rfl
    .cases h'
  all_goals simp[DataW.ofBy,hu]at h
 simp[DataW.ofBy,hu]at h
def RdL(enc:TypeId×Value->H)(P:Program)(w:World)(n b off:Nat)(fs:Λ (TypeId×Nat×Nat))(f:α->Λ AV)(Q:α->Nat->Prop):Prop:=∀(cs:Λ Value)(h:Λ (DataW H)),cs.length=b->fs.mapM (λx=>DataW.ofBy (keyOf P) enc P w 0 true true n x.1 ((cs.drop x.2.1).take x.2.2))=some h->uptoBulkAll h<=1048576->∃a:α,CCs (Kl w) (f a) (cs.drop off)/\Q a (uptoBulkAll h)
theorem N6(n b:Nat):RdL enc P w n b b [] (λ_:Unit=>[]) (λ_ _=>True):=by intro cs i h _ _;exact⟨(),⟨by simp[h],λj a c h=>by cases h⟩,trivial⟩
theorem H4{c off:Nat}(sz:Nat){fs:Λ (TypeId×Nat×Nat)}{f:α->Λ AV}(u:Rd enc P w n t f Q)(x:RdL enc P w n c (off+sz) fs g R):RdL enc P w n c off ((t,off,sz)::fs) (λp:α×β=>f p.1++g p.2) (λp m=>∃r s,r+s=m/\Q p.1 r/\R p.2 s):=by intro cs F j h y;simp only[mapM_cons,Option.pure_def,Option.bind_eq_bind,Option.bind_eq_some_iff]at h;obtain⟨d,q,i,l,k⟩:=h;cases k;simp only[uptoBulkAll]at y⊢;obtain⟨a,A,B⟩:=u _ d q ω;obtain⟨b,C,E⟩:=x cs i j l ω;refine⟨(a,b),?_,_,_,rfl,B,E⟩;have:=Bj3 A C;rwa [<-drop_drop,take_append_drop]at this
theorem N7{fs:Array Field}{i:Nat}{L:Λ (TypeId×Nat×Nat)}{f:α->Λ AV}(φ:β->α)(r:P.underlying t=some (.struct fs))(l:fs.toList.map (λx=>(x.type,x.offset,P.cellsOf x.type))=L)(ht:P.cellsOf t=i)(j:∀b,f (φ b)=g b)(k:∀b m,R b m->Q (φ b) (m+1))(h:RdL enc P w n i 0 L g R):Rd enc P w (n+1) t f Q:=by intro cs d q s;(have c:(if cs.length=P.cellsOf t then(fs.toList.mapM λx=>DataW.ofBy (keyOf P) enc P w 0 true true n x.type ((cs.drop x.offset).take (P.cellsOf x.type))).map DataW.agg else none)=some d:=by unfold DataW.ofBy at q;rw[r]at q;split at q<;>simp_all);split at c;rename_i u;simp only[Option.map_eq_some_iff]at c;obtain⟨y,A,rfl⟩:=c;simp only[uptoBulk]at s;obtain⟨b,B,C⟩:=h cs y (u.trans ht) (by rw[<-l,mapM_map];exact A) ω;refine⟨φ b,?_,k b _ C⟩;rw[j];simpa using B;cases c
end
end Go.Ab
namespace Go.Ab
open Go Go.Proofs Go.Proofs.Tryz
open Go.Proofs.YthfkffcjnfocdaaGreatDoor.Rows (uptoBulk uptoBulkAll)
section
variable{H:Type}{enc:TypeId×Value->H}{w:World}
variable{n:Nat}{α:Type}{Q:α->Nat->Prop}
theorem A2u{a:Int}(h:IntKind.i64.min<=a/\a<=IntKind.i64.max):Es a:=by have c:IntKind.i64.min = -9223372036854775808:=δ;have b:IntKind.i64.max=9223372036854775807:=δ;rw[c,b]at h;exact h
theorem Aq8:∀{l:Au}{m:Nat},QL (λa b=>Bz a<=b) l m->Dx l<=m
 |[],_,_=>Nat.zero_le _
 |_::l,_,⟨i,j,k,q,r,h⟩=>by have:=Aq8 h;simp only[Dx];omega
theorem A2v:∀{l:A9}{m:Nat},QL (λa b=>C9 a<=b) l m->Ef l<=m
 |[],_,_=>Nat.zero_le _
 |_::l,_,⟨i,j,k,q,r,h⟩=>by have:=A2v h;simp only[Ef];omega
theorem A2w:∀{l:A0}{m:Nat},QL (λa b=>Bt a<=b/\iR a) l m->B7 l<=m/\E5 l
 |[],_,_=>⟨Nat.zero_le _,trivial⟩
 |_::l,_,⟨j,k,q,r,h,i⟩=>by have:=A2w i;simp only[B7,E5];exact⟨ω,h.2,this.2⟩
theorem A2x(h:Rd enc prog w n 23 (λl:List Ad=>[.sl 3 (l.map Ec)]) (λl b=>∃m,m+1<=b/\QL (λa b=>Bz a<=b) l m)):Rd enc prog w (n+1) 25 (λa:Ad=>(Ec a).cells) (λa b=>Bz a<=b):=by refine N7 (λp:Int×Int×List Ad×Unit=>⟨p.1,p.2.1,p.2.2.1⟩) underlying25 κ κ (λb=>?_) ?_ (H4 1 (My .i64 n underlying3) (H4 1 (My .i64 n underlying3) (H4 1 h (N6 n 3))));simp[Ec,AV.cells,Mq];rintro⟨a,b,l,_⟩ m ⟨j,q,rfl,_,r,s,rfl,_,u,x,rfl,⟨k,y,i⟩,_⟩;have:=Aq8 i;simp only[Bz]at *;omega
theorem Aq9:∀n:Nat,Rd enc prog w n 25 (λa:Ad=>(Ec a).cells) (λa b=>Bz a<=b)
 |0=>Lk _ _ _
 |1=>A2x (Lk _ _ _)
 |n+2=>A2x (Afg 3 Ec underlying23 κ δ (λ_=>rfl) (λ_=>rfl) (Aq9 n))
theorem A2y(n:Nat):Rd enc prog w n 23 (λl:List Ad=>[.sl 3 (l.map Ec)]) (λl b=>∃m,m+1<=b/\QL (λa b=>Bz a<=b) l m):=by cases n with|zero=>exact Lk _ _ _|succ n=>exact Afg 3 Ec underlying23 κ δ (λ_=>rfl) (λ_=>rfl) (Aq9 n)
theorem A2z(h:Rd enc prog w n 30 (λl:List A3=>[.sl 3 (l.map G6)]) (λl b=>∃m,m+1<=b/\QL (λa b=>C9 a<=b) l m)):Rd enc prog w (n+1) 32 (λa:A3=>(G6 a).cells) (λa b=>C9 a<=b):=by refine N7 (λp:Int×Int×List A3×Unit=>⟨p.1,p.2.1,p.2.2.1⟩) underlying32 κ κ (λb=>?_) ?_ (H4 1 (My .i64 n underlying3) (H4 1 (My .i64 n underlying2) (H4 1 h (N6 n 3))));simp[G6,AV.cells,Ko];rintro⟨a,b,l,_⟩ m ⟨j,q,rfl,_,r,s,rfl,_,u,x,rfl,⟨k,y,i⟩,_⟩;have:=A2v i;simp only[C9]at *;omega
theorem Ara:∀n:Nat,Rd enc prog w n 32 (λa:A3=>(G6 a).cells) (λa b=>C9 a<=b)
 |0=>Lk _ _ _
 |1=>A2z (Lk _ _ _)
 |n+2=>A2z (Afg 3 G6 underlying30 κ δ (λ_=>rfl) (λ_=>rfl) (Ara n))
theorem A20(h:Rd enc prog w n 89 (λl:List Ag=>[.sl 2 (l.map Eb)]) (λl b=>∃m,m+1<=b/\QL (λa b=>Bt a<=b/\iR a) l m)):Rd enc prog w (n+1) 91 (λa:Ag=>(Eb a).cells) (λa b=>Bt a<=b/\iR a):=by refine N7 (λp:Int×List Ag×Unit=>⟨p.1,p.2.1⟩) underlying91 κ κ (λb=>?_) ?_ (H4 1 (My .i64 n underlying3) (H4 1 h (N6 n 2)));simp[Eb,AV.cells,Is];rintro⟨a,l,_⟩ m ⟨q,r,rfl,i,s,u,rfl,⟨k,x,j⟩,_⟩;have:=A2w j;have i:=A2u i;simp only[Bt,iR]at *;exact⟨ω,i,this.2⟩
theorem A21:∀n:Nat,Rd enc prog w n 91 (λa:Ag=>(Eb a).cells) (λa b=>Bt a<=b/\iR a)
 |0=>Lk _ _ _
 |1=>A20 (Lk _ _ _)
 |n+2=>A20 (Afg 2 Eb underlying89 κ δ (λ_=>rfl) (λ_=>rfl) (A21 n))
theorem Tf{t e:TypeId}(sz:Nat){f:α->Λ AV}(g:α->AV)(i:prog.underlying t=some (.slice e))(c:prog.cellsOf e=sz)(h:0<sz)(hg:∀a,(g a).cells=f a)(j:∀a,(f a).length=sz)(ih:∀n,Rd enc prog w n e f Q)(n:Nat):Rd enc prog w n t (λl:List α=>[.sl sz (l.map g)]) (λl b=>∃m,m+1<=b/\QL Q l m):=by cases n with|zero=>exact Lk _ _ _|succ n=>exact Afg sz g i c h hg j (ih n)
theorem Bj6(n:Nat):Rd enc prog w n 67 (λa:Q8=>(Ac5 a).cells) (λa b=>a.S.size<=b/\Dx a.R<=b):=by cases n with|zero=>exact Lk _ _ _|succ n=>refine N7 (λp:Β×List Ad×Unit=>⟨p.1,p.2.1⟩) underlying67 κ κ (λb=>?_) ?_ (H4 1 (A2s n underlying9) (H4 1 (A2y n) (N6 n 2)));simp[Ac5,AV.cells,Mq];rintro⟨a,l,_⟩ m ⟨i,j,rfl,q,r,s,rfl,⟨k,u,h⟩,_⟩;have:=Aq8 h;simp only at *;exact⟨ω,ω⟩
theorem Bj7(n:Nat):Rd enc prog w n 63 (λa:Ai=>(B0 a).cells) (λa b=>a.S.size<=b/\a.O.length<=b/\∀y∈a.O,y.S.size<=b/\Dx y.R<=b):=by cases n with|zero=>exact Lk _ _ _|succ n=>refine N7 (λp:Β×Int×List Q8×Unit=>⟨p.1,p.2.1,p.2.2.1⟩) underlying63 κ κ (λb=>?_) ?_ (H4 1 (A2s n underlying9) (H4 1 (My .i64 n underlying3) (H4 1 (Tf 2 Ac5 underlying61 κ δ (λ_=>rfl) (λ_=>rfl) Bj6 n) (N6 n 3))));simp[B0,AV.cells];rintro⟨a,b,l,_⟩ m ⟨q,r,rfl,s,u,x,rfl,_,A,B,rfl,⟨k,C,h⟩,_⟩;have E:=Qd h;have i:=Te h;simp only at *;refine⟨ω,ω,λy j=>?_⟩;obtain⟨c,F,G,I⟩:=i y j;exact⟨ω,ω⟩
theorem Bj8(n:Nat):Rd enc prog w n 27 (λa:Bx=>(Pu a).cells) (λa b=>b<=1048576->CSz a):=by cases n with|zero=>exact Lk _ _ _|succ n=>refine N7 (λp:List Ai×List Ad×Ad×Unit=>⟨p.1,p.2.1,p.2.2.1⟩) underlying27 κ κ (λb=>?_) ?_ (H4 1 (Tf 3 B0 underlying22 κ δ (λ_=>rfl) (λ_=>rfl) Bj7 n) (H4 1 (A2y n) (H4 3 (Aq9 n) (N6 n 5))));simp[Pu,Ec,AV.cells,Mq];rintro⟨a,b,l,_⟩ m ⟨G,I,rfl,⟨k,J,B⟩,K,L,rfl,⟨g,f,i⟩,M,N,rfl,h,_⟩ S;have T:=Qd B;have r:=Te B;have U:=Qd i;have E:=Te i;simp only at *;refine⟨⟨by dsimp only;omega,λx j=>?_,λx j=>?_,λx j y s=>?_⟩,by dsimp only;omega,λt F=>?_,by dsimp only;omega⟩;obtain⟨c,u,A,C,q⟩:=r x j;refine⟨ω,λy s=>?_⟩;have:=(q y s).2;omega;obtain⟨c,u,A,C,q⟩:=r x j;omega;obtain⟨c,u,A,C,q⟩:=r x j;have:=(q y s).1;omega;obtain⟨c,u,A⟩:=E t F;omega
theorem Bj9(P:α->Prop)(h:∀a b,Q a b->P a){l:Λ α}{m:Nat}(i:QL Q l m):∀a∈l,P a:=λa j=>by obtain⟨c,_,g⟩:=Te i a j;exact h a c g
theorem A22(n:Nat):Rd enc prog w n 43 (λl:List Int=>[.sl 1 (l.map fo)]) (λl b=>l.length<=b/\Sj l):=by intro cs d h j;obtain⟨a,k,m,r,i⟩:=Tf (Q:=λa _=>IntKind.u32.min<=a/\a<=IntKind.u32.max) 1 fo underlying43 κ δ (λ_=>rfl) (λ_=>rfl) (λn=>My .u32 n underlying147) n cs d h j;refine⟨a,k,by have:=Qd i;omega,λx q=>?_⟩;have:=Bj9 (λx=>IntKind.u32.min<=x/\x<=IntKind.u32.max) (λ_ _ h=>h) i x q;have f:IntKind.u32.min=0:=δ;have c:IntKind.u32.max=4294967295:=δ;rw[f,c]at this;omega
theorem Bka(n:Nat):Rd enc prog w n 45 (λa:Ar=>(Dm a).cells) (λa b=>RB b a):=by cases n with|zero=>exact Lk _ _ _|succ n=>refine N7 (λp:Bool×List Int×List Int×Unit=>⟨p.1,p.2.1,p.2.2.1⟩) underlying45 κ κ (λb=>?_) ?_ (H4 1 (Bj4 n underlying4) (H4 1 (A22 n) (H4 1 (A22 n) (N6 n 3))));simp[Dm,AV.cells];rintro⟨a,b,l,_⟩ m ⟨j,k,rfl,_,q,r,rfl,h,s,u,rfl,i,_⟩;simp only at *;exact⟨h.2,i.2,by dsimp only;omega,by dsimp only;omega⟩
theorem Bkb(n:Nat):Rd enc prog w n 93 (λa:A8=>(Gq a).cells) (λa b=>Bt a.I<=b/\iR a.I/\Es a.v):=by cases n with|zero=>exact Lk _ _ _|succ n=>refine N7 (λp:Int×Ag×Unit=>⟨p.1,p.2.1⟩) underlying93 κ κ (λb=>?_) ?_ (H4 1 (My .i64 n underlying3) (H4 2 (A21 n) (N6 n 3)));simp[Gq,Eb,AV.cells];rintro⟨a,b,_⟩ m ⟨j,k,rfl,h,l,q,rfl,i,_⟩;have h:=A2u h;simp only at *;exact⟨ω,i.2,h⟩
theorem Bkc(n:Nat):Rd enc prog w n 99 (λa:Fm=>(K9 a).cells) (λ_ _=>True):=by cases n with|zero=>exact Lk _ _ _|succ n=>refine N7 (λp:Int×Int×Unit=>⟨p.1,p.2.1⟩) underlying99 κ κ (λb=>?_) (λ_ _ _=>trivial) (H4 1 (My .i64 n underlying3) (H4 1 (My .i64 n underlying2) (N6 n 2)));simp[K9,AV.cells]
theorem Bkd(n:Nat):Rd enc prog w n 77 (λa:Cg=>(Pv a).cells) (λa b=>a.T.length<=b):=by cases n with|zero=>exact Lk _ _ _|succ n=>refine N7 (λp:Int×List Fm×Unit=>⟨p.1,p.2.1⟩) underlying77 κ κ (λb=>?_) ?_ (H4 1 (My .i64 n underlying2) (H4 1 (Tf 2 K9 underlying75 κ δ (λ_=>rfl) (λ_=>rfl) Bkc n) (N6 n 2)));simp[Pv,AV.cells];rintro⟨a,l,_⟩ m ⟨i,j,rfl,q,r,s,rfl,⟨k,u,h⟩,_⟩;have:=Qd h;simp only at *;omega
theorem Bke(n:Nat):Rd enc prog w n 29 (λl:List Int=>[.sl 1 (l.map eo)]) (λ_ _=>True):=by intro cs d h i;obtain⟨a,j,_⟩:=Tf (Q:=λa _=>IntKind.i64.min<=a/\a<=IntKind.i64.max) 1 eo underlying29 κ δ (λ_=>rfl) (λ_=>rfl) (λn=>My .i64 n underlying3) n cs d h i;exact⟨a,j,trivial⟩
theorem Bkf(n:Nat):Rd enc prog w n 97 (λa:Bh=>(Gt a).cells) (λa b=>a.L.T.length<=b):=by cases n with|zero=>exact Lk _ _ _|succ n=>refine N7 (λp:Cg×Int×Unit=>⟨p.1,p.2.1⟩) underlying97 κ κ (λb=>?_) ?_ (H4 2 (Bkd n) (H4 1 (My .i64 n underlying3) (N6 n 3)));simp[Gt,Pv,AV.cells];rintro⟨a,l,_⟩ m ⟨h,i,rfl,j,k,q,rfl,_,_⟩;simp only at *;omega
theorem Bkg(n:Nat):Rd enc prog w n 81 (λa:A4=>(G3 a).cells) (λa b=>b<=1048576->MSz a):=by cases n with|zero=>exact Lk _ _ _|succ n=>refine N7 (λp:List A8×List Bh×Unit=>⟨p.1,p.2.1⟩) underlying81 κ κ (λb=>?_) ?_ (H4 1 (Tf 3 Gq underlying78 κ δ (λ_=>rfl) (λ_=>rfl) Bkb n) (H4 1 (Tf 3 Gt underlying79 κ δ (λ_=>rfl) (λ_=>rfl) Bkf n) (N6 n 2)));simp[G3,AV.cells];rintro⟨a,l,_⟩ m ⟨C,E,rfl,⟨h,g,i⟩,F,G,rfl,⟨k,I,q⟩,_⟩ J;have K:=Qd q;have A:=Te q;have L:=Qd i;have r:=Te i;simp only at *;refine⟨by dsimp only;omega,by dsimp only;omega,λf j=>?_,λf j=>?_,λx B=>?_⟩;obtain⟨c,s,u,y⟩:=r f j;omega;obtain⟨c,s,u,y⟩:=r f j;exact y;obtain⟨c,s,u⟩:=A x B;omega
theorem Bkh(n:Nat):Rd enc prog w n 83 (λa:Aj=>(Dy a).cells) (λa b=>b<=1048576->TSz a):=by cases n with|zero=>exact Lk _ _ _|succ n=>refine N7 (λp:Ar×A4×Unit=>⟨p.1,p.2.1⟩) underlying83 κ κ (λb=>?_) ?_ (H4 3 (Bka n) (H4 2 (Bkg n) (N6 n 5)));simp[Dy,Dm,G3,AV.cells];rintro⟨a,l,_⟩ m ⟨j,k,rfl,h,q,r,rfl,i,_⟩ s;simp only at *;exact⟨RB.mono h ω,i ω⟩
theorem Bki(n:Nat):Rd enc prog w n 28 (λl:List Aj=>[.sl 5 (l.map Dy)]) (λl b=>b<=1048576->l.length<=1048576/\∀t∈l,TSz t):=by intro cs d h j;obtain⟨a,k,m,s,i⟩:=Tf (Q:=λa b=>b<=1048576->TSz a) 5 Dy underlying28 κ δ (λ_=>rfl) (λ_=>rfl) Bkh n cs d h j;refine⟨a,k,λu=>⟨by have:=Qd i;omega,λx q=>?_⟩⟩;obtain⟨c,y,r⟩:=Te i x q;exact r ω
theorem Bkj(n:Nat):Rd enc prog w n 30 (λl:List A3=>[.sl 3 (Hi l)]) (λl b=>l.length<=b/\∀v∈l,C9 v<=b):=by intro cs d h j;obtain⟨a,k,m,r,i⟩:=Tf (Q:=λa b=>C9 a<=b) 3 G6 underlying30 κ δ (λ_=>rfl) (λ_=>rfl) Ara n cs d h j;refine⟨a,?_,by have:=Qd i;omega,λx q=>?_⟩;show CCs _ [AV.sl 3 (Hi a)] cs;rw[Ko];exact k;obtain⟨c,s,u⟩:=Te i x q;omega
end
end Go.Ab
namespace Go.Ab
open Go Go.Proofs Go.ChangeShapes Go.WideShapes Go.ChangeAt Go.RowKit Go.Proofs.Tryz
open Go.Proofs.YthfkffcjnfocdaaGreatDoor.Rows (uptoBulk uptoBulkAll uptoSmall)
set_option maxRecDepth 100000
variable{σ:Aw}{W:World}
theorem A23{P:Program}{x:String×DataW Unit}{l:Λ (String×DataW Unit)}(h:laidMet P (x::l) W):laidMet P l W:=by obtain⟨y,⟨s,t',cs,fuel,p,q,k,g,f,A,i,c⟩,j,r⟩:=h;subst c;refine⟨q,i,(nodup_append.1 j).2.1,λb m u=>r b m ?_⟩;simp[u]
theorem Bkk(h:laidMetH prog YthfkffcjnfocdaaGreatDoor.Rows.polyUnfoldedRow.laid W):N8 (Kl W):=by have j:laidMet prog [("internal/strconv.uint64pow10",YthfkffcjnfocdaaGreatDoor.Rows.laid_internal_strconv_uint64pow10)] W:=A23 (A23 h);have i:Lib.TabIs prog W "internal/strconv.uint64pow10" .u64 Lib.pow10Tab:=Lib.tabIs_of_head (g:=0) (rest:=[]) κ κ underlying413 underlying146 κ κ j;have g:prog.globalNamed "internal/strconv.uint64pow10" = some 0:=κ;unfold Lib.TabIs World.var? at i;rw[g]at i;simp only[Option.bind_some]at i;split at i;rename_i cs E k l;cases i;exact⟨E,k,Aq6 l κ⟩;cases i
theorem Amp(g:N8 (Kl W)):St (Kl W) ι0 H0 (Jb (Kl W) W) W W:=by refine⟨λb o e=>.of_hard (Aq7 e).1 (Aq7 e).2,λf o h=>?_,λ_=>rfl,(λ_ _ _ c=>by cases c),rfl,rfl,rfl,g,Nat.le_refl _⟩;unfold Jb at h;cases e:Kl W f with|none=>rw[e]at h;exact⟨h,rfl⟩|some _=>rw[e]at h;cases h
theorem Bkl{k:World}(f:St σ ι0 H0 (Jb (Kl W) W) W k)(g:(Kl W).le σ)(b:Nat)(o:Obj)(h:W.heap[b]?=some o):k.heap[b]?=some o:=by cases c:Eh o with|false=>exact(f.sto b o (g b o (Aq6 h c))).hard c|true=>refine(f.fra b o ?_).1;unfold Jb;cases e:Kl W b with|none=>exact h|some l=>obtain⟨j,i⟩:=Aq7 e;rw[h]at i;cases i;rw[c]at j;cases j
theorem Bkm{xs:Λ AV}{cs:Array Value}(h:CCs σ xs cs.toList):CC σ (.agg xs) (.agg cs) :=
 .agg xs cs (by simpa using h.1) (λi c v j k=>(h.2 i c v j (by simpa using k)).1)
section
variable{H:Type}{enc:TypeId×Value->H}{W:World}{G:Nat}{t:TypeId}{v:Value}{d:DataW H}{p:Λ MemPlace}
variable{α:Type}{Q:α->Nat->Prop}
theorem A24{g:α->Λ AV}{fs:Array Field}(h:prog.underlying t=some (.struct fs))(b:Value.okWide prog W .any G t v)(i:DataW.Trod enc prog W 0 (λ_=>true) true t v d p)(hb:uptoBulk d<=1048576)(rd:∀n,Rd enc prog W n t g Q):∃a,CC (Kl W) (.agg (g a)) v/\Q a (uptoBulk d):=by unfold Value.okWide at b;rw[h]at b;obtain⟨cs,rfl,_⟩:=b;obtain⟨n,c⟩:=i.by;obtain⟨a,j,k⟩:=rd n _ d c hb;exact⟨a,Bkm j,k⟩
theorem Afh{g:α->AV}(i:v.cells=#[v])(j:DataW.Trod enc prog W 0 (λ_=>true) true t v d p)(hb:uptoBulk d<=1048576)(rd:∀n,Rd enc prog W n t (λa=>[g a]) Q):∃a,CC (Kl W) (g a) v/\Q a (uptoBulk d):=by obtain⟨n,b⟩:=j.by;obtain⟨a,h,k⟩:=rd n _ d b hb;rw[i]at h;exact⟨a,(h.2 0 _ _ rfl rfl).1,k⟩
theorem Arb{e:TypeId}(h:prog.underlying t=some (.slice e))(b:Value.okWide prog W .any G t v):v.cells=#[v]:=by unfold Value.okWide at b;rw[h]at b;cases v with|agg cs=>simp only[Cell.okWide,Cell.ok,h]at b|_=>rfl
theorem A25{k:IntKind}(h:prog.underlying t=some (.int k))(b:Value.okWide prog W .any G t v):v.cells=#[v]:=by unfold Value.okWide at b;rw[h]at b;cases v with|agg cs=>simp only[Cell.okWide,Cell.ok,h]at b|_=>rfl
end
section
variable{H:Type}{enc:TypeId×Value->H}{P:Program}
theorem A26(c:laidOutB P=true){w w':World}{sp:Nat->Bool}:∀{ts:Λ TypeId}{vs:Λ Value}{f:Λ (DataW H)}{ps:Λ MemPlace}, (ts.all λt=>P.readableRec t&&decide (t<P.types.size))=true->DataW.TrodAll enc P w 0 (λ_=>true) true ts vs f ps->(∀p∈ps,w.sameAt w' p)->(∀p∈ps,sp p.block=true)->DataW.TrodAll enc P w' 0 sp true ts vs f ps
 |[],[],[],_,_,h,_,_=>h
 |t::ts,_::_,_::_,_,b,⟨p,q,h,g,e⟩,j,hp=>by subst e;simp only[all_cons,Bool.and_eq_true,decide_eq_true_eq]at b;exact⟨p,q,WideElems.Trod_stays c b.1.1 b.1.2 h (λx i=>j x (by simp[i])) λx i=>hp x (by simp[i]),A26 c b.2 g (λx i=>j x (by simp[i])) λx i=>hp x (by simp[i]),rfl⟩
theorem Bkn(R:laidOutB P=true){f:Func}{s:ChangeSpec}{g:Bool}{W l:World}{args:Array Value}{k:Λ (DataW H)}{j:Λ MemPlace}{t:TypeId}(r:s.vars=[])(G:DataW.Whole enc P f.params.toList s.vars false W args.toList k [] j)(N:(f.params.toList.all λt=>P.readableRec t&&decide (t<P.types.size))=true)(E:(s.fn H k).results=[.lit (.bool true)]/\(s.fn H k).args=k/\(s.fn H k).vars=[])(B:f.resultTypes=#[t])(ht:P.underlying t=some .bool)(z:∀(b:Nat)(o:Obj),W.heap[b]?=some o->l.heap[b]?=some o)(D:l.os=W.os)(u:l.output=W.output):s.post enc P f false true g false W args (.bool true) l:=by have A:=G;obtain⟨p,q,U,I,rfl,S,_⟩:=G;rw[r]at I;obtain rfl:q=[]:=I;have y:=A.lt;rw[append_nil]at *;(have c:∀b,b<W.heap.size->l.heap[b]?=W.heap[b]?:=λb C=>by rw[Array.getElem?_eq_getElem C];exact z b _ (Array.getElem?_eq_getElem C));(have same:∀x∈p,W.sameAt l x:=by intro x m;have:=c x.block (y x m);cases x with|cell b o=>exact World.cell?_of_block (w:=W) this|map b=>exact this);obtain⟨M,L,J⟩:=E;refine⟨k,[],p,[],p,[],A,?_,?_,?_,⟨D,u,λi F=>?_⟩,λh=>by cases h⟩;rw[append_nil,M,B];exact trodAll_mk1 (shut_bool ht _);rw[append_nil,L];exact A26 R N U same (λx m=>by simpa using y x m);rw[append_nil,J,r];rfl;rw[c i F];split<;>simp_all
end
end Go.Ab
