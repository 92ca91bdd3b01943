/- Plain laws. -/
import Derived.Test.YtnjbofimdneilaaGreatDoorWkPl2
open List
namespace Go.Ab
open Go
variable{x:A9}{t u:Af}{a:Ao}{m:Ax}{P:Ax->Prop}{i v:Int}{L p q:Ad}{b l:Ag}{N j k n:Nat}{R α:Type}{r:R}{g:α->Ag}{cmp:α->α->A4}
theorem Air{S E:Type}{step:S->Ο (S⊕E)}{s0:S}{J:E->Ο R}(x0:α)(xs:Λ α)(b:Nat->S)(h0:s0=b 0)(f:xs.length<2305843009213693952)(c:∀(j:Nat)(x:α),xs[j]?=some x->decide (((j+1:Nat):Int)<((x0::xs).length:Int))=true->Ae (x0::xs) ((j+1:Nat):Int)=some x->Ac (((j+1:Nat):Int)+1)=((j+1+1:Nat):Int)->step (b j)=some (.inl (b (j+1))))(h:decide (((xs.length+1:Nat):Int)<((x0::xs).length:Int))=false->∃e,step (b xs.length)=some (.inr e)/\J e=some r):(Ap step s0).bind J=some r:=by refine Jx xs.length b h0 (λj o=>?_) (h ψ);have s:xs[j]?=some xs[j]:=Bk o;exact c j _ s (Al (by simp only[Fg];omega)) (Bu rfl ψ) (Dh (n:=xs.length+1) ω ω)
theorem Cp{β:Type}{X:Ο α}{a:α}{K:α->Ο β}{r:Ο β}(h:X=some a)(k:K a=r):X.bind K=r:=by rw[h];exact k
theorem Pq(c:By l)(h:b.length+l.length<=140737488355328):H7 (bs l) b=some ((l.length:Int),b++l):=by simp only[H7,Zv,Aa,Aw0 c,Aed];rw[Dd ω];rfl
theorem W4(c:By l)(h:b.length+l.length<=140737488355328):Kz (bs l) b=some ((l.length:Int),b++l):=by simp only[Kz,Acv,Aa,Aw0 c,Aed];rw[Dd ω];rfl
theorem Uc(hb:By b):Nj b=some (bs b):=by exact Ar hb
theorem A99(hb:By b):Adl b=some (bs b):=Uc hb
theorem Aoc(n:Int)(h : -1048576<=n/\n<=1048576):(Lm n).length<=22:=by unfold Lm;split;simp;have:=Pk (n:=(n.natAbs:Int)) (by unfold I64;omega);simp;omega
theorem Ais(n:Int)(f:Bool):(Kc n f).length<=3:=by unfold Kc;split<;>split<;>simp
theorem Baa(h : -1<=v/\v<3000):(Kp v).length<=22:=by unfold Kp;split;simp;have:=Pk (n:=v) (by unfold I64;omega);simp;omega
structure Aw1(a:Ao):Prop where
 c : -1048576<=a.Q/\a.Q<=1048576
 n:a.T.length<=16
 t:∀t∈a.T,(-1<=t.v/\t.v<3000)/\(-1048576<=t.C/\t.C<=1048576)
theorem Aod(h:Cd a=true):Aw1 a:=by unfold Cd at h;simp only[Dp,Ed]at h;refine⟨⟨h.1.1,h.1.2.1⟩,h.1.2.2,λt e=>?_⟩;obtain⟨j,o⟩:=Ff e;have:=Jy h.2 o;simp only[On,Dp,Ed]at this;omega
theorem Aoe{t:Bh}(f:Bool)(h:(-1<=t.v/\t.v<3000)/\(-1048576<=t.C/\t.C<=1048576)):(tT f t).length<=47:=by have:=Ais t.C f;have:=Aoc t.C h.2;have:=Baa h.1;unfold tT;simp only[E5];omega
theorem Aw2{n:Int}(h : -1048576<=n/\n<=1048576):(if Ac (0-n)>n then Ac (0-n)else n)=(n.natAbs:Int):=by rw[Ac,Bn ω ω];split<;>omega
theorem c45:ByteArray.mk #[45]=bs [45]:=rfl
theorem Bab:ByteArray.mk #[32,45,32]=bs [32,45,32]:=rfl
theorem Bac:ByteArray.mk #[32,43,32]=bs [32,43,32]:=rfl
theorem c42:ByteArray.mk #[42]=bs [42]:=rfl
theorem Aw3:ByteArray.mk #[118]=bs [118]:=rfl
theorem c97:ByteArray.mk #[97]=bs [97]:=rfl
theorem c58:ByteArray.mk #[58]=bs [58]:=rfl
theorem Aw4:ByteArray.mk #[114,101,115]=bs [114,101,115]:=rfl
theorem Aw5:By [45]:=By.cons ω By.nil
theorem by3(a b c:Int)(e:0<=a/\a<256)(hb:0<=b/\b<256)(h:0<=c/\c<256):By [a,b,c]:=By.cons e (By.cons hb (By.cons h By.nil))
theorem Aw6{n:Int}(f:Bool)(e : -1048576<=n/\n<=1048576)(hb:b.length<=1099511627776):Adk n f b=some ((n.natAbs:Int),b++Kc n f):=by unfold Adk Kc;rw[Aw2 e,c45,Bab,Bac];rw[Pq Aw5 ζ,Pq (by3 _ _ _ ω ω ω) ζ,Pq (by3 _ _ _ ω ω ω) ζ];by_cases h:n<0;rw[Al h,Ar h,Ar h];cases f<;>rfl;rw[An h,Au h,Au h];cases f<;>simp
theorem Bad{n:Int}(e : -1048576<=n/\n<=1048576)(hb:b.length<=1099511627776):Vx n true b=some (if n<0 then .inl ((n.natAbs:Int),b++[45])else .inr ((n.natAbs:Int),b)):=by unfold Vx;rw[Aw2 e,c45,W4 Aw5 ζ];by_cases h:n<0;rw[Al h,Ar h];rfl;rw[An h,Au h];rfl
theorem Aof(h:n<=1048576):Pg (n:Int) 10=some (bs (ti n)):=by unfold Pg Af8;exact Aiq (by unfold I64;omega)
theorem Ait(h:n<=1048576):(ti (n:Int)).length<=21:=Pk (by unfold I64;omega)
theorem Aw7{n:Int}(e : -1048576<=n/\n<=1048576)(hb:b.length<=1099511627776):(bif((n.natAbs:Int) != (1:Int))then(Pg (n.natAbs:Int) 10).bind λv=>(Gw v (ByteArray.mk #[42])).bind λu=>(H7 u b).bind λw=>some w.2 else some b)=some (b++Lm n):=by have o:=Ait (n:=n.natAbs) ω;unfold Lm;by_cases h:n.natAbs=1;rw[Dm ω,Ar h];simp;rw[Dy ω,Au h,Aof ω,c42];simp only[Aj,Aa];rw[W3 ζ,Aa,Pq ((By.ti _).app (By.cons ω By.nil)) ζ];rfl
theorem Aog(K:Ag->Ο R)(c : -1<=v/\v<3000)(hb:b.length<=1099511627776):(bif(v==(-1))then(H7 (ByteArray.mk #[114,101,115]) b).bind λw=>K w.2 else(J4 v).bind λx=>(Gw (ByteArray.mk #[118]) x).bind λy=>(H7 y b).bind λw=>K w.2)=K (b++Kp v):=by have e:=Pk (n:=v) (by unfold I64;omega);unfold Kp;by_cases h:v = -1;rw[Eg h,Ar h,Aw4,Pq (by3 _ _ _ ω ω ω) ζ];rfl;rw[Ch h,Au h,Aw3];simp only[Ai,J4];rw[Aiq (by unfold I64;omega),Aa,W3 ζ,Aa];rw[show[118]++ti v=118::ti v from rfl,Pq (By.cons ω (By.ti _)) ζ];rfl
theorem Aiu{l:Λ α}{x:α}(h:l[j]?=some x):(l.take (j+1)).flatMap g=(l.take j).flatMap g++g x:=by rw[C4 h];simp
theorem Aw8{α:Type}{g:α->Ag}{n:Nat}:∀(l:Λ α),(∀a∈l,(g a).length<=n)->(l.flatMap g).length<=l.length*n
 |[],_=>ψ
 |a::l,h=>by have o:=h a ψ;have s:=Aw8 l λb e=>h b (by simp[e]);simp only[flatMap_cons,E5,Fg,Nat.add_mul];omega
theorem Aoh(l:Λ α)(j:Nat)(h:∀a∈l,(g a).length<=n):((l.take j).flatMap g).length<=l.length*n:=by refine Nat.le_trans (Aw8 _ λa e=>h a (mem_of_mem_take e)) (Nat.mul_le_mul_right _ ?_);rw[length_take];omega
theorem Aw9:∀(ts:A7)(c:Int),Ji false ts c=ts.flatMap (tT false)++Ji false [] c
 |[],c=>ψ
 |t::ts,c=>by have:=Aw9 ts c;simp only[flatMap_cons,append_assoc,<-this];rfl
theorem Bae(h:Cd a=true)(B:a.T≠[]):Rm a=some (bs (Aeb a)):=by have z:=Aod h;unfold Rm;rw[Mr,h];obtain⟨c,l⟩:=a;cases l with|nil=>exact(B rfl).elim|cons t ts=>have H : -1048576<=c/\c<=1048576:=z.c;have S:ts.length<=15:=(by have:=z.n;simp at this;omega);have w:(-1<=t.v/\t.v<3000)/\(-1048576<=t.C/\t.C<=1048576):=z.t t ψ;have s:∀u∈ts,(-1<=u.v/\u.v<3000)/\(-1048576<=u.C/\u.C<=1048576):=λu C=>z.t u (by simp[C]);have x:=λj=>Aoh (g:=tT false) (n:=47) ts j λu C=>Aoe false (s u C);have J:=Aoe true w;simp only[Aa,Dj,Ai];rw[Al (by simp only[Fg];omega),Aj];refine Cp (a:=((t.C.natAbs:Int),tT true t)) ?_ ?_;rw[show Ae (t::ts) 0=some t from rfl,Aa,Bad w.2 ψ,Aa];have G:=Pk (n:=t.v) (by unfold I64;omega);have I:=Ait (n:=t.C.natAbs) ω;have D:=Aoc t.C w.2;by_cases q:t.C<0;rw[Ar q];simp only;rw[Aw7 w.2 ψ,Aa];refine(Aog (λb=>some ((t.C.natAbs:Int),b)) w.1 ζ).trans ?_;simp[tT,Kc,q];rw[Au q];simp only;by_cases o:t.C.natAbs=1;rw[Dm ω];simp only[Ai];by_cases y:t.v = -1;rw[Eg y,Aw4,Aj,W4 (by3 _ _ _ ω ω ω) ψ];simp[tT,Kc,q,Lm,o,Kp,y];rw[Ch y,Ai,Aw3,J4,Aiq (by unfold I64;omega),Aa,W3 ζ,Aa,show[118]++ti t.v=118::ti t.v from rfl, W4 (By.cons ω (By.ti _)) ζ];simp[tT,Kc,q,Lm,o,Kp,y];rw[Dy ω];simp only[Aj];rw[Aof ω,Aa,c42,W3 ζ,Aa,W4 ((By.ti _).app (By.cons ω By.nil)) ζ,Aa];refine(Aog (λb=>some ((t.C.natAbs:Int),b)) w.1 ζ).trans ?_;simp[tT,Kc,q,Lm,o];simp only;refine Air t ts (λj=>(((j+1:Nat):Int),tT true t++(ts.take j).flatMap (tT false))) (by simp[Ac,Bn]) ω ?_ ?_;intro j u C o F Q;have f:=s u (B2 C);have:=x j;have D:=Aoc u.C f.2;have A:=Ais u.C false;simp only[o,F,Q,Aj,Aa];rw[Ch ω,Aw6 false f.2 (by simp only[E5];omega),Aa,Aw7 f.2 (by simp only[E5];omega),Aa];refine(Aog (R:=(Int×List Int)⊕List Int) (λb=>some (.inl (((j+1+1:Nat):Int),b))) f.1 (by simp only[E5];omega)).trans ?_;rw[Aiu C];simp[tT];intro o;have F:=x ts.length;rw[Dc]at F;refine⟨tT true t++ts.flatMap (tT false),by simp only[o,Ai,Dc],?_⟩;have E:By (tT true t++ts.flatMap (tT false)):=(By.tT _ _).app (By.flat (By.tT _) _);have e:Aeb ⟨c,t::ts⟩=tT true t++ts.flatMap (tT false)++Ji false [] c:=(by have:=Aw9 ts c;rw[append_assoc,<-this];rfl);rw[e];have k:((((t::ts).length:Nat):Int)==(0:Int))=false:=Ch (by simp only[Fg];omega);by_cases i:c=0;simp only[Dm i,Ai,k,Aa];rw[Uc E];simp[Ji,i];have L:=Ait (n:=c.natAbs) ω;have A:=Ais c false;simp only[Dy i,Aj,Aa,k];rw[Aw6 false H (by simp only[E5];omega),Aa,Aof ω,Aa,Pq (By.ti _) (by simp only[E5];omega),Aa, Uc ((E.app (By.sgn _ _)).app (By.ti _))];simp[Ji,i]
theorem Axa(h:Aw1 a):(Aeb a).length<=1024:=by(have e:∀(l:A7)(f:Bool),(∀t∈l,(-1<=t.v/\t.v<3000)/\(-1048576<=t.C/\t.C<=1048576))->(Ji f l a.Q).length<=47*l.length+24:=by intro l;induction l with|nil=>intro f _;have o:=Ait (n:=a.Q.natAbs) (by have:=h.c;omega);have s:=Ais a.Q f;simp only[Ji];split<;>simp<;>omega|cons t l ih=>intro f b;have o:=Aoe f (b t ψ);have s:=ih false λu w=>b u (by simp[w]);simp only[Ji,E5,Fg];omega);have:=e a.T true h.t;have:=h.n;unfold Aeb;omega
structure CMo(m:Ax):Prop where
 sz:Ep m
 nf:m.F.length<=6
 na:m.A.length<=6
 al:∀a∈m.A,Cd a.L=true/\a.L.T≠[]/\1<=a.P/\a.P<=6
theorem Aiv{a:A8}(K:Β->Ο R)(h:Cd a.L=true/\a.L.T≠[]/\1<=a.P/\a.P<=6):((J4 a.P).bind λu=>(Gw (ByteArray.mk #[97]) u).bind λv=>(Gw v (ByteArray.mk #[58])).bind λw=>(Rm a.L).bind λx=>(Gw w x).bind λy=>K y)=K (bs (I7 a)):=by have e:=Pk (n:=a.P) (by unfold I64;omega);have o:=Axa (Aod h.1);rw[J4,Aiq (by unfold I64;omega),Aa,c97,W3 ζ,Aa,c58,W3 ζ,Aa,Bae h.1 h.2.1,Aa,W3 ζ,Aa];simp[I7]
theorem Aee{a:A8}(h:Cd a.L=true/\a.L.T≠[]/\1<=a.P/\a.P<=6):(I7 a).length<=1100:=by have e:=Pk (n:=a.P) (by unfold I64;omega);have o:=Axa (Aod h.1);simp[I7];omega
theorem Aiw{f:Bm}(h:C5 f.I<=1048576)(b:iR f.I/\I64 f.v):(G6 f).length<=33554432:=by have e:=Pk b.2;have o:=Anc f.I b.1;simp[G6,K1];omega
theorem Baf(h:CMo m):Ab6 m=some (Mw m):=by obtain⟨e,c⟩:=m;have q:∀f∈e,C5 f.I<=1048576/\iR f.I/\I64 f.v:=λf i=>⟨h.sz.fi f i,h.sz.fr f i⟩;have u:∀a∈c,Cd a.L=true/\a.L.T≠[]/\1<=a.P/\a.P<=6:=h.al;have T:e.length<=6:=h.nf;have S:c.length<=6:=h.na;have A:=λ(l:Bi) (x:∀f∈l,f∈e) (j:Nat)=>Aoh (g:=G6) (n:=33554432) l j λf i=>Aiw (q f (x f i)).1 (q f (x f i)).2;have D:=λ(l:A2) (x:∀a∈l,a∈c) (j:Nat)=>Aoh (g:=I7) (n:=1100) l j λa C=>Aee (u a (x a C));have L:∀l:Bi,By (l.flatMap G6):=λl=>By.flat By.fac l;have E:∀l:A2,By (l.flatMap I7):=λl=>By.flat By.at l;have F:∀f:Bm,f∈e->Ql f.v f.I=some (bs (G6 f)):=λf i=>Anh f.v f.I (q f i).2.2 (q f i).2.1 (q f i).1;unfold Ab6 Mw Aec;cases e with|nil=>(rw[An ψ,Ai];cases c with|nil=>rw[An ψ,Ai];rw[A99 By.nil];rfl|cons a c=>have C:=u a ψ;have y:=Aee C;rw[Al (by simp only[Fg];omega),Aj,show Ae (a::c) 0=some a from rfl,Aa];refine(Aiv _ C).trans ?_;rw[W4 (By.at a) ζ,Aa];refine Air a c (λj=>(((j+1:Nat):Int),[]++I7 a++(c.take j).flatMap I7)) (by simp[Ac,Bn]) (by simp at S;omega) ?_ ?_;intro j b o w H Q;have k:=u b (by simp[B2 o]);have:=Aee k;have:=D c (λb o=>by simp[o]) j;simp at S;simp only[w,H,Q,Aj,Aa];refine(Aiv _ k).trans ?_;rw[Pq (By.at b) (by simp only[E5,length_nil];omega),Aa,Aiu o];simp;intro w;refine⟨[]++I7 a++c.flatMap I7,by simp only[w,Ai,Dc],?_⟩;dsimp only;rw[Uc ((By.nil.app (By.at a)).app (E c))];simp)|cons f e=>have i:=q f ψ;have J:=Aiw i.1 i.2;rw[Al (by simp only[Fg];omega),Aj,show Ae (f::e) 0=some f from rfl,Aa,F f ψ,Aa,W4 (By.fac f) ζ,Aa];refine Air f e (λj=>(((j+1:Nat):Int),[]++G6 f++(e.take j).flatMap G6)) (by simp[Ac,Bn]) (by simp at T;omega) ?_ ?_;intro j g U w H Q;have s:g∈f::e:=(by simp[B2 U]);have:=Aiw (q g s).1 (q g s).2;have:=A e (λb o=>by simp[o]) j;simp at T;simp only[w,H,Q,Aj,Aa];rw[F g s,Aa,Pq (By.fac g) (by simp only[E5,length_nil];omega),Aa,Aiu U];simp;intro w;have G:=A e (λb o=>by simp[o]) e.length;rw[Dc]at G;simp at T;refine⟨[]++G6 f++e.flatMap G6,by simp only[w,Ai,Dc],?_⟩;have z:By ([]++G6 f++e.flatMap G6):=(By.nil.app (By.fac f)).app (L e);have I:([]++G6 f++e.flatMap G6).length<=234881024:=(by simp only[E5,length_nil];omega);have eB:(f::e).flatMap G6=[]++G6 f++e.flatMap G6:=ψ;rw[eB];generalize[]++G6 f++e.flatMap G6=B at z I;cases c with|nil=>rw[An ψ,Ai,Uc z];simp|cons a c=>have C:=u a ψ;have y:=Aee C;rw[Al (by simp only[Fg];omega),Aj,show Ae (a::c) 0=some a from rfl,Aa];refine(Aiv _ C).trans ?_;rw[Pq (By.at a) ω,Aa];refine Air a c (λj=>(((j+1:Nat):Int),B++I7 a++(c.take j).flatMap I7)) (by simp[Ac,Bn]) (by simp at S;omega) ?_ ?_;intro j b o w H Q;have k:=u b (by simp[B2 o]);have:=Aee k;have:=D c (λb o=>by simp[o]) j;simp at S;simp only[w,H,Q,Aj,Aa];refine(Aiv _ k).trans ?_;rw[Pq (By.at b) (by simp only[E5];omega),Aa,Aiu o];simp;intro w;refine⟨B++I7 a++c.flatMap I7,by simp only[w,Ai,Dc],?_⟩;dsimp only;rw[Uc ((z.app (By.at a)).app (E c))];simp
def Fh(ts:Ad):At:=ts.zipIdx.map λq=>(Mw q.1.M,(q.2:Int))
def Dst(ts:Ad):Prop:=ts.Pairwise λt u=>t.M≠u.M
theorem Bag(ts:Ad)(t:Af):Fh (ts++[t])=Fh ts++[(Mw t.M,(ts.length:Int))]:=by unfold Fh;simp[zipIdx_append]
theorem Aef(ts:Ad)(j:Nat):(Fh ts)[j]?=(ts[j]?).map λt=>(Mw t.M,(j:Int)):=by unfold Fh;simp[getElem?_map,getElem?_zipIdx];cases ts[j]?<;>rfl
theorem Bah{ts:Ad}(h:ts[j]?=some t)(o:u.M=t.M):Fh (ts.set j u)=Fh ts:=by apply ext_getElem?;intro i;rw[Aef,Aef,getElem?_set];by_cases e:j=i;subst e;rw[Ar rfl,Ar (Dz h),h];simp[o];rw[Au e]
theorem Axb{α:Type}:∀(o:Λ (Β×α))(s:Β)(v:α),Gj o s=false->G3 o s v=o++[(s,v)]
 |[],_,_,_=>rfl
 |p::o,s,v,h=>by simp only[Gj,any_cons,Bool.or_eq_false_iff]at h;simp only[G3,h.1,Ai,Es,List.cons.injEq,true_and];exact Axb o s v h.2
theorem Bai{ts:Ad}(h:∀t∈ts,t.M≠m):Gj (Fh ts) (Mw m)=false:=by unfold Gj;rw[any_eq_false];intro p hp;obtain⟨j,o⟩:=Ff hp;rw[Aef]at o;cases s:ts[j]? with|none=>rw[s]at o;cases o|some t=>rw[s]at o;simp only[Option.map_some,Option.some.injEq]at o;subst o;intro e;have e:=(Tv _ _).1 e;exact h t (B2 s) (Awz e).symm
theorem Baj{ts:Ad}(w:Dst ts)(h:ts[j]?=some t):Gj (Fh ts) (Mw t.M)=true/\Jp (Fh ts) (Mw t.M) 0=(j:Int):=by(have hp:(Fh ts)[j]?=some (Mw t.M,(j:Int)):=by rw[Aef,h];rfl);refine⟨any_eq_true.2 ⟨_,B2 hp,(Tv _ _).2 rfl⟩,?_⟩;unfold Jp;(have b:(Fh ts).find? (λp=>Mw t.M==p.1)=some (Mw t.M,(j:Int)):=by cases b:(Fh ts).find? (λp=>Mw t.M==p.1)with|none=>have:=find?_eq_none.1 b _ (B2 hp);exact(this ((Tv _ _).2 rfl)).elim|some q=>have A:=find?_some b;obtain⟨i,o⟩:=Ff (mem_of_find?_eq_some b);rw[Aef]at o;cases s:ts[i]? with|none=>rw[s]at o;cases o|some u=>rw[s]at o;simp only[Option.map_some,Option.some.injEq]at o;subst o;have e:=Awz ((Tv _ _).1 A);(have g:i=j:=by have f:=Dz s;have c:=Dz h;rw[Bk f]at s;rw[Bk c]at h;rcases Nat.lt_trichotomy i j with k|k|k;have:=pairwise_iff_getElem.1 w i j f c k;rw[Fx s,Fx h]at this;exact(this e.symm).elim;exact k;have:=pairwise_iff_getElem.1 w j i c f k;rw[Fx s,Fx h]at this;exact(this e).elim);subst g;rw[e]);rw[b];rfl
open Classical in
theorem Nv(t:Af)(p:Ad)(m:Ax):cf (t::p) m=(if t.M=m then rq t.C else 0)+cf p m:=by simp only[cf];by_cases e:t.M=m;rw[Ar (Ho.2 e),Ar e];rw[Au λh=>e (Ho.1 h),Au e]
open Classical in
theorem Aoi:∀{ts:Ad}{j:Nat}{t u:Af},ts[j]?=some t->u.M=t.M->∀m,cf (ts.set j u) m=cf ts m+(if t.M=m then rq u.C-rq t.C else 0)
 |[],j,t,u,h,_,m=>by simp at h
 |s::ts,0,t,u,h,e,m=>by simp only[getElem?_cons_zero,Option.some.injEq]at h;subst h;rw[set_cons_zero,Nv,Nv,e];split<;>grind
 |s::ts,j+1,t,u,h,e,m=>by simp only[getElem?_cons_succ]at h;rw[set_cons_succ,Nv,Nv,Aoi h e m];grind
theorem Dst.set{ts:Ad}(h:Dst ts)(o:ts[j]?=some t)(hm:u.M=t.M):Dst (ts.set j u):=by(have e:(ts.set j u).map (·.M)=ts.map (·.M):=by apply ext_getElem?;intro i;rw[getElem?_map,getElem?_map,getElem?_set];by_cases e:j=i;subst e;rw[Ar rfl,Ar (Dz o),o];simp[hm];rw[Au e]);(have k:∀l:Ad,Dst l↔(l.map (·.M)).Pairwise (·≠·):=λl=>by rw[pairwise_map];exact Iff.rfl);rw[k,e,<-k];exact h
structure Col(k:Nat)(P:Ax->Prop)(ts:List Af):Prop where
 dst:Dst ts
 tb:∀t∈ts,RB k t.C
 mo:∀t∈ts,P t.M
theorem Col.nil(k:Nat)(P:Ax->Prop):Col k P []:=⟨Pairwise.nil,λ_ h=>(by cases h),λ_ h=>(by cases h)⟩
theorem Aab{k0:Nat}(I:∀m,P m->CMo m)(l ts:Ad)(B:Col k0 P ts)(G:∀t∈l,RB k t.C/\P t.M)(hk:k<=k0)(J:k0+l.length*(k+3)<34359738000)(hn:ts.length+l.length<=1099511627776):∃f,Mf l (Fh ts) ts=some (Fh f,f)/\Col (k0+l.length*(k+3)) P f/\f.length<=ts.length+l.length/\∀m,cf f m=cf ts m+cf l m:=by unfold Mf;refine Ahf (A:=List Af) (λf=>(Fh f,f)) ?_;refine F1 (λs=>∃(j:Nat)(u:Ad),s=((j:Int),Fh u,u)/\j<=l.length/\Col (k0+j*(k+3)) P u/\u.length<=ts.length+j/\∀m,cf u m=cf ts m+cf (l.take j) m) (λs=>l.length-s.1.toNat) (λz=>∃u,z=(Fh u,u)/\Col (k0+l.length*(k+3)) P u/\u.length<=ts.length+l.length/\∀m,cf u m=cf ts m+cf l m) ⟨0,ts,rfl,ω,by simpa using B,ω,λm=>by simp only[take_zero,cf];grind⟩ ?_ ?_;rintro _ ⟨j,u,rfl,hj,C,y,q⟩;rcases Cf j l.length with h|h;have H:l[j]?=some l[j]:=Bk h;generalize l[j]=x at H;obtain⟨Q,U⟩:=G x (B2 H);have E:j*(k+3)+(k+3)<=l.length*(k+3):=(by rw[<-Nat.succ_mul];exact Nat.mul_le_mul_right _ h);have D:(j+1)*(k+3)=j*(k+3)+(k+3):=(by rw[Nat.succ_mul]);simp only[Al (ω:(j:Int)<(l.length:Int)),Aj,Bu rfl H,Aa,Baf (I _ U),Dh h ω];left;by_cases F:∃t∈u,t.M=x.M;obtain⟨t,S,V⟩:=F;obtain⟨i,T⟩:=Ff S;obtain⟨W,X⟩:=Baj C.dst T;rw[V]at W X;obtain⟨c,c1,_,c3,c4,c5⟩:=Aaa (C.tb t S) Q ω ω;refine⟨((j+1:Nat),Fh (u.set i ⟨c,t.M⟩),u.set i ⟨c,t.M⟩),?_,⟨j+1,u.set i ⟨c,t.M⟩,rfl,ω,⟨C.dst.set T rfl,?_,?_⟩,by rw[length_set];omega,λm=>?_⟩,ζ⟩;simp only[W,X,Aj,Aa,Bu rfl T,c1,F2 rfl,Bah (u:=⟨c,t.M⟩) T rfl];intro w o;rcases mem_or_eq_of_mem_set o with o|rfl;exact(C.tb w o).mono ω;exact c3.mono ω;intro w o;rcases mem_or_eq_of_mem_set o with o|rfl;exact C.mo w o;exact C.mo t S;rw[Aoi (u:=⟨c,t.M⟩) T rfl m,q m,C4 H,Mv,Nv];simp only[c5,V,cf];split<;>grind;have g:=Bai (m:=x.M) (ts:=u) λt S e=>F ⟨t,S,e⟩;refine⟨((j+1:Nat),Fh (u++[x]),u++[x]),?_,⟨j+1,u++[x],rfl,ω,⟨?_,?_,?_⟩,ζ,λm=>?_⟩,ζ⟩;simp only[g,Ai,Aa];rw[Dd ζ,Aa,Axb _ _ _ g,Bag];refine pairwise_append.2 ⟨C.dst,pairwise_singleton _ _,λa ha b Q=>?_⟩;simp only[Df]at Q;subst Q;exactλe=>F ⟨a,ha,e⟩;intro w o;rcases Ea.1 o with o|o;exact(C.tb w o).mono ω;simp only[Df]at o;subst o;exact Q.mono ω;intro w o;rcases Ea.1 o with o|o;exact C.mo w o;simp only[Df]at o;subst o;exact U;rw[Mv,q m,C4 H,Mv];grind;have:j=l.length:=ω;subst this;rw[Dc]at q;simp only[An (ω:¬(l.length:Int)<(l.length:Int)),Ai];exact .inr ⟨_,rfl,u,rfl,C,y,q⟩;rintro _ ⟨u,rfl,h1,h2,h3⟩;exact⟨_,rfl,u,rfl,h1,h2,h3⟩
theorem Aoj(t u:Af)(h:Ep t.M):Rh t u=some (Du t.M u.M):=by unfold Rh;rw[Avi _ _ h];rfl
theorem Bak(A R:Λ α)(x y:α):((A++y::x::R).set (A.length+1) y).set A.length x=A++x::y::R:=by induction A with|nil=>rfl|cons a A ih=>simp only[Es,Fg,set_cons_succ,ih]
theorem Axc(A R:Λ α)(x:α):(A++x::R)[A.length]?=some x:=by simp
theorem Bal(A R:Λ α)(x y:α):(A++y::x::R)[A.length+1]?=some x:=by induction A with|nil=>rfl|cons a A ih=>simp
theorem Bam{step:Int×List Af->C6}(N:Nat)(E:N<4611686018427387904)(b:∀(x:Af)(R:Ad),step (0,x::R)=some (.inr (0,x::R)))(k:∀(A R:Ad)(x y:Af),(∀t∈A++y::x::R,Ep t.M)->(A++y::x::R).length<=N->step (((A.length+1:Nat):Int),A++y::x::R)=if Du x.M y.M<0 then some (.inl ((A.length:Int),A++x::y::R))else some (.inr (((A.length+1:Nat):Int),A++y::x::R))):∀(n:Nat)(A R:Ad)(x:Af),A.length=n->(∀t∈A++x::R,Ep t.M)->(A++x::R).length<=N->∃f i,Ap step ((A.length:Int),A++x::R)=some ((f.length:Int),f++x::(i++R))/\A=f++i/\(∀a∈i,ltT x a)/\∀l y,f=l++[y]->¬ltT x y:=by intro n;induction n with|zero=>intro A R x g _ _;have:A=[]:=Fp.1 g;subst this;exact⟨[],[],Cs (b x R),rfl,nofun,(λl y h=>by simp at h)⟩|succ n ih=>intro A R x g C c;(obtain⟨B,y,rfl⟩:∃B y,A=B++[y]:=by rcases eq_nil_or_concat A with h|⟨B,y,h⟩;rw[h]at g;cases g;exact⟨B,y,by simpa using h⟩);have s:B.length=n:=(by simpa using g);have D:(B++[y])++x::R=B++y::x::R:=ψ;have el:(((B++[y]).length:Nat):Int)=((B.length+1:Nat):Int):=ψ;rw[D]at C c⊢;rw[el];have j:=k B R x y C c;by_cases w:Du x.M y.M<0;rw[Ar w]at j;obtain⟨f,i,G,H,I,u⟩:=ih B (y::R) x s (by intro t F;refine C t ?_;simp only[Ea,Ef]at F⊢;rcases F with h|h|h|h<;>simp[h]) (by simpa using c);refine⟨f,i++[y],?_,by rw[H];simp,?_,u⟩;rw[Fj j,G];simp;intro a o;rcases Ea.1 o with o|o;exact I a o;simp only[Df]at o;subst o;exact w;rw[Au w]at j;refine⟨B++[y],[],?_,ψ,nofun,?_⟩;rw[Cs j];simp;intro l z q;have:=append_inj' q rfl;have e:y=z:=(by simpa using this.2);subst e;exact w
theorem Ban{a b c:Af}(h:ltT a b)(e:ltT b c):ltT a c:=Ub h e
theorem Bao{c j:Ad}{x:Af}(u:(c++j).Pairwise ltT)(w:∀a∈j,ltT x a)(A:∀g y,c=g++[y]->¬ltT x y)(B:∀a∈c,a.M≠x.M):(c++x::j).Pairwise ltT:=by obtain⟨i,s,l⟩:=pairwise_append.1 u;(have C:∀a∈c,ltT a x:=by intro a e;rcases eq_nil_or_concat c with h|⟨g,y,h⟩;rw[h]at e;cases e;have h:c=g++[y]:=(by simpa using h);(have f:ltT y x:=by have q:=A g y h;have D:=B y (by rw[h];simp);unfold ltT at *;rcases Int.lt_trichotomy (Du x.M y.M) 0 with k|k|k;exact(q k).elim;exact(D (Ho.1 k).symm).elim;exact An5.1 k);rw[h]at e i;rcases Ea.1 e with e|e;exact Ban ((pairwise_append.1 i).2.2 a e y ψ) f;simp only[Df]at e;subst e;exact f);refine pairwise_append.2 ⟨i,pairwise_cons.2 ⟨w,s⟩,λa e b o=>?_⟩;rcases Ef.1 o with rfl|o;exact C a e;exact l a e b o
noncomputable def Aeg:Int×List Af->C6:=λ(e,b)=>(show OB from bif e>(0:Int)then((Ae b e).bind λo=>(Ae b (Ac (e-1))).bind λg=>(Rh o g).bind λs=>some (decide (s<(0:Int))))else some false).bind λf=>bif f then((Ae b (Ac (e-1))).bind λh=>(Ae b e).bind λc=>(Ae b e).bind λw=>(Ae (Ca b e h) (Ac (e-1))).bind λA=>some (.inl (Ac (e-1),Ca (Ca b e h) (Ac (e-1)) c)))else some (.inr (e,b))
theorem Bap(y:Af)(R:Ad):Aeg (0,y::R)=some (.inr (0,y::R)):=by unfold Aeg;simp only[An (ω:¬(0:Int)>0),Ai,Aa]
theorem Baq(h:N<=1099511627776)(A R:Ad)(u y:Af)(b:∀t∈A++y::u::R,Ep t.M)(c:(A++y::u::R).length<=N):Aeg (((A.length+1:Nat):Int),A++y::u::R)=if Du u.M y.M<0 then some (.inl ((A.length:Int),A++u::y::R))else some (.inr (((A.length+1:Nat):Int),A++y::u::R)):=by(have g:A.length+1<N:=by simp at c;omega);(have f:Ac (((A.length+1:Nat):Int)-1)=(A.length:Int):=by rw[Ac,Bn]<;>omega);unfold Aeg;simp only[Al (ω:((A.length+1:Nat):Int)>0),Aj,f,Bu (n:=A.length+1) rfl (Bal A R u y),Bu (n:=A.length) rfl (Axc A (u::R) y),Aa,Aoj u y (b u ψ)];by_cases e:Du u.M y.M<0;rw[Al e,Ar e];simp only[Aj];rw[F2 (n:=A.length+1) rfl,F2 (n:=A.length) rfl,Bak];have:Ae ((A++y::u::R).set (A.length+1) y) (A.length:Int)=some y:=(by refine Bu rfl ?_;rw[getElem?_set_ne ω];exact Axc A (u::R) y);rw[this];rfl;rw[An e,Au e];rfl
theorem Bar(b:Ad)(H:Dst b)(Q:∀t∈b,Ep t.M)(V:b.length<=1099511627776):∃R,Acy 0 (b.length:Int) b=some R/\R.Perm b/\R.Pairwise ltT:=by
 unfold Acy;cases b with
 |nil=>refine⟨[],?_,Perm.refl _,Pairwise.nil⟩;refine Jx 0 (λ_=>((1:Int),([]:Ad))) (by simp[Ac,Bn]) (λj W=>ω) ⟨[],?_,rfl⟩;simp
 |cons z0 A=>
 generalize f:z0::A=b at *;have o:1<=b.length:=by rw[<-f];simp
 refine F1 (λs=>∃(i:Nat)(S:Ad),s=((i:Int),S++b.drop i)/\1<=i/\i<=b.length/\S.length=i/\S.Perm (b.take i)/\S.Pairwise ltT) (λs=>b.length-s.1.toNat) (λR=>R.Perm b/\R.Pairwise ltT) ⟨1,[z0],by rw[<-f];simp[Ac,Bn],ω,o,rfl,by rw[<-f];simp,pairwise_singleton _ _⟩ ?_ ?_
 .rintro _ ⟨i,S,rfl,I,X,G,c,k⟩;rcases Cf i b.length with h|h
  .have F:b[i]?=some b[i]:=Bk h;generalize b[i]=x at F;have g:b.drop i=x::b.drop (i+1):=Kb F;have z:(S++x::b.drop (i+1)).length=b.length:=ζ;have y:∀t∈S++x::b.drop (i+1),t∈b:=by
    intro t e;rcases Ea.1 e with e|e
    .exact mem_of_mem_take (c.mem_iff.1 e)
    .rw[<-g]at e;exact mem_of_mem_drop e
   simp only[Al (ω:(i:Int)<(b.length:Int)),Aj,Dh h ω];rw[g];left;obtain⟨q,l,C,w,T,J⟩:=Bam (step:=Aeg) b.length ω Bap (Baq ω) S.length S (b.drop (i+1)) x rfl (λt e=>Q t (y t e)) (by rw[z];exact Nat.le_refl _);rw[G]at C;have hp:(q++x::l).Perm (b.take (i+1)):=(by rw[C4 F];have:(q++x::l).Perm ((q++l)++[x]):=(by rw[append_assoc];exact Perm.append_left q (perm_append_singleton x l).symm);exact this.trans (by rw[<-w];exact c.append_right [x]));refine⟨(((i+1:Nat):Int),(q++x::l)++b.drop (i+1)),Cp C ψ,⟨i+1,q++x::l,rfl,ω,ω,?_,hp,?_⟩,ζ⟩
   .rw[hp.length_eq,length_take];omega
   .rw[w]at k;refine Bao k T J λa U=>?_;have E:a∈b.take i:=c.mem_iff.1 (by rw[w];simp[U]);have B:x∈b.drop i:=(by rw[g];simp);have D:(b.take i++b.drop i).Pairwise λt u=>t.M≠u.M:=(by rw[take_append_drop];exact H);exact(pairwise_append.1 D).2.2 a E x B
  .have:i=b.length:=ω;subst this;rw[Dc]at c;simp only[An (ω:¬(b.length:Int)<(b.length:Int)),Ai,drop_length,append_nil];exact .inr ⟨S,rfl,c,k⟩
 .rintro R ⟨C,w⟩;exact⟨R,rfl,C,w⟩
theorem Oo{l:Λ α}(h:n=l.length):Hx n l=some ():=by unfold Hx;rw[Ar h]
theorem Bas{s:Β}(h0:0<=i)(h:i.toNat<s.size):∃c,Gv s i=some c:=by unfold Gv;rw[Ar h0];exact⟨_,getElem?_pos s i.toNat h⟩
set_option maxRecDepth 20000 in
theorem Axd{n:Nat}(h:n<256):∃v,Vg (Bf (n:Int))=some v:=by unfold Vg Agi;rw[Bf,D8 ω ω,An ω];simp only[Ai,Aa];rw[An ω];simp only[Ai,Aa];rw[An ω];simp only[Ai,Aa];(have b:wu8 (n:Int)=(n:Int):=by rw[wu8];unfold IntKind.wrap;simp[IntKind.bits,IntKind.signed];omega);rw[b];generalize g:ByteArray.mk _=T;(have f:T.size=256:=by rw[<-g];rfl);obtain⟨c,e⟩:=Bas (s:=T) (i:=(n:Int)) ω (by rw[f];simpa using h);rw[e];exact⟨_,rfl⟩
theorem Bat(b:Ad)(h:Dst b)(o:∀t∈b,Ep t.M)(s:b.length<=12):∃R,Rg b=some R/\R.Perm b/\R.Pairwise ltT:=by obtain⟨R,A,e,B⟩:=Bar b h o ω;obtain⟨v,c⟩:=Axd (n:=b.length) ω;refine⟨R,?_,e,B⟩;unfold Rg;rw[Nat.ble_eq_true_of_le s,Aj];unfold Amh;rw[c,Aa];(have hp:Acm 0 (b.length:Int) v b=some R:=by unfold Acm;refine Cp (a:=R) (Cs ?_) rfl;have w:Ac ((b.length:Int)-0)=(b.length:Int):=ξ;simp only[w,Al (ω:(b.length:Int)<=12),Aj,A,Aa,Oo e.length_eq.symm]);rw[hp,Aa,Oo e.length_eq.symm];rfl
def clT(t:Af):Af:=⟨Bj (sv t.C) (nv t.C) (dv t.C),t.M⟩
theorem Bau(p:Ad)(B:k<34359738000)(hp:∀t∈p,RB k t.C/\Ep t.M)(C:p.length<=1048576):Ab7 p=some (p.map clT):=by unfold Ab7;refine Ij p (λj=>((j:Int),(p.take j).map clT)) rfl ω ?_ ?_;intro j x D e h o s;obtain⟨w,A⟩:=hp x (B2 e);simp only[h,o,s,Aj,Aa,Aie x.C k w ω,A93 x.M A];rw[Dd ζ,Aa,C4 e];simp[clT];intro h;exact⟨p.map clT,ψ,rfl⟩
theorem Bav(p:Ad)(m:Ax):cf (p.map clT) m=cf p m:=by induction p with|nil=>rfl|cons t p ih=>simp only[map_cons,cf,ih,clT];rw[L5 _ _ _ (Fq _)];rfl
theorem Baw(h:p.Perm q)(m:Ax):cf p m=cf q m:=by induction h with|nil=>rfl|cons x _ ih=>simp only[cf,ih]|swap x y l=>simp only[cf];grind|trans _ _ e o=>rw[e,o]
def nzT(t:Af):Bool:=decide (rq t.C≠0)
theorem Bax(p:Ad)(m:Ax):cf (p.filter nzT) m=cf p m:=by induction p with|nil=>rfl|cons t p ih=>by_cases h:rq t.C=0;rw[filter_cons_of_neg (by simp[nzT,h]),ih];simp only[cf,h];grind;rw[filter_cons_of_pos (by simp[nzT,h])];simp only[cf,ih]
theorem Bay(x:Rat):(Im x != (0:Int))=decide (x≠0):=by unfold Im;by_cases h:x<0;rw[Ar h];have:x≠0:=(by intro e;subst e;exact absurd h δ);simp[this];rw[Au h];by_cases o:0<x;rw[Ar o];have:x≠0:=(by intro e;subst e;exact absurd o δ);simp[this];rw[Au o];have:x=0:=Rat.le_antisymm (Rat.not_lt.1 o) (Rat.not_lt.1 h);simp[this]
theorem Baz{f:α->Bool}{l:Λ α}{x:α}(h:l[j]?=some x):(l.take (j+1)).filter f=(l.take j).filter f++(if f x then[x]else[]):=by rw[C4 h,filter_append];congr 1;cases k:f x<;>simp[filter,k]
theorem Aok(q:∀m,P m->CMo m)(o:At)(ts:Ad)(h:Col k P ts)(B:k<34359738000)(G:ts.length<=1000)(z:∀c:Ad,c.length<=ts.length->Dst c->(∀t∈c,Ep t.M)->∃R,Rg c=some R/\R.Perm c/\R.Pairwise ltT):∃R,Ng o ts=some (R,0)/\CP R/\(∀m,cf R m=cf ts m)/\(∀t∈R,P t.M/\RB (k+1) t.C)/\R.length<=ts.length:=by unfold Ng;have g:(ts.filter nzT).length<=ts.length:=length_filter_le _ _;obtain⟨S,y,f,s⟩:=z (ts.filter nzT) g (Pairwise.filter _ h.dst) λt e=>(q _ (h.mo t (mem_filter.1 e).1)).sz;(have b:∀t∈S,t∈ts/\rq t.C≠0:=by intro t e;have:=mem_filter.1 (f.mem_iff.1 e);exact⟨this.1,by simpa[nzT]using this.2⟩);refine⟨S.map clT,?_,⟨?_,?_⟩,?_,?_,?_⟩;refine Ij ts (λj=>((j:Int),(ts.take j).filter nzT)) rfl ω ?_ ?_;intro j x H C A D E;have F:=h.tb x (B2 C);have l:((ts.take j).filter nzT).length<=ts.length:=Nat.le_trans (length_filter_le _ _) (by rw[length_take];omega);simp only[A,D,E,Aj,Aa,(J1 F B).1,Bay];rw[Baz C];by_cases i:rq x.C=0;have:nzT x=false:=(by simp[nzT,i]);rw[An (by simpa using i),this];simp;have:nzT x=true:=(by simp[nzT,i]);rw[Al i,this];simp only[Aj];rw[Dd ζ];simp;intro A;refine⟨ts.filter nzT,by simp only[A,Ai,Dc],?_⟩;rw[An ω];simp only[Ai];rw[y,Aa,Oo f.length_eq.symm,Aa, Bau (k:=k) S B (λt e=>⟨h.tb t (b t e).1,(q _ (h.mo t (b t e).1)).sz⟩) (by rw[f.length_eq];omega)];rfl;rw[pairwise_map];exact s;intro t e;obtain⟨u,w,rfl⟩:=mem_map.1 e;refine⟨Pp _ _ _ (Fq _),?_⟩;show rq (Bj _ _ _)≠0;rw[L5 _ _ _ (Fq _)];exact(b u w).2;intro m;rw[Bav,Baw f,Bax];intro t e;obtain⟨u,w,rfl⟩:=mem_map.1 e;exact⟨h.mo u (b u w).1,Av1 (h.tb u (b u w).1)⟩;rw[Ki,f.length_eq];exact g
theorem Axe(x:A9)(g:CSz x)(ps:K2)(B:∀p∈ps,∀t∈p,TSz t)(M:ps.length<=1048576):∃r,Nc x ps=some r/\(((F4 x/\∀p∈ps,Kn x.D x.V x.E p=true)/\∃A,r=.inl (true,x,A,[],x.D,x.V,x.E.G,x.E.U,x.E.R)/\Fc x.D x.V x.E A)\/((¬(F4 x/\∀p∈ps,Kn x.D x.V x.E p=true))/\r=.inr false)):=by obtain⟨b,S,F⟩:=Auu g.ds;have L:=g.nv;have J:=g.rs;unfold Nc;rw[S,Adw x.D x.E 0 ω];by_cases l:x.V.length<=3000;rw[An ω];simp only[Ai,Aa];(cases b with|false=>exact⟨_,rfl,.inr ⟨λh=>(by have:=F.2 h.1.2.1;cases this),rfl⟩⟩|true=>have I:=F.1 rfl;simp only[Dj,Ai];cases E:(Hm x.D 0 x.E&&decide (B3 x.E<=200))with|false=>exact⟨_,rfl,.inr ⟨λh=>(by have:=h.1.2.2.1;rw[show Ko x.D x.E=false from E]at this;cases this),rfl⟩⟩|true=>simp only[Dj,Ai,Aa];refine F1 (λi=>∃j:Nat,i=j/\j<=x.V.length/\(x.V.take j).all (Ko x.D)=true) (λi=>x.V.length-i.toNat) (λz=>match z with|.inl r=>r=false/\¬F4 x|.inr _=>F4 x) ⟨0,rfl,ω,ψ⟩ ?_ ?_;rintro i ⟨j,rfl,T,c⟩;rcases Cf j x.V.length with h|h;have e:x.V[j]?=some x.V[j]:=Bk h;generalize x.V[j]=t at e;have:=g.vs t (B2 e);simp only[Al (ω:(j:Int)<(x.V.length:Int)),Aj,Bu rfl e,Aa,Adw x.D t 0 ω,Dh h ω];rw[show(Hm x.D 0 t&&decide (B3 t<=200))=Ko x.D t from rfl];(cases H:Ko x.D t with|true=>exact .inl ⟨_,rfl,⟨j+1,rfl,ω,by rw[C4 e,all_append,c];simp[H]⟩,ζ⟩|false=>refine .inr ⟨.inl false,rfl,rfl,λD=>?_⟩;have:=Gb.1 D.2.2.2 t (B2 e);rw[H]at this;cases this);have:j=x.V.length:=ω;subst this;rw[Dc]at c;exact .inr ⟨.inr (),ψ,l,I,E,c⟩;rintro(r|u) f;obtain⟨rfl,f⟩:=f;exact⟨_,rfl,.inr ⟨λh=>f h.1,rfl⟩⟩;have G:F4 x:=f;simp only;refine F1 (λs=>∃(j:Nat)(o:At),s=((j:Int),o)/\j<=ps.length/\Fc x.D x.V x.E o/\∀p∈ps.take j,Kn x.D x.V x.E p=true) (λs=>ps.length-s.1.toNat) (λz=>match z with|.inl r=>r=false/\¬(∀p∈ps,Kn x.D x.V x.E p=true)|.inr o=>Fc x.D x.V x.E o/\∀p∈ps,Kn x.D x.V x.E p=true) ⟨0,[],rfl,ω,(λq h=>by cases h),(λq h=>by simp at h)⟩ ?_ ?_;rintro _ ⟨j,o,rfl,T,Q,c⟩;rcases Cf j ps.length with h|h;have e:ps[j]?=some ps[j]:=Bk h;generalize ps[j]=p at e;have k:=B2 e;obtain⟨A,U,V⟩:=Awe (G.ctx g) [] Q p (B p k);simp only[Al (ω:(j:Int)<(ps.length:Int)),Aj,Bu rfl e,Aa,U,Dh h ω];(cases y:Kn x.D x.V x.E p with|true=>(refine .inl ⟨_,rfl,⟨j+1,A,rfl,ω,V,λq w=>?_⟩,ζ⟩;rw[C4 e]at w;rcases Ea.1 w with w|w;exact c q w;simp only[Df]at w;subst w;exact y)|false=>refine .inr ⟨.inl false,rfl,rfl,λD=>?_⟩;have:=D p k;rw[y]at this;cases this);have:j=ps.length:=ω;subst this;rw[Dc]at c;exact .inr ⟨.inr o,ψ,Q,c⟩;rintro(r|o) C;obtain⟨rfl,C⟩:=C;exact⟨_,rfl,.inr ⟨λh=>C h.2,rfl⟩⟩;exact⟨_,rfl,.inl ⟨⟨G,C.2⟩,o,rfl,C.1⟩⟩);rw[Al ω];exact⟨_,rfl,.inr ⟨λh=>l h.1.1,rfl⟩⟩
theorem Ba0{Δ:A0}{Ξ:A1}{Θ:Ak}(h:Iy Δ Ξ Θ m=true)(q:Ep m):CMo m:=by have c:=(A9p h).2;unfold Iy at h;simp only[Dp,Ed]at h;obtain⟨⟨A,B⟩,E⟩:=h;(have b:∀f∈m.F,0<=Eh Δ Ξ Θ f:=by intro f c;obtain⟨j,s⟩:=Ff c;have:=Jy A s;simp only[Mt,Dp,Ed]at this;omega);(have o:∀a∈m.A,1<=a.P/\Cd a.L=true/\a.L.T≠[]:=by intro a o;obtain⟨j,s⟩:=Ff o;have:=Jy B s;simp only[Km,Dp,Ed]at this;refine⟨this.1.1.1.1,this.1.1.1.2,λe=>?_⟩;have k:=this.1.1.2;rw[e]at k;simp at k);(obtain⟨F,G,C⟩:=Ad5 m.A λa h=>by have:=(o a h).1;omega);have f1:=Avq m.F b;(have H:(m.A.length:Int)<=Bq m.A:=by have w:∀l:A2,(∀a∈l,1<=a.P)->(l.length:Int)<=Bq l:=(by intro l;induction l with|nil=>intro _;simp[Bq]|cons f I ih=>intro i;have A:=i f ψ;have B:=ih λg D=>i g (by simp[D]);unfold Bq at *;simp only[map_cons,sum_cons,Fg];omega);exact w _ λa h=>(o a h).1);exact⟨q,c,ω,λa h=>⟨(o a h).2.1,(o a h).2.2,(o a h).1,by have:=C a h;omega⟩⟩
def D2(x:A9)(m:Ax):Prop:=Iy x.D x.V x.E m=true/\Ep m
theorem D2.cmo(h:D2 x m):CMo m:=Ba0 h.1 h.2
structure Hf(x:A9)(p:List Af):Prop where
 can:Kn x.D x.V x.E p=true
 sz:∀t∈p,TSz t
theorem Hf.cp(h:Hf x p):CP p:=(Aea.1 h.can).2.1
theorem Hf.mo(h:Hf x p):∀t∈p,D2 x t.M:=λt e=>⟨(Aea.1 h.can).2.2 t e,(h.sz t e).mo⟩
theorem Hf.of(hc:CP p)(hm:∀t∈p,D2 x t.M)(b:∀t∈p,RB 1048576 t.C)(c:p.length<=1000):Hf x p:=⟨Aea.2 ⟨c,hc,λt e=>(hm t e).1⟩,λt e=>⟨b t e,(hm t e).2⟩⟩
theorem Hf.tb(h:Hf x p):∀t∈p,RB 1048576 t.C/\D2 x t.M:=λt e=>⟨(h.sz t e).co,h.mo t e⟩
theorem Axf(i:CSz x)(j:F4 x)(hp:Hf x p)(s:Hf x q):∃f,Nc x [p,q]=some (.inl (true,x,f,[],x.D,x.V,x.E.G,x.E.U,x.E.R)):=by(have b:∀r∈[p,q],Hf x r:=by intro r c;simp only[Ef,not_mem_nil,or_false]at c;rcases c with rfl|rfl<;>assumption);obtain⟨r,h,g⟩:=Axe x i [p,q] (λr c=>(b r c).sz) ψ;(rcases g with⟨_,f,e,_⟩|⟨o,_⟩);exact⟨f,by rw[h,e]⟩;exact(o ⟨j,λr c=>(b r c).can⟩).elim
theorem Axg{r:Am}(q:Ad)(y:RB j r)(B:∀t∈q,RB k t.C)(C:j<34359738000)(D:k<34359738000)(z:q.length<=1048576):∃x,Yg q r=some x/\x.length=q.length/\(∀m,cf x m=cf q m*rq r)/\∀t∈x,RB (k+j+2) t.C/\∃u∈q,u.M=t.M:=by unfold Yg;refine F1 (λs=>∃(i:Nat)(o:Ad),s=((i:Int),o)/\i<=q.length/\o.length=i/\(∀m,cf o m=cf (q.take i) m*rq r)/\∀t∈o,RB (k+j+2) t.C/\∃u∈q,u.M=t.M) (λs=>q.length-s.1.toNat) (λo=>o.length=q.length/\(∀m,cf o m=cf q m*rq r)/\∀t∈o,RB (k+j+2) t.C/\∃u∈q,u.M=t.M) ⟨0,[],rfl,ω,rfl,(λm=>by simp only[take_zero,cf];grind),λ_ h=>by cases h⟩ ?_ ?_;rintro _ ⟨i,o,rfl,Q,l,b,g⟩;rcases Cf i q.length with h|h;have A:q[i]?=some q[i]:=Bk h;generalize q[i]=t at A;have f:=B2 A;obtain⟨c,E,F,S,G⟩:=W0 (B t f) y D C;simp only[Al (ω:(i:Int)<(q.length:Int)),Aj,Bu rfl A,Aa,E,Dh h ω];rw[Dd ζ];refine .inl ⟨_,rfl,⟨i+1,o++[⟨c,t.M⟩],rfl,ω,by simp[l],λm=>?_,λw e=>?_⟩,ζ⟩;rw[Mv,b,C4 A,Mv];simp only[cf,G];split<;>grind;rcases Ea.1 e with e|e;exact g w e;simp only[Df]at e;subst e;exact⟨F,t,f,rfl⟩;have:i=q.length:=ω;subst this;rw[Dc]at b;simp only[An (ω:¬(q.length:Int)<(q.length:Int)),Ai];exact .inr ⟨_,rfl,l,b,g⟩;rintro o ⟨H,I,J⟩;exact⟨_,rfl,H,I,J⟩
theorem Ba1(ts:Ad)(h:∀t∈ts,RB k t.C)(A:k<34359738000)(f:ts.length<=1048576):U9 ts=some (ts.all λt=>decide (0<=rq t.C)):=by(have b:∀x:Rat,decide (Im x<(0:Int)) = !decide (0<=x):=by intro x;unfold Im;by_cases o:x<0;rw[Ar o,An (Rat.not_le.2 o)];rfl;rw[Au o,Al (Rat.not_lt.1 o)];split<;>rfl);have w:=Amu ts (λt=>!decide (0<=rq t.C)) ω (J:=λz=>match z with|.inl c=>some c|.inr _=>some (-1)) (step:=λs=>bif s<(ts.length:Int)then((Ae ts s).bind λB=>(Abq B).bind λC=>bif C then some (.inr (.inl s))else some (.inl (Ac (s+1))))else some (.inr (.inr ()))) (by intro j t D o E F;simp only[o,E,F,Aj,Aa,Abq,(J1 (h t D) A).1,b]) (λh=>by simp only[h];rfl) (λ_=>rfl) rfl;obtain⟨i,G,H⟩:=w;have e:Agf ts=some i:=G;unfold U9 Age;rw[e,Aa,Aa,H,List.not_any_eq_all_not];simp
theorem Ba2:∃r,Gn (-1)=some r/\RB 1 r/\rq r = -1:=by refine⟨_,Ws (-1) δ δ,?_,?_⟩;exact I6 _ _ _ 1 (J8 δ) (J8 δ) ω;rw[L5 _ _ _ δ];decide
def bc:Nat->Nat->Nat
 |_,0=>1
 |0,_+1=>0
 |n+1,k+1=>bc n k+bc n (k+1)
theorem J2(n:Nat):bc n 0=1:=by cases n<;>rfl
theorem Aol:∀{n k:Nat},n<k->Fr n k=0
 |n,0,h=>absurd h ω
 |n,k+1,h=>by rw[Fr];by_cases e:n<k;rw[Aol e,Nat.zero_mul];rw[show n-k=0 by omega,Nat.mul_zero]
theorem Axh(n:Nat):∀k,Fr (n+1) (k+1)=(n+1)*Fr n k
 |0=>by simp[Fr]
 |k+1=>by rw[Fr,Axh n k,Fr,show n+1-(k+1)=n-k by omega,Nat.mul_assoc]
theorem Aeh:∀n k,Fr n k=E8 k*bc n k
 |n,0=>by rw[J2];rfl
 |0,k+1=>by rw[Aol ω];simp[bc]
 |n+1,k+1=>by have h:=Aeh n (k+1);have o:=Aeh n k;rw[Axh,bc,Nat.mul_add,<-h,E8,Fr,Nat.mul_right_comm,<-o];by_cases e:k<=n;rw[<-Nat.mul_add,Nat.mul_comm,show k+1+(n-k)=n+1 by omega];rw[Aol ω];simp
theorem Aei:∀n k,bc n k<=2^n
 |n,0=>by rw[J2];exact Nat.one_le_two_pow
 |0,k+1=>by simp[bc]
 |n+1,k+1=>by have e:=Aei n (k+1);have h:=Aei n k;rw[bc,Nat.pow_succ];omega
def cR(n:Nat):Am:=Bj false n 1
theorem Aom(n:Nat):sv (cR n)=false/\nv (cR n)=n/\dv (cR n)=1:=by obtain⟨g,f,c,b⟩:=Z5 false n 1 δ;refine⟨?_,?_,?_⟩;by_cases h:n=0;exact b h;exact c h;unfold cR;rw[g];simp;unfold cR;rw[f];simp
theorem R5(h:Bp n<=k)(e:1<=k):RB k (cR n):=I6 _ _ _ _ h (by rw[Jh];exact e) e
theorem Ba3:Gn 0=some (cR 0):=Ws 0 δ δ
theorem Ud:Gn 1=some (cR 1):=Ws 1 δ δ
theorem Ba4(n k:Nat)(h:n<1000000000)(o:k<=64):Rs (n:Int) (k:Int)=some (cR (bc n k),true):=by unfold Rs;(have e:(if(n:Int)>0 then(n:Int)else 0)=(n:Int):=by split<;>omega);simp only[An (ω:¬(k:Int)<0),Ai,An (ω:¬(k:Int)>64),Aa,e,Awa n k h o];rw[Aeh,show Bj false (E8 k*bc n k) (E8 k)=Bj false (E8 k*bc n k) (E8 k*1)by rw[Nat.mul_one],Po _ _ _ _ (Ww k)];rfl
theorem Ba5(n k:Nat)(e:n<1000000000)(h:k<=64):Rs (n:Int) (k:Int)=some (cR (bc n k),true):=Ba4 n k e h
theorem Ba6:Abx []=some []:=by kernel_rfl
theorem Ba7(l:Ag):Abx l=some (l.mergeSort λx y=>decide (x<=y)):=by cases l with|nil=>rw[Ba6];simp|cons a l=>rfl
theorem Ba8(l:Ag):(l.mergeSort λx y=>decide (x<=y)).Pairwise (·<=·):=by have:=pairwise_mergeSort (le:=λx y:Int=>decide (x<=y)) (λa b c e o=>by simp only[Ed]at *;omega) (λa b=>by simp only[Bool.or_eq_true,Ed];omega) l;exact this.imp (λh=>by simpa using h)
structure Asc(b:List Int)(n:Nat)(l:List Int):Prop where
 up:l.Pairwise (· < ·)
 mem:∀y,y∈l↔y∈b.take n
theorem Ba9(c:b.Pairwise (·<=·)){q:Nat}{p:Int}(hp:b[q]?=some p):∀y∈b.take (q+1),y<=p:=by intro y w;obtain⟨i,h⟩:=Ff w;rw[getElem?_take]at h;split at h;rename_i f;by_cases e:i=q;subst e;rw[h]at hp;cases hp;exact Int.le_refl _;have o:=Dz h;have s:=Dz hp;have:=(pairwise_iff_getElem.1 c) i q o s ω;rw[Bk o]at h;rw[Bk s]at hp;cases h;cases hp;exact this;cases h
theorem Asc.step(g:b.Pairwise (·<=·)){q:Nat}{p x:Int}(h:Asc b (q+1) l)(hp:b[q]?=some p)(hx:b[q+1]?=some x)(j:x≠p):Asc b (q+2) (l++[x]):=by have f:=Ba9 g hp;(have i:p<x:=by have h1:=Dz hp;have h2:=Dz hx;have:=(pairwise_iff_getElem.1 g) q (q+1) h1 h2 ω;rw[Bk h1]at hp;rw[Bk h2]at hx;cases hp;cases hx;omega);refine⟨?_,λy=>?_⟩;rw[pairwise_append];refine⟨h.up,ψ,λa ha c hc=>?_⟩;rw[Df]at hc;subst hc;have:=f a ((h.mem a).1 ha);omega;rw[C4 hx,Ea,Ea,h.mem y]
theorem Asc.same{q:Nat}{x:Int}(h:Asc b (q+1) l)(hp:b[q]?=some x)(hx:b[q+1]?=some x):Asc b (q+2) l:=by refine⟨h.up,λy=>?_⟩;rw[C4 hx,Ea,h.mem y];constructor;exact .inl;rintro(h1|h1);exact h1;rw[Df]at h1;subst h1;rw[C4 hp];simp
theorem L7{l:Λ α}{off:Nat}{x:α}(hi:i=j)(e:j<n)(h:l[off+j]?=some x):Ew l off n i=some x:=by subst hi;unfold Ew;rw[Ar ω];simpa using h
theorem Bba{X:Ο (Nat×List Int)}{Q:Nat×List Int->Prop}(h:∃r,X=some r/\Q r):∃(m:Nat)(o:Ag),X=some (m,o)/\Q (m,o):=by obtain⟨⟨m,o⟩,e,s⟩:=h;exact⟨m,o,e,s⟩
theorem Bbb{X:Ο (Int⊕((Nat×List Int)⊕Unit))}{P:Nat->Ag->Prop}{b:Prop}(h:∃r,X=some r/\∃(m:Nat)(o:Ag),r=.inr (.inl (m,o))/\P m o):∃e,X=some (.inr e)/\((∃(m:Nat)(o:Ag),e=.inl (m,o)/\P m o)\/(e=.inr ()/\b)):=by obtain⟨_,s,m,o,rfl,w⟩:=h;exact⟨_,s,.inl ⟨m,o,rfl,w⟩⟩
theorem Bbc(b:Ag)(R:b.Pairwise (·<=·))(hl:b.length<=1099511627776):∃(m:Nat)(o:Ag),Yd b.length b=some (m,o)/\m<=o.length/\Asc b b.length (o.take m):=by
 unfold Yd;by_cases F:b.length<2;rw[Al ω,Aj];refine⟨b.length,b,rfl,Nat.le_refl _,?_,λy=>Iff.rfl⟩;rw[Dc];match b,F with|[],_=>simp|[_],_=>simp
 .rw[An ω,Ai];refine Bba (Q:=λr:Nat×List Int=>r.1<=r.2.length/\Asc b b.length (r.2.take r.1)) ?_
  .refine F1 (Q:=λr:Nat×List Int=>r.1<=r.2.length/\Asc b b.length (r.2.take r.1)) (λv=>∃j:Nat,v=((j+1:Nat):Int)/\j+1<=b.length/\Asc b (j+1) (b.take (j+1))) (λv=>b.length-v.toNat) (λe:((Nat×List Int)⊕Unit)=>(∃(m:Nat)(o:Ag),e=.inl (m,o)/\m<=o.length/\Asc b b.length (o.take m))\/(e=.inr ()/\Asc b b.length (b.take b.length))) ?_ ?_ ?_ (J:=λz:((Nat×List Int)⊕Unit)=>match z with|.inl (G,E)=>some (G,E)|.inr _=>some (b.length,b))
   .exact⟨0,rfl,ω,by
     refine⟨?_,λy=>Iff.rfl⟩
     match b,F with
     |a::_,_=>simp
     |[],h=>simp at h⟩
   rintro v ⟨j,rfl,hj,N⟩;rcases Cf (j+1) b.length with h|h;have C:b[j+1]?=some b[j+1]:=Bk h;have hp:b[j]?=some b[j]:=Bk ω;generalize b[j+1]=x at C;generalize b[j]=p at hp;have X:Ac (((j+1:Nat):Int)-1)=((j:Nat):Int):=(by rw[show(((j+1:Nat):Int)-1)=(j:Int)by omega,Ac,Bn]<;>omega);simp only[Al (ω:((j+1:Nat):Int)<(b.length:Int)),Aj,L7 (l:=b) (off:=0) (n:=b.length) (i:=((j+1:Nat):Int)) rfl h (by rw[Nat.zero_add];exact C),X, L7 (l:=b) (off:=0) (n:=b.length) (i:=((j:Nat):Int)) rfl ω (by rw[Nat.zero_add];exact hp),Aa,Dh h ω];by_cases e:x=p;subst e;rw[Eg rfl,Aj];have A:H5 b.length ((j+1:Nat):Int) ((b.length:Nat):Int)=some (j+1,b.length):=(by unfold H5;rw[Ar ω];simp);rw[A,Aa];dsimp only;refine .inr ?_;refine Bbb (F1 (Q:=λz:(Int⊕((Nat×List Int)⊕Unit))=>∃(m:Nat)(o:Ag),z=.inr (.inl (m,o))/\m<=o.length/\Asc b b.length (o.take m)) (λz=>∃(w k:Nat)(o:Ag),z=((w:Int),(k:Int),o)/\o.length=b.length/\w<=j+k/\1<=k/\j+1+k<=b.length/\Asc b (j+1+k) (o.take w)/\∀i,w<=i->o[i]?=b[i]?) (λz=>b.length-(j+1)-z.2.1.toNat) (λz=>∃(w k:Nat)(o:Ag),z=((w:Int),(k:Int),o)/\o.length=b.length/\w<=b.length/\Asc b b.length (o.take w)) ?_ ?_ ?_);refine⟨j+1,1,b,rfl,rfl,ω,ω,ω,?_,λ_ _=>rfl⟩;exact N.same hp C;rintro z ⟨w,k,o,rfl,D,hw,hk,Z,f,c⟩;rcases Cf (j+1+k) b.length with h'|h';have H:b[j+1+k]?=some b[j+1+k]:=Bk h';have T:b[j+k]?=some b[j+k]:=Bk ω;generalize b[j+1+k]=y at H;generalize b[j+k]=q at T;have V:Ac ((k:Int)-1)=((k-1:Nat):Int):=(by rw[show((k:Int)-1)=((k-1:Nat):Int)by omega,Ac,Bn]<;>omega);have U:Ac ((k:Int)+1)=((k+1:Nat):Int):=Dh (n:=b.length) ω ω;have S:Ac ((w:Int)+1)=((w+1:Nat):Int):=Dh (n:=b.length) ω ω;have i1:Ew o (0+(j+1)) (b.length-(j+1)) (k:Int)=some y:=L7 rfl ω (by rw[Nat.zero_add,c _ ω];exact H);have i2:Ew o (0+(j+1)) (b.length-(j+1)) ((k-1:Nat):Int)=some q:=L7 rfl ω (by rw[Nat.zero_add,c _ ω,show j+1+(k-1)=j+k by omega];exact T);have I:o[w]?=some (o[w]' ω):=Bk _;have i3:Ew o 0 b.length (w:Int)=some (o[w]' ω):=L7 rfl ω (by rw[Nat.zero_add];exact I);simp only[Al (ω:(k:Int)<((b.length-(j+1):Nat):Int)),Aj,i1,i2,i3,V,U,S,Aa];by_cases e:y=q;subst e;rw[Dm rfl,Ai];refine .inl ⟨_,rfl,⟨w,k+1,o,rfl,D,ω,ω,ω,?_,c⟩,by simp only[Int.toNat_natCast];omega⟩;have:=Asc.same (q:=j+k) (x:=y) (by rw[show j+k+1=j+1+k by omega];exact f) T (by rw[show j+k+1=j+1+k by omega];exact H);rw[show j+1+(k+1)=j+k+2 by omega];exact this;rw[Dy e,Aj];have B:Ca o (((0:Nat):Int)+(w:Int)) y=o.set w y:=F2 (n:=w) ω y;have s:(o.set w y).take (w+1)=o.take w++[y]:=(by rw[C4 (x:=y) (by rw[getElem?_set,Ar rfl,Ar ω]),take_set_of_le (Nat.le_refl _)]);rw[B];refine .inl ⟨_,rfl,⟨w+1,k+1,o.set w y,rfl,by simpa using D,ω,ω,ω,?_,?_⟩,by simp only[Int.toNat_natCast];omega⟩;rw[s];have:=Asc.step R (q:=j+k) (x:=y) (p:=q) (by rw[show j+k+1=j+1+k by omega];exact f) T (by rw[show j+k+1=j+1+k by omega];exact H) e;rw[show j+1+(k+1)=j+k+2 by omega];exact this;intro i hi;rw[getElem?_set,Au ω];exact c i ω;have L:j+1+k=b.length:=ω;refine .inr ⟨((w:Int),(k:Int),o),?_,w,k,o,rfl,D,ω,by rw[<-L];exact f⟩;simp only[An (ω:¬(k:Int)<((b.length-(j+1):Nat):Int)),Ai];rintro z ⟨w,k,o,rfl,D,hw,f⟩;dsimp only;have g:N5 b.length (w:Int)=some w:=(by unfold N5;rw[Ar ω];simp);by_cases Y:w=0\/w<b.length;have u:H6 b.length (w:Int) ((b.length:Nat):Int)=some (.inl (w,b.length)):=(by unfold H6;rw[Ar ω,Ar ω];simp);have M:Sl o (0+w) (b.length-w) (0:Int)=some (D9 o (0+w) (replicate (b.length-w) 0)):=(by unfold Sl;rw[Ar ω]);rw[u,Aa];dsimp only;rw[M,Aa,g,Aa];have s:(D9 o (0+w) (replicate (b.length-w) (0:Int))).take w=o.take w:=(by unfold D9;rw[Nat.zero_add,append_assoc,take_append_of_le_length ζ,take_take,Nat.min_self]);refine⟨_,rfl,w,_,rfl,?_,?_⟩;unfold D9;simp;omega;rw[s];exact f;have u:H6 b.length (w:Int) ((b.length:Nat):Int)=some (.inr ()):=(by unfold H6;rw[Ar ω,Au ω]);rw[u,Aa];dsimp only;rw[g,Aa];exact⟨_,rfl,w,o,rfl,ω,f⟩;rw[Ch e,Ai];refine .inl ⟨_,rfl,⟨j+1,rfl,ω,?_⟩,by simp only[Int.toNat_natCast];omega⟩;have:=Asc.step R N hp C e;rw[<-C4 C]at this;exact this;have:j+1=b.length:=ω;refine .inr ⟨.inr (),?_,.inr ⟨rfl,by rw[<-this];exact N⟩⟩;rw[An ω];rfl;rintro e (⟨m,o,rfl,W,F⟩|⟨rfl,W⟩);exact⟨(m,o),rfl,W,F⟩;exact⟨(b.length,b),rfl,Nat.le_refl _,W⟩
noncomputable def Aac(cmp:α->α->A4)(a0:Int):Int×List α->Ο ((Int×List α)⊕(Int×List α)):=λ(e,b)=>(show OB from bif e>a0 then((Ae b e).bind λo=>(Ae b (Ac (e-1))).bind λg=>(cmp o g).bind λs=>some (decide (s<(0:Int))))else some false).bind λf=>bif f then((Ae b (Ac (e-1))).bind λh=>(Ae b e).bind λc=>(Ae b e).bind λw=>(Ae (Ca b e h) (Ac (e-1))).bind λA=>some (.inl (Ac (e-1),Ca (Ca b e h) (Ac (e-1)) c)))else some (.inr (e,b))
noncomputable def Aej(cmp:α->α->A4)(a0 a1:Int)(g:Λ α):Ο (List α):=(Ap (S:=(Int×(List α))) (E:=(List α)) (λ(e,b)=>bif e<a1 then((Ap (Aac cmp a0) (e,b)).bind λ(h,f)=>some (.inl (Ac (e+1),f)))else(some (.inr b))) (Ac (a0+1),g)).bind λc=>some c
theorem Bbd(A R:Λ α)(x y:α):((A++y::x::R).set (A.length+1) y).set A.length x=A++x::y::R:=by induction A with|nil=>rfl|cons a A ih=>simp only[Es,Fg,set_cons_succ,ih]
theorem Aon(A R:Λ α)(x:α):(A++x::R)[A.length]?=some x:=by simp
theorem Bbe(A R:Λ α)(x y:α):(A++y::x::R)[A.length+1]?=some x:=by induction A with|nil=>rfl|cons a A ih=>simp
theorem Bbf(cmp:α->α->A4)(y:α)(R:Λ α):Aac cmp 0 (0,y::R)=some (.inr (0,y::R)):=by unfold Aac;simp only[An (ω:¬(0:Int)>0),Ai,Aa]
theorem Bbg{c:α->α->Int}(i:N<=1099511627776)(A R:Λ α)(u y:α)(b:cmp u y=some (c u y))(f:(A++y::u::R).length<=N):Aac cmp 0 (((A.length+1:Nat):Int),A++y::u::R)=if c u y<0 then some (.inl ((A.length:Int),A++u::y::R))else some (.inr (((A.length+1:Nat):Int),A++y::u::R)):=by(have h:A.length+1<N:=by simp at f;omega);(have g:Ac (((A.length+1:Nat):Int)-1)=(A.length:Int):=by rw[Ac,Bn]<;>omega);unfold Aac;simp only[Al (ω:((A.length+1:Nat):Int)>0),Aj,g,Bu (n:=A.length+1) rfl (Bbe A R u y),Bu (n:=A.length) rfl (Aon A (u::R) y),Aa,b];by_cases e:c u y<0;rw[Al e,Ar e];simp only[Aj];rw[F2 (n:=A.length+1) rfl,F2 (n:=A.length) rfl,Bbd];have:Ae ((A++y::u::R).set (A.length+1) y) (A.length:Int)=some y:=(by refine Bu rfl ?_;rw[getElem?_set_ne ω];exact Aon A (u::R) y);rw[this];rfl;rw[An e,Au e];rfl
theorem Bbh{c:α->α->Int}(q:N<=1099511627776):∀(n:Nat)(A R:Λ α)(x:α),A.length=n->(∀t∈A,cmp x t=some (c x t))->(A++x::R).length<=N->∃f i,Ap (Aac cmp 0) ((A.length:Int),A++x::R)=some ((f.length:Int),f++x::(i++R))/\A=f++i/\(∀a∈i,c x a<0)/\∀k y,f=k++[y]->¬c x y<0:=by intro n;induction n with|zero=>intro A R x g _ _;have:A=[]:=Fp.1 g;subst this;exact⟨[],[],Cs (Bbf cmp x R),rfl,nofun,(λk y h=>by simp at h)⟩|succ n ih=>intro A R x g C b;(obtain⟨B,y,rfl⟩:∃B y,A=B++[y]:=by rcases eq_nil_or_concat A with h|⟨B,y,h⟩;rw[h]at g;cases g;exact⟨B,y,by simpa using h⟩);have s:B.length=n:=(by simpa using g);have D:(B++[y])++x::R=B++y::x::R:=ψ;have el:(((B++[y]).length:Nat):Int)=((B.length+1:Nat):Int):=ψ;rw[D]at b⊢;rw[el];have j:=Bbg (cmp:=cmp) (c:=c) q B R x y (C y ψ) b;by_cases w:c x y<0;rw[Ar w]at j;obtain⟨f,i,E,F,G,u⟩:=ih B (y::R) x s (λt H=>C t (by simp[H])) (by simpa using b);refine⟨f,i++[y],?_,by rw[F];simp,?_,u⟩;rw[Fj j,E];simp;intro a o;rcases Ea.1 o with o|o;exact G a o;simp only[Df]at o;subst o;exact w;rw[Au w]at j;refine⟨B++[y],[],?_,ψ,nofun,?_⟩;rw[Cs j];simp;intro k z l;have:=append_inj' l rfl;have e:y=z:=(by simpa using this.2);subst e;exact w
theorem Bbi{c:α->α->Int}(L:P9 c){f j:Λ α}{x:α}(s:(f++j).Pairwise λa b=>¬c b a<0)(w:∀a∈j,c x a<0)(A:∀g y,f=g++[y]->¬c x y<0):(f++x::j).Pairwise (λa b=>¬c b a<0):=by obtain⟨i,l,k⟩:=pairwise_append.1 s;(have B:∀a∈f,¬c x a<0:=by intro a e;rcases eq_nil_or_concat f with h|⟨g,y,h⟩;rw[h]at e;cases e;have h:f=g++[y]:=(by simpa using h);have q:=A g y h;rw[h]at e i;rcases Ea.1 e with e|e;exact L.ntr x y a q ((pairwise_append.1 i).2.2 a e y ψ);simp only[Df]at e;subst e;exact q);refine pairwise_append.2 ⟨i,pairwise_cons.2 ⟨λa e h=>L.irr x (L.trs x a x (w a e) h),l⟩,λa e b o=>?_⟩;rcases Ef.1 o with rfl|o;exact B a e;exact k a e b o
theorem Axi{c:α->α->Int}(L:P9 c)(f:Λ α)(A:∀x∈f,∀y∈f,cmp x y=some (c x y))(Q:f.length<=1099511627776):∃R,Aej cmp 0 (f.length:Int) f=some R/\R.Perm f/\R.Pairwise (λa b=>¬c b a<0):=by
 unfold Aej;cases f with
 |nil=>refine⟨[],?_,Perm.refl _,Pairwise.nil⟩;refine Jx 0 (λ_=>((1:Int),([]:Λ α))) (by simp[Ac,Bn]) (λj T=>ω) ⟨[],?_,rfl⟩;simp
 |cons z0 B=>
 generalize k:z0::B=f at *;have e:1<=f.length:=by rw[<-k];simp
 refine F1 (λs=>∃(i:Nat)(S:Λ α),s=((i:Int),S++f.drop i)/\1<=i/\i<=f.length/\S.length=i/\S.Perm (f.take i)/\S.Pairwise λa b=>¬c b a<0) (λs=>f.length-s.1.toNat) (λR=>R.Perm f/\R.Pairwise λa b=>¬c b a<0) ⟨1,[z0],by rw[<-k];simp[Ac,Bn],ω,e,rfl,by rw[<-k];simp,pairwise_singleton _ _⟩ ?_ ?_
 .rintro _ ⟨i,S,rfl,G,U,E,g,l⟩;rcases Cf i f.length with h|h
  .have F:f[i]?=some f[i]:=Bk h;have o:f[i]∈f:=getElem_mem h;generalize f[i]=x at F o;have D:f.drop i=x::f.drop (i+1):=Kb F;have z:(S++x::f.drop (i+1)).length=f.length:=ζ;simp only[Al (ω:(i:Int)<(f.length:Int)),Aj,Dh h ω];rw[D];left;obtain⟨u,q,w,C,H,I⟩:=Bbh (cmp:=cmp) (c:=c) (N:=f.length) ω S.length S (f.drop (i+1)) x rfl (λt J=>A x o t (mem_of_mem_take (g.mem_iff.1 J))) (by rw[z];exact Nat.le_refl _);rw[E]at w;have hp:(u++x::q).Perm (f.take (i+1)):=(by rw[C4 F];have:(u++x::q).Perm ((u++q)++[x]):=(by rw[append_assoc];exact Perm.append_left u (perm_append_singleton x q).symm);exact this.trans (by rw[<-C];exact g.append_right [x]));refine⟨(((i+1:Nat):Int),(u++x::q)++f.drop (i+1)),Cp w ψ,⟨i+1,u++x::q,rfl,ω,ω,?_,hp,?_⟩,ζ⟩
   .rw[hp.length_eq,length_take];omega
   .rw[C]at l;exact Bbi L l H I
  .have:i=f.length:=ω;subst this;rw[Dc]at g;simp only[An (ω:¬(f.length:Int)<(f.length:Int)),Ai,drop_length,append_nil];exact .inr ⟨S,rfl,g,l⟩
 .rintro R ⟨w,C⟩;exact⟨R,rfl,w,C⟩
noncomputable def Axj(B:Nat)(gr:Int->Ο (List α))(a0:Λ (List α)):Ο (List α):=(Ap (S:=(Int×Int)) (E:=Int) (λ(e,o)=>bif o<(a0.length:Int)then((Ae a0 o).bind λs=>bif(Ac (e+(s.length:Int)))<(0:Int)then(none)else(some (.inl (Ac (e+(s.length:Int)),Ac (o+1)))))else(some (.inr e))) (0,0)).bind λw=>(gr w).bind λi=>(Ap (S:=(Int×(List α))) (E:=(List α)) (λ(b,c)=>bif b<(a0.length:Int)then((Ae a0 b).bind λf=>(Cg B c f).bind λh=>some (.inl (Ac (b+1),h)))else(some (.inr c))) (0,i)).bind λg=>some g
theorem Aoo{B:Nat}(g:B<=1024){gr:Int->Ο (List α)}(hg:∀n:Nat,n<=1000000->gr (n:Int)=some [])(a b:Λ α)(h:a.length+b.length<=1000000):Axj B gr [a,b]=some (a++b):=by have w:a.length*B<=1000000*1024:=Nat.mul_le_mul ω g;have A:(a.length+b.length)*B<=1000000*1024:=Nat.mul_le_mul h g;(have f:Ac 1=1:=by rw[Ac,Bn]<;>omega);(have c:Ac 2=2:=by rw[Ac,Bn]<;>omega);(have k:Ac (a.length:Int)=(a.length:Int):=by rw[Ac,Bn]<;>omega);(have i:Ac ((a.length:Int)+(b.length:Int))=((a.length:Int)+(b.length:Int)):=by rw[Ac,Bn]<;>omega);have e:Ae [a,b] 0=some a:=rfl;have o:Ae [a,b] 1=some b:=rfl;(have q:Cg B [] a=some a:=by rw[Dd ζ];rfl);have l:Cg B a b=some (a++b):=Dd ω;unfold Axj;refine Jx 2 (λj=>if j=0 then(0,0)else if j=1 then((a.length:Int),1)else(((a.length+b.length:Nat):Int),2)) rfl ?_ ⟨((a.length+b.length:Nat):Int),?_,?_⟩;intro j s;rcases(ω:j=0\/j=1)with rfl|rfl;have:¬((a.length:Int)<0):=ω;simp[e,k,f,this];have:¬((a.length:Int)+(b.length:Int)<0):=ω;simp[o,i,c,this];simp;rw[hg _ h,Aa];refine Jx 2 (λj=>if j=0 then(0,[])else if j=1 then(1,a)else(2,a++b)) rfl ?_ ⟨a++b,?_,rfl⟩;intro j s;rcases(ω:j=0\/j=1)with rfl|rfl;simp[e,f,q];simp[o,c,l];simp
def sm:Nat->(Nat->Nat)->Nat
 |0,_=>0
 |n+1,f=>sm n f+f n
theorem Aek{f g:Nat->Nat}:∀{n:Nat},(∀k,k<n->f k=g k)->sm n f=sm n g
 |0,_=>rfl
 |n+1,h=>by rw[sm,sm,Aek (n:=n) λk e=>h k ω,h n ω]
theorem Ael(f g:Nat->Nat):∀n,sm n (λk=>f k+g k)=sm n f+sm n g
 |0=>rfl
 |n+1=>by simp only[sm,Ael f g n];omega
theorem Axk(c:Nat)(f:Nat->Nat):∀n,sm n (λk=>c*f k)=c*sm n f
 |0=>rfl
 |n+1=>by simp only[sm,Axk c f n,Nat.mul_add]
theorem Aem{f:Nat->Nat}:∀{n:Nat},(∀k,k<n->f k=0)->sm n f=0
 |0,_=>rfl
 |n+1,h=>by rw[sm,Aem (n:=n) λk e=>h k ω,h n ω]
theorem Aix(f:Nat->Nat):∀n,sm (n+1) f=f 0+sm n (λk=>f (k+1))
 |0=>by simp[sm]
 |n+1=>by rw[sm,Aix f n,sm];omega
theorem Axl{f:Nat->Nat}{n:Nat}:∀{m:Nat},n<=m->(∀k,n<=k->f k=0)->sm m f=sm n f
 |0,h,_=>by rw[show n=0 by omega]
 |m+1,h,b=>by by_cases e:n=m+1;rw[e];rw[sm,Axl (m:=m) ω b,b m ω,Nat.add_zero]
theorem Aen{f:Nat->Nat}(h:k<n)(b:∀j,j≠k->f j=0):sm n f=f k:=by induction n with|zero=>omega|succ n ih=>rw[sm];by_cases e:k=n;subst e;rw[Aem λj o=>b j ω,Nat.zero_add];rw[ih ω,b n ω,Nat.add_zero]
theorem Pr:∀n,bc n n=1
 |0=>rfl
 |n+1=>by
  rw[bc,Pr n]
  have:bc n (n+1)=0:=by have:=bc_big2 n (n+1) ω;exact this
  omega
where bc_big2:∀n k,n<k->bc n k=0
 |n,0,h=>absurd h ω
 |0,k+1,_=>rfl
 |n+1,k+1,h=>by rw[bc,bc_big2 n k ω,bc_big2 n (k+1) ω]
theorem Aad(h:n<k):bc n k=0:=Pr.bc_big2 n k h
theorem Aae(n k:Nat):bc (n+1) (k+1)=bc n k+bc n (k+1):=by rw[bc]
def Rc(a b k:Nat):Nat:=if b<=k then bc k a*bc a (k-b)else 0
theorem Axm{a b:Nat}(h:a+b<k):Rc a b k=0:=by unfold Rc;rw[Ar ω,Aad (show a<k-b by omega),Nat.mul_zero]
theorem Axn{a b:Nat}(h:k<a):Rc a b k=0:=by unfold Rc;split;rw[Aad h,Nat.zero_mul];rfl
theorem Axo(b k:Nat):Rc 0 b k=if k=b then 1 else 0:=by unfold Rc;by_cases h:k=b;subst h;rw[Ar (Nat.le_refl _),Ar rfl,Nat.sub_self,J2,J2];rw[Au h];split;rw[Aad (show 0<k-b by omega),Nat.mul_zero];rfl
theorem Axp(a k:Nat):Rc a 0 k=if k=a then 1 else 0:=by unfold Rc;rw[Ar (Nat.zero_le _),Nat.sub_zero];by_cases h:k=a;subst h;rw[Ar rfl,Pr];rw[Au h];rcases Cf k a with e|e;rw[Aad e,Nat.zero_mul];rw[Aad (show a<k by omega),Nat.mul_zero]
theorem Bbj(a b k:Nat):Rc (a+1) (b+1) (k+1)=Rc a (b+1) k+Rc (a+1) b k+Rc a b k:=by unfold Rc;by_cases h:b<=k;rw[Ar ω,Ar h,Ar h,show k+1-(b+1)=k-b by omega,Aae];by_cases e:b+1<=k;rw[Ar e];obtain⟨j,o⟩:∃j,k-b=j+1:=⟨k-b-1,ω⟩;rw[o,show k-(b+1)=j by omega,Aae];simp only[Nat.add_mul,Nat.mul_add];omega;rw[Au e,show k-b=0 by omega,J2,J2];omega;rw[Au ω,Au h,Au h,Au ω]
theorem Bbk(a b:Nat):Rc (a+1) (b+1) 0=0:=by unfold Rc;rw[Au ω]
theorem Bbl(f:Nat->Nat)(n N:Nat):sm (N+1) (λk=>f k*bc (n+1) k)=sm (N+1) (λk=>f k*bc n k)+sm N (λk=>f (k+1)*bc n k):=by rw[Aix,Aix λk=>f k*bc n k,J2,J2];(have:sm N (λk=>f (k+1)*bc (n+1) (k+1))=sm N (λk=>f (k+1)*bc n (k+1))+sm N (λk=>f (k+1)*bc n k):=by rw[<-Ael];exact Aek λk _=>by rw[Aae,Nat.mul_add];omega);rw[this];omega
theorem W5:∀(n a b N:Nat),a+b<N->sm N (λk=>Rc a b k*bc n k)=bc n a*bc n b
 |n,0,b,N,h=>by rw[J2,Nat.one_mul,Aen (k:=b) ω λj e=>by rw[Axo,Au e,Nat.zero_mul],Axo,Ar rfl,Nat.one_mul]
 |n,a+1,0,N,h=>by rw[J2,Nat.mul_one,Aen (k:=a+1) ω λj e=>by rw[Axp,Au e,Nat.zero_mul],Axp,Ar rfl,Nat.one_mul]
 |0,a+1,b+1,N,h=>by rw[show bc 0 (a+1)=0 from rfl,Nat.zero_mul];refine Aem λk _=>?_;cases k with|zero=>rw[Bbk,Nat.zero_mul]|succ k=>rw[show bc 0 (k+1)=0 from rfl,Nat.mul_zero]
 |n+1,a+1,b+1,N,h=>by obtain⟨N,rfl⟩:∃M,N=M+1:=⟨N-1,ω⟩;rw[Bbl,W5 n (a+1) (b+1) (N+1) h];have o:=W5 n a (b+1) N ω;have s:=W5 n (a+1) b N ω;have w:=W5 n a b N ω;have c:sm N (λk=>Rc (a+1) (b+1) (k+1)*bc n k)=sm N (λk=>Rc a (b+1) k*bc n k)+sm N (λk=>Rc (a+1) b k*bc n k)+sm N (λk=>Rc a b k*bc n k):=(by rw[<-Ael,<-Ael];exact Aek λk _=>by rw[Bbj,Nat.add_mul,Nat.add_mul]);rw[c,o,s,w,Aae,Aae,Nat.add_mul,Nat.mul_add,Nat.mul_add];omega
theorem Aop{f g:Nat->Nat}(h:∀n,n<N->sm N (λk=>f k*bc n k)=sm N λk=>g k*bc n k):∀k,k<N->f k=g k:=by intro k;induction k using Nat.strongRecOn with|ind k ih=>intro w;(have o:∀F:Nat->Nat,sm N (λj=>F j*bc k j)=sm k (λj=>F j*bc k j)+F k:=by intro F;(have e:sm N (λj=>F j*bc k j)=sm (k+1) (λj=>F j*bc k j):=Axl ω λj s=>by rw[Aad ω,Nat.mul_zero]);rw[e,sm,Pr,Nat.mul_one]);have:=h k w;rw[o f,o g,Aek (f:=λj=>f j*bc k j) (g:=λj=>g j*bc k j) λj s=>by rw[ih j s ω]]at this;omega
def Bbm(l:A2):Ag:=l.flatMap λa=>a.L.T.map (·.v)
def Bbn(m:Ax):Ag:=m.F.map (·.v)++Bbm m.A
theorem Bbo(F:Λ α)(g:α->Int)(o:Ag)(h:o.length+F.length<=1000000){J:Int×List Int->Ο R}(l:J ((F.length:Int),o++F.map g)=some r):(Ap (S:=(Int×List Int)) (E:=(Int×List Int)) (λ(e,b)=>bif e<(F.length:Int)then((Ae F e).bind λc=>(Cg 8 b [g c]).bind λi=>some (.inl (Ac (e+1),i)))else some (.inr (e,b))) (0,o)).bind J=some r:=by refine Ij F (λj=>((j:Int),o++(F.take j).map g)) ψ ω ?_ ?_;intro j f B k s w A;simp only[s,w,A,Aj,Aa];rw[Dd ζ,C4 k];simp;intro s;exact⟨_,by simp only[s];rfl,by rw[Dc];exact l⟩
theorem Bbp(f:α->Ag)(l:Λ α)(j:Nat):((l.take j).flatMap f).length<=(l.flatMap f).length:=by(have:l.flatMap f=(l.take j).flatMap f++(l.drop j).flatMap f:=by rw[<-flatMap_append,take_append_drop]);rw[this,E5];omega
theorem Axq(f:α->Ag){l:Λ α}{x:α}(h:l[j]?=some x):((l.take j).flatMap f).length+(f x).length<=(l.flatMap f).length:=by have:=Bbp f l (j+1);rw[C4 h,flatMap_append]at this;simpa using this
theorem Axr:∀(k:Nat)(t:A3),C5 t<=k->k<1099511627776->Tg k t=some t:=by intro k;induction k with|zero=>intro t h;have:=Gr t;omega|succ k ih=>intro t h A;have c:=Gr t;have b:=Oi t.K;rw[Tg];refine Ij t.K (λj=>((j:Int),t.K.take j)) rfl ω ?_ ?_;intro j x B e o s w;have:=Ns (B2 e);simp only[o,s,w,Aj,Aa,ih x ω ω];rw[Dd ζ,Aa,C4 e];intro o;exact⟨t.K,ψ,by cases t;rfl⟩
theorem Axs(m:Ax)(b:Ep m):Y7 m=some m:=by have f:=b.nf;have c:=b.na;unfold Y7;refine Ij m.F (λj=>((j:Int),m.F.take j)) rfl ω ?_ ?_;intro j x A e h o s;have w:=B2 e;have:=b.fi x w;simp only[h,o,s,Aj,Aa,Axr 4000000 x.I ω ω];rw[Dd ζ,Aa,C4 e];intro h;refine⟨m.F,ψ,?_⟩;dsimp only;refine Ij m.A (λj=>((j:Int),m.A.take j)) rfl ω ?_ ?_;intro j x A e h o s;have w:=B2 e;have:=b.al x w;simp only[h,o,s,Aj,Aa,Zg];rw[Dd ζ,Aa,Aa,Dd ζ,Aa,C4 e];rfl;intro h;exact⟨m.A,ψ,by cases m;rfl⟩
theorem Aoq(b:Λ α)(n k:Nat)(z x:α)(H:n<=b.length)(X:k<=n)(hb:n<=1000000):∃c:Λ α,((H6 (n+1) (Ac ((k:Int)+1)) (((n+1:Nat):Nat):Int)).bind λw=>match w with
    |.inl e=>(H5 (n+1) (k:Int) (((n+1:Nat):Nat):Int)).bind λf=>(Lt (D9 b n [z]) (0+e.1) (e.2-e.1) (0+f.1) (f.2-f.1)).bind λl=>some l
    |.inr _=>(H5 (n+1) (k:Int) (((n+1:Nat):Nat):Int)).bind λC=>some (D9 b n [z]))=some c/\c.length=max b.length (n+1)/\(c.set k x).take (n+1)=(b.take n).take k++x::(b.take n).drop k:=by
 have g:(D9 b n [z]).length=max b.length (n+1):=by rw[P3 H];rfl
 have s:∀i,i<n->(D9 b n [z])[i]?=b[i]?:=λi o=>by rw[Uq H,Ar o]
 have D:Ac ((k:Int)+1)=((k+1:Nat):Int):=Dh (n:=n+1) ω ω;have u:H5 (n+1) (k:Int) (((n+1:Nat):Nat):Int)=some (k,n+1):=by unfold H5;rw[Ar ω];simp
 have F:∃c:Λ α,((H6 (n+1) (Ac ((k:Int)+1)) (((n+1:Nat):Nat):Int)).bind λw=>match w with
    |.inl e=>(H5 (n+1) (k:Int) (((n+1:Nat):Nat):Int)).bind λf=>(Lt (D9 b n [z]) (0+e.1) (e.2-e.1) (0+f.1) (f.2-f.1)).bind λl=>some l
    |.inr _=>(H5 (n+1) (k:Int) (((n+1:Nat):Nat):Int)).bind λC=>some (D9 b n [z]))=some c/\c.length=max b.length (n+1)/\(∀i,i<k->c[i]?=b[i]?)/\∀i,k<=i->i<n->c[i+1]?=b[i]?:=by
  rw[D,u];by_cases E:k<n
  .have q:H6 (n+1) ((k+1:Nat):Int) (((n+1:Nat):Nat):Int)=some (.inl (k+1,n+1)):=(by unfold H6;rw[Ar ω,Ar ω];simp);rw[q,Aa];dsimp only;have A:Lt (D9 b n [z]) (0+(k+1)) (n+1-(k+1)) (0+k) (n+1-k)=some (D9 (D9 b n [z]) (0+(k+1)) (((D9 b n [z]).drop (0+k)).take (min (n+1-k) (n+1-(k+1))))):=(by unfold Lt;rw[Ar ω]);rw[Aa];dsimp only;rw[A,Aa];have I:(((D9 b n [z]).drop (0+k)).take (min (n+1-k) (n+1-(k+1)))).length=n-k:=(by rw[length_take,length_drop,g];omega);refine⟨_,rfl,?_,λi o=>?_,λi o h=>?_⟩
   .rw[P3 (by rw[g];omega),g,I];omega
   .rw[Uq (by rw[g];omega),Ar ω,s i ω]
   .rw[Uq (by rw[g];omega),Au ω,Ar (by rw[I];omega),getElem?_take,Ar ω,getElem?_drop,show 0+k+(i+1-(0+(k+1)))=i by omega,s i h]
  .have B:k=n:=ω;have q:H6 (n+1) ((k+1:Nat):Int) (((n+1:Nat):Nat):Int)=some (.inr ()):=(by unfold H6;rw[Ar ω,Au ω]);rw[q,Aa];dsimp only;rw[Aa];exact⟨_,rfl,g,λi o=>s i ω,λi o h=>ω⟩
 obtain⟨c,Q,S,T,U⟩:=F;refine⟨c,Q,S,?_⟩;have y:((b.take n).take k).length=k:=by rw[length_take,length_take];omega
 apply ext_getElem?;intro i;rw[getElem?_take,getElem?_set];by_cases J:i<k
 .rw[Ar ω,Au ω,T i J,getElem?_append_left ω,getElem?_take,Ar J,getElem?_take,Ar ω]
 .rw[getElem?_append_right ω,y];by_cases V:i=k
  .subst V;rw[Ar ω,Ar rfl,Ar ω,Nat.sub_self];rfl
  .obtain⟨j,W⟩:∃j,i=j+1:=⟨i-1,ω⟩;subst W;rw[show j+1-k=(j-k)+1 by omega,getElem?_cons_succ,getElem?_drop,show k+(j-k)=j by omega,getElem?_take];by_cases G:j<n
   .rw[Ar ω,Au ω,U j ω G,Ar G]
   .rw[Au ω,Au G]
theorem Axt(c:Nat)(b:Λ α)(n k:Nat)(G:n<=b.length)(H:k<n)(hb:(b.length+n)*c<=140737488355328)(q:n<=1000000):∃o:Λ α,((H6 n (Ac ((k:Int)+1)) ((n:Nat):Int)).bind λB=>match B with|.inl e=>(U3 c b k (0+e.1) (e.2-e.1)).bind λw=>some (w.2,w.1)|.inr _=>(M8 c b k []).bind λA=>some (A.2,A.1))=some (n-1,o)/\n-1<=o.length/\o.length<=b.length/\o.take (n-1)=(b.take n).take k++(b.take n).drop (k+1):=by have l:Ac ((k:Int)+1)=((k+1:Nat):Int):=Dh (n:=n+1) ω ω;rw[l];by_cases h:k+1<n;have f:H6 n ((k+1:Nat):Int) ((n:Nat):Int)=some (.inl (k+1,n)):=(by unfold H6;rw[Ar ω,Ar ω];simp);rw[f,Aa];dsimp only;have C:U3 c b k (0+(k+1)) (n-(k+1))=some (D9 b k ((b.drop (0+(k+1))).take (n-(k+1))),k+(n-(k+1))):=(by unfold U3;rw[Ar ⟨ω,ω,Nat.le_trans (Nat.mul_le_mul_right _ ω) hb⟩]);rw[C,Aa];have D:((b.drop (0+(k+1))).take (n-(k+1))).length=n-(k+1):=(by rw[length_take,length_drop];omega);refine⟨_,by rw[show k+(n-(k+1))=n-1 by omega],?_,?_,?_⟩;rw[P3 ω,D];omega;rw[P3 ω,D];omega;have j:((b.take n).take k).length=k:=(by rw[length_take,length_take];omega);apply ext_getElem?;intro i;rw[getElem?_take];by_cases E:i<k;rw[Ar ω,Uq ω,Ar E,getElem?_append_left ω,getElem?_take,Ar E,getElem?_take,Ar ω];rw[getElem?_append_right ω,j,getElem?_drop,getElem?_take];by_cases F:i<n-1;rw[Ar F,Uq ω,Au E,Ar (by rw[D];omega),getElem?_take,Ar ω,getElem?_drop,Ar ω,show 0+(k+1)+(i-k)=k+1+(i-k)by omega];rw[Au F,Au ω];have s:k+1=n:=ω;have f:H6 n ((k+1:Nat):Int) ((n:Nat):Int)=some (.inr ()):=(by unfold H6;rw[Ar ω,Au ω]);rw[f,Aa];dsimp only;have C:M8 c b k []=some (D9 b k [],k):=(by unfold M8;rw[Ar ⟨ω,Nat.le_trans (Nat.mul_le_mul_right _ ψ) hb⟩];rfl);rw[C,Aa];have g:D9 b k []=b:=(by unfold D9;simp);rw[g];refine⟨b,by rw[show n-1=k by omega],ω,Nat.le_refl _,?_⟩;have:(b.take n).drop (k+1)=[]:=(by rw[List.drop_eq_nil_iff,length_take];omega);rw[this,append_nil,take_take,show min k n=n-1 by omega]
theorem Bbq(a:Nat)(h:a<1099511627776):G2 .i64 (Ac (a:Int)) 2=some ((a/2:Nat):Int):=by(have e:Ac (a:Int)=(a:Int):=by rw[Ac,Bn]<;>omega);rw[e];unfold G2;rw[Au δ,Int.tdiv_eq_ediv_of_nonneg ω,show((a:Int)/2)=((a/2:Nat):Int)from rfl,Bn ω ω]
theorem Bbr(b:Ad)(n:Nat)(m:Ax)(hn:n<=b.length)(R:(b.take n).Pairwise ltT)(N:∀t∈b.take n,Ep t.M)(hb:n<=1000000):∃k:Nat,k<=n/\(∀(i:Nat)(t:Af),i<k->(b.take n)[i]?=some t->Du t.M m<0)/\(∀(i:Nat)(t:Af),k<=i->(b.take n)[i]?=some t->0<=Du t.M m)/\Ap (S:=(Int×Int)) (E:=Int) (λ(y,z)=>bif y<z then((G2 .i64 (Ac (y+z)) 2).bind λw=>(Ew b 0 n w).bind λH=>(Pb H.M m).bind λA=>bif A<(0:Int)then some (.inl (Ac (w+1),z))else some (.inl (y,w)))else some (.inr y)) (0,((n:Nat):Int))=some (k:Int):=by(have L:(b.take n).length=n:=by rw[length_take];omega);(have I:∀i,i<n->(b.take n)[i]?=b[i]?:=λi X=>by rw[getElem?_take,Ar X]);(have D:∀(i j:Nat)(t u:Af),i<j->(b.take n)[i]?=some t->(b.take n)[j]?=some u->Du t.M u.M<0:=λi j t u G o Q=>by have C:=Dz o;have F:=Dz Q;have:=(pairwise_iff_getElem.1 R) i j C F G;rw[Bk C]at o;rw[Bk F]at Q;cases o;cases Q;exact this);obtain⟨e,C,k,F,h3,V,U⟩:=Jc (step:=(λ(y,z)=>bif y<z then((G2 .i64 (Ac (y+z)) 2).bind λw=>(Ew b 0 n w).bind λH=>(Pb H.M m).bind λA=>bif A<(0:Int)then some (.inl (Ac (w+1),z))else some (.inl (y,w)))else some (.inr y):Int×Int->Ο ((Int×Int)⊕Int))) (λs=>∃i j:Nat,s=((i:Int),(j:Int))/\i<=j/\j<=n/\(∀(q:Nat)(t:Af),q<i->(b.take n)[q]?=some t->Du t.M m<0)/\(∀(q:Nat)(t:Af),j<=q->(b.take n)[q]?=some t->0<=Du t.M m)) (λs=>s.2.toNat-s.1.toNat) (λe=>∃k:Nat,e=(k:Int)/\k<=n/\(∀(i:Nat)(t:Af),i<k->(b.take n)[i]?=some t->Du t.M m<0)/\(∀(i:Nat)(t:Af),k<=i->(b.take n)[i]?=some t->0<=Du t.M m)) (by rintro s ⟨i,j,rfl,G,W,C,F⟩;rcases Cf i j with h|h;obtain⟨c,hm⟩:∃c:Nat,c=(i+j)/2:=⟨_,rfl⟩;have T:b[c]?=some (b[c]' ω):=Bk _;generalize b[c]'_=x at T;have f:(b.take n)[c]?=some x:=(by rw[I c ω];exact T);have J:=N x (B2 f);have M:((i:Int)+(j:Int))=((i+j:Nat):Int):=ω;simp only[Al (ω:(i:Int)<(j:Int)),Aj,M,Bbq (i+j) ω,<-hm,Aa,L7 (l:=b) (off:=0) (n:=n) (i:=(c:Int)) rfl ω (by rw[Nat.zero_add];exact T),Ah5 x.M m J];by_cases e:Du x.M m<0;rw[Al e,Aj,Dh (n:=n) ω ω];refine .inl ⟨_,rfl,⟨c+1,j,rfl,ω,W,λq t hq o=>?_,F⟩,by simp only[Int.toNat_natCast];omega⟩;by_cases B:q=c;subst B;rw[f]at o;cases o;exact e;exact Ub (D q c t x ω o f) e;rw[An e,Ai];refine .inl ⟨_,rfl,⟨i,c,rfl,ω,ω,C,λq t hq o=>?_⟩,by simp only[Int.toNat_natCast];omega⟩;by_cases B:q=c;subst B;rw[f]at o;cases o;omega;have g:=D c q x t ω f o;refine Classical.byContradiction λhc=>?_;exact e (Ub g ω);have:i=j:=ω;subst this;exact .inr ⟨(i:Int),by simp only[An (ω:¬(i:Int)<(i:Int)),Ai],i,rfl,W,C,F⟩) (0,((n:Nat):Int)) ⟨0,n,rfl,ω,Nat.le_refl _,λq t h=>ω,λq t h o=>by have:=Dz o;omega⟩;subst F;exact⟨k,h3,V,U,C⟩
theorem Ue(x:Rat):Im x=0↔x=0:=by unfold Im;constructor;intro h;split at h;cases h;split at h;cases h;grind;rintro rfl;rw[Au (by grind),Au (by grind)]
theorem Axu(L:Ad)(k:Nat)(m:Ax):cf L m=cf (L.take k) m+cf (L.drop k) m:=by rw[<-Mv,take_append_drop]
theorem CP.insert{x:Af}(h:CP L)(h1:∀(i:Nat)(t:Af),i<k->L[i]?=some t->Du t.M x.M<0)(h2:∀(i:Nat)(t:Af),k<=i->L[i]?=some t->Du x.M t.M<0)(h3:H4 x.C)(f:rq x.C≠0):CP (L.take k++x::L.drop k):=by refine⟨?_,λt e=>?_⟩;rw[pairwise_append];refine⟨h.srt.sublist (List.take_sublist _ _),?_,?_⟩;rw[pairwise_cons];refine⟨λt e=>?_,h.srt.sublist (drop_sublist _ _)⟩;obtain⟨i,hi⟩:=Ff e;rw[getElem?_drop]at hi;exact h2 (k+i) t ω hi;intro a ha c hc;obtain⟨i,hi⟩:=Ff ha;rw[getElem?_take]at hi;split at hi;rename_i b;rcases Ef.1 hc with rfl|hc;exact h1 i a b hi;obtain⟨j,o⟩:=Ff hc;rw[getElem?_drop]at o;have s:=Dz hi;have w:=Dz o;have:=(pairwise_iff_getElem.1 h.srt) i (k+j) s w ω;rw[Bk s]at hi;rw[Bk w]at o;cases hi;cases o;exact this;cases hi;rw[Ea,Ef]at e;rcases e with e|rfl|e;exact h.coe t (mem_of_mem_take e);exact⟨h3,f⟩;exact h.coe t (mem_of_mem_drop e)
theorem CP.remove(k:Nat)(h:CP L):CP (L.take k++L.drop (k+1)):=by
 have b:(L.take k++L.drop (k+1)).Sublist L:=by
  have:L=L.take k++L.drop k:=(take_append_drop k L).symm
  conv=>rhs;rw[this]
  refine List.Sublist.append (List.Sublist.refl _) ?_
  rw[show k+1=k+1 from rfl,<-drop_drop]
  exact drop_sublist _ _
 exact⟨h.srt.sublist b,λt e=>h.coe t (b.subset e)⟩
open Classical in
theorem Bbs(L:Ad)(k:Nat)(x:Af)(m:Ax):cf (L.take k++x::L.drop k) m=cf L m+(if x.M=m then rq x.C else 0):=by rw[Mv,Nv,Axu L k m];grind
theorem Bbt(h:L[k]?=some t):L.drop k=t::L.drop (k+1):=by have e:=Dz h;rw[drop_eq_getElem_cons e];rw[Bk e]at h;cases h;rfl
open Classical in
theorem Bbu{L:Ad}{k:Nat}{t:Af}(h:L[k]?=some t)(m:Ax):cf (L.take k++L.drop (k+1)) m=cf L m-(if t.M=m then rq t.C else 0):=by rw[Mv,Axu L k m,Bbt h,Nv];grind
structure PSt(K:Nat)(n:Nat)(b:List Af):Prop where
 le:n<=b.length
 cp:CP (b.take n)
 tm:∀t∈b.take n,RB K t.C/\Ep t.M
open Classical in
theorem R6{K kc:Nat}{n:Nat}{b:Ad}(h:PSt K n b){m:Ax}{c:Am}(hc:RB kc c)(hm:Ep m)(hK:K+kc+3<30000000000)(hb:b.length<=100000):∃(n':Nat)(o:Ad),Jq n m c b=some (n',o)/\o.length<=b.length+1/\PSt (K+kc+3) n' o/\∀B,cf (o.take n') B=cf (b.take n) B+(if m=B then rq c else 0):=by obtain⟨k,k1,k2,k3,k4⟩:=Bbr b n m h.le h.cp.srt (λt C=>(h.tm t C).2) (by have:=h.le;omega);(have b4:(b.take n).length=n:=by rw[length_take];have:=h.le;omega);(have G:∀i,i<n->(b.take n)[i]?=b[i]?:=λi H=>by rw[getElem?_take,Ar H]);have b5:=h.le;unfold Jq;rw[k4,Aa];by_cases V:∃t,k<n/\(b.take n)[k]?=some t/\Du t.M m=0;obtain⟨t,I,W,h3⟩:=V;have J:=h.tm t (B2 W);have X:t.M=m:=Ho.1 h3;have a0:b[k]?=some t:=(by rw[<-G k I];exact W);have a1:Ew b 0 n (k:Int)=some t:=L7 rfl I (by rw[Nat.zero_add];exact a0);obtain⟨s,s1,s2,s3,s4,s5⟩:=Aaa J.1 hc ω ω;have D:Ca b (((0:Nat):Int)+(k:Int)) (Af.mk s t.M)=b.set k ⟨s,t.M⟩:=F2 (n:=k) ω _;have a7:(b.set k ⟨s,t.M⟩)[k]?=some ⟨s,t.M⟩:=(by rw[getElem?_set,Ar rfl,Ar (Dz a0)]);have Q:Ew (b.set k ⟨s,t.M⟩) 0 n (k:Int)=some ⟨s,t.M⟩:=L7 rfl I (by rw[Nat.zero_add];exact a7);simp only[Al (ω:(k:Int)<(n:Int)),Aj,a1,Aa,Ah5 t.M m J.2,Eg h3,s2,D,Q,(J1 s3 ω).2];have E:(b.set k ⟨s,t.M⟩).take n=(b.take n).set k ⟨s,t.M⟩:=(by rw[List.take_set]);have S:(b.set k ⟨s,t.M⟩).length=b.length:=length_set;by_cases F:rq s=0;rw[Eg ((Ue _).2 F),Aj];have a2:N5 n (k:Int)=some k:=(by unfold N5;rw[Ar ω];simp);rw[a2,Aa];obtain⟨o,d1,d2,d3,d4⟩:=Axt 104 (b.set k ⟨s,t.M⟩) n k ω I (by rw[S];omega) ω;have a8:(b.set k ⟨s,t.M⟩).take n=(b.take n).set k ⟨s,t.M⟩:=E;have a9:((b.take n).set k ⟨s,t.M⟩).take k++((b.take n).set k ⟨s,t.M⟩).drop (k+1)=(b.take n).take k++(b.take n).drop (k+1):=(by rw[take_set_of_le (Nat.le_refl _),drop_set_of_lt ω]);rw[a8,a9]at d4;refine⟨n-1,o,d1,ω,⟨d2,by rw[d4];exact h.cp.remove k,λu w=>?_⟩,λB=>?_⟩;rw[d4,Ea]at w;(have a3:u∈b.take n:=by rcases w with w|w;exact mem_of_mem_take w;exact mem_of_mem_drop w);exact⟨((h.tm u a3).1).mono ω,(h.tm u a3).2⟩;rw[d4,Bbu W B,X];by_cases e:m=B;rw[Ar e,Ar e];have:rq c = - rq t.C:=(by rw[s5]at F;grind);rw[this];grind;rw[Au e,Au e];grind;rw[Ch λe=>F ((Ue _).1 e),Ai];refine⟨n,b.set k ⟨s,t.M⟩,rfl,ω,⟨ω,?_,λu w=>?_⟩,λB=>?_⟩;rw[E];refine⟨?_,λu w=>?_⟩;rw[pairwise_iff_getElem];intro i j H hj b0;(have g:∀(q:Nat)(hq:q<((b.take n).set k ⟨s,t.M⟩).length),(((b.take n).set k ⟨s,t.M⟩)[q]).M=((b.take n)[q]'(by rw[length_set]at hq;exact hq)).M:=by intro q hq;rw[List.getElem_set];split;rename_i e;subst e;have:=Bk (l:=b.take n) (i:=k) ω;rw[W]at this;rw[<-Fx this];rfl);unfold ltT;rw[g i H,g j hj];exact(pairwise_iff_getElem.1 h.cp.srt) i j _ _ b0;rcases mem_or_eq_of_mem_set w with w|rfl;exact h.cp.coe u w;exact⟨s4,F⟩;rw[E]at w;rcases mem_or_eq_of_mem_set w with w|rfl;exact⟨((h.tm u w).1).mono ω,(h.tm u w).2⟩;exact⟨s3,J.2⟩;rw[E,Aoi (u:=⟨s,t.M⟩) W rfl B,X];by_cases e:m=B;rw[Ar e,Ar e];show cf (b.take n) B+(rq s-rq t.C)=_;rw[s5];grind;rw[Au e,Au e];have T:∀t,(b.take n)[k]?=some t->Du t.M m≠0:=λt C e=>V ⟨t,by have:=Dz C;omega,C,e⟩;(have hq:(bif decide ((k:Int)<(n:Int))then(Ew b 0 n (k:Int)).bind λb1=>(Pb b1.M m).bind λb2=>some (b2==0)else some false)=some false:=by by_cases I:k<n;have U:b[k]?=some (b[k]' ω):=Bk _;generalize b[k]'_=x at U;have a4:(b.take n)[k]?=some x:=(by rw[G k I];exact U);rw[Al (ω:(k:Int)<(n:Int)),Aj,L7 (l:=b) (off:=0) (n:=n) (i:=(k:Int)) rfl I (by rw[Nat.zero_add];exact U),Aa,Ah5 x.M m (h.tm x (B2 a4)).2,Aa,Ch (T x a4)];rw[An ω];rfl);erw[hq];simp only[Aa,Ai,(J1 hc ω).2];by_cases F:rq c=0;rw[Eg ((Ue _).2 F),Aj];refine⟨n,b,rfl,ω,⟨h.le,h.cp,λu w=>⟨((h.tm u w).1).mono ω,(h.tm u w).2⟩⟩,λB=>?_⟩;rw[F];split<;>grind;rw[Ch λe=>F ((Ue _).1 e),Ai];have b3:M8 104 b n [Af.mk (Am.mk false [] []) (Ax.mk [] [])]=some (D9 b n [Af.mk (Am.mk false [] []) (Ax.mk [] [])],n+1):=(by unfold M8;rw[Ar ⟨h.le,ζ⟩];rfl);rw[b3,Aa];dsimp only;obtain⟨cc,c1,c2,c3,c4,c5⟩:=Awj hc ω;obtain⟨A,g1,g2,g3⟩:=Aoq b n k (Af.mk (Am.mk false [] []) (Ax.mk [] [])) ⟨cc,m⟩ h.le k1 ω;erw[g1];rw[Aa,c2,Aa,Axs m hm,Aa];have a5:A[k]?=some (A[k]' ω):=Bk _;rw[L7 (l:=A) (off:=0) (n:=n+1) (i:=(k:Int)) rfl ω (by rw[Nat.zero_add];exact a5),Aa];have D:Ca A (((0:Nat):Int)+(k:Int)) (Af.mk cc m)=A.set k ⟨cc,m⟩:=F2 (n:=k) ω _;rw[D];refine⟨n+1,A.set k ⟨cc,m⟩,rfl,by rw[length_set];omega,⟨by rw[length_set];omega,?_,λu w=>?_⟩,λB=>?_⟩;rw[g3];refine h.cp.insert (λi t H C=>k2 i t H C) (λi t H C=>?_) c3 (by rw[c4];exact F);have g:=k3 i t H C;(have b6:Du t.M m≠0:=by by_cases e:i=k;subst e;exact T t C;have a6:=Dz C;have U:(b.take n)[k]?=some ((b.take n)[k]' ω):=Bk _;have g5:=k3 k _ (Nat.le_refl _) U;have g6:=T _ U;have g7:=(pairwise_iff_getElem.1 h.cp.srt) k i ω a6 ω;rw[Bk a6]at C;cases C;intro e2;have:=Ho.1 e2;unfold ltT at g7;rw[this]at g7;omega);show Du m t.M<0;rw[W1 t.M m];omega;rw[g3,Ea,Ef]at w;rcases w with w|rfl|w;have:=h.tm u (mem_of_mem_take w);exact⟨this.1.mono ω,this.2⟩;exact⟨c5.mono ω,hm⟩;have:=h.tm u (mem_of_mem_drop w);exact⟨this.1.mono ω,this.2⟩;rw[g3,Bbs,c4]
theorem PSt.mono{K c:Nat}{b:Ad}(h:PSt K n b)(f:K<=c):PSt c n b:=⟨h.le,h.cp,λt e=>⟨((h.tm t e).1).mono f,(h.tm t e).2⟩⟩
open Classical in
theorem Bbv{J:Nat}(p q:Ad)(c:Am)(hl:p.length<=1000)(Q:q.length<=1000)(hp:∀t∈p,RB 1048576 t.C/\Ep t.M)(S:∀t∈q,RB 1048576 t.C/\Ep t.M)(T:RB J c)(U:J<=1048576):∃r,Vf p q c=some r/\(CP r/\(∀m,cf r m=cf p m+rq c*cf q m)/\r.length<=p.length+q.length/\∀t∈r,RB ((p.length+q.length)*2097200) t.C/\Ep t.M):=by unfold Vf;refine F1 (λs=>∃(n j:Nat)(b:Ad),s=(n,(j:Int),b)/\j<=p.length/\b.length<=j/\PSt (j*2097200) n b/\∀m,cf (b.take n) m=cf (p.take j) m) (λs=>p.length-s.2.1.toNat) (λe=>∃(n:Nat)(b:Ad),e=(n,b)/\b.length<=p.length/\PSt (p.length*2097200) n b/\∀m,cf (b.take n) m=cf p m) ⟨0,0,[],rfl,ω,ψ,⟨ψ,by simpa using CP.nil,λt V=>by simp at V⟩,λm=>rfl⟩ ?_ ?_;rintro s ⟨n,j,b,rfl,W,D,A,w⟩;rcases Cf j p.length with h|h;have B:p[j]?=some p[j]:=Bk h;generalize p[j]=t at B;obtain⟨t1,t2⟩:=hp t (B2 B);obtain⟨E,o,F,X,G,H⟩:=R6 A t1 t2 ω ω;simp only[Al (ω:(j:Int)<(p.length:Int)),Aj,Bu rfl B,Aa,F,Dh h ω];refine .inl ⟨_,rfl,⟨E,j+1,o,rfl,ω,ω,G.mono ω,λm=>?_⟩,by simp only[Int.toNat_natCast];omega⟩;rw[H m,w m,C4 B,Mv,Nv];show _=_+(_+(0:Rat));grind;have:j=p.length:=ω;subst this;rw[Dc]at w;exact .inr ⟨(n,b),by simp only[An (ω:¬(p.length:Int)<(p.length:Int)),Ai],n,b,rfl,D,A,w⟩;rintro e ⟨n0,b0,rfl,a0,I,C⟩;dsimp only;refine F1 (λs=>∃(n j:Nat)(b:Ad),s=(n,(j:Int),b)/\j<=q.length/\b.length<=p.length+j/\PSt ((p.length+j)*2097200) n b/\∀m,cf (b.take n) m=cf p m+rq c*cf (q.take j) m) (λs=>q.length-s.2.1.toNat) (λe=>∃(n:Nat)(b:Ad),e=(n,b)/\b.length<=p.length+q.length/\PSt ((p.length+q.length)*2097200) n b/\∀m,cf (b.take n) m=cf p m+rq c*cf q m) ⟨n0,0,b0,rfl,ω,ω,by simpa using I,λm=>by rw[C m];show _=_+rq c*(0:Rat);grind⟩ ?_ ?_;rintro s ⟨n,j,b,rfl,W,D,A,w⟩;rcases Cf j q.length with h|h;have B:q[j]?=some q[j]:=Bk h;generalize q[j]=t at B;obtain⟨t1,t2⟩:=S t (B2 B);obtain⟨d,d1,d2,d3,d4,d5⟩:=R4 T t1 ω δ;obtain⟨E,o,F,X,G,H⟩:=R6 A d3 t2 ω ω;simp only[Al (ω:(j:Int)<(q.length:Int)),Aj,Bu rfl B,Aa,d2,F,Dh h ω];refine .inl ⟨_,rfl,⟨E,j+1,o,rfl,ω,ω,G.mono ω,λm=>?_⟩,by simp only[Int.toNat_natCast];omega⟩;rw[H m,w m,C4 B,Mv,Nv,d5];show _=_+rq c*(_+(_+(0:Rat)));split<;>grind;have:j=q.length:=ω;subst this;rw[Dc]at w;exact .inr ⟨(n,b),by simp only[An (ω:¬(q.length:Int)<(q.length:Int)),Ai],n,b,rfl,D,A,w⟩;rintro e ⟨n,b,rfl,D,A,w⟩;refine⟨b.take n,?_,A.cp,w,by rw[length_take];omega,A.tm⟩;show(Jn b n).bind _=_;unfold Jn;rw[Ar A.le];rfl
theorem Bbw:∃r,Hj (-1)=some r/\RB 1 r/\rq r = -1:=by refine⟨_,R3 (-1) δ δ,?_,?_⟩;exact I6 _ _ _ 1 (J8 δ) (J8 δ) ω;rw[L5 _ _ _ δ];decide
theorem CP.dst(h:CP p):Dst p:=h.srt.imp λ{a b} o e=>by unfold ltT at o;rw[Ho.2 e]at o;omega
theorem Axv:P9 (λt u:Af=>Du t.M u.M) where
 irr x:=by
  show ¬Du x.M x.M<0
  rw[Awq];omega
 trs x y z h e:=Ub h e
 ntr x y z h e:=by
  show ¬Du x.M z.M<0
  have h:¬Du x.M y.M<0:=h
  have e:¬Du y.M z.M<0:=e
  intro o
  rcases Int.lt_trichotomy (Du x.M y.M) 0 with k|k|k
  .exact h k
  .rw[Ho.1 k]at o;exact e o
  .exact e (Ub (An5.1 k) o)
def Aiy(b:Ad):Ad:=b.mergeSort λt u=>decide (Du t.M u.M<=0)
theorem Axw(b:Ad):(Aiy b).Perm b:=mergeSort_perm _ _
theorem Bbx(f:Ad)(w:Dst f):(Aiy f).Pairwise ltT:=by have o:=pairwise_mergeSort (le:=λt u:Af=>decide (Du t.M u.M<=0)) (λa b c o s=>by simp only[Ed]at *;have:=Axv.ntr c b a (by show ¬Du _ _<0;rw[W1];omega) (by show ¬Du _ _<0;rw[W1];omega);have this:¬Du c.M a.M<0:=this;rw[W1]at this;omega) (λa b=>by simp only[Bool.or_eq_true,Ed];rw[W1 a.M b.M];omega) f;have s:(Aiy f).Pairwise λt u=>t.M≠u.M:=((Axw f).pairwise_iff λ{x y} h=>h.symm).2 w;refine(o.and s).imp λ{t u} h=>?_;have a:=of_decide_eq_true h.1;have b:Du t.M u.M≠0:=λe=>h.2 (Ho.1 e);unfold ltT;omega
theorem Aor(b:Ad)(s:Dst b)(o:∀t∈b,Ep t.M):∃R,Rg b=some R/\R.Perm b/\R.Pairwise ltT:=by rcases Cf 12 b.length with h|h;have e:Nat.ble b.length 12=false:=(by cases k:Nat.ble b.length 12 with|false=>rfl|true=>have:=Nat.le_of_ble_eq_true k;omega);unfold Rg;rw[e,Ai];obtain⟨r,f,i,A,B,hp,g⟩:=A4y (cmp:=Rh) (l:=b) (r:=Aiy b) ⟨_,Axv,λx C y _=>Aoj x y (o x C),Axw b,Bbx b s⟩;refine⟨r,f,hp,?_⟩;refine(Pairwise.imp_of_mem (S:=ltT) (λ{t u} w D h=>?_) g);have c:=B t (hp.mem_iff.1 w) u (hp.mem_iff.1 D);rw[Aoj t u (o t (hp.mem_iff.1 w))]at c;have c:=Fx c;unfold ltT;rw[c];exact h;exact Bat b s o h
theorem Aos(i:CSz x){ps:K2}(c:∀p∈ps,∀t∈p,TSz t)(j:ps.length<=1048576)(h:F4 x/\∀p∈ps,Kn x.D x.V x.E p=true):∃b,Nc x ps=some (.inl (true,x,b,[],x.D,x.V,x.E.G,x.E.U,x.E.R))/\Fc x.D x.V x.E b:=by obtain⟨r,g,f⟩:=Axe x i ps c j;(rcases f with⟨_,b,e,o⟩|⟨s,_⟩);exact⟨b,by rw[g,e],o⟩;exact(s h).elim
structure PR(x:A9)(n:Nat)(f:Ax->Rat)(R:List Af):Prop where
 cp:CP R
 val:∀m,cf R m=f m
 tb:∀t∈R,D2 x t.M/\RB 8589934592 t.C
 len:R.length<=n
theorem Axx{ts:Ad}(h:Col k (D2 x) ts)(A:k<8589934592)(o:ts.length<=1000):∃R,Ng (Fh ts) ts=some (R,0)/\PR x ts.length (cf ts) R:=by obtain⟨R,j,i,g,b,f⟩:=Aok (P:=D2 x) (λm h=>h.cmo) (Fh ts) ts h ω o λc _ s w=>Aor c s w;exact⟨R,j,i,g,λt e=>⟨(b t e).1,(b t e).2.mono ω⟩,f⟩
variable{x y:Am}{l m:A2}{p q:Ad}{K M N a b d j k n:Nat}{g:Nat->Nat}{α:Type}
theorem PR.of{x:A9}{m:Nat}{f g:Ax->Rat}{R:Ad}(h:PR x n f R)(hn:n<=m)(b:∀a,f a=g a):PR x m g R:=⟨h.cp,λa=>by rw[h.val,b],h.tb,Nat.le_trans h.len hn⟩
theorem Aot{x:A9}(I:CSz x)(J:F4 x)(hp:Hf x p)(C:Hf x q)(L:p.length+q.length<=1000):∃R,Nd x p q=some (R,0)/\PR x (p.length+q.length) (λm=>cf p m-cf q m) R:=by obtain⟨M,F⟩:=Axf I J hp C;unfold Nd;rw[F];simp only[Aa,Dj,Ai,Nf];obtain⟨u,l,j,i,g⟩:=Aab (k0:=1048579) (k:=1048576) (P:=D2 x) (λm h=>h.cmo) p [] (Col.nil _ _) hp.tb ω ω ζ;simp at i;obtain⟨r,B,A,z⟩:=Ba2;obtain⟨G,E,c,D,b⟩:=Axg (k:=1048576) q A (λt o=>(C.tb t o).1) ω ω ω;obtain⟨v,f,H,T,Q⟩:=Aab (k:=1048579) (P:=D2 x) (λm h=>h.cmo) G u j (λt o=>⟨(b t o).1,by obtain⟨w,S,e⟩:=(b t o).2;rw[<-e];exact(C.tb w S).2⟩) ω (by rw[c];omega) ω;obtain⟨R,y,s⟩:=Axx H (by rw[c];omega) ω;rw[show Mf p [] []=some (Fh u,u)from l,Aa,B,Aa,E,Aa,f,Aa,y,Aa];exact⟨R,rfl,s.of ω λm=>by rw[Q,g,D,z];simp only[cf];grind⟩
theorem Axy{x:A9}(u:CSz x)(z:F4 x)(hp:Hf x p){r:Am}(y:RB 1048576 r)(A:p.length<=1000):∃R,Ss x p r=some (R,0)/\PR x p.length (λm=>rq r*cf p m) R:=by obtain⟨B,D,_⟩:=Aos u (ps:=[p]) (λq o=>by simp only[Df]at o;subst o;exact hp.sz) ψ ⟨z,λq o=>by simp only[Df]at o;subst o;exact hp.can⟩;unfold Ss;rw[D];simp only[Aa,Dj,Ai,Nf];obtain⟨f,s,c,l,b⟩:=Axg (k:=1048576) p y (λt C=>(hp.tb t C).1) ω ω ω;obtain⟨v,g,E,F,G⟩:=Aab (k0:=1048576+1048576+2) (k:=1048576+1048576+2) (P:=D2 x) (λm h=>h.cmo) f [] (Col.nil _ _) (λt C=>⟨(b t C).1,by obtain⟨w,H,e⟩:=(b t C).2;rw[<-e];exact(hp.tb w H).2⟩) ω (by rw[c];omega) ζ;simp at F;obtain⟨R,j,i⟩:=Axx E (by rw[c];omega) ω;rw[s,Aa,show Mf f [] []=some (Fh v,v)from g,Aa,j,Aa];exact⟨R,rfl,i.of ω λm=>by rw[G,l];simp only[cf];grind⟩
theorem Axz{x:A9}(hp:Hf x p)(o:Hf x q){c:Am}(s:RB b c)(w:b<=1048576)(k:p.length+q.length<=1000):∃R,Vf p q c=some R/\Qd R=some (R,0)/\CP R/\∀m,cf R m=cf p m+rq c*cf q m:=by obtain⟨R,h,g,f,j,i⟩:=Bbv p q c ω ω (λt e=>⟨(hp.tb t e).1,(hp.sz t e).mo⟩) (λt e=>⟨(o.tb t e).1,(o.sz t e).mo⟩) s w;refine⟨R,h,?_,g,f⟩;unfold Qd;rw[An ω];rfl
theorem Hf.nil(x:A9):Hf x []:=⟨Aea.2 ⟨ψ,CP.nil,λt e=>by cases e⟩,λt e=>by cases e⟩
def R7(Δ:A0)(t:Ak)(c:Int):A1:=match I4 Δ t c with|some ts=>ts|none=>[]
theorem Aou:∀n k,bc n k<=n^k
 |n,0=>by rw[J2];exact Nat.le_refl _
 |0,k+1=>by simp[bc]
 |n+1,k+1=>by have h:=Aou n k;have o:=Aou n (k+1);have e:n^k<=(n+1)^k:=Nat.pow_le_pow_left ω k;have b:n^(k+1)<=n*(n+1)^k:=(by rw[Nat.pow_succ,Nat.mul_comm];exact Nat.mul_le_mul_left _ e);rw[bc,Nat.pow_succ,Nat.mul_add,Nat.mul_one,Nat.mul_comm];omega
def pdg(Δ:A0)(t:Ak)(e:A3):Nat:=match D0 Δ e.K (R7 Δ t e.U)with|some a=>a|none=>0
def pds(Δ:A0)(t:Ak)(es:Bo):Nat:=(es.map (pdg Δ t)).sum
theorem W6(Δ:A0):∀(es:Bo)(t:Ak)(d:Nat),I5 Δ es t=some d->d=es.length+pds Δ t es/\∀e∈es,∃ts,I4 Δ t e.U=some ts/\D0 Δ e.K ts=some (pdg Δ t e)
 |[],t,d,h=>by simp only[I5,Option.some.injEq]at h;subst h;exact⟨rfl,λe B=>by cases B⟩
 |e::es,t,d,h=>by rw[Ad0]at h;cases o:I4 Δ t e.U with|none=>rw[o]at h;cases h|some ts=>rw[o,Aa]at h;cases s:D0 Δ e.K ts with|none=>rw[s]at h;cases h|some a=>rw[s,Aa]at h;cases w:I5 Δ es t with|none=>rw[w]at h;cases h|some b=>rw[w]at h;have h:1+a+b=d:=Fx h;obtain⟨D,C⟩:=W6 Δ es t b w;have hp:pdg Δ t e=a:=(by unfold pdg R7;rw[o];simp only[s]);refine⟨by unfold pds at *;simp only[map_cons,sum_cons,Fg,hp];omega,λx A=>?_⟩;rcases Ef.1 A with rfl|A;exact⟨ts,o,by rw[hp];exact s⟩;exact C x A
def Sm(a:Nat):Prop:=a<=5000^6
theorem Sm.of(h:a<=5000^d)(hd:d<=6):Sm a:=Nat.le_trans h (Nat.pow_le_pow_right δ hd)
def Big:Nat:=1000000000^100
structure Np(x:Am)(a:Nat):Prop where
 rb:RB 200 x
 s:sv x=false
 n:nv x=a
 d:dv x=1
theorem Aov(h:a<Big):Bp a<=100:=J8 h
theorem Np.cR(h:Bp a<=200):Np (cR a) a:=⟨R5 h δ,(Aom a).1,(Aom a).2.1,(Aom a).2.2⟩
theorem Np.c(h:a<Big):Np (Ab.cR a) a:=Np.cR (by have:=Aov h;omega)
theorem Np.z:Np ⟨false,[],[]⟩ 0:=⟨A9s 200,by unfold sv;simp,by unfold nv;simp[As],by unfold dv;simp[As]⟩
theorem Np.add(hx:Np x a)(hy:Np y b):Rf x y=some (Ab.cR (a+b)):=by rw[Anv _ _ 200 200 hx.rb hy.rb ω ω,hx.s,hx.n,hx.d,hy.s,hy.n,hy.d];simp[K9,J0,Ab.cR]
theorem Np.mul(hx:Np x a)(hy:Np y b):Iu x y=some (Ab.cR (a*b)):=by rw[Ad6 _ _ 200 200 hx.rb hy.rb ω ω,hx.s,hx.n,hx.d,hy.s,hy.n,hy.d];simp[Ab.cR]
theorem Np.sign(hx:Np x a):Jd x=some (if a=0 then 0 else 1):=by rw[Ant _ 200 hx.rb ω,hx.s,hx.n];simp[K7]
theorem Np.can(hx:Np x a):Qf x=some (Ab.cR a):=by rw[Aie _ 200 hx.rb ω,hx.s,hx.n,hx.d];rfl
def Ls(n:Nat)(f:Nat->Nat):Bc:=(range n).map λk=>cR (f k)
theorem Nw(n:Nat)(f:Nat->Nat):(Ls n f).length=n:=by simp[Ls]
theorem Mx(f:Nat->Nat)(h:k<n):(Ls n f)[k]?=some (cR (f k)):=by simp[Ls,h]
theorem Aeo{l:Bc}{f:Nat->Nat}(b:l.length=n)(h:∀k,k<n->l[k]?=some (cR (f k))):l=Ls n f:=by apply ext_getElem?;intro k;rcases Cf k n with e|e;rw[h k e,Mx f e];rw[Ts ω,Ts (by rw[Nw];omega)]
theorem Aiz{R:Type}{step:Int×List α->Ο ((Int×List α)⊕List α)}{J:Λ α->Ο R}{r:R}{i:Nat}(o:Λ α)(g:Nat->α)(hi:i<=n)(D:o.length=n)(l:∀(j:Nat)(o':Λ α),i<=j->j<n->o'.length=n->step ((j:Int),o')=some (.inl (((j+1:Nat):Int),o'.set j (g j))))(E:∀o',o'.length=n->step ((n:Int),o')=some (.inr o'))(x:∀o',o'.length=n->(∀k,k<i->o'[k]?=o[k]?)->(∀k,i<=k->k<n->o'[k]?=some (g k))->J o'=some r):(Ap step ((i:Int),o)).bind J=some r:=by obtain⟨e,y,f⟩:=Jc (step:=step) (λs=>∃(j:Nat)(o':Λ α),s=((j:Int),o')/\i<=j/\j<=n/\o'.length=n/\(∀k,k<i->o'[k]?=o[k]?)/\∀k,i<=k->k<j->o'[k]?=some (g k)) (λs=>n-s.1.toNat) (λo'=>o'.length=n/\(∀k,k<i->o'[k]?=o[k]?)/\∀k,i<=k->k<n->o'[k]?=some (g k)) (by rintro _ ⟨j,o',rfl,c,u,w,A,B⟩;rcases Cf j n with h|h;refine .inl ⟨_,l j o' c h w,⟨j+1,o'.set j (g j),rfl,ω,ω,by simp[w],λk F=>?_,λk b q=>?_⟩,ζ⟩;rw[getElem?_set_ne ω];exact A k F;rcases Cf k j with C|C;rw[getElem?_set_ne ω];exact B k b C;have:k=j:=ω;subst this;rw[getElem?_set_self ω];have:j=n:=ω;subst this;exact .inr ⟨o',E o' w,w,A,B⟩) ((i:Int),o) ⟨i,o,rfl,ω,hi,D,λ_ _=>rfl,λk w A=>ω⟩;rw[y,Aa];exact x e f.1 f.2.1 f.2.2
theorem Bby(n:Nat)(C:n<=1000):Adi (n:Int)=some (Ls n λ_=>0):=by unfold Adi;rw[Lj rfl rfl (Nat.le_refl _) ω ω,Aa];refine Aiz (i:=0) (n:=n) _ (λ_=>cR 0) ω ψ ?_ ?_ ?_;intro j e _ s o;have w:e[j]?=some e[j]:=Bk ω;simp only[length_replicate,Al (ω:(j:Int)<(n:Int)),Aj,Ba3,Aa,Bu rfl w,Dh s ω,F2 (n:=j) rfl];intro e h;simp only[length_replicate,An (ω:¬(n:Int)<(n:Int)),Ai];intro e A _ o;rw[Aeo A (f:=λ_=>0) λk B=>o k ω B]
theorem Ax0(n k:Nat)(e:n<1000000000)(o:k<=64):Ag4 (n:Int) (k:Int)=some (cR (bc n k)):=by(have h:Zm (n:Int) (k:Int)=some (cR (bc n k)):=by rw[Awa n k e o,Aeh,show Bj false (E8 k*bc n k) (E8 k)=Bj false (E8 k*bc n k) (E8 k*1)by rw[Nat.mul_one],Po _ _ _ _ (Ww k)];rfl);exact h
theorem Ax1(h:n<=40):bc n k<Big:=by refine Nat.lt_of_le_of_lt (Aei n k) ?_;exact Nat.lt_of_le_of_lt (Nat.pow_le_pow_right δ h) δ
theorem Bbz(a b:Nat)(E:a<=16)(hb:b<=16):Zn (a:Int) (b:Int)=some (Ls (a+b+1) (Rc a b)):=by unfold Zn;(have q:Ac ((a:Int)+(b:Int))=((a+b:Nat):Int):=by rw[Ac,Bn]<;>omega);(have l:Ac (((a+b:Nat):Int)+1)=((a+b+1:Nat):Int):=by rw[Ac,Bn]<;>omega);(have e:(if(b:Int)>(a:Int)then(b:Int)else(a:Int))=((max a b:Nat):Int):=by split<;>omega);rw[q,l,Bby _ ω,Aa,e];refine Aiz (i:=max a b) (n:=a+b+1) _ (λk=>cR (Rc a b k)) ω (by simp[Nw]) ?_ ?_ ?_;intro j o A w B;have D:o[j]?=some o[j]:=Bk ω;have g:Ac ((j:Int)-(b:Int))=((j-b:Nat):Int):=ξ;have s:Rc a b j=bc j a*bc a (j-b):=(by unfold Rc;rw[Ar ω]);simp only[Al (ω:(j:Int)<=((a+b:Nat):Int)),Aj,Ax0 j a ω ω,g,Ax0 a (j-b) ω ω,Aa,(Np.c (Ax1 (ω:j<=40))).mul (Np.c (Ax1 (k:=j-b) (ω:a<=40))),Bu rfl D,Dh w ω,F2 (n:=j) rfl,s];intro o h;simp only[An (ω:¬((a+b+1:Nat):Int)<=((a+b:Nat):Int)),Ai];intro o A w B;rw[Aeo A (f:=Rc a b) λk C=>?_];rcases Cf k (max a b)with h|h;rw[w k h,Mx _ C];(have:Rc a b k=0:=by rcases(ω:k<a\/k<b)with h|h;exact Axn h;unfold Rc;rw[Au ω]);rw[this];exact B k h C
theorem Bb0{m:Nat}{f:Nat->Nat}{c:Nat}(I:m<=1000)(J:n<=1000)(A:∀k,k<m->f k<Big)(hg:∀k,k<n->g k<Big)(w:c<Big):V7 (Ls m f) (Ls n g) (cR c)=some (Ls (max m n) λk=>(if k<m then f k else 0)+(if k<n then g k else 0)*c):=by unfold V7;rw[Nw,Nw];(have e:(if(n:Int)>(m:Int)then(n:Int)else(m:Int))=((max m n:Nat):Int):=by split<;>omega);rw[e,Lj rfl rfl (Nat.le_refl _) ω ω,Aa];refine Aiz (i:=0) (n:=max m n) _ (λk=>cR ((if k<m then f k else 0)+(if k<n then g k else 0)*c)) ω ψ ?_ ?_ ?_;intro j o _ C B;have D:o[j]?=some o[j]:=Bk ω;(obtain⟨x,u,s⟩:∃x:Am,(bif decide ((j:Int)<(m:Int))then((Ae (Ls m f) (j:Int)).bind λb=>some (b.N,b.U,b.B))else some (false,[],[]))=some (x.N,x.U,x.B)/\Np x (if j<m then f j else 0):=by by_cases h:j<m;rw[Al ω,Aj,Bu rfl (Mx f h),Ar h];exact⟨_,rfl,Np.c (A j h)⟩;rw[An ω,Ai,Au h];exact⟨⟨false,[],[]⟩,rfl,Np.z⟩);(obtain⟨y,q,l⟩:∃x:Am,(bif decide ((j:Int)<(n:Int))then((Ae (Ls n g) (j:Int)).bind λb=>some (b.N,b.U,b.B))else some (false,[],[]))=some (x.N,x.U,x.B)/\Np x (if j<n then g j else 0)/\(if j<n then g j else 0)<Big:=by by_cases h:j<n;rw[Al ω,Aj,Bu rfl (Mx g h),Ar h];exact⟨_,rfl,Np.c (hg j h),hg j h⟩;rw[An ω,Ai,Au h];exact⟨⟨false,[],[]⟩,rfl,Np.z,δ⟩);have E:Bp ((if j<n then g j else 0)*c)<=200:=(by have:=Ht (if j<n then g j else 0) c;have:=Aov l.2;have:=Aov w;omega);have F:Adc x y (cR c)=some (cR ((if j<m then f j else 0)+(if j<n then g j else 0)*c)):=(by unfold Adc;rw[(Np.c w).mul l.1,Aa,Nat.mul_comm c,s.add (Np.cR E)];rfl);simp only[length_replicate,Al (ω:(j:Int)<((max m n:Nat):Int)),Aj];erw[u,Aa,q,Aa];dsimp only;rw[F,Aa,Bu rfl D,Aa,Dh C ω,F2 (n:=j) rfl];intro o h;simp only[length_replicate,An (ω:¬((max m n:Nat):Int)<((max m n:Nat):Int)),Ai];intro o G _ B;rw[Aeo G (f:=λk=>(if k<m then f k else 0)+(if k<n then g k else 0)*c) λk H=>B k ω H]
theorem Aow{p:Bc}{f:Nat->Nat}(E:n<1000)(s:p.length=n+1)(hp:∀k,k<n+1->∃x,p[k]?=some x/\Np x (f k))(b:f n≠0):Qo p=some (Ls (n+1) f):=by unfold Qo;obtain⟨x,q,l⟩:=hp n ω;(have w:Ac (((n+1:Nat):Int)-1)=(n:Int):=by rw[Ac,Bn]<;>omega);refine Cp (a:=((n+1:Nat):Int)) (Cs ?_) ?_;rw[s];simp only[Al (ω:((n+1:Nat):Int)>0),Aj,w,Bu rfl q,Aa,l.sign,Au b];rfl;rw[Lj rfl rfl (Nat.le_refl _) ω ω,Aa];refine Aiz (i:=0) (n:=n+1) _ (λk=>cR (f k)) ω ψ ?_ ?_ ?_;intro j e _ o A;have B:e[j]?=some e[j]:=Bk ω;obtain⟨y,g,c⟩:=hp j o;simp only[length_replicate,Al (ω:(j:Int)<((n+1:Nat):Int)),Aj,Bu rfl g,c.can,Aa,Bu rfl B,Dh o ω,F2 (n:=j) rfl];intro e h;simp only[length_replicate,An (ω:¬((n+1:Nat):Int)<((n+1:Nat):Int)),Ai];intro e C _ A;rw[Aeo C (f:=f) λk D=>A k ω D]
def H8(n d:Nat)(f:Nat->Nat)(k:Nat):Nat:=sm n λa=>f a*Rc a d k
theorem Ax2(a d:Nat):0<Rc a d (a+d):=by unfold Rc;rw[Ar ω,show a+d-d=a by omega,Pr];(have:0<bc (a+d) a:=by(have h:∀d,0<bc (a+d) a:=by intro d;induction d with|zero=>rw[Nat.add_zero,Pr];decide|succ d ih=>cases a with|zero=>rw[J2];decide|succ a=>rw[show a+1+(d+1)=(a+1+d)+1 by omega,Aae];omega);exact h d);omega
theorem Bb1{f:Nat->Nat}{p q:Bc}(a1:n+d<=12)(hp:p=Ls (n+1) f)(i:f n≠0)(hq:q.length=d+1)(R:∀k,k<d+1->∃x,q[k]?=some x/\Np x (if k=d then 1 else 0))(U:∀k,k<n+1->f k<Big)(Y:∀a k,a<=n+1->H8 a d f k<Big):Ac1 p q=some (Ls (n+d+1) (H8 (n+1) d f),true):=by
 unfold Ac1;(have l:p.length=n+1:=by rw[hp,Nw]);rw[l,hq,An ω,An ω];simp only[Ai,Aa];have c1:Qo p=some (Ls (n+1) f):=Aow ω l (λk o=>⟨_,by rw[hp];exact Mx f o,Np.c (U k o)⟩) i;have c2:Qo q=some (Ls (d+1) λk=>if k=d then 1 else 0):=Aow ω hq R ψ;(have w:Ac (((n+1:Nat):Int)+((d+1:Nat):Int))=((n+d+2:Nat):Int):=by rw[Ac,Bn]<;>omega);rw[c1,Aa,c2,Aa,Nw,Nw,Ch ω,Ch ω];simp only[Ai,Aa];rw[w,An ω,Ai]
 obtain⟨r,r1,Z⟩:=F1 (J:=λB=>(Qo B).bind λA=>some (A,true)) (Q:=λr=>r=(Ls (n+d+1) (H8 (n+1) d f),true)) (step:=λ(x:List Am×Int)=>match x with
  |(T,F)=>
   bif F<((n+1:Nat):Int)then((Ae (Ls (n+1) f) F).bind λM=>(Ap (S:=(List Am×Int)) (E:=(List Am×Int)) (λ(g,C)=>bif C<((d+1:Nat):Int)then((Ae (Ls (d+1) λk=>if k=d then 1 else 0) C).bind λI=>(Iu M I).bind λW=>(Jd W).bind λG=>bif(G==(0:Int))then(some (.inl (g,Ac (C+1))))else((Zn F C).bind λD=>(V7 g D W).bind λa0=>some (.inl (a0,Ac (C+1)))))else(some (.inr (g,C)))) (T,0)).bind λ(a2,a3)=>some (.inl (a2,Ac (F+1))))else(some (.inr T))) (s:=([],0))
  (λs=>∃(a L:Nat)(h:Nat->Nat),s=(Ls L h,(a:Int))/\a<=n+1/\L<=a+d/\(∀k,(if k<L then h k else 0)=H8 a d f k)/\(a=n+1->L=n+d+1)) (λs=>n+1-s.2.toNat)
  (λe=>e=Ls (n+d+1) (H8 (n+1) d f)) ⟨0,0,λ_=>0,rfl,ω,ω,λk=>by simp[H8,sm],ω⟩ (by
  rintro _ ⟨a,L,h,rfl,ha,hL,z,y⟩
  rcases Cf a (n+1)with H|H
  .left
   have N:Np (cR 0) 0:=Np.c δ
   have b:∀k,H8 (a+1) d f k=H8 a d f k+f a*Rc a d k:=λk=>rfl
   have hh:∀k,k<L->h k<Big:=λk o=>by
    have:=z k
    rw[Ar o]at this
    rw[this];exact Y a k ω
   by_cases h0:f a=0
   .refine⟨(Ls L h,((a+1:Nat):Int)),?_,⟨a+1,L,h,rfl,ω,ω,λk=>by rw[b,h0,z];simp,λe=>?_⟩,ζ⟩
    .simp only[Al (ω:(a:Int)<((n+1:Nat):Int)),Aj,Bu rfl (Mx f H),Aa,h0]
     refine Jx (d+1) (λj=>(Ls L h,(j:Int))) rfl ?_ ⟨(Ls L h,((d+1:Nat):Int)),?_,?_⟩
     .intro j hj
      have hy:Np (cR (if j=d then 1 else 0)) (if j=d then 1 else 0):=Np.c (by split<;>decide)
      simp only[Al (ω:(j:Int)<((d+1:Nat):Int)),Aj,Bu rfl (Mx _ hj),Aa,N.mul hy,Nat.zero_mul,N.sign,if_true,Dh hj ω]
      rfl
     .simp only[An (ω:¬((d+1:Nat):Int)<((d+1:Nat):Int)),Ai]
     .rw[Dh H ω]
    .have:a=n:=ω
     subst this;exact(i h0).elim
   .have u:=Np.c (U a H)
    have V:V7 (Ls L h) (Ls (a+d+1) (Rc a d)) (cR (f a))=some (Ls (a+d+1) λk=>(if k<L then h k else 0)+(if k<a+d+1 then Rc a d k else 0)*f a):=by
     rw[Bb0 ω ω hh (λk o=>?_) (U a H),show max L (a+d+1)=a+d+1 by omega]
     unfold Rc
     split
     .refine Nat.lt_of_le_of_lt (Nat.mul_le_mul (Aei k a) (Aei a (k-d))) ?_
      rw[<-Nat.pow_add]
      exact Nat.lt_of_le_of_lt (Nat.pow_le_pow_right δ (ω:k+a<=40)) δ
     .decide
    refine⟨(Ls (a+d+1) λk=>(if k<L then h k else 0)+(if k<a+d+1 then Rc a d k else 0)*f a,((a+1:Nat):Int)),?_,⟨a+1,a+d+1,_,rfl,ω,ω,λk=>?_,λe=>ω⟩,ζ⟩
    .simp only[Al (ω:(a:Int)<((n+1:Nat):Int)),Aj,Bu rfl (Mx f H),Aa]
     refine Jx (d+1) (λj=>if j<=d then(Ls L h,(j:Int))else(Ls (a+d+1) λk=>(if k<L then h k else 0)+(if k<a+d+1 then Rc a d k else 0)*f a,(j:Int))) ψ ?_ ⟨((Ls (a+d+1) λk=>(if k<L then h k else 0)+(if k<a+d+1 then Rc a d k else 0)*f a),((d+1:Nat):Int)),?_,?_⟩
     .intro j hj
      have hy:Np (cR (if j=d then 1 else 0)) (if j=d then 1 else 0):=Np.c (by split<;>decide)
      rw[Ar ω]
      simp only[Al (ω:(j:Int)<((d+1:Nat):Int)),Aj,Bu rfl (Mx _ hj),Aa,u.mul hy,Dh hj ω]
      rcases Cf j d with h2|h2
      .rw[Au (ω:¬j=d),Nat.mul_zero,N.sign,Aa,Ar (ω:j+1<=d)]
       rfl
      .have:j=d:=ω
       subst this
       rw[Ar rfl,Nat.mul_one,u.sign,Aa,Au h0,Bbz a j ω ω,Aa,V,Au ω]
       rfl
     .rw[Au ω]
      simp only[An (ω:¬((d+1:Nat):Int)<((d+1:Nat):Int)),Ai]
     .rw[Dh H ω]
    .rw[b,<-z]
     by_cases o:k<a+d+1
     .rw[Ar o,Ar o,Nat.mul_comm (Rc a d k)]
     .rw[Au o,Au ω,Axm ω];simp
  .have:a=n+1:=ω
   subst this
   right
   have X:=y rfl
   refine⟨Ls L h,?_,?_⟩
   .simp only[An (ω:¬((n+1:Nat):Int)<((n+1:Nat):Int)),Ai]
   .subst X
    refine Aeo (Nw _ _) λk o=>?_
    have:=z k
    rw[Ar o]at this
    rw[Mx _ o,this]) (by
  rintro _ rfl
  refine⟨_,Cp (Aow (n:=n+d) (f:=H8 (n+1) d f) ω (Nw _ _) (λk o=>⟨_,Mx _ o,Np.c (Y _ _ ω)⟩) ?_) rfl,rfl⟩
  have e:H8 (n+1) d f (n+d)=H8 n d f (n+d)+f n*Rc n d (n+d):=rfl
  have:=Nat.mul_pos (Nat.pos_of_ne_zero i) (Ax2 n d)
  omega)
 rw[<-Z];exact r1
theorem Bb2(d x N:Nat)(f:Nat->Nat):∀M,(∀a,a<M->a+d<N)->sm N (λk=>H8 M d f k*bc x k)=sm M (λa=>f a*bc x a)*bc x d:=by intro M;induction M with|zero=>intro _;rw[Aem (λk _=>by simp[H8,sm])];simp[sm]|succ M ih=>intro h;(have e:∀k,H8 (M+1) d f k*bc x k=H8 M d f k*bc x k+f M*(Rc M d k*bc x k):=λk=>by show(H8 M d f k+f M*Rc M d k)*bc x k=_;rw[Nat.add_mul,Nat.mul_assoc]);rw[Aek λk _=>e k,Ael,ih λa o=>h a ω,Axk,W5 x M d N (h M ω)];show _=(sm M (λa=>f a*bc x a)+f M*bc x M)*bc x d;rw[Nat.add_mul,Nat.mul_assoc (f M)]
theorem Bb3(d:Nat)(f:Nat->Nat)(k:Nat):∀{m n:Nat},m<=n->H8 m d f k<=H8 n d f k:=by intro m n h;induction n with|zero=>have:m=0:=ω;subst this;exact Nat.le_refl _|succ n ih=>rcases Cf m (n+1)with o|o;have:=ih ω;have e:H8 (n+1) d f k=H8 n d f k+f n*Rc n d k:=rfl;omega;have:m=n+1:=ω;subst this;exact Nat.le_refl _
def Ft(x:Nat):A2->Nat
 |[]=>1
 |a::l=>bc x a.P.toNat*Ft x l
def Bz:A2->Nat
 |[]=>0
 |a::l=>a.P.toNat+Bz l
theorem Ax3(x:Nat)(l m:A2):Ft x (l++m)=Ft x l*Ft x m:=by induction l with|nil=>simp[Ft]|cons a l ih=>simp only[Es,Ft,ih,Nat.mul_assoc]
theorem Oq(l m:A2):Bz (l++m)=Bz l+Bz m:=by induction l with|nil=>simp[Bz]|cons a l ih=>simp only[Es,Bz,ih,Nat.add_assoc]
theorem Aox(x:Nat)(h:l.Perm m):Ft x l=Ft x m:=by induction h with|nil=>rfl|cons a _ ih=>simp only[Ft,ih]|swap a b l=>simp only[Ft];rw[<-Nat.mul_assoc,<-Nat.mul_assoc,Nat.mul_comm (bc x b.P.toNat)]|trans _ _ e o=>exact e.trans o
theorem Ps(h:l.Perm m):Bz l=Bz m:=by induction h with|nil=>rfl|cons a _ ih=>simp only[Bz,ih]|swap a b l=>simp only[Bz];omega|trans _ _ e o=>exact e.trans o
theorem Bb4(x d:Nat):bc x d<=(x+1)^d:=Nat.le_trans (Aou x d) (Nat.pow_le_pow_left ω d)
theorem Ax4(x:Nat):∀l:A2,Ft x l<=(x+1)^Bz l
 |[]=>by simp[Ft,Bz]
 |a::l=>by simp only[Ft,Bz,Nat.pow_add];exact Nat.mul_le_mul (Bb4 x _) (Ax4 x l)
theorem W7{x:Nat}(h:x<=1048576)(e:Bz l<=12):Ft x l<Big:=by refine Nat.lt_of_le_of_lt (Ax4 x l) ?_;refine Nat.lt_of_le_of_lt (Nat.pow_le_pow_left (ω:x+1<=1048577) _) ?_;exact Nat.lt_of_le_of_lt (Nat.pow_le_pow_right δ e) δ
def PwN(l:A2)(N:Nat)(f:Nat->Nat):Prop:=N=Bz l/\f N≠0/\∀x,sm (N+1) (λk=>f k*bc x k)=Ft x l
theorem PwN.le{f:Nat->Nat}(h:PwN l N f)(hk:k<N+1):f k<=Ft k l:=by have h1:=h.2.2 k;(have h2:f k*bc k k<=sm (N+1) (λj=>f j*bc k j):=by(have:∀n,k<n->f k*bc k k<=sm n (λj=>f j*bc k j):=by intro n;induction n with|zero=>intro h;omega|succ n ih=>intro h;show _<=sm n _+f n*bc k n;rcases Cf k n with h'|h';have:=ih h';omega;have:k=n:=ω;subst this;omega);exact this _ hk);rw[Pr,Nat.mul_one]at h2;omega
theorem PwN.uniq{f:Nat->Nat}(h:PwN l N f)(h':PwN m M g)(hp:l.Perm m):N=M/\∀k,k<N+1->f k=g k:=by(have e:N=M:=by rw[h.1,h'.1,Ps hp]);subst e;exact⟨rfl,Aop λn _=>by rw[h.2.2 n,h'.2.2 n,Aox n hp]⟩
theorem PwN.step{f:Nat->Nat}(h:PwN l N f)(a:A8):PwN (l++[a]) (N+a.P.toNat) (H8 (N+1) a.P.toNat f):=by refine⟨by rw[Oq,h.1];simp[Bz],?_,λx=>?_⟩;have e:H8 (N+1) a.P.toNat f (N+a.P.toNat)=H8 N a.P.toNat f (N+a.P.toNat)+f N*Rc N a.P.toNat (N+a.P.toNat):=rfl;have:=Nat.mul_pos (Nat.pos_of_ne_zero h.2.1) (Ax2 N a.P.toNat);omega;rw[Bb2 _ x _ f (N+1) λb ha=>ω,h.2.2 x,Ax3];simp[Ft]
theorem Bb5(l:A2)(x:l≠[])(H:∀a∈l,a.L.T.length≠0)(Q:∀a∈l,0<=a.P)(L:Bz l<=12)(M:l.length<=1000):∃N f,Qm l=some (Ls (N+1) f)/\PwN l N f:=by(have T:Ag7 l=false:=by cases l with|nil=>exact(x rfl).elim|cons a J=>have:=H a ψ;show(a.L.T.length==0)=false;simpa using this);(have U:∃N f,Ag6 l=some (Ls (N+1) f)/\PwN l N f:=by unfold Ag6;rw[Ud,Aa];(suffices h:∃r,_/\∃N f,r=Ls (N+1) f/\PwN l N f by obtain⟨r,E,N,f,D,B⟩:=h;exact⟨N,f,by rw[<-D];exact E,B⟩);refine F1 (λs=>∃(i N:Nat)(f:Nat->Nat),s=(Ls (N+1) f,(i:Int))/\i<=l.length/\PwN (l.take i) N f) (λs=>l.length-s.2.toNat) (λe=>∃N f,e=Ls (N+1) f/\PwN l N f) ⟨0,0,λ_=>1,rfl,ω,by simp[PwN,Bz,Ft,sm,J2]⟩ ?_ ?_;rintro _ ⟨i,N,f,rfl,hi,g⟩;rcases Cf i l.length with h|h;left;have C:l[i]?=some l[i]:=Bk h;have b:=getElem_mem h;generalize l[i]=a at C b;have R:=H a b;have I:=Q a b;have A:Bz l=Bz (l.take i)+(a.P.toNat+Bz (l.drop (i+1))):=(by have:=Oq (l.take i) (l.drop i);rw[take_append_drop]at this;rw[this,Kb C];rfl);have S:=g.1;have w:Ac (a.P+1)=((a.P.toNat+1:Nat):Int):=ξ;have G:Ae (replicate (a.P.toNat+1) (⟨false,[],[]⟩:Am)) a.P=some ⟨false,[],[]⟩:=Bu (n:=a.P.toNat) ω ψ;have u:=g.step a;(have V:∀y k,y<=N+1->H8 y a.P.toNat f k<Big:=by intro y k F;refine Nat.lt_of_le_of_lt (Bb3 _ f k F) ?_;rcases Cf k (N+a.P.toNat+1)with o|o;refine Nat.lt_of_le_of_lt (u.le o) (W7 ω ?_);rw[Oq];simp only[Bz];omega;(have:H8 (N+1) a.P.toNat f k=0:=Aem λj hj=>by rw[Axm ω];rfl);rw[this];decide);have W:=Bb1 (n:=N) (d:=a.P.toNat) (f:=f) (p:=Ls (N+1) f) (q:=Ca (replicate (a.P.toNat+1) ⟨false,[],[]⟩) a.P (cR 1)) ω rfl g.2.1 (by rw[F2 (n:=a.P.toNat) ω];simp) (λk o=>by rw[F2 (n:=a.P.toNat) ω];by_cases e:k=a.P.toNat;subst e;rw[Ar rfl];exact⟨_,getElem?_set_self ψ,Np.c δ⟩;rw[Au e,getElem?_set_ne ω];exact⟨⟨false,[],[]⟩,by simp[o],Np.z⟩) (λk o=>Nat.lt_of_le_of_lt (g.le o) (W7 ω ω)) V;refine⟨(Ls (N+a.P.toNat+1) (H8 (N+1) a.P.toNat f),((i+1:Nat):Int)),?_,⟨i+1,_,_,rfl,ω,by rw[C4 C];exact u⟩,ζ⟩;simp only[Al (ω:(i:Int)<(l.length:Int)),Aj,Bu rfl C,Aa,Ch (ω:¬(a.L.T.length:Int)=0),Ai,w,Lj rfl rfl (Nat.le_refl _) (ω:56*(a.P.toNat+1)<=281474976710656) ω,Ud,G,W,Dh h ω];have:i=l.length:=ω;subst this;rw[Dc]at g;right;exact⟨_,by simp only[An (ω:¬(l.length:Int)<(l.length:Int)),Ai],_,_,rfl,g⟩;rintro _ ⟨N,f,rfl,h⟩;exact⟨_,rfl,N,f,rfl,h⟩);obtain⟨N,f,X,h3⟩:=U;refine⟨N,f,?_,h3⟩;unfold Qm;rw[T,Ai];exact X
theorem Bb6{c:Int}{d:Int}(o:c<=1048576)(s:0<=d)(b:d<=64):Rs c d=some (cR (bc c.toNat d.toNat),true):=by have h:=Ba5 c.toNat d.toNat ω ω;have e:((d.toNat:Nat):Int)=d:=ω;rw[e]at h;rw[<-h];unfold Rs;(have f:(if c>(0:Int)then c else 0)=(if((c.toNat:Nat):Int)>(0:Int)then((c.toNat:Nat):Int)else 0):=by split<;>split<;>omega);rw[f]
theorem Bb7(l:A2){c:Int}(Q:c<=1048576)(H:∀a∈l,a.L.T.length=0/\a.L.Q=c)(S:∀a∈l,0<=a.P)(G:Bz l<=12)(I:l.length<=1000) :
  Qm l=some [cR (Ft c.toNat l)]:=by
 have T:Ag5 l=some [cR (Ft c.toNat l)]:=by
  unfold Ag5
  rw[Ud,Aa]
  obtain⟨r,B,A⟩:∃r,_/\r=[cR (Ft c.toNat l)]:=F1 (λs=>∃i:Nat,s=((i:Int),[cR (Ft c.toNat (l.take i))])/\i<=l.length) (λs=>l.length-s.1.toNat) (λe=>e=[cR (Ft c.toNat l)]) (J:=λo=>some o)
   (step:=λ(x:Int×List Am)=>match x with
    |(g,f)=>
     bif g<(l.length:Int)then((Ae l g).bind λb=>bif((b.L.T.length:Int)==(0:Int))then((Rs b.L.Q b.P).bind λk=>(Ae f 0).bind λC=>(Iu C k.1).bind λF=>(Ae f 0).bind λU=>some (.inl (Ac (g+1),Ca f 0 F)))else((Gu 56 (Ac (b.P+1)) (Ac (b.P+1)) ((Am.mk false [] []):Am)).bind λq=>(Gn 1).bind λV=>(Ae q b.P).bind λW=>none))else(some (.inr f))) (s:=(0,[cR 1]))
   ⟨0,rfl,ω⟩ (by
   rintro _ ⟨i,rfl,hi⟩
   rcases Cf i l.length with h|h
   .left
    have w:l[i]?=some l[i]:=Bk h
    have j:=getElem_mem h
    generalize l[i]=a at w j
    obtain⟨L,D⟩:=H a j
    have y:=S a j
    have e:Bz l=Bz (l.take i)+(a.P.toNat+Bz (l.drop (i+1))):=by
     have:=Oq (l.take i) (l.drop i)
     rw[take_append_drop]at this
     rw[this,Kb w];rfl
    have X:Ft c.toNat (l.take i)<Big:=W7 ω ω
    have z:bc c.toNat a.P.toNat<Big:=by
     have:=W7 (x:=c.toNat) (l:=[a]) ω (by simp only[Bz];omega)
     simpa[Ft]using this
    have u:Ae [cR (Ft c.toNat (l.take i))] 0=some (cR (Ft c.toNat (l.take i))):=rfl
    refine⟨_,?_,⟨i+1,rfl,ω⟩,ζ⟩
    simp only[Al (ω:(i:Int)<(l.length:Int)),Aj,Bu rfl w,Aa,Eg (ω:(a.L.T.length:Int)=0),D,Bb6 Q y (ω:a.P<=64),u,(Np.c X).mul (Np.c z),Dh h ω]
    rw[C4 w,Ax3]
    simp[Ft,Ca]
   .have:i=l.length:=ω
    subst this
    right
    exact⟨[cR (Ft c.toNat (take l.length l))],by simp only[An (ω:¬(l.length:Int)<(l.length:Int)),Ai],by rw[Dc]⟩) (by
   rintro _ rfl
   exact⟨_,rfl,rfl⟩)
  rw[<-A]
  exact B
 have h0:Ag7 l=true:=by
  cases l with
  |nil=>rfl
  |cons a E=>
   have:=(H a ψ).1
   show(a.L.T.length==0)=true
   simpa using this
 unfold Qm
 rw[h0,Aj,T]
noncomputable def Aep(cmp:α->α->A4)(a0:Int)(g:Λ α):Ο (List α):=(Ap (S:=(Int×Int×(List α))) (E:=(Int×Int×(List α))) (λ(o,e,i)=>bif e<=a0 then((Aej cmp o e i).bind λh=>(Hx g.length h).bind λl=>some (.inl (e,Ac (e+20),h)))else(some (.inr (o,e,i)))) (0,20,g)).bind λ(s,w,f)=>(Aej cmp s a0 f).bind λc=>(Hx g.length c).bind λA=>(Ap (S:=(Int×Int×Int)) (E:=Unit) (λ(b,k,j)=>bif b<a0 then((Ap (S:=Unit) (E:=Unit) (λ_=>bif(Ac (2*b))<=a0 then(none)else(some (.inr ()))) ()).bind λ_=>bif(Ac (0+b))<a0 then(none)else(some (.inl (Ac (b*2),0,Ac (2*b)))))else(some (.inr ()))) (20,s,w)).bind λ_=>some c
theorem Aoy{cmp:α->α->A4}{c:α->α->Int}(L:P9 c)(f:Λ α)(g:∀x∈f,∀y∈f,cmp x y=some (c x y))(s:f.length<20):∃R,Aep cmp (f.length:Int) f=some R/\R.Perm f/\R.Pairwise (λa b=>¬c b a<0):=by obtain⟨R,h,e,o⟩:=Axi L f g ω;refine⟨R,?_,e,o⟩;unfold Aep;refine Cp (a:=(0,20,f)) (Cs ?_) ?_;simp only[An (ω:¬(20:Int)<=(f.length:Int)),Ai];dsimp only;rw[h,Aa,Oo e.length_eq.symm,Aa];refine Cp (a:=()) (Cs ?_) rfl;simp only[An (ω:¬(20:Int)<(f.length:Int)),Ai]
theorem Pt:P9 Dl where
 irr x:=by rw[(G5.zero x x trivial trivial).2 rfl];omega
 trs x y z h e:=G5.trans x y z trivial trivial trivial h e
 ntr x y z h e o:=by
  rcases Int.lt_trichotomy (Dl x y) 0 with k|k|k
  .exact h k
  .have:=(G5.zero x y trivial trivial).1 k
   subst this;exact e o
  .have b:Dl y x<0:=by rw[G5.anti x y trivial trivial];omega
   exact e (G5.trans y x z trivial trivial trivial b o)
theorem Bb8:P9 (λa b:A8=>Dl a.L b.L):=⟨λ_=>Pt.irr _,λ_ _ _=>Pt.trs _ _ _,λ_ _ _=>Pt.ntr _ _ _⟩
def Aeq(l:A2):Prop:=l.Pairwise λa b=>¬Dl b.L a.L<0
theorem Ax5(b:A2)(o:∀a∈b,a.L.T.length<1099511627776)(s:b.length<20):∃R,Aco b=some R/\R.Perm b/\Aeq R:=by obtain⟨R,w,h,A⟩:=Aoy (cmp:=Y2) Bb8 b (λx B y _=>by unfold Y2;rw[Ah3 x.L y.L (o x B)];rfl) s;refine⟨R,?_,h,A⟩;unfold Aco;have e:Agq (b.length:Int) b=Aep Y2 (b.length:Int) b:=rfl;rw[e,w,Aa,Oo h.length_eq.symm];rfl
theorem Bb9:Vo []=some []:=by obtain⟨R,o,s,A⟩:=Aoy (cmp:=Ta) (c:=λ_ _=>0) ⟨λ_=>ω,λ_ _ _ h=>ω,λ_ _ _ _ _=>ω⟩ ([]:Bi) (λx w=>by cases w) ψ;have b:R=[]:=Perm.eq_nil s;subst b;unfold Vo;have e:Ac0 ((([]:Bi).length:Nat):Int) []=Aep Ta ((([]:Bi).length:Nat):Int) []:=rfl;rw[e,o];rfl
theorem Aoz(n:Nat)(h:n<=1000000):Qa (α:=α) (n:Int)=some []:=by unfold Qa;rw[Al ω,Al ω];rfl
theorem Bca(a b:A2)(h:a.length+b.length<=1000000):Agl [a,b]=some (a++b):=Aoo (B:=40) δ (gr:=Ags) (λn h=>Aoz n h) a b h
theorem Bcb(a b:Bi)(h:a.length+b.length<=1000000):Agk [a,b]=some (a++b):=Aoo (B:=40) δ (gr:=Agr) (λn h=>Aoz n h) a b h
theorem Ai0(m n:Ax)(e:m.F.length+n.F.length<=1000000)(h:m.A.length+n.A.length<=1000000):Rj m n=some ⟨m.F++n.F,m.A++n.A⟩:=by unfold Rj;rw[Bcb _ _ e,Aa,Bca _ _ h];rfl
def atO(l:Ao)(k:Nat):A2:=if k=0 then[]else[⟨l,k⟩]
theorem Bcc(l:Ao)(k:Nat):Y3 l (k:Int)=some (atO l k):=by unfold Y3 atO;by_cases h:k=0;rw[Eg ω,Ar h];rfl;rw[Ch ω,Au h];rfl
theorem Ax6(l:Ao)(k:Nat):(atO l k).length<=1:=by unfold atO;split<;>simp
abbrev FS:={F:List Bm // F.length<=1000}
theorem Bcd{t:Af}{A B:A2}{F:FS}(e:t.M=⟨F.1,A⟩)(b:A.length+B.length<=1000000)(f:K<30000000000)(h:RB K t.C)(o:RB 200 x):∃u,Od t x ⟨[],B⟩=some u/\u.M=⟨F.1,A++B⟩/\rq u.C=rq t.C*rq x/\RB (K+202) u.C:=by obtain⟨c,s,w,_,C⟩:=W0 h o ω ω;refine⟨⟨c,⟨F.1,A++B⟩⟩,?_,rfl,C,w⟩;unfold Od;have:=F.2;rw[s,Aa,e,Ai0 _ _ ζ b,append_nil];rfl
abbrev D1:=List A8×Nat
inductive Hq(F:FS)(c:Rat)(K:Nat):List Af->List D1->Prop
 |nil:Hq F c K [] []
 |cons{t:Af}{b:D1}{ts:List Af}{bs:List D1}:t.M=⟨F.1,b.1⟩->rq t.C=c*(b.2:Rat)->RB K t.C->Hq F c K ts bs->Hq F c K (t::ts) (b::bs)
theorem Hq.len{F:FS}{c:Rat}{ts:Ad}{bs:Λ D1}(h:Hq F c K ts bs):ts.length=bs.length:=by induction h with|nil=>rfl|cons _ _ _ _ ih=>simp[ih]
theorem Hq.app{F:FS}{c:Rat}{ts f:Ad}{bs cs:Λ D1}(h:Hq F c K ts bs)(h':Hq F c K f cs):Hq F c K (ts++f) (bs++cs):=by induction h with|nil=>exact h'|cons a b d _ ih=>exact .cons a b d ih
theorem Hq.mono{F:FS}{c:Rat}{f:Nat}{ts:Ad}{bs:Λ D1}(h:Hq F c K ts bs)(hk:K<=f):Hq F c f ts bs:=by induction h with|nil=>exact .nil|cons a b d _ ih=>exact .cons a b (d.mono hk) ih
theorem Hq.get{F:FS}{c:Rat}{ts:Ad}{bs:Λ D1}(h:Hq F c K ts bs):∀{j:Nat}{t:Af},ts[j]?=some t->∃b,bs[j]?=some b/\t.M=⟨F.1,b.1⟩/\rq t.C=c*(b.2:Rat)/\RB K t.C:=by induction h with|nil=>intro j t h;simp at h|@cons t b ts bs o s w _ ih=>intro j u e;cases j with|zero=>simp only[getElem?_cons_zero,Option.some.injEq]at e;subst e;exact⟨b,rfl,o,s,w⟩|succ j=>simp only[getElem?_cons_succ]at e;simpa using ih e
def fs0:FS:=⟨[],δ⟩
abbrev Rep(c:Rat)(K:Nat):Ad->Λ D1->Prop:=Hq fs0 c K
def El(B:Λ D1)(l:Ao)(f:Nat->Nat)(n:Nat):Λ D1:=(range n).flatMap λk=>if f k=0 then[]else B.map λb=>(b.1++atO l k,b.2*f k)
theorem Nx(B:Λ D1)(l:Ao)(f:Nat->Nat)(n:Nat):El B l f (n+1)=El B l f n++(if f n=0 then[]else B.map λb=>(b.1++atO l n,b.2*f n)):=by unfold El;rw[range_succ,flatMap_append];simp
theorem Ai1(B:Λ D1)(l:Ao)(f:Nat->Nat)(n:Nat):(El B l f n).length<=n*B.length:=by induction n with|zero=>simp[El]|succ n ih=>rw[Nx,E5,Nat.add_mul,Nat.one_mul];have:(if f n=0 then([]:Λ D1)else B.map λb=>(b.1++atO l n,b.2*f n)).length<=B.length:=(by split<;>simp);omega
noncomputable def Aer(h:Ad)(l:Ao)(k:Int)(x:Am):Int×List Af->C6:=λ(b,c)=>bif b<(h.length:Int)then((Ae h b).bind λg=>(Y3 l k).bind λe=>(Od g x (Ax.mk [] e)).bind λf=>(Cg 104 c [f]).bind λi=>some (.inl (Ac (b+1),i)))else(some (.inr (b,c)))
theorem Bce{F:FS}{c:Rat}{g o:Ad}{B:Λ D1}{l:Ao}{f:Nat}(z:Hq F c K g B)(C:rq x=(f:Rat))(q:RB 200 x)(S:K<30000000000)(R:∀b∈B,b.1.length<=M)(N:M<=1000)(Q:o.length+g.length<=1000000000) :
  ∃T,Ap (Aer g l (k:Int) x) (0,o)=some ((g.length:Int),o++T)/\Hq F c (K+202) T (B.map λb=>(b.1++atO l k,b.2*f)):=by
 obtain⟨e,X,T,V,U⟩:=Jc (step:=Aer g l (k:Int) x) (λs=>∃(j:Nat)(T:Ad),s=((j:Int),o++T)/\j<=g.length/\T.length=j/\Hq F c (K+202) T ((B.take j).map λb=>(b.1++atO l k,b.2*f))) (λs=>g.length-s.1.toNat)
  (λe=>∃T,e=((g.length:Int),o++T)/\Hq F c (K+202) T (B.map λb=>(b.1++atO l k,b.2*f))) (by
  rintro _ ⟨j,T,rfl,W,L,y⟩
  rcases Cf j g.length with h|h
  .left
   have i:g[j]?=some g[j]:=Bk h
   generalize g[j]=t at i
   obtain⟨b,w,H,Z,Y⟩:=z.get i
   have J:=R b (B2 w)
   have:=Ax6 l k
   obtain⟨u,I,G,E,D⟩:=Bcd (A:=b.1) (B:=atO l k) H ω S Y q
   refine⟨_,?_,⟨j+1,T++[u],rfl,ω,by simp[L],?_⟩,ζ⟩
   .unfold Aer
    simp only[Al (ω:(j:Int)<(g.length:Int)),Aj,Bu rfl i,Aa,Bcc,I,Dh h ω]
    rw[Dd ζ,Aa,append_assoc]
   .rw[C4 w,map_append]
    refine y.app (.cons G ?_ D .nil)
    rw[E,Z,C]
    show _=c*((b.2*f:Nat):Rat)
    rw[Rat.natCast_mul];grind
  .have:j=g.length:=ω
   subst this
   right
   refine⟨_,by unfold Aer;simp only[An (ω:¬(g.length:Int)<(g.length:Int)),Ai],T,rfl,?_⟩
   rw[J7 (by rw[z.len];exact Nat.le_refl _)]at y
   exact y) (0,o) ⟨0,[],ψ,ω,rfl,.nil⟩
 exact⟨T,by rw[<-V];exact X,U⟩
theorem Bcf(a b:Am)(j k:Nat)(w:RB j a)(hb:RB k b)(C:j<68719476736)(D:k<68719476736):Rr a b=some (Bj (K9 (sv a) (nv a) (dv a) (!sv b) (nv b) (dv b)) (J0 (sv a) (nv a) (dv a) (!sv b) (nv b) (dv b)) (dv a*dv b)):=by unfold Rr Yy;have A:=w.nv;have B:=w.dv;have E:=hb.nv;have s:=hb.dv;have q:=Ht (nv a) (dv b);have l:=Ht (nv b) (dv a);have i:=Ht (dv a) (dv b);have h:=Zx (nv a*dv b) (nv b*dv a);have g:=I3 (Nat.sub_le (nv a*dv b) (nv b*dv a));have f:=I3 (Nat.sub_le (nv b*dv a) (nv a*dv b));rw[T5 b k hb ω,Aa,T5 a j w ω,Aa];dsimp only;rw[T0 _ _ ω ω,Aa,T0 _ _ ω ω,Aa,T0 _ _ ω ω,Aa];by_cases c:sv a = !sv b;have e:(sv a == !sv b)=true:=(by rw[c];exact beq_self_eq_true _);rw[e,Aj,Avt _ _ ω ω,Aa,Aa,Qy _ _ _ ω ω,K9,J0,Ar c,Ar c];rfl;have e:(sv a == !sv b)=false:=(by cases A:sv a<;>cases B:sv b<;>simp_all);rw[e,Ai,Wr _ _ ω ω,Aa,K9,J0,Au c,Au c];by_cases o:nv b*dv a<=nv a*dv b;rw[Al (show Ge (nv a*dv b) (nv b*dv a)>=0 by rw[Ge,Au ω];split<;>decide),Aj,Aia _ _ ω o,Aa,Aa,Qy _ _ _ ω ω,Ar o,Ar o];rfl;rw[An (show ¬Ge (nv a*dv b) (nv b*dv a)>=0 by rw[Ge,Ar ω];decide),Ai,Aia _ _ ω ω,Aa,Aa,Qy _ _ _ ω ω,Au o,Au o];rfl
theorem Ax7(s:Bool)(n:Nat):sg (!s) n = - sg s n:=by unfold sg;cases s<;>simp
theorem Ax8{a b:Am}(o:RB j a)(hb:RB k b)(A:j<34359738000)(B:k<34359738000):∃c,Rr a b=some c/\RB (j+k+3) c/\H4 c/\rq c=rq a-rq b:=by have e:=Bcf a b j k o hb ω ω;have w:dv a*dv b≠0:=Nat.mul_ne_zero (Fq a) (Fq b);have C:=o.nv;have D:=o.dv;have E:=hb.nv;have s:=hb.dv;have q:=Ht (nv a) (dv b);have l:=Ht (nv b) (dv a);have i:=Ht (dv a) (dv b);have h:=Zx (nv a*dv b) (nv b*dv a);have g:=I3 (Nat.sub_le (nv a*dv b) (nv b*dv a));have f:=I3 (Nat.sub_le (nv b*dv a) (nv a*dv b));refine⟨_,e,?_,Pp _ _ _ w,?_⟩;refine I6 _ _ _ _ ?_ ω ω;unfold J0;split;omega;split<;>omega;rw[L5 _ _ _ w,Awh,Ax7,rq,rq,show mkRat (sg (sv a) (nv a)) (dv a)-mkRat (sg (sv b) (nv b)) (dv b)=mkRat (sg (sv a) (nv a)) (dv a)+mkRat (-sg (sv b) (nv b)) (dv b)by rw[<-Rat.neg_mkRat];grind,Rat.mkRat_add_mkRat _ _ (Fq a) (Fq b)]
theorem Aaf(z:Int):mkRat z 1=(z:Rat):=by rw[Rat.mkRat_eq_div,show((1:Nat):Rat)=1 from rfl];grind
theorem Ai2(z:Int)(e : -9223372036854775808<=z)(o:z<=9223372036854775807):∃r,Gn z=some r/\RB 3 r/\H4 r/\rq r=(z:Rat):=by have b:Bp z.natAbs<=3:=Pn (n:=z.natAbs) ω;refine⟨_,Ws z e o,I6 _ _ _ _ b (by rw[Jh];decide) δ,Pp _ _ _ δ,?_⟩;rw[L5 _ _ _ δ,Aaf];congr 1;unfold sg;by_cases h:z<0;rw[Al h,Ar rfl];omega;rw[An h,Au δ];omega
theorem Aes(z:Int)(e : -9223372036854775808<=z)(o:z<=9223372036854775807):∃r,Gn z=some r/\Hj z=some r/\RB 3 r/\H4 r/\rq r=(z:Rat):=by have b:Bp z.natAbs<=3:=Pn (n:=z.natAbs) ω;refine⟨_,Ws z e o,R3 z e o,I6 _ _ _ _ b (by rw[Jh];decide) δ,Pp _ _ _ δ,?_⟩;rw[L5 _ _ _ δ,Aaf];congr 1;unfold sg;by_cases h:z<0;rw[Al h,Ar rfl];omega;rw[An h,Au δ];omega
theorem Ot(n:Nat):rq (cR n)=(n:Rat):=by unfold cR;rw[L5 _ _ _ δ,Aaf];rfl
theorem Aet(n:Nat):H4 (cR n):=Pp _ _ _ δ
def Iz:Dr->Nat
 |[]=>1
 |a::l=>a*Iz l
open Classical in
noncomputable def cfW:C7->Ax->Rat
 |[],_=>0
 |t::l,m=>(if t.2=m then t.1 else 0)+cfW l m
def La(v:Ax->Nat):C7->Rat
 |[]=>0
 |t::l=>t.1*(v t.2:Rat)+La v l
open Classical in
noncomputable def Uf(l:C7)(m:Ax):C7:=l.filter λt=>decide (t.2≠m)
open Classical in
theorem Ax9(v:Ax->Nat)(m:Ax):∀l:C7,La v l=cfW l m*(v m:Rat)+La v (Uf l m)
 |[]=>by simp only[La,cfW,Uf,filter_nil];grind
 |t::l=>by have ih:=Ax9 v m l;unfold Uf at *;simp only[La,cfW];by_cases e:t.2=m;rw[Ar e,filter_cons_of_neg (by simp[e]),ih,e];grind;rw[Au e,filter_cons_of_pos (by simp[e])];simp only[La];rw[ih];grind
open Classical in
theorem Aya(m:Ax):∀(l:C7)(s:Ax),cfW (Uf l m) s=if s=m then 0 else cfW l s
 |[],s=>by simp[Uf,cfW]
 |t::l,s=>by have ih:=Aya m l s;unfold Uf at *;by_cases e:t.2=m;rw[filter_cons_of_neg (by simp[e]),ih];by_cases o:s=m;rw[Ar o,Ar o];rw[Au o,Au o];simp only[cfW];rw[Au (by rw[e];exactλh=>o h.symm)];grind;rw[filter_cons_of_pos (by simp[e])];simp only[cfW];rw[ih];by_cases o:s=m;rw[Ar o,Ar o,Au (by rw[o];exact e)];grind;rw[Au o,Au o]
open Classical in
theorem Bcg(v:Ax->Nat):∀(n:Nat)(l:C7),l.length<=n->(∀m,0<=cfW l m)->0<=La v l:=by intro n;induction n with|zero=>intro l e _;have:l=[]:=Fp.1 ω;subst this;exact Rat.le_refl|succ n ih=>intro l e h;cases l with|nil=>exact Rat.le_refl|cons t l=>rw[Ax9 v t.2 (t::l)];(have o:0<=La v (Uf (t::l) t.2):=by refine ih _ ?_ λm=>?_;unfold Uf;rw[filter_cons_of_neg ψ];have:=length_filter_le (λu:Rat×Ax=>decide (u.2≠t.2)) l;simp only[Fg]at e;omega;rw[Aya];split;exact Rat.le_refl;exact h m);have s:=Rat.mul_nonneg (h t.2) (Rat.natCast_nonneg (a:=v t.2));grind
def wT(t:Af):Rat×Ax:=(rq t.C,t.M)
def nT(t:Af):Rat×Ax:=(- rq t.C,t.M)
theorem Bch(p:Ad)(m:Ax):cfW (p.map wT) m=cf p m:=by induction p with|nil=>rfl|cons t p ih=>simp only[map_cons,cfW,ih,Nv,wT]
theorem Bci(p:Ad)(m:Ax):cfW (p.map nT) m = - cf p m:=by induction p with|nil=>show(0:Rat) = - 0;grind|cons t p ih=>simp only[map_cons,cfW,ih,Nv,nT];split<;>grind
theorem Bcj(l k:C7)(m:Ax):cfW (l++k) m=cfW l m+cfW k m:=by induction l with|nil=>simp only[nil_append,cfW];grind|cons t l ih=>simp only[Es,cfW,ih];grind
theorem Bck(v:Ax->Nat)(l k:C7):La v (l++k)=La v l+La v k:=by induction l with|nil=>simp only[nil_append,La];grind|cons t l ih=>simp only[Es,La,ih];grind
theorem Bcl{a b:Am}(h:RB j a)(hb:RB k b)(B:j<34359737000)(C:k<34359737000):∃c,Td a b=some c/\RB (j+k+4) c/\H4 c/\rq c=rq a-rq b:=by have e:=Av5 b k hb ω;have f:RB (k+1) (Bj (!sv b) (nv b) (dv b)):=I6 _ _ _ _ hb.nv hb.dv ω;obtain⟨c,_,o,s,w,A⟩:=Aaa h f ω ω;refine⟨c,?_,s.mono ω,w,?_⟩;unfold Td;rw[e,Aa,o];rfl;rw[A,L5 _ _ _ (Fq _),Ax7,show rq b=mkRat (sg (sv b) (nv b)) (dv b)from rfl,<-Rat.neg_mkRat];grind
theorem Ayb{a b:Am}(e:RB j a)(hb:RB k b)(w:j<17179868000)(A:k<17179868000):Yu a b=some (Im (rq a-rq b)):=by obtain⟨c,h,o,B,s⟩:=Bcl e hb ω ω;unfold Yu;rw[h,Aa,(J1 o ω).2,s];rfl
end Go.Ab
