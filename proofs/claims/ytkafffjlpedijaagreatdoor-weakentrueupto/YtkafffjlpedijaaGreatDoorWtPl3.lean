/- Plain laws: what the plain functions answer. -/
import Derived.Test.YtkafffjlpedijaaGreatDoorWtPl2
namespace Go.Ab
open Go
def Jg (n:Int) (f:Bool):List Int:=if f then (if n<0 then [45] else []) else (if n<0 then [32,45,32] else [32,43,32])
def Ke (n:Int):List Int:=if n.natAbs=1 then [] else ti n.natAbs++[42]
def Jt (v:Int):List Int:=if v = -1 then [114,101,115] else 118::ti v
def tT (f:Bool) (t:Bk):List Int:=Jg t.C f++(Ke t.C++Jt t.v)
def Ij:Bool->List Bk->Int->List Int
 | f,[],c=>if c≠0\/f=true then Jg c f++ti c.natAbs else []
 | f,t::ts,c=>tT f t++Ij false ts c
def Aa7 (l:As):List Int:=Ij true l.T l.Q
def Ju (X:List Int):Prop:=∀c m,X=c::m->c=97
theorem Ju.nil:Ju []:=by intro c m h;cases h
theorem Ju.cons (X:List Int):Ju (97::X):=by intro c m h;cases h;rfl
theorem Ju.nonum {X:List Int} (h:Ju X):Me X:=by intro c m e;rw[h c m e];decide
theorem Akh (n:Nat):∃c m,ti n=c::m/\48<=c/\c<=57:=by
 have b:=Aj2 (n:Int);cases h:ti (n:Int) with
 | nil=>exact (b h).elim
 | cons c m=>refine⟨c,m,rfl,?_⟩;have hc:c∈ti (n:Int):=(by rw[h];simp);unfold ti at hc;obtain⟨x,hx,rfl⟩:=List.mem_map.1 hc;have e:Lib.itoa (n:Int)=Lib.decDigits n:=(by unfold Lib.itoa;first|rfl | (rw[Av ω];simp) | simp);rw[e]at hx;have:=Aff n n (Nat.le_refl _) x hx;omega
theorem Ate (ts:List Bk) (c:Int) {X:List Int} (b:Ju X):Me (Ij false ts c++X):=by
 have k:∀(n:Int) (Y:List Int),Me (Jg n false++Y):=by intro n Y c m e;unfold Jg at e;simp only[Bool.false_eq_true,if_false]at e;split at e <;> (cases e;decide)
 cases ts with
 | nil=>
  simp only[Ij];split
  .rw[List.append_assoc];exact k _ _
  .exact b.nonum
 | cons t ts=>simp only[Ij,tT,List.append_assoc];exact k _ _
theorem Atf {v w:Int} {R S:List Int} (c:Me R) (b:Me S) (h:Jt v++R=Jt w++S):v=w/\R=S:=by
 unfold Jt at h;split at h <;> split at h
 .simp only[Du,List.nil_append,List.cons.injEq,true_and]at h;exact⟨ω,h⟩
 .simp at h
 .simp at h
 .simp only[Du,List.cons.injEq,true_and]at h;obtain⟨g,f⟩:=P6 _ _ _ _ (I0 v) (I0 w) c b h;exact⟨Un g,f⟩
theorem Aki (v:Int):∃c m,Jt v=c::m/\(c=114\/c=118):=by
 unfold Jt;split
 .exact⟨_,_,rfl,.inl rfl⟩
 .exact⟨_,_,rfl,.inr rfl⟩
theorem Akj (X:List Int):Me (42::X):=by intro c m e;cases e;decide
theorem A6i {a b v w:Int} {R S:List Int} (i:Me R) (g:Me S) (h:Ke a++(Jt v++R)=Ke b++(Jt w++S)):a.natAbs=b.natAbs/\v=w/\R=S:=by
 unfold Ke at h;have bad:∀(n:Nat) (u:Int) (X Y:List Int),Jt u++X=ti n++[42]++Y->False:=by intro n u X Y e;obtain⟨c,m,f,l⟩:=Aki u;obtain⟨d,k,j,e4⟩:=Akh n;rw[f,j]at e;simp only[Du,List.cons.injEq]at e;omega
 split at h <;> split at h
 .rename_i h1 h2;simp only[List.nil_append]at h;exact⟨h1.trans h2.symm,Atf i g h⟩
 .exact (bad _ _ _ _ h).elim
 .exact (bad _ _ _ _ h.symm).elim
 .simp only[List.append_assoc,Du,List.nil_append]at h;obtain⟨f,l⟩:=P6 _ _ _ _ (I0 _) (I0 _) (Akj _) (Akj _) h;have j:=Un f;obtain⟨e4,q⟩:=Atf i g (List.cons.inj l).2;exact⟨ω,e4,q⟩
def NoM (P:List Int):Prop:=∃c m,P=c::m/\c≠45
theorem NoM.ti (n:Nat) (X:List Int):NoM (Go.Ab.ti n++X):=by obtain⟨c,m,e,h⟩:=Akh n;exact⟨c,m++X,by rw[e];rfl,ω⟩
theorem NoM.pT (a v:Int) (X:List Int):NoM (Ke a++(Jt v++X)):=by
 unfold Ke;split
 .obtain⟨c,m,e,h⟩:=Aki v;exact⟨c,m++X,by rw[e];rfl,ω⟩
 .rw[List.append_assoc];exact NoM.ti _ _
theorem Akk {a b:Int} {f:Bool} {P Q:List Int} (i:NoM P) (g:NoM Q) (h:Jg a f++P=Jg b f++Q):(a<0↔b<0)/\P=Q:=by
 obtain⟨c,m,rfl,hc⟩:=i;obtain⟨d,k,rfl,hd⟩:=g;unfold Jg at h;cases f with
 | true=>
  simp only[if_true]at h;split at h <;> split at h
  .rename_i h1 h2;exact⟨by simp[h1,h2],by simpa using h⟩
  .simp at h;exact (hd h.1.symm).elim
  .simp at h;exact (hc h.1).elim
  .rename_i h1 h2;exact⟨by simp[h1,h2],by simpa using h⟩
 | false=>
  simp only[Bool.false_eq_true,if_false]at h;split at h <;> split at h
  .rename_i h1 h2;exact⟨by simp[h1,h2],by simpa using h⟩
  .simp at h
  .simp at h
  .rename_i h1 h2;exact⟨by simp[h1,h2],by simpa using h⟩
theorem Akl {n:Int} {P X:List Int} (b:Ju X) (h:Jg n false++P=X):False:=by
 unfold Jg at h;simp only[Bool.false_eq_true,if_false]at h;split at h
 .have:=b _ _ h.symm;omega
 .have:=b _ _ h.symm;omega
theorem Atg {c d:Int} {f:Bool} {u:Bk} {m:List Bk} {X Y:List Int} (b:Ju X) (l:Ju Y) (h:Ij f [] c++X=Ij f (u::m) d++Y):False:=by
 simp only[Ij,tT]at h;split at h
 .simp only[List.append_assoc]at h;obtain⟨_,e⟩:=Akk (NoM.ti _ _) (NoM.pT _ _ _) h;unfold Ke at e;split at e
  .obtain⟨s,m1,k,h1⟩:=Aki u.v;obtain⟨q,m2,g,h2⟩:=Akh c.natAbs;rw[k,g]at e;simp only[List.nil_append,Du,List.cons.injEq]at e;omega
  .simp only[List.append_assoc,Du,List.nil_append]at e;obtain⟨_,g⟩:=P6 _ _ _ _ (I0 _) (I0 _) b.nonum (Akj _) e;have:=b _ _ g;omega
 .rename_i i;have j:f=false:=(by cases f with|true=>simp at i|false=>rfl);subst j;simp only[List.nil_append,List.append_assoc]at h;exact Akl b h.symm
theorem Ath:∀(l m:List Bk) (f:Bool) (c d:Int) (X Y:List Int),Ju X->Ju Y->Ij f l c++X=Ij f m d++Y->l=m/\c=d/\X=Y
 | [],[],f,c,d,X,Y,g,b,h=>by
  simp only[Ij]at h;split at h <;> split at h
  .simp only[List.append_assoc]at h;obtain⟨x,q⟩:=Akk (NoM.ti _ _) (NoM.ti _ _) h;obtain⟨j,e4⟩:=P6 _ _ _ _ (I0 _) (I0 _) g.nonum b.nonum q;have s:=Un j;exact⟨rfl,ω,e4⟩
  .rename_i h1 h2;have i:f=false:=(by cases f with|true=>simp at h2|false=>rfl);subst i;simp only[List.append_assoc,List.nil_append]at h;exact (Akl b h).elim
  .rename_i h1 h2;have i:f=false:=(by cases f with|true=>simp at h1|false=>rfl);subst i;simp only[List.append_assoc,List.nil_append]at h;exact (Akl g h.symm).elim
  .rename_i h1 h2;refine⟨rfl,?_,by simpa using h⟩;have a1:c=0:=(by by_cases k:c=0;exact k;exact (h1 (.inl k)).elim);have a2:d=0:=(by by_cases k:d=0;exact k;exact (h2 (.inl k)).elim);omega
 | [],u::m,f,c,d,X,Y,g,b,h=>(Atg g b h).elim
 | t::l,[],f,c,d,X,Y,g,b,h=>(Atg b g h.symm).elim
 | t::l,u::m,f,c,d,X,Y,g,b,h=>by simp only[Ij,tT,List.append_assoc]at h;obtain⟨x,q⟩:=Akk (NoM.pT _ _ _) (NoM.pT _ _ _) h;obtain⟨j,e4,s⟩:=A6i (Ate _ _ g) (Ate _ _ b) q;obtain⟨A,z,y⟩:=Ath l m false c d X Y g b s;have:t=u:=(by cases t;cases u;simp only at x j e4;subst e4;congr 1;omega);exact⟨by rw[this,A],z,y⟩
def Ic (a:Be):List Int:=97::(ti a.P++58::Aa7 a.L)
def Gd (f:Ca):List Int:=J4 f.v f.I
def Aa8 (m:A7):List Int:=m.F.flatMap Gd++m.A.flatMap Ic
theorem Afs (l:List Be):Ju (l.flatMap Ic):=by cases l with| nil=>exact Ju.nil| cons a l=>simp only[List.flatMap_cons,Ic,Du];exact Ju.cons _
theorem Aft (X:List Int):Me (58::X):=by intro c m e;cases e;decide
theorem Ati:∀(l m:List Be),l.flatMap Ic=m.flatMap Ic->l=m
 | [],[],_=>rfl
 | [],b::m,h=>by simp[Ic]at h
 | a::l,[],h=>by simp[Ic]at h
 | a::l,b::m,h=>by simp only[List.flatMap_cons,Ic,Du,List.append_assoc,List.cons.injEq,true_and]at h;obtain⟨q,k⟩:=P6 _ _ _ _ (I0 _) (I0 _) (Aft _) (Aft _) h;have j:=(List.cons.inj k).2;obtain⟨e4,f,i⟩:=Ath _ _ true _ _ _ _ (Afs l) (Afs m) j;have g:=Ati l m i;have c:=Un q;obtain⟨⟨u,t1⟩,d1⟩:=a;obtain⟨⟨s,t2⟩,d2⟩:=b;simp only at e4 f c;rw[e4,f,c,g]
theorem Atj (l:List Ca) {X:List Int} (b:Ju X):Sb (l.flatMap Gd++X):=by cases l with| nil=>intro c m e;rw[b c m e];exact⟨δ,δ⟩| cons a l=>intro c m e;simp only[List.flatMap_cons,Gd,J4,Du]at e;cases e;exact⟨δ,δ⟩
theorem Atl:∀(l m:List Ca) (X Y:List Int),Ju X->Ju Y->l.flatMap Gd++X=m.flatMap Gd++Y->l=m/\X=Y
 | [],[],X,Y,_,_,h=>⟨rfl,by simpa using h⟩
 | [],b::m,X,Y,f,_,h=>by simp only[List.flatMap_cons,List.flatMap_nil,Gd,J4,Du,List.nil_append]at h;have:=f _ _ h;omega
 | a::l,[],X,Y,_,c,h=>by simp only[List.flatMap_cons,List.flatMap_nil,Gd,J4,Du,List.nil_append]at h;have:=c _ _ h.symm;omega
 | a::l,b::m,X,Y,f,c,h=>by simp only[List.flatMap_cons,Gd,J4,Du,List.append_assoc,List.cons.injEq,true_and]at h;obtain⟨u,s⟩:=P6 _ _ _ _ (I0 _) (I0 _) (Aft _) (Aft _) h;have q:=(List.cons.inj s).2;obtain⟨e4,k⟩:=Aj4 _ _ _ _ (Atj l f) (Atj m c) q;obtain⟨j,i⟩:=Atl l m X Y f c k;have g:=Un u;obtain⟨x,i1⟩:=a;obtain⟨v2,i2⟩:=b;simp only at e4 g;exact⟨by rw[e4,g,j],i⟩
theorem A6j {m n:A7} (h:Aa8 m=Aa8 n):m=n:=by obtain⟨c,f⟩:=Atl _ _ _ _ (Afs _) (Afs _) h;have b:=Ati _ _ f;cases m;cases n;simp only at c b;rw[c,b]
def By (l:List Int):Prop:=∀c∈l,0<=c/\c<256
theorem By.app {l m:List Int} (h:By l) (h':By m):By (l++m):=by
 intro c hc;rcases D7.1 hc with k|k
 .exact h c k
 .exact h' c k
theorem By.ti (n:Int):By (Go.Ab.ti n):=by intro c h;have:=I0 n c h;simp only[P5,Bool.or_eq_true,Ck,beq_iff_eq,C8]at this;omega
theorem By.cons {c:Int} {l:List Int} (hc:0<=c/\c<256) (h:By l):By (c::l):=by
 intro d hd;rcases Fx.1 hd with rfl|k
 .exact hc
 .exact h d k
theorem By.nil:By []:=λc h=>by cases h
theorem By.sgn (n:Int) (f:Bool):By (Jg n f):=by unfold Jg;split <;> split <;> intro c hc <;> simp at hc <;> omega
theorem By.mag (n:Int):By (Ke n):=by
 unfold Ke;split
 .exact By.nil
 .exact (By.ti _).app (By.cons ω By.nil)
theorem By.var (n:Int):By (Jt n):=by
 unfold Jt;split
 .intro c hc;simp at hc;omega
 .exact By.cons ω (By.ti _)
theorem By.tT (f:Bool) (t:Bk):By (tT f t):=(By.sgn _ _).app ((By.mag _).app (By.var _))
theorem By.lins:∀(l:List Bk) (f:Bool) (c:Int),By (Ij f l c)
 | [],f,c=>by
  simp only[Ij];split
  .exact (By.sgn _ _).app (By.ti _)
  .exact By.nil
 | t::l,f,c=>(By.tT f t).app (By.lins l false c)
theorem By.at (a:Be):By (Ic a):=By.cons ω ((By.ti _).app (By.cons ω (By.lins _ _ _)))
theorem By.flat {α:Type} {g:α->List Int} (h:∀a,By (g a)) (l:List α):By (l.flatMap g):=by intro c hc;obtain⟨a,_,k⟩:=List.mem_flatMap.1 hc;exact h a c k
theorem By.fac (f:Ca):By (Gd f):=Afi f.v f.I
theorem By.mono (m:A7):By (Aa8 m):=(By.flat By.fac _).app (By.flat By.at _)
def bs (l:List Int):ByteArray:=⟨(E2 l).toArray⟩
theorem A6k {l m:List Int} (b:By l) (hm:By m) (h:bs l=bs m):l=m:=by
 unfold bs at h;have h1:(E2 l).toArray=(E2 m).toArray:=by injection h
 have h2:E2 l=E2 m:=by simpa using congrArg Array.toList h1
 exact Aj7 _ _ b hm h2
def Lp (m:A7):ByteArray:=bs (Aa8 m)
theorem Atm {m n:A7} (h:Lp m=Lp n):m=n:=A6j (A6k (By.mono m) (By.mono n) h)
theorem Aa9 (l:List Int):(bs l).size=l.length:=by unfold bs E2;simp[ByteArray.size]
theorem Atn {l:List Int} (h:By l):Nq (bs l)=l:=by
 unfold Nq bs E2
 simp only[List.map_map]
 conv=>rhs;rw[<-List.map_id l]
 refine List.map_congr_left λc hc=>?_
 have:=h c hc
 simp only[Function.comp,UInt8.toNat_ofNat',id]
 omega
theorem A6l (l m:List Int):bs l++bs m=bs (l++m):=by apply ByteArray.ext;rw[ByteArray.data_append];unfold bs E2;simp
theorem Us {l m:List Int} (h:l.length+m.length<=9223372036854775807):F8 (bs l) (bs m)=some (bs (l++m)):=by unfold F8;rw[Ay (by rw[Aa9,Aa9];exact h),A6l]
theorem Afu {n:Int} (h:I64 n):Pc n=some (bs (ti n)):=by
 rw[Aj6 h]
 congr 2
 congr 1
 unfold E2 ti
 rw[List.map_map]
 conv=>lhs;rw[<-List.map_id (Lib.itoa n)]
 refine List.map_congr_left λc _=>?_
 simp[Function.comp]
theorem A6m (v:Int) (i:Bj):I1 v i=bs (J4 v i):=rfl
theorem Afv {S E R α:Type} {step:S->Option (S⊕E)} {s0:S} {J:E->Option R} {r:R} (c:α) (xs:List α) (b:Nat->S) (h0:s0=b 0) (h:xs.length<2305843009213693952) (f:∀(j:Nat) (x:α),xs[j]? = some x->decide (((j+1:Nat):Int)<((c::xs).length:Int))=true->Af (c::xs) ((j+1:Nat):Int)=some x->Ac (((j+1:Nat):Int)+1)=((j+1+1:Nat):Int)->step (b j)=some (.inl (b (j+1)))) (g:decide (((xs.length+1:Nat):Int)<((c::xs).length:Int))=false->∃e,step (b xs.length)=some (.inr e)/\J e=some r):(An step s0).bind J=some r:=by refine Iy xs.length b h0 (λj hj=>?_) (g ψ);have hx:xs[j]? = some xs[j]:=Bx hj;exact f j _ hx (Ap (by simp only[Ei];omega)) (Bv rfl ψ) (C9 (n:=xs.length+1) ω ω)
theorem bnd {α β:Type} {X:Option α} {a:α} {K:α->Option β} {r:Option β} (h:X=some a) (k:K a=r):X.bind K=r:=by rw[h];exact k
theorem N8 {l b:List Int} (c:By l) (h:b.length+l.length<=140737488355328):Hh (bs l) b=some ((l.length:Int),b++l):=by simp only[Hh,Wr,Ad,Atn c,Aa9];rw[Dm ω];rfl
theorem Ut {l b:List Int} (c:By l) (h:b.length+l.length<=140737488355328):Jm (bs l) b=some ((l.length:Int),b++l):=by simp only[Jm,Zw,Ad,Atn c,Aa9];rw[Dm ω];rfl
theorem Se {b:List Int} (hb:By b):L8 b=some (bs b):=by exact Ay hb
theorem A6n {b:List Int} (hb:By b):Aaf b=some (bs b):=Se hb
theorem Akm (n:Int) (h : -1048576<=n/\n<=1048576):(Ke n).length<=22:=by
 unfold Ke;split
 .simp
 .have:=N5 (n:=(n.natAbs:Int)) (by unfold I64;omega);simp;omega
theorem Afw (n:Int) (f:Bool):(Jg n f).length<=3:=by unfold Jg;split <;> split <;> simp
theorem A6o {v:Int} (h : -1<=v/\v<3000):(Jt v).length<=22:=by
 unfold Jt;split
 .simp
 .have:=N5 (n:=v) (by unfold I64;omega);simp;omega
structure Ato (a:As):Prop where
 c : -1048576<=a.Q/\a.Q<=1048576
 n:a.T.length<=16
 t:∀t∈a.T,(-1<=t.v/\t.v<3000)/\(-1048576<=t.C/\t.C<=1048576)
theorem Akn {a:As} (h:Cd a=true):Ato a:=by unfold Cd at h;simp only[Ck,C8]at h;refine⟨⟨h.1.1,h.1.2.1⟩,h.1.2.2,λt ht=>?_⟩;obtain⟨j,hj⟩:=Gz ht;have:=Iz h.2 hj;simp only[Sc,Ck,C8]at this;omega
theorem Ako {t:Bk} (f:Bool) (h:(-1<=t.v/\t.v<3000)/\(-1048576<=t.C/\t.C<=1048576)):(tT f t).length<=47:=by have:=Afw t.C f;have:=Akm t.C h.2;have:=A6o h.1;unfold tT;simp only[Fb];omega
theorem Atp {n:Int} (h : -1048576<=n/\n<=1048576):(if Ac (0-n)>n then Ac (0-n) else n)=(n.natAbs:Int):=by rw[Ac,B3 ω ω];split <;> omega
theorem c45:ByteArray.mk #[45]=bs [45]:=rfl
theorem A6p:ByteArray.mk #[32,45,32]=bs [32,45,32]:=rfl
theorem A6q:ByteArray.mk #[32,43,32]=bs [32,43,32]:=rfl
theorem c42:ByteArray.mk #[42]=bs [42]:=rfl
theorem Atq:ByteArray.mk #[118]=bs [118]:=rfl
theorem c97:ByteArray.mk #[97]=bs [97]:=rfl
theorem c58:ByteArray.mk #[58]=bs [58]:=rfl
theorem Atr:ByteArray.mk #[114,101,115]=bs [114,101,115]:=rfl
theorem Ats:By [45]:=By.cons ω By.nil
theorem by3 (a b c:Int) (ha:0<=a/\a<256) (hb:0<=b/\b<256) (hc:0<=c/\c<256):By [a,b,c]:=By.cons ha (By.cons hb (By.cons hc By.nil))
theorem Att {n:Int} (f:Bool) {b:List Int} (c : -1048576<=n/\n<=1048576) (hb:b.length<=1099511627776):Aae n f b=some ((n.natAbs:Int),b++Jg n f):=by
 unfold Aae Jg;rw[Atp c,c45,A6p,A6q];rw[N8 Ats ζ,N8 (by3 _ _ _ ω ω ω) ζ,N8 (by3 _ _ _ ω ω ω) ζ];by_cases h:n<0
 .rw[Ap h,Ay h,Ay h];cases f <;> rfl
 .rw[Ax h,Av h,Av h];cases f <;> simp
theorem A6r {n:Int} {b:List Int} (c : -1048576<=n/\n<=1048576) (hb:b.length<=1099511627776):T6 n true b=some (if n<0 then .inl ((n.natAbs:Int),b++[45]) else .inr ((n.natAbs:Int),b)):=by
 unfold T6;rw[Atp c,c45,Ut Ats ζ];by_cases h:n<0
 .rw[Ap h,Ay h];rfl
 .rw[Ax h,Av h];rfl
theorem Akp {n:Nat} (h:n<=1048576):Nx (n:Int) 10=some (bs (ti n)):=by unfold Nx Ac8;exact Afu (by unfold I64;omega)
theorem Afx {n:Nat} (h:n<=1048576):(ti (n:Int)).length<=21:=N5 (by unfold I64;omega)
theorem Atu {n:Int} {b:List Int} (c : -1048576<=n/\n<=1048576) (hb:b.length<=1099511627776) : (bif ((n.natAbs:Int) != (1:Int)) then (Nx (n.natAbs:Int) 10).bind λv=>(F8 v (ByteArray.mk #[42])).bind λu=>(Hh u b).bind λw=>some w.2 else some b)=some (b++Ke n):=by
 have ht:=Afx (n:=n.natAbs) ω;unfold Ke;by_cases h:n.natAbs=1
 .rw[Fc ω,Ay h];simp
 .rw[Ek ω,Av h,Akp ω,c42];simp only[Ak,Ad];rw[Us ζ,Ad,N8 ((By.ti _).app (By.cons ω By.nil)) ζ];rfl
theorem Akq {v:Int} {b:List Int} {R:Type} (K:List Int->Option R) (hv : -1<=v/\v<3000) (hb:b.length<=1099511627776) : (bif (v==(-1)) then (Hh (ByteArray.mk #[114,101,115]) b).bind λw=>K w.2 else (Jd v).bind λx=>(F8 (ByteArray.mk #[118]) x).bind λy=>(Hh y b).bind λw=>K w.2)=K (b++Jt v):=by
 have ht:=N5 (n:=v) (by unfold I64;omega);unfold Jt;by_cases h:v = -1
 .rw[Dk h,Ay h,Atr,N8 (by3 _ _ _ ω ω ω) ζ];rfl
 .rw[Cn h,Av h,Atq];simp only[Am,Jd];rw[Afu (by unfold I64;omega),Ad,Us ζ,Ad];rw[show [118]++ti v=118::ti v from rfl,N8 (By.cons ω (By.ti _)) ζ];rfl
theorem Afy {α:Type} {g:α->List Int} {l:List α} {j:Nat} {x:α} (h:l[j]? = some x):(l.take (j+1)).flatMap g=(l.take j).flatMap g++g x:=by rw[Dc h];simp
theorem Atv {α:Type} {g:α->List Int} {n:Nat}:∀(l:List α),(∀a∈l,(g a).length<=n)->(l.flatMap g).length<=l.length*n
 | [],_=>ψ
 | a::l,h=>by have h1:=h a ψ;have h2:=Atv l λb hb=>h b (by simp[hb]);simp only[List.flatMap_cons,Fb,Ei,Nat.add_mul];omega
theorem Akr {α:Type} {g:α->List Int} {n:Nat} (l:List α) (j:Nat) (h:∀a∈l,(g a).length<=n):((l.take j).flatMap g).length<=l.length*n:=by refine Nat.le_trans (Atv _ λa ha=>h a (List.mem_of_mem_take ha)) (Nat.mul_le_mul_right _ ?_);rw[List.length_take];omega
theorem Atw:∀(ts:List Bk) (c:Int),Ij false ts c=ts.flatMap (tT false)++Ij false [] c
 | [],c=>ψ
 | t::ts,c=>by have:=Atw ts c;simp only[List.flatMap_cons,List.append_assoc,<-this];rfl
theorem A6s {a:As} (h:Cd a=true) (A:a.T≠[]):Px a=some (bs (Aa7 a)):=by
 have y:=Akn h;unfold Px;rw[M5,h];obtain⟨c,l⟩:=a;cases l with
 | nil=>exact (A rfl).elim
 | cons t ts=>
  have hc : -1048576<=c/\c<=1048576:=y.c;have L:ts.length<=15:=(by have:=y.n;simp at this;omega);have ht:(-1<=t.v/\t.v<3000)/\(-1048576<=t.C/\t.C<=1048576):=y.t t ψ;have s:∀u∈ts,(-1<=u.v/\u.v<3000)/\(-1048576<=u.C/\u.C<=1048576):=λu hu=>y.t u (by simp[hu]);have x:=λj=>Akr (g:=tT false) (n:=47) ts j (λu hu=>Ako false (s u hu));have I:=Ako true ht;simp only[Ad,Dz,Am];rw[Ap (by simp only[Ei];omega),Ak];refine bnd (a:=((t.C.natAbs:Int),tT true t)) ?_ ?_
  .rw[show Af (t::ts) 0=some t from rfl,Ad,A6r ht.2 ψ,Ad];have E:=N5 (n:=t.v) (by unfold I64;omega);have G:=Afx (n:=t.C.natAbs) ω;have B:=Akm t.C ht.2;by_cases q:t.C<0
   .rw[Ay q];simp only;rw[Atu ht.2 ψ,Ad];refine (Akq (λb=>some ((t.C.natAbs:Int),b)) ht.1 ζ).trans ?_;simp[tT,Jg,q]
   .rw[Av q];simp only;by_cases h1:t.C.natAbs=1
    .rw[Fc ω];simp only[Am];by_cases hv:t.v = -1
     .rw[Dk hv,Atr,Ak,Ut (by3 _ _ _ ω ω ω) ψ];simp[tT,Jg,q,Ke,h1,Jt,hv]
     .rw[Cn hv,Am,Atq,Jd,Afu (by unfold I64;omega),Ad,Us ζ,Ad,show [118]++ti t.v=118::ti t.v from rfl,
       Ut (By.cons ω (By.ti _)) ζ];simp[tT,Jg,q,Ke,h1,Jt,hv]
    .rw[Ek ω];simp only[Ak];rw[Akp ω,Ad,c42,Us ζ,Ad,Ut ((By.ti _).app (By.cons ω By.nil)) ζ,Ad];refine (Akq (λb=>some ((t.C.natAbs:Int),b)) ht.1 ζ).trans ?_;simp[tT,Jg,q,Ke,h1]
  .simp only;refine Afv t ts (λj=>(((j+1:Nat):Int),tT true t++(ts.take j).flatMap (tT false))) (by simp[Ac,B3]) ω ?_ ?_
   .intro j u hu h1 h2 h3;have f:=s u (Cf hu);have:=x j;have B:=Akm u.C f.2;have z:=Afw u.C false;simp only[h1,h2,h3,Ak,Ad];rw[Cn ω,Att false f.2 (by simp only[Fb];omega),Ad,Atu f.2 (by simp only[Fb];omega),Ad];refine (Akq (R:=(Int×List Int)⊕List Int) (λb=>some (.inl (((j+1+1:Nat):Int),b))) f.1 (by simp only[Fb];omega)).trans ?_;rw[Afy hu];simp[tT]
   .intro h1;have h2:=x ts.length;rw[Dh]at h2;refine⟨tT true t++ts.flatMap (tT false),by simp only[h1,Am,Dh],?_⟩;have D:By (tT true t++ts.flatMap (tT false)):=(By.tT _ _).app (By.flat (By.tT _) _);have e:Aa7 ⟨c,t::ts⟩=tT true t++ts.flatMap (tT false)++Ij false [] c:=(by have:=Atw ts c;rw[List.append_assoc,<-this];rfl);rw[e];have k:((((t::ts).length:Nat):Int)==(0:Int))=false:=Cn (by simp only[Ei];omega);by_cases i:c=0
    .simp only[Fc i,Am,k,Ad];rw[Se D];simp[Ij,i]
    .have J:=Afx (n:=c.natAbs) ω;have z:=Afw c false;simp only[Ek i,Ak,Ad,k];rw[Att false hc (by simp only[Fb];omega),Ad,Akp ω,Ad,N8 (By.ti _) (by simp only[Fb];omega),Ad, Se ((D.app (By.sgn _ _)).app (By.ti _))];simp[Ij,i]
theorem Atx {a:As} (h:Ato a):(Aa7 a).length<=1024:=by
 have key:∀(l:List Bk) (f:Bool),(∀t∈l,(-1<=t.v/\t.v<3000)/\(-1048576<=t.C/\t.C<=1048576))->(Ij f l a.Q).length<=47*l.length+24:=by
  intro l;induction l with
  | nil=>intro f _;have h1:=Afx (n:=a.Q.natAbs) (by have:=h.c;omega);have h2:=Afw a.Q f;simp only[Ij];split <;> simp <;> omega
  | cons t l ih=>intro f b;have h1:=Ako f (b t ψ);have h2:=ih false λu hu=>b u (by simp[hu]);simp only[Ij,Fb,Ei];omega
 have:=key a.T true h.t;have:=h.n;unfold Aa7;omega
structure CMo (m:A7):Prop where
 sz:MSz m
 nf:m.F.length<=6
 na:m.A.length<=6
 al:∀a∈m.A,Cd a.L=true/\a.L.T≠[]/\1<=a.P/\a.P<=6
theorem Afz {R:Type} {a:Be} (K:ByteArray->Option R) (h:Cd a.L=true/\a.L.T≠[]/\1<=a.P/\a.P<=6) : ((Jd a.P).bind λu=>(F8 (ByteArray.mk #[97]) u).bind λv=>(F8 v (ByteArray.mk #[58])).bind λw=>(Px a.L).bind λx=>(F8 w x).bind λy=>K y)=K (bs (Ic a)):=by have h1:=N5 (n:=a.P) (by unfold I64;omega);have h2:=Atx (Akn h.1);rw[Jd,Afu (by unfold I64;omega),Ad,c97,Us ζ,Ad,c58,Us ζ,Ad,A6s h.1 h.2.1,Ad,Us ζ,Ad];simp[Ic]
theorem Aba {a:Be} (h:Cd a.L=true/\a.L.T≠[]/\1<=a.P/\a.P<=6):(Ic a).length<=1100:=by have h1:=N5 (n:=a.P) (by unfold I64;omega);have h2:=Atx (Akn h.1);simp[Ic];omega
theorem Af0 {f:Ca} (h:Dl f.I<=1048576) (b:iR f.I/\I64 f.v):(Gd f).length<=33554432:=by have h1:=N5 b.2;have h2:=Aj5 f.I b.1;simp[Gd,J4];omega
theorem A6t {m:A7} (h:CMo m):Za m=some (Lp m):=by
 obtain⟨fs,c⟩:=m;have q:∀f∈fs,Dl f.I<=1048576/\iR f.I/\I64 f.v:=λf i=>⟨h.sz.fi f i,h.sz.fr f i⟩;have u:∀a∈c,Cd a.L=true/\a.L.T≠[]/\1<=a.P/\a.P<=6:=h.al;have nf:fs.length<=6:=h.nf;have na:c.length<=6:=h.na;have A:=λ(l:List Ca) (x:∀f∈l,f∈fs) (j:Nat)=>Akr (g:=Gd) (n:=33554432) l j (λf i=>Af0 (q f (x f i)).1 (q f (x f i)).2);have D:=λ(l:List Be) (x:∀a∈l,a∈c) (j:Nat)=>Akr (g:=Ic) (n:=1100) l j (λa ha=>Aba (u a (x a ha)));have L:∀l:List Ca,By (l.flatMap Gd):=λl=>By.flat By.fac l;have E:∀l:List Be,By (l.flatMap Ic):=λl=>By.flat By.at l;have key:∀f:Ca,f∈fs->L7 f.v f.I=some (bs (Gd f)):=λf i=>Aj8 f.v f.I (q f i).2.2 (q f i).2.1 (q f i).1;unfold Za Lp Aa8;cases fs with
 | nil=>
  rw[Ax ψ,Am];cases c with
  | nil=>rw[Ax ψ,Am];rw[A6n By.nil];rfl
  | cons a c=>
   have ha:=u a ψ;have y:=Aba ha;rw[Ap (by simp only[Ei];omega),Ak,show Af (a::c) 0=some a from rfl,Ad];refine (Afz _ ha).trans ?_;rw[Ut (By.at a) ζ,Ad];refine Afv a c (λj=>(((j+1:Nat):Int),[]++Ic a++(c.take j).flatMap Ic)) (by simp[Ac,B3]) (by simp at na;omega) ?_ ?_
   .intro j b hb h1 h2 h3;have k:=u b (by simp[Cf hb]);have:=Aba k;have:=D c (λb hb=>by simp[hb]) j;simp at na;simp only[h1,h2,h3,Ak,Ad];refine (Afz _ k).trans ?_;rw[N8 (By.at b) (by simp only[Fb,List.length_nil];omega),Ad,Afy hb];simp
   .intro h1;refine⟨[]++Ic a++c.flatMap Ic,by simp only[h1,Am,Dh],?_⟩;dsimp only;rw[Se ((By.nil.app (By.at a)).app (E c))];simp
 | cons f fs=>
  have i:=q f ψ;have J:=Af0 i.1 i.2;rw[Ap (by simp only[Ei];omega),Ak,show Af (f::fs) 0=some f from rfl,Ad,key f ψ,Ad,Ut (By.fac f) ζ,Ad];refine Afv f fs (λj=>(((j+1:Nat):Int),[]++Gd f++(fs.take j).flatMap Gd)) (by simp[Ac,B3]) (by simp at nf;omega) ?_ ?_
  .intro j g hg h1 h2 h3;have s:g∈f::fs:=(by simp[Cf hg]);have:=Af0 (q g s).1 (q g s).2;have:=A fs (λb hb=>by simp[hb]) j;simp at nf;simp only[h1,h2,h3,Ak,Ad];rw[key g s,Ad,N8 (By.fac g) (by simp only[Fb,List.length_nil];omega),Ad,Afy hg];simp
  .intro h1;have G:=A fs (λb hb=>by simp[hb]) fs.length;rw[Dh]at G;simp at nf;refine⟨[]++Gd f++fs.flatMap Gd,by simp only[h1,Am,Dh],?_⟩;have z:By ([]++Gd f++fs.flatMap Gd):=(By.nil.app (By.fac f)).app (L fs);have I:([]++Gd f++fs.flatMap Gd).length<=234881024:=(by simp only[Fb,List.length_nil];omega);have eB:(f::fs).flatMap Gd = []++Gd f++fs.flatMap Gd:=ψ;rw[eB];generalize []++Gd f++fs.flatMap Gd=B at z I;cases c with
   | nil=>rw[Ax ψ,Am,Se z];simp
   | cons a c=>
    have ha:=u a ψ;have y:=Aba ha;rw[Ap (by simp only[Ei];omega),Ak,show Af (a::c) 0=some a from rfl,Ad];refine (Afz _ ha).trans ?_;rw[N8 (By.at a) ω,Ad];refine Afv a c (λj=>(((j+1:Nat):Int),B++Ic a++(c.take j).flatMap Ic)) (by simp[Ac,B3]) (by simp at na;omega) ?_ ?_
    .intro j b hb h1 h2 h3;have k:=u b (by simp[Cf hb]);have:=Aba k;have:=D c (λb hb=>by simp[hb]) j;simp at na;simp only[h1,h2,h3,Ak,Ad];refine (Afz _ k).trans ?_;rw[N8 (By.at b) (by simp only[Fb];omega),Ad,Afy hb];simp
    .intro h1;refine⟨B++Ic a++c.flatMap Ic,by simp only[h1,Am,Dh],?_⟩;dsimp only;rw[Se ((z.app (By.at a)).app (E c))];simp
def Eo (ts:List Ai):List (ByteArray×Int):=ts.zipIdx.map λq=>(Lp q.1.M,(q.2:Int))
def Dst (ts:List Ai):Prop:=ts.Pairwise λt u=>t.M≠u.M
theorem A6u (ts:List Ai) (t:Ai):Eo (ts++[t])=Eo ts++[(Lp t.M,(ts.length:Int))]:=by unfold Eo;simp[List.zipIdx_append]
theorem Abb (ts:List Ai) (j:Nat):(Eo ts)[j]? = (ts[j]?).map λt=>(Lp t.M,(j:Int)):=by unfold Eo;simp[List.getElem?_map,List.getElem?_zipIdx];cases ts[j]? <;> rfl
theorem A6v {ts:List Ai} {j:Nat} {t u:Ai} (h:ts[j]? = some t) (hm:u.M=t.M):Eo (ts.set j u)=Eo ts:=by
 apply List.ext_getElem?;intro i;rw[Abb,Abb,List.getElem?_set];by_cases e:j=i
 .subst e;rw[Ay rfl,Ay (E4 h),h];simp[hm]
 .rw[Av e]
theorem Aty {α:Type}:∀(o:List (ByteArray×α)) (s:ByteArray) (v:α),Fs o s=false->Gc o s v=o++[(s,v)]
 | [],_,_,_=>rfl
 | p::o,s,v,h=>by simp only[Fs,List.any_cons,Bool.or_eq_false_iff]at h;simp only[Gc,h.1,Am,Du,List.cons.injEq,true_and];exact Aty o s v h.2
theorem A6w {ts:List Ai} {m:A7} (h:∀t∈ts,t.M≠m):Fs (Eo ts) (Lp m)=false:=by unfold Fs;rw[List.any_eq_false];intro p hp;obtain⟨j,hj⟩:=Gz hp;rw[Abb]at hj;cases ht:ts[j]? with| none=>rw[ht]at hj;cases hj| some t=>rw[ht]at hj;simp only[Option.map_some,Option.some.injEq]at hj;subst hj;intro e;have e:=(R8 _ _).1 e;exact h t (Cf ht) (Atm e).symm
theorem A6x {ts:List Ai} (hd:Dst ts) {j:Nat} {t:Ai} (h:ts[j]? = some t):Fs (Eo ts) (Lp t.M)=true/\Is (Eo ts) (Lp t.M) 0=(j:Int):=by
 have hp:(Eo ts)[j]? = some (Lp t.M,(j:Int)):=by rw[Abb,h];rfl
 refine⟨List.any_eq_true.2 ⟨_,Cf hp,(R8 _ _).2 rfl⟩,?_⟩;unfold Is;have b:(Eo ts).find? (λp=>Lp t.M==p.1)=some (Lp t.M,(j:Int)):=by
  cases b:(Eo ts).find? (λp=>Lp t.M==p.1) with
  | none=>have:=List.find?_eq_none.1 b _ (Cf hp);exact (this ((R8 _ _).2 rfl)).elim
  | some q=>
   have h1:=List.find?_some b;obtain⟨i,hi⟩:=Gz (List.mem_of_find?_eq_some b);rw[Abb]at hi;cases hu:ts[i]? with
   | none=>rw[hu]at hi;cases hi
   | some u=>
    rw[hu]at hi;simp only[Option.map_some,Option.some.injEq]at hi;subst hi;have e:=Atm ((R8 _ _).1 h1);have g:i=j:=by
     have f:=E4 hu;have c:=E4 h;rw[Bx f]at hu;rw[Bx c]at h;rcases Nat.lt_trichotomy i j with k|k|k
     .have:=List.pairwise_iff_getElem.1 hd i j f c k;rw[Fj hu,Fj h]at this;exact (this e.symm).elim
     .exact k
     .have:=List.pairwise_iff_getElem.1 hd j i c f k;rw[Fj hu,Fj h]at this;exact (this e).elim
    subst g;rw[e]
 rw[b];rfl
open Classical in
theorem O5 (t:Ai) (p:List Ai) (m:A7):cf (t::p) m=(if t.M=m then rq t.C else 0)+cf p m:=by
 simp only[cf];by_cases e:t.M=m
 .rw[Ay (Mi.2 e),Ay e]
 .rw[Av (λh=>e (Mi.1 h)),Av e]
open Classical in
theorem Atz:∀{ts:List Ai} {j:Nat} {t u:Ai},ts[j]? = some t->u.M=t.M->∀m,cf (ts.set j u) m=cf ts m+(if t.M=m then rq u.C-rq t.C else 0)
 | [],j,t,u,h,_,m=>by simp at h
 | s::ts,0,t,u,h,hm,m=>by simp only[List.getElem?_cons_zero,Option.some.injEq]at h;subst h;rw[List.set_cons_zero,O5,O5,hm];split <;> grind
 | s::ts,j+1,t,u,h,hm,m=>by simp only[List.getElem?_cons_succ]at h;rw[List.set_cons_succ,O5,O5,Atz h hm m];grind
theorem Dst.set {ts:List Ai} (h:Dst ts) {j:Nat} {t u:Ai} (ht:ts[j]? = some t) (hm:u.M=t.M):Dst (ts.set j u):=by
 have e:(ts.set j u).map (·.M)=ts.map (·.M):=by
  apply List.ext_getElem?;intro i;rw[List.getElem?_map,List.getElem?_map,List.getElem?_set];by_cases e:j=i
  .subst e;rw[Ay rfl,Ay (E4 ht),ht];simp[hm]
  .rw[Av e]
 have k:∀l:List Ai,Dst l↔(l.map (·.M)).Pairwise (·≠·):=λl=>by rw[List.pairwise_map];exact Iff.rfl
 rw[k,e,<-k];exact h
structure Col (k:Nat) (P:A7->Prop) (ts:List Ai):Prop where
 dst:Dst ts
 tb:∀t∈ts,RB k t.C
 mo:∀t∈ts,P t.M
theorem Col.nil (k:Nat) (P:A7->Prop):Col k P []:=⟨List.Pairwise.nil,λ_ h=>(by cases h),λ_ h=>(by cases h)⟩
theorem Xm {k0 k:Nat} {P:A7->Prop} (I:∀m,P m->CMo m) (l ts:List Ai) (y:Col k0 P ts) (G:∀t∈l,RB k t.C/\P t.M) (hk:k<=k0) (R:k0+l.length*(k+3)<34359738000) (N:ts.length+l.length<=1099511627776) : ∃f,J8 l (Eo ts) ts=some (Eo f,f)/\Col (k0+l.length*(k+3)) P f/\f.length<=ts.length+l.length/\∀m,cf f m=cf ts m+cf l m:=by
 unfold J8;refine Aej (A:=List Ai) (λf=>(Eo f,f)) ?_;refine Ej (λs=>∃(j:Nat) (u:List Ai),s=((j:Int),Eo u,u)/\j<=l.length/\Col (k0+j*(k+3)) P u/\u.length<=ts.length+j/\∀m,cf u m=cf ts m+cf (l.take j) m) (λs=>l.length-s.1.toNat) (λz=>∃u,z=(Eo u,u)/\Col (k0+l.length*(k+3)) P u/\u.length<=ts.length+l.length/\∀m,cf u m=cf ts m+cf l m) ⟨0,ts,rfl,ω,by simpa using y,ω,λm=>by simp only[List.take_zero,cf];grind⟩ ?_ ?_
 .rintro _ ⟨j,u,rfl,hj,hu,q,hv⟩;rcases Cg j l.length with h|h
  .have hx:l[j]? = some l[j]:=Bx h;generalize l[j]=x at hx;obtain⟨hb,hm⟩:=G x (Cf hx);have D:j*(k+3)+(k+3)<=l.length*(k+3):=(by rw[<-Nat.succ_mul];exact Nat.mul_le_mul_right _ h);have B:(j+1)*(k+3)=j*(k+3)+(k+3):=(by rw[Nat.succ_mul]);simp only[Ap (ω:(j:Int)<(l.length:Int)),Ak,Bv rfl hx,Ad,A6t (I _ hm),C9 h ω];left;by_cases hex:∃t∈u,t.M=x.M
   .obtain⟨t,ht,E⟩:=hex;obtain⟨i,hi⟩:=Gz ht;obtain⟨g1,g2⟩:=A6x hu.dst hi;rw[E]at g1 g2;obtain⟨c,M,_,L,S,J⟩:=Aa6 (hu.tb t ht) hb ω ω;refine⟨((j+1:Nat),Eo (u.set i ⟨c,t.M⟩),u.set i ⟨c,t.M⟩),?_,⟨j+1,u.set i ⟨c,t.M⟩,rfl,ω,⟨hu.dst.set hi rfl,?_,?_⟩,by rw[List.length_set];omega,λm=>?_⟩,ζ⟩
    .simp only[g1,g2,Ak,Ad,Bv rfl hi,M,G0 rfl,A6v (u:=⟨c,t.M⟩) hi rfl]
    .intro w hw;rcases List.mem_or_eq_of_mem_set hw with hw|rfl
     .exact (hu.tb w hw).mono ω
     .exact L.mono ω
    .intro w hw;rcases List.mem_or_eq_of_mem_set hw with hw|rfl
     .exact hu.mo w hw
     .exact hu.mo t ht
    .rw[Atz (u:=⟨c,t.M⟩) hi rfl m,hv m,Dc hx,Xk,O5];simp only[J,E,cf];split <;> grind
   .have g:=A6w (m:=x.M) (ts:=u) λt ht e=>hex ⟨t,ht,e⟩;refine⟨((j+1:Nat),Eo (u++[x]),u++[x]),?_,⟨j+1,u++[x],rfl,ω,⟨?_,?_,?_⟩,ζ,λm=>?_⟩,ζ⟩
    .simp only[g,Am,Ad];rw[Dm ζ,Ad,Aty _ _ _ g,A6u]
    .refine List.pairwise_append.2 ⟨hu.dst,List.pairwise_singleton _ _,λa ha b hb=>?_⟩;simp only[Dw]at hb;subst hb;exact λe=>hex ⟨a,ha,e⟩
    .intro w hw;rcases D7.1 hw with hw|hw
     .exact (hu.tb w hw).mono ω
     .simp only[Dw]at hw;subst hw;exact hb.mono ω
    .intro w hw;rcases D7.1 hw with hw|hw
     .exact hu.mo w hw
     .simp only[Dw]at hw;subst hw;exact hm
    .rw[Xk,hv m,Dc hx,Xk];grind
  .have:j=l.length:=ω;subst this;rw[Dh]at hv;simp only[Ax (ω:¬(l.length:Int)<(l.length:Int)),Am];exact .inr ⟨_,rfl,u,rfl,hu,q,hv⟩
 .rintro _ ⟨u,rfl,h1,h2,h3⟩;exact⟨_,rfl,u,rfl,h1,h2,h3⟩
theorem Aks (t u:Ai) (h:MSz t.M):Ps t u=some (D8 t.M u.M):=by unfold Ps;rw[Ase _ _ h];rfl
theorem A6y {α:Type} (A R:List α) (x y:α):((A++y::x::R).set (A.length+1) y).set A.length x=A++x::y::R:=by induction A with| nil=>rfl| cons a A ih=>simp only[Du,Ei,List.set_cons_succ,ih]
theorem At0 {α:Type} (A R:List α) (x:α):(A++x::R)[A.length]? = some x:=ψ
theorem A6z {α:Type} (A R:List α) (x y:α):(A++y::x::R)[A.length+1]? = some x:=by induction A with| nil=>rfl| cons a A ih=>simp
theorem A60 {step:Int×List Ai->Option ((Int×List Ai)⊕(Int×List Ai))} (N:Nat) (E:N<4611686018427387904) (b:∀(x:Ai) (R:List Ai),step (0,x::R)=some (.inr (0,x::R))) (k:∀(A R:List Ai) (x y:Ai),(∀t∈A++y::x::R,MSz t.M)->(A++y::x::R).length<=N->step (((A.length+1:Nat):Int),A++y::x::R) = if D8 x.M y.M<0 then some (.inl ((A.length:Int),A++x::y::R)) else some (.inr (((A.length+1:Nat):Int),A++y::x::R))) : ∀(n:Nat) (A R:List Ai) (x:Ai),A.length=n->(∀t∈A++x::R,MSz t.M)->(A++x::R).length<=N -> ∃f i,An step ((A.length:Int),A++x::R)=some ((f.length:Int),f++x::(i++R))/\A=f++i/\(∀a∈i,ltT x a)/\∀l y,f=l++[y]->¬ltT x y:=by
 intro n;induction n with
 | zero=>intro A R x g _ _;have:A = []:=Fa.1 g;subst this;exact⟨[],[],D5 (b x R),rfl,nofun,(λl y h=>by simp at h)⟩
 | succ n ih=>
  intro A R x g hm c;obtain⟨B,y,rfl⟩:∃B y,A=B++[y]:=by
   rcases List.eq_nil_or_concat A with h|⟨B,y,h⟩
   .rw[h]at g;cases g
   .exact⟨B,y,by simpa using h⟩
  have s:B.length=n:=(by simpa using g);have D:(B++[y])++x::R=B++y::x::R:=ψ;have el:(((B++[y]).length:Nat):Int)=((B.length+1:Nat):Int):=ψ;rw[D]at hm c ⊢;rw[el];have j:=k B R x y hm c;by_cases hc:D8 x.M y.M<0
  .rw[Ay hc]at j;obtain⟨f,i,h1,h2,h3,u⟩:=ih B (y::R) x s (by intro t ht;refine hm t ?_;simp only[D7,Fx]at ht ⊢;rcases ht with h|h|h|h <;> simp[h]) (by simpa using c);refine⟨f,i++[y],?_,by rw[h2];simp,?_,u⟩
   .rw[Ir j,h1];simp
   .intro a ha;rcases D7.1 ha with ha|ha
    .exact h3 a ha
    .simp only[Dw]at ha;subst ha;exact hc
  .rw[Av hc]at j;refine⟨B++[y],[],?_,ψ,nofun,?_⟩
   .rw[D5 j];simp
   .intro l z q;have:=List.append_inj' q rfl;have e:y=z:=(by simpa using this.2);subst e;exact hc
theorem A61 {a b c:Ai} (h:ltT a b) (h':ltT b c):ltT a c:=Afq h h'
theorem A62 {c j:List Ai} {x:Ai} (u:(c++j).Pairwise ltT) (h2:∀a∈j,ltT x a) (h1:∀g y,c=g++[y]->¬ltT x y) (hd:∀a∈c,a.M≠x.M):(c++x::j).Pairwise ltT:=by
 obtain⟨i,s,l⟩:=List.pairwise_append.1 u;have hx:∀a∈c,ltT a x:=by
  intro a ha;rcases List.eq_nil_or_concat c with h|⟨g,y,h⟩
  .rw[h]at ha;cases ha
  .have h:c=g++[y]:=(by simpa using h);have f:ltT y x:=by
    have q:=h1 g y h;have z:=hd y (by rw[h];simp);unfold ltT at *;rcases Int.lt_trichotomy (D8 x.M y.M) 0 with k|k|k
    .exact (q k).elim
    .exact (z (Mi.1 k).symm).elim
    .exact Atc.1 k
   rw[h]at ha i;rcases D7.1 ha with ha|ha
   .exact A61 ((List.pairwise_append.1 i).2.2 a ha y ψ) f
   .simp only[Dw]at ha;subst ha;exact f
 refine List.pairwise_append.2 ⟨i,List.pairwise_cons.2 ⟨h2,s⟩,λa ha b hb=>?_⟩;rcases Fx.1 hb with rfl|hb
 .exact hx a ha
 .exact l a ha b hb
noncomputable def Abc:Int×List Ai->Option ((Int×List Ai)⊕(Int×List Ai)):=λ(v31,b)=> (show OB from bif v31>(0:Int) then ((Af b v31).bind λv33=> (Af b (Ac (v31-1))).bind λg=> (Ps v33 g).bind λv35=> some (decide (v35<(0:Int)))) else some false).bind λf=>
 bif f then ((Af b (Ac (v31-1))).bind λv37=> (Af b v31).bind λc=> (Af b v31).bind λv39=> (Af (Cu b v31 v37) (Ac (v31-1))).bind λv40=> some (.inl ((Ac (v31-1)),(Cu (Cu b v31 v37) (Ac (v31-1)) c)))) else some (.inr (v31,b))
theorem A63 (y:Ai) (R:List Ai):Abc (0,y::R)=some (.inr (0,y::R)):=by unfold Abc;simp only[Ax (ω:¬(0:Int)>0),Am,Ad]
theorem A64 {N:Nat} (h:N<=1099511627776) (A R:List Ai) (u y:Ai) (b:∀t∈A++y::u::R,MSz t.M) (c:(A++y::u::R).length<=N):Abc (((A.length+1:Nat):Int),A++y::u::R) = if D8 u.M y.M<0 then some (.inl ((A.length:Int),A++u::y::R)) else some (.inr (((A.length+1:Nat):Int),A++y::u::R)):=by
 have g:A.length+1<N:=by simp at c;omega
 have f:Ac (((A.length+1:Nat):Int)-1)=(A.length:Int):=by rw[Ac,B3] <;> omega
 unfold Abc;simp only[Ap (ω:((A.length+1:Nat):Int)>0),Ak,f,Bv (n:=A.length+1) rfl (A6z A R u y),Bv (n:=A.length) rfl (At0 A (u::R) y),Ad,Aks u y (b u ψ)];by_cases hc:D8 u.M y.M<0
 .rw[Ap hc,Ay hc];simp only[Ak];rw[G0 (n:=A.length+1) rfl,G0 (n:=A.length) rfl,A6y];have:Af ((A++y::u::R).set (A.length+1) y) (A.length:Int)=some y:=(by refine Bv rfl ?_;rw[List.getElem?_set_ne ω];exact At0 A (u::R) y);rw[this];rfl
 .rw[Ax hc,Av hc];rfl
theorem A65 (b:List Ai) (hd:Dst b) (hm:∀t∈b,MSz t.M) (L:b.length<=1099511627776) : ∃R,Zx 0 (b.length:Int) b=some R/\R.Perm b/\R.Pairwise ltT:=by
 unfold Zx;cases b with
 | nil=>refine⟨[],?_,List.Perm.refl _,List.Pairwise.nil⟩;refine Iy 0 (λ_=>((1:Int),([]:List Ai))) (by simp[Ac,B3]) (λj hj=>ω) ⟨[],?_,rfl⟩;simp
 | cons z0 A=>
 generalize f:z0::A=b at *;have hpos:1<=b.length:=by rw[<-f];simp
 refine Ej (λs=>∃(i:Nat) (S:List Ai),s=((i:Int),S++b.drop i)/\1<=i/\i<=b.length/\S.length=i/\S.Perm (b.take i)/\S.Pairwise ltT) (λs=>b.length-s.1.toNat) (λR=>R.Perm b/\R.Pairwise ltT) ⟨1,[z0],by rw[<-f];simp[Ac,B3],ω,hpos,rfl,by rw[<-f];simp,List.pairwise_singleton _ _⟩ ?_ ?_
 .rintro _ ⟨i,S,rfl,I,hi,G,c,k⟩;rcases Cg i b.length with h|h
  .have hx:b[i]? = some b[i]:=Bx h;generalize b[i]=x at hx;have g:b.drop i=x::b.drop (i+1):=Js hx;have z:(S++x::b.drop (i+1)).length=b.length:=ζ;have y:∀t∈S++x::b.drop (i+1),t∈b:=by
    intro t ht;rcases D7.1 ht with ht|ht
    .exact List.mem_of_mem_take (c.mem_iff.1 ht)
    .rw[<-g]at ht;exact List.mem_of_mem_drop ht
   simp only[Ap (ω:(i:Int)<(b.length:Int)),Ak,C9 h ω];rw[g];left;obtain⟨q,l,h1,h2,h3,J⟩:=A60 (step:=Abc) b.length ω A63 (A64 ω) S.length S (b.drop (i+1)) x rfl (λt ht=>hm t (y t ht)) (by rw[z];exact Nat.le_refl _);rw[G]at h1;have hp:(q++x::l).Perm (b.take (i+1)):=(by rw[Dc hx];have:(q++x::l).Perm ((q++l)++[x]):=(by rw[List.append_assoc];exact List.Perm.append_left q (List.perm_append_singleton x l).symm);exact this.trans (by rw[<-h2];exact c.append_right [x]));refine⟨(((i+1:Nat):Int),(q++x::l)++b.drop (i+1)),bnd h1 ψ,⟨i+1,q++x::l,rfl,ω,ω,?_,hp,?_⟩,ζ⟩
   .rw[hp.length_eq,List.length_take];omega
   .rw[h2]at k;refine A62 k h3 J λa ha=>?_;have E:a∈b.take i:=c.mem_iff.1 (by rw[h2];simp[ha]);have B:x∈b.drop i:=(by rw[g];simp);have D:(b.take i++b.drop i).Pairwise λt u=>t.M≠u.M:=(by rw[List.take_append_drop];exact hd);exact (List.pairwise_append.1 D).2.2 a E x B
  .have:i=b.length:=ω;subst this;rw[Dh]at c;simp only[Ax (ω:¬(b.length:Int)<(b.length:Int)),Am,List.drop_length,List.append_nil];exact .inr ⟨S,rfl,c,k⟩
 .rintro R ⟨h1,h2⟩;exact⟨R,rfl,h1,h2⟩
theorem Na {α:Type} {n:Nat} {l:List α} (h:n=l.length):Ge n l=some ():=by unfold Ge;rw[Ay h]
theorem A66 {s:ByteArray} {i:Int} (h0:0<=i) (h:i.toNat<s.size):∃c,J0 s i=some c:=by unfold J0;rw[Ay h0];exact⟨_,getElem?_pos s i.toNat h⟩
set_option maxRecDepth 20000 in
theorem At1 {n:Nat} (h:n<256):∃v,To (Ba (n:Int))=some v:=by
 unfold To Ado;rw[Ba,Df ω ω,Ax ω];simp only[Am,Ad];rw[Ax ω];simp only[Am,Ad];rw[Ax ω];simp only[Am,Ad];have b:wu8 (n:Int)=(n:Int):=by rw[wu8];unfold IntKind.wrap;simp[IntKind.bits,IntKind.signed];omega
 rw[b];generalize g:ByteArray.mk _=T;have f:T.size=256:=by rw[<-g];rfl
 obtain⟨c,hc⟩:=A66 (s:=T) (i:=(n:Int)) ω (by rw[f];simpa using h);rw[hc];exact⟨_,rfl⟩
theorem A67 (b:List Ai) (hd:Dst b) (hm:∀t∈b,MSz t.M) (c:b.length<=12):∃R,Pq b=some R/\R.Perm b/\R.Pairwise ltT:=by
 obtain⟨R,h1,h2,h3⟩:=A65 b hd hm ω;obtain⟨v,hv⟩:=At1 (n:=b.length) ω;refine⟨R,?_,h2,h3⟩;unfold Pq;rw[Nat.ble_eq_true_of_le c,Ak];unfold Aiy;rw[hv,Ad];have hp:Zq 0 (b.length:Int) v b=some R:=by unfold Zq;refine bnd (a:=R) (D5 ?_) rfl;have w:Ac ((b.length:Int)-0)=(b.length:Int):=ξ;simp only[w,Ap (ω:(b.length:Int)<=12),Ak,h1,Ad,Na h2.length_eq.symm]
 rw[hp,Ad,Na h2.length_eq.symm];rfl
def clT (t:Ai):Ai:=⟨B1 (sv t.C) (nv t.C) (dv t.C),t.M⟩
theorem A68 {k:Nat} (p:List Ai) (hk:k<34359738000) (hp:∀t∈p,RB k t.C/\MSz t.M) (b:p.length<=1048576):Zb p=some (p.map clT):=by
 unfold Zb;refine Ho p (λj=>((j:Int),(p.take j).map clT)) rfl ω ?_ ?_
 .intro j x hj hx h1 h2 h3;obtain⟨a1,a2⟩:=hp x (Cf hx);simp only[h1,h2,h3,Ak,Ad,Ajk x.C k a1 ω,A6h x.M a2];rw[Dm ζ,Ad,Dc hx];simp[clT]
 .intro h1;exact⟨p.map clT,ψ,rfl⟩
theorem A69 (p:List Ai) (m:A7):cf (p.map clT) m=cf p m:=by induction p with| nil=>rfl| cons t p ih=>simp only[List.map_cons,cf,ih,clT];rw[Mh _ _ _ (Ft _)];rfl
theorem A7a {p q:List Ai} (h:p.Perm q) (m:A7):cf p m=cf q m:=by induction h with| nil=>rfl| cons x _ ih=>simp only[cf,ih]| swap x y l=>simp only[cf];grind| trans _ _ h1 h2=>rw[h1,h2]
def nzT (t:Ai):Bool:=decide (rq t.C≠0)
theorem A7b (p:List Ai) (m:A7):cf (p.filter nzT) m=cf p m:=by
 induction p with
 | nil=>rfl
 | cons t p ih=>
  by_cases h:rq t.C=0
  .rw[List.filter_cons_of_neg (by simp[nzT,h]),ih];simp only[cf,h];grind
  .rw[List.filter_cons_of_pos (by simp[nzT,h])];simp only[cf,ih]
theorem A7c (x:Rat):(G2 x != (0:Int))=decide (x≠0):=by
 unfold G2;by_cases h1:x<0
 .rw[Ay h1];have:x≠0:=(by intro e;subst e;exact absurd h1 δ);simp[this]
 .rw[Av h1];by_cases h2:0<x
  .rw[Ay h2];have:x≠0:=(by intro e;subst e;exact absurd h2 δ);simp[this]
  .rw[Av h2];have:x=0:=Rat.le_antisymm (Rat.not_lt.1 h2) (Rat.not_lt.1 h1);simp[this]
theorem A7d {α:Type} {f:α->Bool} {l:List α} {j:Nat} {x:α} (h:l[j]? = some x):(l.take (j+1)).filter f=(l.take j).filter f++(if f x then [x] else []):=by rw[Dc h,List.filter_append];congr 1;cases k:f x <;> simp[List.filter,k]
theorem Akt {k:Nat} {P:A7->Prop} (q:∀m,P m->CMo m) (o:List (ByteArray×Int)) (ts:List Ai) (h:Col k P ts) (hk:k<34359738000) (A:ts.length<=1000) (z:∀c:List Ai,c.length<=ts.length->Dst c->(∀t∈c,MSz t.M)->∃R,Pq c=some R/\R.Perm c/\R.Pairwise ltT) : ∃R,Ks o ts=some (R,0)/\CP R/\(∀m,cf R m=cf ts m)/\(∀t∈R,P t.M/\RB (k+1) t.C)/\R.length<=ts.length:=by
 unfold Ks;have g:(ts.filter nzT).length<=ts.length:=List.length_filter_le _ _;obtain⟨S,y,f,s⟩:=z (ts.filter nzT) g (List.Pairwise.filter _ h.dst) (λt ht=>(q _ (h.mo t (List.mem_filter.1 ht).1)).sz);have b:∀t∈S,t∈ts/\rq t.C≠0:=by intro t ht;have:=List.mem_filter.1 (f.mem_iff.1 ht);exact⟨this.1,by simpa[nzT] using this.2⟩
 refine⟨S.map clT,?_,⟨?_,?_⟩,?_,?_,?_⟩
 .refine Ho ts (λj=>((j:Int),(ts.take j).filter nzT)) rfl ω ?_ ?_
  .intro j x hj hx h1 h2 h3;have hb:=h.tb x (Cf hx);have l:((ts.take j).filter nzT).length<=ts.length:=Nat.le_trans (List.length_filter_le _ _) (by rw[List.length_take];omega);simp only[h1,h2,h3,Ak,Ad,(M9 hb hk).1,A7c];rw[A7d hx];by_cases i:rq x.C=0
   .have:nzT x=false:=(by simp[nzT,i]);rw[Ax (by simpa using i),this];simp
   .have:nzT x=true:=(by simp[nzT,i]);rw[Ap i,this];simp only[Ak];rw[Dm ζ];simp
  .intro h1;refine⟨ts.filter nzT,by simp only[h1,Am,Dh],?_⟩;rw[Ax ω];simp only[Am];rw[y,Ad,Na f.length_eq.symm,Ad, A68 (k:=k) S hk (λt ht=>⟨h.tb t (b t ht).1,(q _ (h.mo t (b t ht).1)).sz⟩) (by rw[f.length_eq];omega)];rfl
 .rw[List.pairwise_map];exact s
 .intro t ht;obtain⟨u,hu,rfl⟩:=List.mem_map.1 ht;refine⟨P8 _ _ _ (Ft _),?_⟩;show rq (B1 _ _ _)≠0;rw[Mh _ _ _ (Ft _)];exact (b u hu).2
 .intro m;rw[A69,A7a f,A7b]
 .intro t ht;obtain⟨u,hu,rfl⟩:=List.mem_map.1 ht;exact⟨h.mo u (b u hu).1,A3s (h.tb u (b u hu).1)⟩
 .rw[Ix,f.length_eq];exact g
theorem Aku (x:Bh) (g:CSz x) (ps:List (List Ai)) (B:∀p∈ps,∀t∈p,TSz t) (M:ps.length<=1048576) : ∃r,Kq x ps=some r/\(((En x/\∀p∈ps,H3 x.D x.V x.E p=true)/\∃A,r = .inl (true,x,A,[],x.D,x.V,x.E.G,x.E.U,x.E.R)/\Ef x.D x.V x.E A) \/ ((¬(En x/\∀p∈ps,H3 x.D x.V x.E p=true))/\r = .inr false)):=by
 obtain⟨b,b1,b2⟩:=Ae7 g.ds;have I:=g.nv;have G:=g.rs;unfold Kq;rw[b1,Um x.D x.E 0 ω];by_cases l:x.V.length<=3000
 .rw[Ax ω];simp only[Am,Ad];cases b with
  | false=>exact⟨_,rfl,.inr ⟨λh=>(by have:=b2.2 h.1.2.1;cases this),rfl⟩⟩
  | true=>
   have hv:=b2.1 rfl;simp only[Dz,Am];cases D:(El x.D 0 x.E&&decide (B5 x.E<=200)) with
   | false=>exact⟨_,rfl,.inr ⟨λh=>(by have:=h.1.2.2.1;rw[show Ii x.D x.E=false from D]at this;cases this),rfl⟩⟩
   | true=>
    simp only[Dz,Am,Ad];refine Ej (λi=>∃j:Nat,i=j/\j<=x.V.length/\(x.V.take j).all (Ii x.D)=true) (λi=>x.V.length-i.toNat) (λz=>match z with|.inl r=>r=false/\¬En x | .inr _=>En x) ⟨0,rfl,ω,ψ⟩ ?_ ?_
    .rintro i ⟨j,rfl,hj,c⟩;rcases Cg j x.V.length with h|h
     .have ht:x.V[j]? = some x.V[j]:=Bx h;generalize x.V[j]=t at ht;have:=g.vs t (Cf ht);simp only[Ap (ω:(j:Int)<(x.V.length:Int)),Ak,Bv rfl ht,Ad,Um x.D t 0 ω,C9 h ω];rw[show (El x.D 0 t&&decide (B5 t<=200))=Ii x.D t from rfl];cases hg:Ii x.D t with| true=>exact .inl ⟨_,rfl,⟨j+1,rfl,ω,by rw[Dc ht,List.all_append,c];simp[hg]⟩,ζ⟩| false=>refine .inr ⟨.inl false,rfl,rfl,λhh=>?_⟩;have:=D2.1 hh.2.2.2 t (Cf ht);rw[hg]at this;cases this
     .have:j=x.V.length:=ω;subst this;rw[Dh]at c;exact .inr ⟨.inr (),ψ,l,hv,D,c⟩
    .rintro (r|u) f
     .obtain⟨rfl,f⟩:=f;exact⟨_,rfl,.inr ⟨λh=>f h.1,rfl⟩⟩
     .have E:En x:=f;simp only;refine Ej (λs=>∃(j:Nat) (o:List (ByteArray×Int)),s=((j:Int),o)/\j<=ps.length/\Ef x.D x.V x.E o/\∀p∈ps.take j,H3 x.D x.V x.E p=true) (λs=>ps.length-s.1.toNat) (λz=>match z with|.inl r=>r=false/\¬(∀p∈ps,H3 x.D x.V x.E p=true) | .inr o=>Ef x.D x.V x.E o/\∀p∈ps,H3 x.D x.V x.E p=true) ⟨0,[],rfl,ω,(λq h=>by cases h),(λq h=>by simp at h)⟩ ?_ ?_
      .rintro _ ⟨j,o,rfl,hj,hm,c⟩;rcases Cg j ps.length with h|h
       .have ht:ps[j]? = some ps[j]:=Bx h;generalize ps[j]=p at ht;have k:=Cf ht;obtain⟨A,L,J⟩:=Asq (E.ctx g) [] hm p (B p k);simp only[Ap (ω:(j:Int)<(ps.length:Int)),Ak,Bv rfl ht,Ad,L,C9 h ω];cases y:H3 x.D x.V x.E p with
        | true=>
         refine .inl ⟨_,rfl,⟨j+1,A,rfl,ω,J,λq hq=>?_⟩,ζ⟩;rw[Dc ht]at hq;rcases D7.1 hq with hq|hq
         .exact c q hq
         .simp only[Dw]at hq;subst hq;exact y
        | false=>refine .inr ⟨.inl false,rfl,rfl,λhh=>?_⟩;have:=hh p k;rw[y]at this;cases this
       .have:j=ps.length:=ω;subst this;rw[Dh]at c;exact .inr ⟨.inr o,ψ,hm,c⟩
      .rintro (r|o) hw
       .obtain⟨rfl,hw⟩:=hw;exact⟨_,rfl,.inr ⟨λh=>hw h.2,rfl⟩⟩
       .exact⟨_,rfl,.inl ⟨⟨E,hw.2⟩,o,rfl,hw.1⟩⟩
 .rw[Ap ω];exact⟨_,rfl,.inr ⟨λh=>l h.1.1,rfl⟩⟩
theorem Akv {data:List Aw} {vars:List Ah} {res:Ah} {m:A7} (h:I6 data vars res m=true) (q:MSz m):CMo m:=by
 have c:=(Afp h).2;unfold I6 at h;simp only[Ck,C8]at h;obtain⟨⟨h1,h2⟩,h3⟩:=h;have b:∀f∈m.F,0<=F5 data vars res f:=by intro f c;obtain⟨j,hj⟩:=Gz c;have:=Iz h1 hj;simp only[Xd,Ck,C8]at this;omega
 have ha:∀a∈m.A,1<=a.P/\Cd a.L=true/\a.L.T≠[]:=by intro a ha;obtain⟨j,hj⟩:=Gz ha;have:=Iz h2 hj;simp only[Mg,Ck,C8]at this;refine⟨this.1.1.1.1,this.1.1.1.2,λe=>?_⟩;have k:=this.1.1.2;rw[e]at k;simp at k
 obtain⟨a1,a2,a3⟩:=Asn m.A λa h=>by have:=(ha a h).1;omega
 have f1:=A5j m.F b;have al:(m.A.length:Int)<=Cv m.A:=by have key:∀l:List Be,(∀a∈l,1<=a.P)->(l.length:Int)<=Cv l:=(by intro l;induction l with| nil=>intro _;simp[Cv]| cons f fs ih=>intro i;have h1:=i f ψ;have h2:=ih (λg hg=>i g (by simp[hg]));unfold Cv at *;simp only[List.map_cons,List.sum_cons,Ei];omega);exact key _ λa h=>(ha a h).1
 exact⟨q,c,ω,λa h=>⟨(ha a h).2.1,(ha a h).2.2,(ha a h).1,by have:=a3 a h;omega⟩⟩
def E5 (x:Bh) (m:A7):Prop:=I6 x.D x.V x.E m=true/\MSz m
theorem E5.cmo {x:Bh} {m:A7} (h:E5 x m):CMo m:=Akv h.1 h.2
structure H5 (x:Bh) (p:List Ai):Prop where
 can:H3 x.D x.V x.E p=true
 sz:∀t∈p,TSz t
theorem H5.cp {x:Bh} {p:List Ai} (h:H5 x p):CP p:=(Xl.1 h.can).2.1
theorem H5.mo {x:Bh} {p:List Ai} (h:H5 x p):∀t∈p,E5 x t.M:=λt ht=>⟨(Xl.1 h.can).2.2 t ht,(h.sz t ht).mo⟩
theorem H5.of {x:Bh} {p:List Ai} (hc:CP p) (hm:∀t∈p,E5 x t.M) (b:∀t∈p,RB 1048576 t.C) (c:p.length<=1000):H5 x p := ⟨Xl.2 ⟨c,hc,λt ht=>(hm t ht).1⟩,λt ht=>⟨b t ht,(hm t ht).2⟩⟩
theorem H5.tb {x:Bh} {p:List Ai} (h:H5 x p):∀t∈p,RB 1048576 t.C/\E5 x t.M:=λt ht=>⟨(h.sz t ht).co,h.mo t ht⟩
theorem At2 {x:Bh} (i:CSz x) (k:En x) {p q:List Ai} (hp:H5 x p) (hq:H5 x q):∃f,Kq x [p,q]=some (.inl (true,x,f,[],x.D,x.V,x.E.G,x.E.U,x.E.R)):=by
 have b:∀r∈[p,q],H5 x r:=by intro r c;simp only[Fx,List.not_mem_nil,or_false]at c;rcases c with rfl|rfl <;> assumption
 obtain⟨r,h,g⟩:=Aku x i [p,q] (λr c=>(b r c).sz) ψ;rcases g with⟨_,f,e,_⟩|⟨j,_⟩
 .exact⟨f,by rw[h,e]⟩
 .exact (j ⟨k,λr c=>(b r c).can⟩).elim
theorem At3 {r:Aj} {j k:Nat} (q:List Ai) (y:RB j r) (hq:∀t∈q,RB k t.C) (hj:j<34359738000) (hk:k<34359738000) (D:q.length<=1048576) : ∃x,Vy q r=some x/\x.length=q.length/\(∀m,cf x m=cf q m*rq r)/\∀t∈x,RB (k+j+2) t.C/\∃u∈q,u.M=t.M:=by
 unfold Vy;refine Ej (λs=>∃(i:Nat) (o:List Ai),s=((i:Int),o)/\i<=q.length/\o.length=i/\(∀m,cf o m=cf (q.take i) m*rq r)/\∀t∈o,RB (k+j+2) t.C/\∃u∈q,u.M=t.M) (λs=>q.length-s.1.toNat) (λo=>o.length=q.length/\(∀m,cf o m=cf q m*rq r)/\∀t∈o,RB (k+j+2) t.C/\∃u∈q,u.M=t.M) ⟨0,[],rfl,ω,rfl,(λm=>by simp only[List.take_zero,cf];grind),λ_ h=>by cases h⟩ ?_ ?_
 .rintro _ ⟨i,o,rfl,hi,l,b,g⟩;rcases Cg i q.length with h|h
  .have hx:q[i]? = some q[i]:=Bx h;generalize q[i]=t at hx;have f:=Cf hx;obtain⟨c,B,A,E,z⟩:=M8 (hq t f) y hk hj;simp only[Ap (ω:(i:Int)<(q.length:Int)),Ak,Bv rfl hx,Ad,B,C9 h ω];rw[Dm ζ];refine .inl ⟨_,rfl,⟨i+1,o++[⟨c,t.M⟩],rfl,ω,by simp[l],λm=>?_,λw hw=>?_⟩,ζ⟩
   .rw[Xk,b,Dc hx,Xk];simp only[cf,z];split <;> grind
   .rcases D7.1 hw with hw|hw
    .exact g w hw
    .simp only[Dw]at hw;subst hw;exact⟨A,t,f,rfl⟩
  .have:i=q.length:=ω;subst this;rw[Dh]at b;simp only[Ax (ω:¬(q.length:Int)<(q.length:Int)),Am];exact .inr ⟨_,rfl,l,b,g⟩
 .rintro o ⟨h1,h2,h3⟩;exact⟨_,rfl,h1,h2,h3⟩
theorem A7e {k:Nat} (ts:List Ai) (h:∀t∈ts,RB k t.C) (hk:k<34359738000) (f:ts.length<=1048576):Q5 ts=some (ts.all λt=>decide (0<=rq t.C)):=by
 have b:∀x:Rat,decide (G2 x<(0:Int)) = !decide (0<=x):=by
  intro x;unfold G2;by_cases h1:x<0
  .rw[Ay h1,Ax (Rat.not_le.2 h1)];rfl
  .rw[Av h1,Ap (Rat.not_lt.1 h1)];split <;> rfl
 have key:=Aeq ts (λt=>!decide (0<=rq t.C)) ω (J:=λz=>match z with|.inl c=>some c | .inr _=>some (-1)) (step:=λv3=>bif v3<(ts.length:Int) then ((Af ts v3).bind λv4=>(Yu v4).bind λv5=>bif v5 then some (.inr (.inl v3)) else some (.inl (Ac (v3+1)))) else some (.inr (.inr ()))) (by intro j t ht h1 h2 h3;simp only[h1,h2,h3,Ak,Ad,Yu,(M9 (h t ht) hk).1,b]) (λh=>by simp only[h];rfl) (λ_=>rfl) rfl
 obtain⟨i,i1,i2⟩:=key;have e:Adi ts=some i:=i1;unfold Q5 Ade;rw[e,Ad,Ad,i2,List.not_any_eq_all_not];simp
open Classical in
theorem A7f {ts:List Ai} (hd:Dst ts) {t:Ai} (ht:t∈ts):cf ts t.M=rq t.C:=by
 induction ts with
 | nil=>cases ht
 | cons u ts ih=>
  obtain⟨h1,h2⟩:=List.pairwise_cons.1 hd;rw[O5];have none:∀(l:List Ai) (m:A7),(∀w∈l,w.M≠m)->cf l m=0:=λl m h=>Afr λw hw e=>h w hw (Mi.1 e);rcases Fx.1 ht with rfl|ht
  .rw[Ay rfl,none ts t.M (λw hw e=>h1 w hw e.symm)];grind
  .rw[Av (h1 t ht),ih h2 ht];grind
open Classical in
theorem A7g {ts:List Ai} (hd:Dst ts):(ts.all λt=>decide (0<=rq t.C))=true↔∀m,0<=cf ts m:=by
 rw[D2];constructor
 .intro h m;clear hd;induction ts with| nil=>exact Rat.le_refl| cons t ts ih=>have h1:=h t ψ;have h2:=ih λu hu=>h u (by simp[hu]);simp only[C8]at h1;rw[O5];split <;> grind
 .intro h t ht;have:=h t.M;rw[A7f hd ht]at this;simpa using this
theorem A7h:∃r,Dj (-1)=some r/\RB 1 r/\rq r = -1:=by
 refine⟨_,Uk (-1) δ δ,?_,?_⟩
 .exact K2 _ _ _ 1 (Kx δ) (Kx δ) ω
 .rw[Mh _ _ _ δ];decide
def bc:Nat->Nat->Nat
 | _,0=>1
 | 0,_+1=>0
 | n+1,k+1=>bc n k+bc n (k+1)
theorem H6 (n:Nat):bc n 0=1:=by cases n <;> rfl
theorem Abd:∀{n k:Nat},n<k->Hj n k=0
 | n,0,h=>absurd h ω
 | n,k+1,h=>by
  rw[Hj];by_cases e:n<k
  .rw[Abd e,Nat.zero_mul]
  .rw[show n-k=0 by omega,Nat.mul_zero]
theorem At4 (n:Nat):∀k,Hj (n+1) (k+1)=(n+1)*Hj n k
 | 0=>by simp[Hj]
 | k+1=>by rw[Hj,At4 n k,Hj,show n+1-(k+1)=n-k by omega,Nat.mul_assoc]
theorem Xn:∀n k,Hj n k=fct k*bc n k
 | n,0=>by rw[H6];rfl
 | 0,k+1=>by rw[Abd ω];simp[bc]
 | n+1,k+1=>by
  have h1:=Xn n (k+1);have h2:=Xn n k;rw[At4,bc,Nat.mul_add,<-h1,fct,Hj,Nat.mul_right_comm,<-h2];by_cases e:k<=n
  .rw[<-Nat.mul_add,Nat.mul_comm,show k+1+(n-k)=n+1 by omega]
  .rw[Abd ω];simp
theorem Abe:∀n k,bc n k<=2 ^ n
 | n,0=>by rw[H6];exact Nat.one_le_two_pow
 | 0,k+1=>by simp[bc]
 | n+1,k+1=>by have h1:=Abe n (k+1);have h2:=Abe n k;rw[bc,Nat.pow_succ];omega
def cR (n:Nat):Aj:=B1 false n 1
theorem Sf (n:Nat):sv (cR n)=false/\nv (cR n)=n/\dv (cR n)=1:=by
 obtain⟨g,f,c,b⟩:=Aaj false n 1 δ;refine⟨?_,?_,?_⟩
 .by_cases h:n=0
  .exact b h
  .exact c h
 .unfold cR;rw[g];simp
 .unfold cR;rw[f];simp
theorem Lq {n k:Nat} (h:Bl n<=k) (hk:1<=k):RB k (cR n):=K2 _ _ _ _ h (by rw[K0];exact hk) hk
theorem A7i {a b K:Nat} (ha:Bl a<=K) (hb:Bl b<=K) (c:1<=K) (h:K<60000000000):It (cR a) (cR b)=some (cR (a+b)):=by obtain⟨a1,a2,a3⟩:=Sf a;obtain⟨b1,b2,f⟩:=Sf b;rw[Aex _ _ K K (Lq ha c) (Lq hb c) ω ω,a1,a2,a3,b1,b2,f];simp[K1,Jq,cR]
theorem A7j {a K:Nat} (ha:Bl a<=K) (b:1<=K) (h:K<60000000000):G5 (cR a)=some (if a=0 then 0 else 1):=by obtain⟨a1,a2,a3⟩:=Sf a;rw[Aew _ K (Lq ha b) ω,a1,a2];simp[Jp]
theorem Af1:Dj 0=some (cR 0):=Uk 0 δ δ
theorem P9:Dj 1=some (cR 1):=Uk 1 δ δ
theorem At5 (n k:Nat) (b:n<1000000000) (hk:k<=64):Y4 (n:Int) (k:Int)=some (cR (bc n k),true):=by
 unfold Y4;have e:(if (n:Int)>0 then (n:Int) else 0)=(n:Int):=by split <;> omega
 simp only[Ax (ω:¬(k:Int)<0),Am,Ax (ω:¬(k:Int)>64),Ad,e,Ara n k b hk];rw[Xn,show B1 false (fct k*bc n k) (fct k)=B1 false (fct k*bc n k) (fct k*1) by rw[Nat.mul_one],R5 _ _ _ _ (W6 k)];rfl
theorem At6 (n k:Nat) (b:n<1000000000) (hk:k<=64):Wt (n:Int) (k:Int)=some (cR (bc n k),true):=At5 n k b hk
theorem Akw:∀(l:List Ah) (r:List Bool) (s:Nat) (n:Nat) (p:Int) (L:Nat->Option Ah),l.length=r.length->(∀j,L (s+j)=l[j]?) -> (((r.zipIdx s).filter λq=>!q.1).map λq=>(q.2:Int))[n]? = some p->∃(m:Nat) (a:Ah),p=m/\L m=some a/\(G6 l r)[n]? = some a
 | [],[],s,n,p,L,_,_,h=>by simp at h
 | a::l,b::r,s,n,p,L,i,g,h=>by
  have c:l.length=r.length:=(by simpa using i);have f:∀j,L (s+1+j)=l[j]?:=λj=>by rw[show s+1+j=s+(j+1) by omega,g];rfl
  cases b with
  | true=>simp only[List.zipIdx_cons,List.filter_cons,Dz]at h;obtain⟨m,x,h1,h2,h3⟩:=Akw l r (s+1) n p L c f (by simpa using h);exact⟨m,x,h1,h2,by simpa[G6] using h3⟩
  | false=>simp only[List.zipIdx_cons,List.filter_cons,Bool.not_false,if_true,List.map_cons]at h;cases n with| zero=>simp only[List.getElem?_cons_zero,Option.some.injEq]at h;exact⟨s,a,h.symm,by have:=g 0;simpa using this,by simp[G6]⟩| succ n=>simp only[List.getElem?_cons_succ]at h;obtain⟨m,x,h1,h2,h3⟩:=Akw l r (s+1) n p L c f h;exact⟨m,x,h1,h2,by simpa[G6] using h3⟩
 | [],_::_,_,_,_,_,h,_,_=>by simp at h
 | _::_,[],_,_,_,_,h,_,_=>by simp at h
theorem A7k {l:List Ah} {r:List Bool} (b:l.length=r.length) {n:Nat} {p:Int} (h:(Ih r)[n]? = some p):∃(m:Nat) (a:Ah),p=m/\l[m]? = some a/\(G6 l r)[n]? = some a := Akw l r 0 n p (λj=>l[j]?) b (λj=>ψ) (by unfold Ih at h;exact h)
theorem A7l (l:List Ah) (r:List Bool) (c:l.length=r.length):(Ih r).length=(G6 l r).length:=by
 unfold Ih G6;rw[Ix,Ix];have key:∀(l:List Ah) (r:List Bool) (s:Nat),l.length=r.length->((r.zipIdx s).filter λq=>!q.1).length=((l.zip r).filter λp=>!p.2).length:=by
  intro l;induction l with
  | nil=>intro r s h;have:r = []:=Fa.1 h.symm;subst this;rfl
  | cons a l ih=>intro r s h;cases r with| nil=>simp at h| cons b r=>have:=ih r (s+1) (by simpa using h);cases b <;> simp[this]
 exact key l r 0 c
theorem A7m {data:List Aw} {t:Ah} (hk:t.G=5):∀(n:Nat) (v:A3),Da v<=n->He data v t=true->∀x∈I2 data t.U v,He data x t=true/\Da x<=Da v:=by
 intro n;induction n with
 | zero=>intro v h;have:=Xg v;omega
 | succ n ih=>
  intro v h q x hx;have s:=M6 v;obtain⟨y,_,_,_,k,f⟩:=Afo hk q;rw[Asz]at hx;rcases Fx.1 hx with rfl|hx
  .exact⟨q,Nat.le_refl _⟩
  .have key:∀(l:List A3) (r:List Bool),(∀(j:Nat) (w:A3),l[j]? = some w->r[j]? = some true->He data w t=true)->Et l<=n->x∈H4 data t.U l r->He data x t=true/\Da x<=Et l:=by
    intro l;induction l with
    | nil=>intro r _ _ hx;simp[H4]at hx
    | cons w l c=>
     intro r i u hx;cases r with
     | nil=>simp[H4]at hx
     | cons b r=>
      have hw:Et (w::l)=Da w+Et l:=(by simp[Et]);have g:∀(j:Nat) (w':A3),l[j]? = some w'->r[j]? = some true->He data w' t=true:=λj w' h1 h2=>i (j+1) w' h1 h2;cases b with
      | true=>
       simp only[H4,Ak,D7]at hx;rcases hx with hx|hx
       .have:=ih w ω (i 0 w rfl rfl) x hx;exact⟨this.1,ω⟩
       .have:=c r g ω hx;exact⟨this.1,ω⟩
      | false=>simp only[H4,Am,List.nil_append]at hx;have:=c r g ω hx;exact⟨this.1,ω⟩
   have:=key v.K _ f ω hx;exact⟨this.1,ω⟩
theorem Akx (data:List Aw):∀(c:List Bj) (ts:List Ah) (d:Nat),D0 data c ts=some d->c.length=ts.length/\∀(j:Nat) (i:Bj) (t:Ah),c[j]? = some i->ts[j]? = some t->∃e,G1 data i t=some e/\e<=d
 | [],[],d,_=>⟨rfl,λj i t h=>by simp at h⟩
 | i::c,t::ts,d,h=>by
  rw[Sa]at h;cases h1:G1 data i t with
  | none=>rw[h1]at h;cases h
  | some a=>
   rw[h1,Ad]at h;cases h2:D0 data c ts with
   | none=>rw[h2]at h;cases h
   | some b=>rw[h2]at h;have h:a+b=d:=Fj h;obtain⟨g1,g2⟩:=Akx data c ts b h2;refine⟨by simp[g1],λj i' f hi ht=>?_⟩;cases j with| zero=>cases hi;cases ht;exact⟨a,h1,ω⟩| succ j=>obtain⟨e,g,k⟩:=g2 j i' f hi ht;exact⟨e,g,ω⟩
 | [],_::_,_,h=>by simp only[D0]at h;cases h
 | _::_,[],_,h=>by simp only[D0]at h;cases h
def Mj (data:List Aw) (t:Ah) (e:Bj):Aac:=⟨e.U,e.K,Ih (Eb data t.U e.U),match Jr data t e.U with|some l=>G6 l (Eb data t.U e.U) | none=>[]⟩
def I3 (n:Nat) (f:Nat->Nat):List Aj:=(List.range (n+1)).map λq=>cR (f q)
theorem Uu (n:Nat) (f:Nat->Nat):(I3 n f).length=n+1:=by simp[I3]
theorem Sg {n q:Nat} (f:Nat->Nat) (h:q<=n):(I3 n f)[q]? = some (cR (f q)):=by unfold I3;rw[List.getElem?_map,List.getElem?_range ω];rfl
theorem At7 {n q x:Nat} {f g:Nat->Nat} (h:q<=n) (h1:g q=x) (h2:∀p,p<=n->p≠q->g p=f p):Cu (I3 n f) (q:Int) (cR x)=I3 n g:=by
 rw[G0 (n:=q) rfl];apply List.ext_getElem?;intro i;rw[List.getElem?_set];rcases Cg i (n+1) with hi|hi
 .rw[Sg f ω,Sg g ω,Uu];by_cases e:q=i
  .subst e;rw[Ay rfl,Ay ω,h1]
  .rw[Av e,h2 i ω (Ne.symm e)]
 .rw[Kv (by rw[Uu];exact hi),Kv (by rw[Uu];exact hi)];split
  .rw[Av (by rw[Uu];omega)]
  .rfl
theorem Aky {n:Nat} {f g:Nat->Nat} (h:∀p,p<=n->f p=g p):I3 n f=I3 n g:=by
 apply List.ext_getElem?;intro i;rcases Cg i (n+1) with hi|hi
 .rw[Sg f ω,Sg g ω,h i ω]
 .rw[Kv (by rw[Uu];exact hi),Kv (by rw[Uu];exact hi)]
theorem A7n (c:List Ah) (Q:List Bool) (y:Q.length=c.length) (z:c.length<=6) {R:Type} {J:Int×List Int×List Ah->Option R} {r:R} (x:J ((Q.length:Int),Ih Q,G6 c Q)=some r) : (An (S:=(Int×(List Int)×(List Ah))) (E:=(Int×(List Int)×(List Ah))) (λ(v85,g,f)=> bif v85<(Q.length:Int) then ((Af Q v85).bind λi=> bif (!i) then ((Cj 8 g [v85]).bind λl=> (Af c v85).bind λh=> (Cj 40 f [h]).bind λk=> some (.inl ((Ac (v85+1)),l,k))) else some (.inl ((Ac (v85+1)),g,f))) else some (.inr (v85,g,f))) (0,[],[])).bind J=some r:=by
 have s:∀j,(Ih (Q.take j)).length<=Q.length:=λj=>by unfold Ih;rw[Ix];refine Nat.le_trans (List.length_filter_le _ _) ?_;simp;omega
 refine Ho Q (λj=>((j:Int),Ih (Q.take j),G6 (c.take j) (Q.take j))) (by simp[Ih,G6]) ω ?_ ?_
 .intro j b hj hb h1 h2 h3;have ha:c[j]? = some c[j]:=Bx ω;generalize c[j]=a at ha;have u:=Afb (c.take j) (Q.take j);have:(c.take j).length<=6:=ζ;have hp:=s j;have q:Ih (Q.take (j+1))=Ih (Q.take j)++bif b then [] else [(j:Int)]:=by unfold Ih;rw[A4x hb,List.filter_append,List.map_append];cases b <;> rfl
  simp only[h1,h2,h3,Ak,Ad,q,Ajy ha hb];cases b with| true=>simp| false=>simp only[Bool.not_false,Ak,Am];rw[Dm ζ,Ad,Bv rfl ha,Ad,Dm ζ];rfl
 .intro h1;exact⟨_,by simp only[h1];rfl,by rw[Dh,Iw ω];exact x⟩
theorem A7o (n:Nat) (k:n<=100) {R:Type} {J:List Aj->Option R} {r:R} (h:J (List.replicate n (cR 0))=some r) : (An (S:=(Int×(List Aj))) (E:=(List Aj)) (λ(b,c)=> bif b<(((List.replicate n (Aj.mk false [] [])).length:Nat):Int) then ((Dj 0).bind λf=> (Af c b).bind λg=> some (.inl ((Ac (b+1)),(Cu c b f)))) else some (.inr c)) (0,List.replicate n (Aj.mk false [] []))).bind J=some r:=by
 refine Ho (List.replicate n (Aj.mk false [] [])) (λj=>((j:Int),List.replicate j (cR 0)++List.replicate (n-j) (Aj.mk false [] []))) ψ ζ ?_ ?_
 .intro j x hj hx h1 h2 h3;have hj':j<n:=(by simpa using hj);have i:List.replicate (n-j) (Aj.mk false [] [])=Aj.mk false [] []::List.replicate (n-(j+1)) (Aj.mk false [] []):=(by rw[show n-j=(n-(j+1))+1 by omega];rfl);simp only[h1,h3,Ak,Af1,Ad,i];rw[Aaq (List.replicate j (cR 0)) _ _ _ j rfl ψ,Ad,Aap _ _ _ _ _ j rfl ψ];rw[List.replicate_succ'];simp
 .intro h1;exact⟨List.replicate n (cR 0),by simp only[h1];simp,h⟩
theorem A7p:Vs []=some []:=κ
theorem At8 (l:List Int):Vs l=some (l.mergeSort λx y=>decide (x<=y)):=by cases l with| nil=>rw[A7p];simp| cons a l=>rfl
theorem At9 (l:List Int):(l.mergeSort λx y=>decide (x<=y)).Pairwise (·<=·):=by have:=List.pairwise_mergeSort (le:=λx y:Int=>decide (x<=y)) (λa b c h1 h2=>by simp only[C8]at *;omega) (λa b=>by simp only[Bool.or_eq_true,C8];omega) l;exact this.imp (λh=>by simpa using h)
structure Asc (b:List Int) (n:Nat) (l:List Int):Prop where
 up:l.Pairwise (· < ·)
 mem:∀y,y∈l↔y∈b.take n
theorem A7q {b:List Int} (c:b.Pairwise (·<=·)) {q:Nat} {p:Int} (hp:b[q]? = some p):∀y∈b.take (q+1),y<=p:=by
 intro y hy;obtain⟨i,hi⟩:=Gz hy;rw[List.getElem?_take]at hi;split at hi
 .rename_i f;by_cases e:i=q
  .subst e;rw[hi]at hp;cases hp;exact Int.le_refl _
  .have h1:=E4 hi;have h2:=E4 hp;have:=(List.pairwise_iff_getElem.1 c) i q h1 h2 ω;rw[Bx h1]at hi;rw[Bx h2]at hp;cases hi;cases hp;exact this
 .cases hi
theorem Asc.step {b:List Int} (g:b.Pairwise (·<=·)) {q:Nat} {l:List Int} {p x:Int} (h:Asc b (q+1) l) (hp:b[q]? = some p) (hx:b[q+1]? = some x) (j:x≠p):Asc b (q+2) (l++[x]):=by
 have f:=A7q g hp;have i:p<x:=by have h1:=E4 hp;have h2:=E4 hx;have:=(List.pairwise_iff_getElem.1 g) q (q+1) h1 h2 ω;rw[Bx h1]at hp;rw[Bx h2]at hx;cases hp;cases hx;omega
 refine⟨?_,λy=>?_⟩
 .rw[List.pairwise_append];refine⟨h.up,ψ,λa ha c hc=>?_⟩;rw[Dw]at hc;subst hc;have:=f a ((h.mem a).1 ha);omega
 .rw[Dc hx,D7,D7,h.mem y]
theorem Asc.same {b:List Int} {q:Nat} {l:List Int} {x:Int} (h:Asc b (q+1) l) (hp:b[q]? = some x) (hx:b[q+1]? = some x):Asc b (q+2) l:=by
 refine⟨h.up,λy=>?_⟩;rw[Dc hx,D7,h.mem y];constructor
 .exact .inl
 .rintro (h1|h1)
  .exact h1
  .rw[Dw]at h1;subst h1;rw[Dc hp];simp
theorem Abf {α:Type} {l:List α} {off n:Nat} {i:Int} {j:Nat} {x:α} (hi:i=j) (hj:j<n) (h:l[off+j]? = some x):Hn l off n i=some x:=by subst hi;unfold Hn;rw[Ay ω];simpa using h
theorem A7r {X:Option (Nat×List Int)} {Q:Nat×List Int->Prop} (h:∃r,X=some r/\Q r):∃(m:Nat) (o:List Int),X=some (m,o)/\Q (m,o):=by obtain⟨⟨m,o⟩,h1,h2⟩:=h;exact⟨m,o,h1,h2⟩
theorem A7s {X:Option (Int⊕((Nat×List Int)⊕Unit))} {P:Nat->List Int->Prop} {b:Prop} (h:∃r,X=some r/\∃(m:Nat) (o:List Int),r = .inr (.inl (m,o))/\P m o) : ∃e,X=some (.inr e)/\((∃(m:Nat) (o:List Int),e = .inl (m,o)/\P m o)\/(e = .inr ()/\b)):=by obtain⟨_,h1,m,o,rfl,h2⟩:=h;exact⟨_,h1,.inl ⟨m,o,rfl,h2⟩⟩
theorem Aua (b:List Int) (R:b.Pairwise (·<=·)) (hl:b.length<=1099511627776):∃(m:Nat) (o:List Int),Q7 b.length b=some (m,o)/\m<=o.length/\Asc b b.length (o.take m):=by
 unfold Q7;by_cases h2:b.length<2
 .rw[Ap ω,Ak];refine⟨b.length,b,rfl,Nat.le_refl _,?_,λy=>Iff.rfl⟩;rw[Dh]
  match b,h2 with| [],_=>simp| [_],_=>simp
 .rw[Ax ω,Am];refine A7r (Q:=λr:Nat×List Int=>r.1<=r.2.length/\Asc b b.length (r.2.take r.1)) ?_
  .refine Ej (Q:=λr:Nat×List Int=>r.1<=r.2.length/\Asc b b.length (r.2.take r.1)) (λv=>∃j:Nat,v=((j+1:Nat):Int)/\j+1<=b.length/\Asc b (j+1) (b.take (j+1))) (λv=>b.length-v.toNat) (λe:((Nat×List Int)⊕Unit)=>(∃(m:Nat) (o:List Int),e = .inl (m,o)/\m<=o.length/\Asc b b.length (o.take m))\/(e = .inr ()/\Asc b b.length (b.take b.length))) ?_ ?_ ?_ (J:=λz:((Nat×List Int)⊕Unit)=>match z with|.inl (G,E)=>some (G,E) | .inr _=>some (b.length,b))
   .exact⟨0,rfl,ω,by
     refine⟨?_,λy=>Iff.rfl⟩
     match b,h2 with
     | a::_,_=>simp
     | [],h=>simp at h⟩
   .rintro v ⟨j,rfl,hj,N⟩;rcases Cg (j+1) b.length with h|h
    .have hx:b[j+1]? = some b[j+1]:=Bx h;have hp:b[j]? = some b[j]:=Bx ω;generalize b[j+1]=x at hx;generalize b[j]=p at hp;have X:Ac (((j+1:Nat):Int)-1)=((j:Nat):Int):=(by rw[show (((j+1:Nat):Int)-1)=(j:Int) by omega,Ac,B3] <;> omega);simp only[Ap (ω:((j+1:Nat):Int)<(b.length:Int)),Ak,Abf (l:=b) (off:=0) (n:=b.length) (i:=((j+1:Nat):Int)) rfl h (by rw[Nat.zero_add];exact hx),X, Abf (l:=b) (off:=0) (n:=b.length) (i:=((j:Nat):Int)) rfl ω (by rw[Nat.zero_add];exact hp),Ad,C9 h ω];by_cases e:x=p
     .subst e;rw[Dk rfl,Ak];have A:Qz b.length ((j+1:Nat):Int) ((b.length:Nat):Int)=some (j+1,b.length):=(by unfold Qz;rw[Ay ω];simp);rw[A,Ad];dsimp only;refine .inr ?_;refine A7s (Ej (Q:=λz:(Int⊕((Nat×List Int)⊕Unit))=>∃(m:Nat) (o:List Int),z = .inr (.inl (m,o))/\m<=o.length/\Asc b b.length (o.take m)) (λz=>∃(w k:Nat) (o:List Int),z=((w:Int),(k:Int),o)/\o.length=b.length/\w<=j+k/\1<=k/\j+1+k<=b.length/\Asc b (j+1+k) (o.take w)/\∀i,w<=i->o[i]? = b[i]?) (λz=>b.length-(j+1)-z.2.1.toNat) (λz=>∃(w k:Nat) (o:List Int),z=((w:Int),(k:Int),o)/\o.length=b.length/\w<=b.length/\Asc b b.length (o.take w)) ?_ ?_ ?_)
      .refine⟨j+1,1,b,rfl,rfl,ω,ω,ω,?_,λ_ _=>rfl⟩;exact N.same hp hx
      .rintro z ⟨w,k,o,rfl,D,hw,hk,Z,f,c⟩;rcases Cg (j+1+k) b.length with h'|h'
       .have hy:b[j+1+k]? = some b[j+1+k]:=Bx h';have hq:b[j+k]? = some b[j+k]:=Bx ω;generalize b[j+1+k]=y at hy;generalize b[j+k]=q at hq;have V:Ac ((k:Int)-1)=((k-1:Nat):Int):=(by rw[show ((k:Int)-1)=((k-1:Nat):Int) by omega,Ac,B3] <;> omega);have U:Ac ((k:Int)+1)=((k+1:Nat):Int):=C9 (n:=b.length) ω ω;have S:Ac ((w:Int)+1)=((w+1:Nat):Int):=C9 (n:=b.length) ω ω;have i1:Hn o (0+(j+1)) (b.length-(j+1)) (k:Int)=some y:=Abf rfl ω (by rw[Nat.zero_add,c _ ω];exact hy);have i2:Hn o (0+(j+1)) (b.length-(j+1)) ((k-1:Nat):Int)=some q:=Abf rfl ω (by rw[Nat.zero_add,c _ ω,show j+1+(k-1)=j+k by omega];exact hq);have I:o[w]? = some (o[w]' ω):=Bx _;have i3:Hn o 0 b.length (w:Int)=some (o[w]' ω):=Abf rfl ω (by rw[Nat.zero_add];exact I);simp only[Ap (ω:(k:Int)<((b.length-(j+1):Nat):Int)),Ak,i1,i2,i3,V,U,S,Ad];by_cases e:y=q
        .subst e;rw[Fc rfl,Am];refine .inl ⟨_,rfl,⟨w,k+1,o,rfl,D,ω,ω,ω,?_,c⟩,by simp only[Int.toNat_natCast];omega⟩;have:=Asc.same (q:=j+k) (x:=y) (by rw[show j+k+1=j+1+k by omega];exact f) hq (by rw[show j+k+1=j+1+k by omega];exact hy);rw[show j+1+(k+1)=j+k+2 by omega];exact this
        .rw[Ek e,Ak];have B:Cu o (((0:Nat):Int)+(w:Int)) y=o.set w y:=G0 (n:=w) ω y;have s:(o.set w y).take (w+1)=o.take w++[y]:=(by rw[Dc (x:=y) (by rw[List.getElem?_set,Ay rfl,Ay ω]),List.take_set_of_le (Nat.le_refl _)]);rw[B];refine .inl ⟨_,rfl,⟨w+1,k+1,o.set w y,rfl,by simpa using D,ω,ω,ω,?_,?_⟩,by simp only[Int.toNat_natCast];omega⟩
         .rw[s];have:=Asc.step R (q:=j+k) (x:=y) (p:=q) (by rw[show j+k+1=j+1+k by omega];exact f) hq (by rw[show j+k+1=j+1+k by omega];exact hy) e;rw[show j+1+(k+1)=j+k+2 by omega];exact this
         .intro i hi;rw[List.getElem?_set,Av ω];exact c i ω
       .have L:j+1+k=b.length:=ω;refine .inr ⟨((w:Int),(k:Int),o),?_,w,k,o,rfl,D,ω,by rw[<-L];exact f⟩;simp only[Ax (ω:¬(k:Int)<((b.length-(j+1):Nat):Int)),Am]
      .rintro z ⟨w,k,o,rfl,D,hw,f⟩;dsimp only;have g:Vl b.length (w:Int)=some w:=(by unfold Vl;rw[Ay ω];simp);by_cases Y:w=0\/w<b.length
       .have u:S8 b.length (w:Int) ((b.length:Nat):Int)=some (.inl (w,b.length)):=(by unfold S8;rw[Ay ω,Ay ω];simp);have M:Q2 o (0+w) (b.length-w) (0:Int)=some (E8 o (0+w) (List.replicate (b.length-w) 0)):=(by unfold Q2;rw[Ay ω]);rw[u,Ad];dsimp only;rw[M,Ad,g,Ad];have s:(E8 o (0+w) (List.replicate (b.length-w) (0:Int))).take w=o.take w:=(by unfold E8;rw[Nat.zero_add,List.append_assoc,List.take_append_of_le_length ζ,List.take_take,Nat.min_self]);refine⟨_,rfl,w,_,rfl,?_,?_⟩
        .unfold E8;simp;omega
        .rw[s];exact f
       .have u:S8 b.length (w:Int) ((b.length:Nat):Int)=some (.inr ()):=(by unfold S8;rw[Ay ω,Av ω]);rw[u,Ad];dsimp only;rw[g,Ad];exact⟨_,rfl,w,o,rfl,ω,f⟩
     .rw[Cn e,Am];refine .inl ⟨_,rfl,⟨j+1,rfl,ω,?_⟩,by simp only[Int.toNat_natCast];omega⟩;have:=Asc.step R N hp hx e;rw[<-Dc hx]at this;exact this
    .have:j+1=b.length:=ω;refine .inr ⟨.inr (),?_,.inr ⟨rfl,by rw[<-this];exact N⟩⟩;rw[Ax ω];rfl
   .rintro e (⟨m,o,rfl,h1,h2⟩|⟨rfl,h1⟩)
    .exact⟨(m,o),rfl,h1,h2⟩
    .exact⟨(b.length,b),rfl,Nat.le_refl _,h1⟩
def Ed (env:List A3) (res:A3) (v:Int):A3:=match Af env v with|some w=>w|none=>res
theorem Akz {x:Bh} {env:List A3} (b:env.length=x.V.length) (res:A3) {v:Int} {t:Ah} (ht:Ec x.V x.E v=some t):L3 v res env=some (Ed env res v):=by
 unfold L3 Ed;unfold Ec at ht;by_cases h:v = -1
 .subst h;rw[Aek ω];rfl
 .rw[Av h]at ht;obtain⟨a1,a2,_⟩:=Hq ht;have hi:Af env v=some (env[v.toNat]' ω):=Bv (n:=v.toNat) ω (Bx _);rw[Cn h,hi];rfl
theorem A7t {env:List A3} {res:A3} {N:Nat} (h:∀v∈env,Da v<=N) (h':Da res<=N) (v:Int):Da (Ed env res v)<=N:=by unfold Ed;cases hi:Af env v with| none=>exact h'| some w=>exact h w (Hq hi).2.2.2
def K8 (x:Bh) (env:List A3) (res:A3) (v:Int):Bool:=match Ec x.V x.E v with|some t=>N7 x.D (Ed env res v) t|none=>false
def Nb (l:List Be):List Int:=l.flatMap λa=>a.L.T.map (·.v)
def Mk (m:A7):List Int:=m.F.map (·.v)++Nb m.A
def Ht (p:List Ai):List Int:=p.flatMap λt=>Mk t.M
theorem Ak0 {α:Type} (F:List α) (g:α->Int) (o:List Int) (h:o.length+F.length<=1000000) {R:Type} {J:Int×List Int->Option R} {r:R} (l:J ((F.length:Int),o++F.map g)=some r) : (An (S:=(Int×(List Int))) (E:=(Int×(List Int))) (λ(v164,b)=> bif v164<(F.length:Int) then ((Af F v164).bind λc=> (Cj 8 b [g c]).bind λi=> some (.inl ((Ac (v164+1)),i))) else some (.inr (v164,b))) (0,o)).bind J=some r:=by
 refine Ho F (λj=>((j:Int),o++(F.take j).map g)) ψ ω ?_ ?_
 .intro j f hj k h1 h2 h3;simp only[h1,h2,h3,Ak,Ad];rw[Dm ζ,Dc k];simp
 .intro h1;exact⟨_,by simp only[h1];rfl,by rw[Dh];exact l⟩
theorem A7u {α:Type} (f:α->List Int) (l:List α) (j:Nat):((l.take j).flatMap f).length<=(l.flatMap f).length:=by
 have:l.flatMap f=(l.take j).flatMap f++(l.drop j).flatMap f:=by rw[<-List.flatMap_append,List.take_append_drop]
 rw[this,Fb];omega
theorem Ak1 {α:Type} (f:α->List Int) {l:List α} {j:Nat} {x:α} (h:l[j]? = some x):((l.take j).flatMap f).length+(f x).length<=(l.flatMap f).length:=by have:=A7u f l (j+1);rw[Dc h,List.flatMap_append]at this;simpa using this
theorem A7v (p:List Ai) (I:p.length<=1000000) (ha:∀t∈p,t.M.A.length<=1000000) (hb:(Ht p).length<=1000000) : ∃V,Vq p=some V/\V.Pairwise (· < ·)/\V.length<=1000000/\∀y,y∈V↔y∈Ht p:=by
 obtain⟨m,o,G,E,k⟩:=Aua ((Ht p).mergeSort λx y=>decide (x<=y)) (At9 _) (by rw[List.length_mergeSort];omega);refine⟨o.take m,?_,k.up,?_,?_⟩
 .unfold Vq;refine Ho p (λj=>((j:Int),Ht (p.take j))) rfl ω ?_ ?_
  .intro j t hj ht h1 h2 h3;have s:=Cf ht;have D:=ha t s;have c:(Ht (p.take j)).length+(Mk t.M).length<=1000000:=Nat.le_trans (Ak1 (λt:Ai=>Mk t.M) ht) hb;unfold Mk at c;rw[Fb,Ix]at c;simp only[h1,h2,h3,Ak,Ad];refine Ak0 t.M.F (λf=>f.v) (Ht (p.take j)) ω ?_;dsimp only;refine Ho t.M.A (λi=>((i:Int),Ht (p.take j)++t.M.F.map (λf=>f.v)++Nb (t.M.A.take i))) (by simp[Nb]) ω ?_ ?_
   .intro i a hi g q A z;have B:(Nb (t.M.A.take i)).length+(a.L.T.map (·.v)).length<=(Nb t.M.A).length:=Ak1 (λa:Be=>a.L.T.map (λl:Bk=>l.v)) g;rw[Ix]at B;simp only[q,A,z,Ak,Ad];refine Ak0 a.L.T (λl=>l.v) _ (by simp only[Fb,Ix];omega) ?_;show some (Sum.inl (_,_))=_;rw[Dc g];unfold Nb;rw[List.flatMap_append];simp
   .intro q;refine⟨_,by simp only[q];rw[Dh];rfl,?_⟩;show some (Sum.inl (_,_))=_;rw[Dc ht];unfold Ht;rw[List.flatMap_append];simp[Mk]
  .intro h1;refine⟨Ht p,by simp only[h1];rw[Dh];rfl,?_⟩;rw[At8,Ad];unfold Ge;rw[Ay (by rw[List.length_mergeSort]),Ad];have:Q7 (Ht p).length ((Ht p).mergeSort λx y=>decide (x<=y))=some (m,o):=(by rw[<-G,List.length_mergeSort]);rw[this,Ad];unfold Vk;rw[Ay E];rfl
 .have hm:((o.take m).length:Nat)<=(Ht p).length:=by
   have u:(o.take m).Nodup:=k.up.imp (λh=>ω);have b:∀y∈o.take m,y∈Ht p:=λy hy=>by have:=(k.mem y).1 hy;rw[Dh]at this;exact List.mem_mergeSort.1 this
   exact List.Nodup.length_le_of_subset u b
  omega
 .intro y;rw[k.mem y,Dh,List.mem_mergeSort]
theorem Aub (x:Rat):G2 x=0↔x=0:=by
 unfold G2;constructor
 .intro h;split at h
  .cases h
  .split at h
   .cases h
   .grind
 .rintro rfl;rw[Av (by grind),Av (by grind)]
structure PSt (K:Nat) (n:Nat) (b:List Ai):Prop where
 le:n<=b.length
 cp:CP (b.take n)
 tm:∀t∈b.take n,RB K t.C/\MSz t.M
theorem PSt.mono {K c n:Nat} {b:List Ai} (h:PSt K n b) (f:K<=c):PSt c n b:=⟨h.le,h.cp,λt ht=>⟨((h.tm t ht).1).mono f,(h.tm t ht).2⟩⟩
theorem CP.dst {p:List Ai} (h:CP p):Dst p:=h.srt.imp λ{a b} hab e=>by unfold ltT at hab;rw[Mi.2 e]at hab;omega
theorem Auc:Pd (λt u:Ai=>D8 t.M u.M) where
 irr x:=by
  show ¬D8 x.M x.M<0
  rw[Atb];omega
 trs x y z h1 h2:=Afq h1 h2
 ntr x y z h1 h2:=by
  show ¬D8 x.M z.M<0
  have h1:¬D8 x.M y.M<0:=h1
  have h2:¬D8 y.M z.M<0:=h2
  intro h3
  rcases Int.lt_trichotomy (D8 x.M y.M) 0 with k|k|k
  .exact h1 k
  .rw[Mi.1 k]at h3;exact h2 h3
  .exact h2 (Afq (Atc.1 k) h3)
def Af2 (b:List Ai):List Ai:=b.mergeSort λt u=>decide (D8 t.M u.M<=0)
theorem Aud (b:List Ai):(Af2 b).Perm b:=List.mergeSort_perm _ _
theorem A7w (f:List Ai) (hd:Dst f):(Af2 f).Pairwise ltT:=by
 have h1:=List.pairwise_mergeSort (le:=λt u:Ai=>decide (D8 t.M u.M<=0)) (λa b c h1 h2=>by
  simp only[C8]at *
  have:=Auc.ntr c b a (by show ¬D8 _ _<0;rw[Xj];omega) (by show ¬D8 _ _<0;rw[Xj];omega)
  have this:¬D8 c.M a.M<0:=this
  rw[Xj]at this;omega) (λa b=>by
  simp only[Bool.or_eq_true,C8]
  rw[Xj a.M b.M];omega) f
 have h2:(Af2 f).Pairwise λt u=>t.M≠u.M:=((Aud f).pairwise_iff (λ{x y} h=>h.symm)).2 hd
 refine (h1.and h2).imp λ{t u} h=>?_
 have a:=of_decide_eq_true h.1
 have b:D8 t.M u.M≠0:=λe=>h.2 (Mi.1 e)
 unfold ltT;omega
theorem Ak2 (b:List Ai) (hd:Dst b) (hm:∀t∈b,MSz t.M):∃R,Pq b=some R/\R.Perm b/\R.Pairwise ltT:=by
 rcases Cg 12 b.length with h|h
 .have e:Nat.ble b.length 12=false:=(by cases k:Nat.ble b.length 12 with| false=>rfl| true=>have:=Nat.le_of_ble_eq_true k;omega);unfold Pq;rw[e,Am];obtain⟨r,f,i,law,hc,hp,g⟩:=A1g (cmp:=Ps) (l:=b) (r:=Af2 b) ⟨_,Auc,λx hx y _=>Aks x y (hm x hx),Aud b,A7w b hd⟩;refine⟨r,f,hp,?_⟩;refine (List.Pairwise.imp_of_mem (S:=ltT) (λ{t u} ht hu h=>?_) g);have c:=hc t (hp.mem_iff.1 ht) u (hp.mem_iff.1 hu);rw[Aks t u (hm t (hp.mem_iff.1 ht))]at c;have c:=Fj c;unfold ltT;rw[c];exact h
 .exact A67 b hd hm h
theorem A7x {x:Bh} (g:CSz x) {ps:List (List Ai)} (b:∀p∈ps,∀t∈p,TSz t) (i:ps.length<=1048576) (h:¬(En x/\∀p∈ps,H3 x.D x.V x.E p=true)):Kq x ps=some (.inr false):=by
 obtain⟨r,f,c⟩:=Aku x g ps b i;rcases c with⟨h2,_⟩|⟨_,rfl⟩
 .exact (h h2).elim
 .exact f
theorem Af3 {x:Bh} (i:CSz x) {ps:List (List Ai)} (c:∀p∈ps,∀t∈p,TSz t) (j:ps.length<=1048576) (h:En x/\∀p∈ps,H3 x.D x.V x.E p=true):∃b,Kq x ps=some (.inl (true,x,b,[],x.D,x.V,x.E.G,x.E.U,x.E.R))/\Ef x.D x.V x.E b:=by
 obtain⟨r,g,f⟩:=Aku x i ps c j;rcases f with⟨_,b,e,hm⟩|⟨h2,_⟩
 .exact⟨b,by rw[g,e],hm⟩
 .exact (h2 h).elim
structure PR (x:Bh) (n:Nat) (f:A7->Rat) (R:List Ai):Prop where
 cp:CP R
 val:∀m,cf R m=f m
 tb:∀t∈R,E5 x t.M/\RB 8589934592 t.C
 len:R.length<=n
theorem Aue {x:Bh} {k:Nat} {ts:List Ai} (h:Col k (E5 x) ts) (hk:k<8589934592) (l:ts.length<=1000):∃R,Ks (Eo ts) ts=some (R,0)/\PR x ts.length (cf ts) R:=by obtain⟨R,j,i,g,b,f⟩:=Akt (P:=E5 x) (λm h=>h.cmo) (Eo ts) ts h ω l (λc _ h2 h3=>Ak2 c h2 h3);exact⟨R,j,i,g,λt ht=>⟨(b t ht).1,(b t ht).2.mono ω⟩,f⟩
theorem PR.of {x:Bh} {n m:Nat} {f g:A7->Rat} {R:List Ai} (h:PR x n f R) (b:n<=m) (c:∀a,f a=g a):PR x m g R := ⟨h.cp,λa=>by rw[h.val,c],h.tb,Nat.le_trans h.len b⟩
theorem Auf {x:Bh} (I:CSz x) (J:En x) {p q:List Ai} (hp:H5 x p) (hq:H5 x q) (L:p.length+q.length<=1000) : ∃R,Mx x p q=some (R,0)/\PR x (p.length+q.length) (λm=>cf p m-cf q m) R:=by obtain⟨M,hb⟩:=At2 I J hp hq;unfold Mx;rw[hb];simp only[Ad,Dz,Am,Kr];obtain⟨u,l,j,i,g⟩:=Xm (k0:=1048579) (k:=1048576) (P:=E5 x) (λm h=>h.cmo) p [] (Col.nil _ _) hp.tb ω ω ζ;simp at i;obtain⟨r,B,A,z⟩:=A7h;obtain⟨G,E,c,D,b⟩:=At3 (k:=1048576) q A (λt ht=>(hq.tb t ht).1) ω ω ω;obtain⟨v,f,v2,v3,v4⟩:=Xm (k:=1048579) (P:=E5 x) (λm h=>h.cmo) G u j (λt ht=>⟨(b t ht).1,by obtain⟨w,hw,e⟩:=(b t ht).2;rw[<-e];exact (hq.tb w hw).2⟩) ω (by rw[c];omega) ω;obtain⟨R,y,s⟩:=Aue v2 (by rw[c];omega) ω;rw[show J8 p [] []=some (Eo u,u) from l,Ad,B,Ad,E,Ad,f,Ad,y,Ad];exact⟨R,rfl,s.of ω λm=>by rw[v4,g,D,z];simp only[cf];grind⟩
theorem A7y {x:Bh} (u:CSz x) (z:En x) {p:List Ai} (hp:H5 x p) {r:Aj} (y:RB 1048576 r) (A:p.length<=1000) : ∃R,Ti x p r=some (R,0)/\PR x p.length (λm=>rq r*cf p m) R:=by obtain⟨B,hb,_⟩:=Af3 u (ps:=[p]) (λq hq=>by simp only[Dw]at hq;subst hq;exact hp.sz) ψ ⟨z,λq hq=>by simp only[Dw]at hq;subst hq;exact hp.can⟩;unfold Ti;rw[hb];simp only[Ad,Dz,Am,Kr];obtain⟨f,s,c,l,b⟩:=At3 (k:=1048576) p y (λt ht=>(hp.tb t ht).1) ω ω ω;obtain⟨v,g,v2,v3,v4⟩:=Xm (k0:=1048576+1048576+2) (k:=1048576+1048576+2) (P:=E5 x) (λm h=>h.cmo) f [] (Col.nil _ _) (λt ht=>⟨(b t ht).1,by obtain⟨w,hw,e⟩:=(b t ht).2;rw[<-e];exact (hp.tb w hw).2⟩) ω (by rw[c];omega) ζ;simp at v3;obtain⟨R,j,i⟩:=Aue v2 (by rw[c];omega) ω;rw[s,Ad,show J8 f [] []=some (Eo v,v) from g,Ad,j,Ad];exact⟨R,rfl,i.of ω λm=>by rw[v4,l];simp only[cf];grind⟩
theorem H5.nil (x:Bh):H5 x []:=⟨Xl.2 ⟨ψ,CP.nil,λt ht=>by cases ht⟩,λt ht=>by cases ht⟩
def Ml {α:Type} (l:List α) (r:List Bool):List α:=((l.zip r).filter λp=>!p.2).map (·.1)
def Qa (data:List Aw) (t:Ah) (c:Int):List Ah:=match Ig data t c with|some ts=>ts|none=>[]
def O6 {α:Type} (b:List (α->Nat)) (x:α) (f:Nat->Nat):Nat->Nat
 | 0=>f 0
 | q+1=>f (q+1)+f q*(match b[q]? with|some w=>w x|none=>0)
def dpS {α:Type} (b:List (α->Nat)) (l:List α):Nat->Nat:=l.foldl (λf x=>O6 b x f) (λq=>if q=0 then 1 else 0)
theorem A7z {α:Type} (b:List (α->Nat)) (l:List α) (x:α):dpS b (l++[x])=O6 b x (dpS b l):=by unfold dpS;rw[List.foldl_append];rfl
mutual
def bv (data:List Aw):Bj->Ah->A3->Nat
 | ⟨n,ks⟩,t,w=>if t.G=6 then bvs data ks t.R w.K else if t.G=7 then bc w.K.length n.toNat else if t.G=5 then dpS (bws data ks t) (I2 data t.U w) ks.length else 1
def bvs (data:List Aw):List Bj->List Ah->List A3->Nat
 | i::is,t::ts,w::ws=>bv data i t w*bvs data is ts ws
 | [],_,_=>1
 | _::_,[],_=>1
 | _::_,_::_,[]=>1
def bws (data:List Aw):List Bj->Ah->List (A3->Nat)
 | [],_=>[]
 | ⟨n,ks⟩::es,t=>(λx=>if x.U=n then bvs data ks (Qa data t n) (Ml x.K (Eb data t.U n)) else 0)::bws data es t
end
theorem Aug (data:List Aw) (i:Bj) (t:Ah) (w:A3):bv data i t w=if t.G=6 then bvs data i.K t.R w.K else if t.G=7 then bc w.K.length i.U.toNat else if t.G=5 then dpS (bws data i.K t) (I2 data t.U w) i.K.length else 1:=by cases i;simp only[bv]
theorem Af4 (data:List Aw) (i:Bj) (c:List Bj) (t:Ah) (ts:List Ah) (w:A3) (b:List A3):bvs data (i::c) (t::ts) (w::b)=bv data i t w*bvs data c ts b:=by simp only[bvs]
theorem Abg (data:List Aw) (ts:List Ah) (b:List A3):bvs data [] ts b=1:=by simp only[bvs]
def wOf (data:List Aw) (t:Ah) (e:Bj) (x:A3):Nat:=if x.U=e.U then bvs data e.K (Qa data t e.U) (Ml x.K (Eb data t.U e.U)) else 0
theorem Af5 (data:List Aw) (t:Ah):∀(es:List Bj) (q:Nat),(bws data es t)[q]? = (es[q]?).map (wOf data t)
 | [],q=>by simp[bws]
 | ⟨n,b⟩::es,0=>by simp only[bws,List.getElem?_cons_zero,Option.map_some];rfl
 | ⟨n,b⟩::es,q+1=>by simp only[bws,List.getElem?_cons_succ];exact Af5 data t es q
theorem Ak3 (data:List Aw):∀(c:List Bj) (ts:List Ah) (b:List A3) (j:Nat) (i:Bj) (t:Ah) (w:A3),c[j]? = some i->ts[j]? = some t->b[j]? = some w -> bvs data (c.take (j+1)) (ts.take (j+1)) (b.take (j+1))=bvs data (c.take j) (ts.take j) (b.take j)*bv data i t w
 | i' :: c,f::ts,w' :: b,0,i,t,w,h1,h2,h3=>by cases h1;cases h2;cases h3;simp only[List.take_succ_cons,List.take_zero,Af4,Abg,Nat.mul_one,Nat.one_mul]
 | i' :: c,f::ts,w' :: b,j+1,i,t,w,h1,h2,h3=>by have:=Ak3 data c ts b j i t w h1 h2 h3;rw[List.take_succ_cons,List.take_succ_cons,List.take_succ_cons,List.take_succ_cons,List.take_succ_cons,List.take_succ_cons,Af4,Af4,this,Nat.mul_assoc]
 | [],_,_,_,_,_,_,h,_,_=>by simp at h
 | _::_,[],_,_,_,_,_,_,h,_=>by simp at h
 | _::_,_::_,[],_,_,_,_,_,_,h=>by simp at h
theorem Af6:∀n k,bc n k<=n ^ k
 | n,0=>by rw[H6];exact Nat.le_refl _
 | 0,k+1=>by simp[bc]
 | n+1,k+1=>by have h1:=Af6 n k;have h2:=Af6 n (k+1);have h3:n ^ k<=(n+1) ^ k:=Nat.pow_le_pow_left ω k;have b:n ^ (k+1)<=n*(n+1) ^ k:=(by rw[Nat.pow_succ,Nat.mul_comm];exact Nat.mul_le_mul_left _ h3);rw[bc,Nat.pow_succ,Nat.mul_add,Nat.mul_one,Nat.mul_comm];omega
theorem Auh {α:Type} (b:List (α->Nat)) (B:Nat) (E:Nat->Nat):∀(l:List α) (n:Nat) (f:Nat->Nat),(∀q,f q<=n ^ q*B ^ E q)->(∀x∈l,∀q w,b[q]? = some w->B ^ E q*w x<=B ^ E (q+1))->∀q,(l.foldl (λf x=>O6 b x f) f) q<=(n+l.length) ^ q*B ^ E q
 | [],n,f,c,_,q=>c q
 | x::l,n,f,c,hw,q=>by
  rw[List.foldl_cons];have:=Auh b B E l (n+1) (O6 b x f) (λq=>?_) (λy hy=>hw y (by simp[hy])) q
  .rw[Ei,show n+(l.length+1)=n+1+l.length by omega];exact this
  .cases q with
   | zero=>have:=c 0;simpa[O6] using this
   | succ q=>
    have h1:=c (q+1);have h2:=c q;have h3:f q*(match b[q]? with|some w=>w x|none=>0)<=n ^ q*B ^ E (q+1):=by cases h:b[q]? with| none=>simp| some w=>have k:=hw x ψ q w h;refine Nat.le_trans (Nat.mul_le_mul_right _ h2) ?_;rw[Nat.mul_assoc];exact Nat.mul_le_mul_left _ k
    have g:n ^ q<=(n+1) ^ q:=Nat.pow_le_pow_left ω q;have j:n ^ (q+1)+n ^ q<=(n+1) ^ (q+1):=(by rw[Nat.pow_succ,Nat.pow_succ,Nat.mul_add,Nat.mul_one];exact Nat.add_le_add (Nat.mul_le_mul_right _ g) g);have i:=Nat.mul_le_mul_right (B ^ E (q+1)) j;rw[Nat.add_mul]at i;show f (q+1)+_<=_;omega
theorem Aui {α:Type} (b:List (α->Nat)) (B:Nat) (f:1<=B) (E:Nat->Nat) (l:List α) (hw:∀x∈l,∀q w,b[q]? = some w->B ^ E q*w x<=B ^ E (q+1)) (c:l.length<=B) (q:Nat):dpS b l q<=B ^ (q+E q):=by
 have h:=Auh b B E l 0 (λq=>if q=0 then 1 else 0) (λq=>by cases q with| zero=>have:0<B ^ E 0:=Nat.pow_pos ω;simp;omega| succ q=>simp) hw q
 refine Nat.le_trans h ?_;rw[Nat.zero_add,Nat.pow_add];exact Nat.mul_le_mul_right _ (Nat.pow_le_pow_left c q)
mutual
theorem Ak4 (data:List Aw) (d:Int):∀v,∀x∈I2 data d v,Da x<=Da v
 | ⟨k,n,kids⟩=>λx hx=>by
  have h:=Auj data d kids (Eb data d n)
  simp only[I2,Fx]at hx
  rcases hx with rfl|hx
  .exact Nat.le_refl _
  .have:=h x hx
   simp only[Da];omega
theorem Auj (data:List Aw) (d:Int):∀l r,∀x∈H4 data d l r,Da x<=Et l
 | y::ys,b::bs=>λx hx=>by
  have h1:=Ak4 data d y
  have h2:=Auj data d ys bs
  simp only[H4,D7]at hx
  simp only[Et]
  rcases hx with hx|hx
  .cases b with
   | false=>simp at hx
   | true=>have:=h1 x (by simpa using hx);omega
  .have:=h2 x hx;omega
 | [],_=>λx hx=>by simp[H4]at hx
 | _::_,[]=>λx hx=>by simp[H4]at hx
end
def pdg (data:List Aw) (t:Ah) (e:Bj):Nat:=match D0 data e.K (Qa data t e.U) with|some a=>a|none=>0
def pds (data:List Aw) (t:Ah) (es:List Bj):Nat:=(es.map (pdg data t)).sum
theorem Ak5 (data:List Aw):∀(es:List Bj) (t:Ah) (d:Nat),Ib data es t=some d->d=es.length+pds data t es/\∀e∈es,∃ts,Ig data t e.U=some ts/\D0 data e.K ts=some (pdg data t e)
 | [],t,d,h=>by simp only[Ib,Option.some.injEq]at h;subst h;exact⟨rfl,λe c=>by cases c⟩
 | e::es,t,d,h=>by
  rw[Afd]at h;cases h1:Ig data t e.U with
  | none=>rw[h1]at h;cases h
  | some ts=>
   rw[h1,Ad]at h;cases h2:D0 data e.K ts with
   | none=>rw[h2]at h;cases h
   | some a=>
    rw[h2,Ad]at h;cases h3:Ib data es t with
    | none=>rw[h3]at h;cases h
    | some b=>
     rw[h3]at h;have h:1+a+b=d:=Fj h;obtain⟨g1,g2⟩:=Ak5 data es t b h3;have hp:pdg data t e=a:=(by unfold pdg Qa;rw[h1];simp only[h2]);refine⟨by unfold pds at *;simp only[List.map_cons,List.sum_cons,Ei,hp];omega,λx hx=>?_⟩;rcases Fx.1 hx with rfl|hx
     .exact⟨ts,h1,by rw[hp];exact h2⟩
     .exact g2 x hx
theorem Ak6 {data:List Aw} {t:Ah} {es:List Bj} {q:Nat} {e:Bj} (h:es[q]? = some e):pds data t (es.take (q+1))=pds data t (es.take q)+pdg data t e:=by unfold pds;rw[Dc h];simp
theorem A70 (data:List Aw) (t:Ah) (es:List Bj) (q:Nat):pds data t (es.take q)<=pds data t es:=by
 have:pds data t es=pds data t (es.take q)+pds data t (es.drop q):=by unfold pds;rw[<-List.sum_append,<-List.map_append,List.take_append_drop]
 omega
theorem Ak7 {α:Type} {l:List α} {r:List Bool} {x:α} (h:x∈Ml l r):x∈l:=by unfold Ml at h;obtain⟨p,hp,rfl⟩:=List.mem_map.1 h;exact (List.of_mem_zip (a:=p.1) (b:=p.2) (List.mem_filter.1 hp).1).1
theorem Xo (data:List Aw) (B:Nat) (U:1<=B):∀n:Nat,(∀(i:Bj) (t:Ah) (w:A3) (d:Nat),Dl i<=n->G1 data i t=some d->Da w<=B->bv data i t w<=B ^ d) /\ (∀(f:List Bj) (ts:List Ah) (g:List A3) (d:Nat),Gj f<=n->D0 data f ts=some d->(∀w∈g,Da w<=B)->bvs data f ts g<=B ^ d):=by
 intro n;induction n with
 | zero=>refine⟨λi t w d h=>by have:=Hc i;omega,λf ts g d h _ _=>?_⟩;have:=P4 f;have:f = []:=Fa.1 ω;subst this;rw[Abg];exact Nat.pow_pos ω
 | succ n ih=>
  have c:∀d,1<=B ^ d:=λd=>Nat.pow_pos ω;have key:∀(i:Bj) (t:Ah) (w:A3) (d:Nat),Dl i<=n+1->G1 data i t=some d->Da w<=B->bv data i t w<=B ^ d:=by
   intro i t w d hi hd hw;have N:=Hc i;have J:=M6 w;have L:=Xh w.K;rw[Aug];rw[Aaw]at hd;by_cases A:t.G=6
   .rw[Ay A]at hd ⊢;by_cases e:i.U=0
    .rw[Ay e]at hd;exact ih.2 i.K t.R w.K d ω hd λx hx=>by have:=M7 hx;omega
    .rw[Av e]at hd;cases hd
   .rw[Av A]at hd ⊢;by_cases z:t.G=7
    .rw[Ay z]at hd ⊢;by_cases e:0<=i.U/\i.U<=6/\i.K.length=0
     .rw[Ay e]at hd;have hd:=Fj hd;rw[hd];exact Nat.le_trans (Af6 _ _) (Nat.pow_le_pow_left ω d)
     .rw[Av e]at hd;cases hd
    .rw[Av z]at hd ⊢;by_cases D:t.G=5
     .rw[Ay D]at hd ⊢;have hd:Ib data i.K t=some d:=by
       by_cases e:i.U=0
       .rw[Ay e]at hd;exact hd
       .rw[Av e]at hd;cases hd
      obtain⟨h1,h2⟩:=Ak5 data _ _ _ hd;have M:=Akc data t.U w;have:=Aui (bws data i.K t) B U (λq=>pds data t (i.K.take q)) (I2 data t.U w) (λx hx q wt hq=>by
       rw[Af5]at hq;obtain⟨e,E,rfl⟩:=Option.map_eq_some_iff.1 hq;have j:=Cf E;obtain⟨ts,s,l⟩:=h2 e j;have I:=Ak4 data t.U w x hx;have R:=Md j;have S:=Hc e;rw[Ak6 E,Nat.pow_add];refine Nat.mul_le_mul_left _ ?_;unfold wOf;split
       .have u:Qa data t e.U=ts:=(by unfold Qa;rw[s]);rw[u];refine ih.2 e.K ts _ _ ω l λy hy=>?_;have hy:=Ak7 hy;have G:=M7 hy;have:=M6 x;omega
       .omega) ω i.K.length
      rw[Dh]at this;rw[h1];exact this
     .rw[Av D];exact c d
  refine⟨key,?_⟩;intro f;induction f with
  | nil=>intro ts g d _ _ _;rw[Abg];exact c d
  | cons i f k=>
   intro ts g d hi hd hw;cases ts with
   | nil=>rw[show bvs data (i::f) [] g=1 by simp only[bvs]];exact c d
   | cons t ts=>
    cases g with
    | nil=>rw[show bvs data (i::f) (t::ts) []=1 by simp only[bvs]];exact c d
    | cons w g=>
     simp only[Gj]at hi;rw[Sa]at hd;cases h1:G1 data i t with
     | none=>rw[h1]at hd;cases hd
     | some a=>rw[h1,Ad]at hd;cases h2:D0 data f ts with| none=>rw[h2]at hd;cases hd| some b=>rw[h2]at hd;have hd:a+b=d:=Fj hd;rw[Af4,<-hd,Nat.pow_add];exact Nat.mul_le_mul (key i t w a ω h1 (hw w ψ)) (k ts g b ω h2 λy hy=>hw y (by simp[hy]))
theorem Ak8 {α:Type}:∀(l:List α) (r:List Bool) (s:Nat) (n:Nat) (p:Int) (L:Nat->Option α),l.length=r.length->(∀j,L (s+j)=l[j]?) -> (((r.zipIdx s).filter λq=>!q.1).map λq=>(q.2:Int))[n]? = some p->∃(m:Nat) (a:α),p=m/\L m=some a/\(Ml l r)[n]? = some a
 | [],[],s,n,p,L,_,_,h=>by simp at h
 | a::l,b::r,s,n,p,L,i,g,h=>by
  have c:l.length=r.length:=(by simpa using i);have f:∀j,L (s+1+j)=l[j]?:=λj=>by rw[show s+1+j=s+(j+1) by omega,g];rfl
  cases b with
  | true=>simp only[List.zipIdx_cons,List.filter_cons,Dz]at h;obtain⟨m,x,h1,h2,h3⟩:=Ak8 l r (s+1) n p L c f (by simpa using h);exact⟨m,x,h1,h2,by simpa[Ml] using h3⟩
  | false=>simp only[List.zipIdx_cons,List.filter_cons,Bool.not_false,if_true,List.map_cons]at h;cases n with| zero=>simp only[List.getElem?_cons_zero,Option.some.injEq]at h;exact⟨s,a,h.symm,by have:=g 0;simpa using this,by simp[Ml]⟩| succ n=>simp only[List.getElem?_cons_succ]at h;obtain⟨m,x,h1,h2,h3⟩:=Ak8 l r (s+1) n p L c f h;exact⟨m,x,h1,h2,by simpa[Ml] using h3⟩
 | [],_::_,_,_,_,_,h,_,_=>by simp at h
 | _::_,[],_,_,_,_,h,_,_=>by simp at h
theorem A71 {α:Type} {l:List α} {r:List Bool} (b:l.length=r.length) {n:Nat} {p:Int} (h:(Ih r)[n]? = some p):∃(m:Nat) (a:α),p=m/\l[m]? = some a/\(Ml l r)[n]? = some a := Ak8 l r 0 n p (λj=>l[j]?) b (λj=>ψ) (by unfold Ih at h;exact h)
theorem Auk {a b K:Nat} (ha:Bl a<=K) (hb:Bl b<=K) (c:1<=K) (h:K<60000000000):Ea (cR a) (cR b)=some (cR (a*b)):=by obtain⟨a1,a2,a3⟩:=Sf a;obtain⟨b1,b2,f⟩:=Sf b;rw[W1 _ _ K K (Lq ha c) (Lq hb c) ω ω,a1,a2,a3,b1,b2,f];simp[cR]
def Sm (a:Nat):Prop:=a<=5000 ^ 6
theorem Sm.lg {a:Nat} (h:Sm a):Bl a<=3:=Kx (Nat.lt_of_le_of_lt h δ)
theorem Sm.of {a d:Nat} (h:a<=5000 ^ d) (hd:d<=6):Sm a:=Nat.le_trans h (Nat.pow_le_pow_right δ hd)
theorem Ak9 (data:List Aw):∀(c:List Bj) (ts:List Ah) (d j:Nat),D0 data c ts=some d->∃e,D0 data (c.take j) (ts.take j)=some e/\e<=d
 | [],[],d,j,_=>⟨0,by simp[D0],ω⟩
 | i::c,t::ts,d,0,_=>⟨0,by simp[D0],ω⟩
 | i::c,t::ts,d,j+1,h=>by
  rw[Sa]at h;cases h1:G1 data i t with
  | none=>rw[h1]at h;cases h
  | some a=>rw[h1,Ad]at h;cases h2:D0 data c ts with| none=>rw[h2]at h;cases h| some b=>rw[h2]at h;have h:a+b=d:=Fj h;obtain⟨e,f,g⟩:=Ak9 data c ts b j h2;refine⟨a+e,?_,ω⟩;rw[List.take_succ_cons,List.take_succ_cons,Sa,h1,Ad,f];rfl
 | [],_::_,_,_,h=>by simp only[D0]at h;cases h
 | _::_,[],_,_,h=>by simp only[D0]at h;cases h
theorem A72 {data:List Aw} {b:List Bj} {ts:List Ah} {c:List A3} {d:Nat} (h:D0 data b ts=some d) (hd:d<=6) (hw:∀w∈c,Da w<=5000) (j:Nat):Sm (bvs data (b.take j) (ts.take j) (c.take j)):=by obtain⟨e,f,g⟩:=Ak9 data b ts d j h;exact Sm.of ((Xo data 5000 δ _).2 _ _ _ e (Nat.le_refl _) f λw hx=>hw w (List.mem_of_mem_take hx)) ω
theorem A73 {data:List Aw} {t:Ah} (S:Szv data) (hk:t.G=5) {e:Bj} {x:A3} {ts:List Ah} (hx:He data x t=true) (A:x.U=e.U) (b:Ig data t e.U=some ts) : (Mj data t e).types=ts/\(Ih (Eb data t.U e.U)).length=ts.length/\ts.length<=6/\(∀a∈ts,B5 a<=200) /\ ∀(j:Nat) (u:Int),(Ih (Eb data t.U e.U))[j]? = some u->∃(m:Nat) (a:Ah) (w:A3),u=m/\ts[j]? = some a/\x.K[m]? = some w/\(Ml x.K (Eb data t.U e.U))[j]? = some w/\He data w a=true/\Da w<=Da x:=by
 have E:=b;unfold Ig at b;cases g:Jr data t e.U with
 | none=>rw[g]at b;cases b
 | some fl=>
  rw[g]at b;have b:G6 fl (Eb data t.U e.U)=ts:=Fj b;have h:=Aav g;have c:K7 data x.K fl=true:=(by rw[Xi,Av ω,Av ω,Av ω,Av ω,Ay hk]at hx;rw[A,g]at hx;simp only[Ck]at hx;exact hx.2);have z:x.K.length=fl.length:=by
   by_cases J:x.K.length=fl.length
   .exact J
   .rw[Aa3 data _ _ J]at c;cases c
  have L:fl.length<=6:=(by obtain⟨N,y,_,B,_,hy,G,_⟩:=R9 g;obtain⟨M,_⟩:=S N (Hq B).2.2.2 y (Hq hy).2.2.2;rw[G];simpa using M);have V:=Afb fl (Eb data t.U e.U);have k:=A7l fl (Eb data t.U e.U) h.symm;have U:=M6 x;refine⟨by unfold Mj;simp only[g,b],by rw[k,b],by rw[<-b];omega,(Ajz E).1,λj u q=>?_⟩;obtain⟨m,a,rfl,I,s⟩:=A7k h.symm q;obtain⟨R,w,hm,f,D⟩:=A71 (l:=x.K) ω q;obtain rfl:m=R:=ω;rw[b]at s;refine⟨m,a,w,rfl,s,f,D,?_,?_⟩
  .rw[Aa4 data _ _ z]at c;exact D2.1 c (w,a) (Cf (i:=m) (by rw[List.getElem?_zip_eq_some];exact⟨f,I⟩))
  .have:=M7 (Cf f);omega
theorem A74 {data:List Aw} {t:Ah} (hz:Szv data) (hk:t.G=5) (l:List Bj) (hp:∀e∈l,∃ts,Ig data t e.U=some ts/\D0 data e.K ts=some (pdg data t e)) (bi:l.length+pds data t l<=6) (k:Nat) (b7:∀e∈l,∀(i':Bj) (t':Ah) (w:A3) (d:Nat),i'∈e.K->G1 data i' t'=some d->d<=6->B5 t'<=200->He data w t'=true->Da w<=5000->Nr k data t' i' w=some (cR (bv data i' t' w))) (x:A3) (hx:He data x t=true) (bb:Da x<=5000) (f:Nat->Nat) (hf:∀q,q<=l.length->f q<=5000 ^ (q+pds data t (l.take q))) (b5:∀q,q<=l.length->O6 (bws data l t) x f q<=5000 ^ (q+pds data t (l.take q))) {R:Type} {J:Int×List Aj->Option R} {r:R} (hJ:J (0,I3 l.length (O6 (bws data l t) x f))=some r) : (An (S:=(Int×(List Aj))) (E:=(Int×(List Aj))) (λ(c,u)=> bif c>(0:Int) then ((Af (l.map (Mj data t)) (Ac (c-1))).bind λz=> (show OB from bif (z.con != x.U) then some true else ((Af u (Ac (c-1))).bind λaf=> (G5 af).bind λae=> some (ae==(0:Int)))).bind λad=> bif ad then some (.inl ((Ac (c-1)),u)) else ((Af u (Ac (c-1))).bind λI=> (An (S:=(Int×Bool×(List Int)×(List Int))) (E:=(Int×Bool×(List Int)×(List Int))) (λ(y,X,v226,v227)=> bif y<(z.places.length:Int) then ((Af z.places y).bind λv228=> (Af z.types y).bind λv229=> (Af z.kids y).bind λac=> (Af x.K v228).bind λab=> (Nr k data v229 ac ab).bind λv232=> (Ea (Aj.mk X v226 v227) v232).bind λv233=> some (.inl ((Ac (y+1)),v233.N,v233.U,v233.B))) else some (.inr (y,X,v226,v227))) (0,I.N,I.U,I.B)).bind λ(v234,aa,v236,a8)=> (Af u c).bind λG=> (It G (Aj.mk aa v236 a8)).bind λa7=> (Af u c).bind λb9=> some (.inl ((Ac (c-1)),(Cu u c a7)))))
   else some (.inr (c,u))) ((l.length:Int),I3 l.length f)).bind J=some r:=by
 generalize hg:O6 (bws data l t) x f=g at hJ b5;have sm:∀q,q<=l.length->q+pds data t (l.take q)<=6:=λq hq=>by have:=A70 data t l q;omega
 refine Iy l.length (λi=>(((l.length-i:Nat):Int),I3 l.length (λp=>if l.length-i<p then g p else f p))) ?_ ?_ ?_
 .simp only[Nat.sub_zero,Int.ofNat_eq_natCast];congr 1;exact Aky (λp hp=>by rw[Av ω])
 .intro i hi;obtain⟨q,hq⟩:∃q:Nat,l.length-i=q+1:=⟨l.length-i-1,ω⟩;have hq':l.length-(i+1)=q:=ω;have U:q+1<=l.length:=ω;have he:l[q]? = some l[q]:=Bx ω;generalize l[q]=e at he;have ap:=Cf he;have w1:Ac (((q+1:Nat):Int)-1)=((q:Nat):Int):=(by rw[show (((q+1:Nat):Int)-1)=(q:Int) by omega,Ac,B3] <;> omega);have b6:Af (l.map (Mj data t)) (q:Int)=some (Mj data t e):=Bv rfl (by rw[List.getElem?_map,he];rfl);have a1:g (q+1)=f (q+1)+f q*wOf data t e x:=(by rw[<-hg];simp only[O6,Af5,he,Option.map_some]);simp only[hq,hq',Ap (ω:((q+1:Nat):Int)>0),Ak,w1,b6,Ad];have ao:Af (I3 l.length (λp=>if q+1<p then g p else f p)) (q:Int)=some (cR (f q)):=(by rw[Bv rfl (Sg _ ω),Av ω]);have b4:Af (I3 l.length (λp=>if q+1<p then g p else f p)) ((q+1:Nat):Int)=some (cR (f (q+1))):=(by rw[Bv rfl (Sg _ ω),Av ω]);have L:g (q+1)=f (q+1)->I3 l.length (λp=>if q+1<p then g p else f p)=I3 l.length (λp=>if q<p then g p else f p):=λY=>Aky (λp hp=>by
   by_cases e2:q+1<p
   .rw[Ay e2,Ay ω]
   .rw[Av e2];by_cases e3:q<p
    .rw[Ay e3,show p=q+1 by omega,Y]
    .rw[Av e3]);show ((bif (e.U != x.U) then some true else _).bind _)=_;by_cases B:x.U=e.U
  .rw[Fc B.symm];have sq:=Sm.of (hf q ω) (sm q ω);have aq:=Sm.of (hf (q+1) U) (sm (q+1) U);simp only[Am,ao,Ad,A7j sq.lg δ δ];by_cases a6:f q=0
   .rw[Ay a6];simp only[beq_self_eq_true,Ak];rw[L (by rw[a1,a6,Nat.zero_mul,Nat.add_zero])]
   .rw[Av a6];have b8:((1:Int)==0)=false:=rfl;simp only[b8,Am,ao,Ad];obtain⟨ts,ah,ag⟩:=hp e ap;obtain⟨ay,ai,ba,az,ak⟩:=A73 hz hk hx B ah;have b0:(Mj data t e).places=Ih (Eb data t.U e.U):=rfl;have b3:(Mj data t e).kids=e.K:=rfl;rw[ay,b0,b3];obtain⟨i1,i2⟩:=Akx data _ _ _ ag;have bh:q+1+pds data t (l.take q)+pdg data t e<=6:=(by have:=sm (q+1) U;rw[Ak6 he]at this;omega);generalize Z:Ml x.K (Eb data t.U e.U)=D at ak;have ar:∀w∈D,Da w<=5000:=λw hw=>by rw[<-Z]at hw;have:=M7 (Ak7 hw);have:=M6 x;omega
    have M:∀j,Sm (f q*bvs data (e.K.take j) (ts.take j) (D.take j)):=λj=>by obtain⟨e',Y,e2⟩:=Ak9 data e.K ts _ j ag;have h1:=(Xo data 5000 δ _).2 _ _ (D.take j) e' (Nat.le_refl _) Y λw hx=>ar w (List.mem_of_mem_take hx);have h2:=Nat.mul_le_mul (hf q ω) h1;rw[<-Nat.pow_add]at h2;exact Sm.of h2 ω
    have av:wOf data t e x=bvs data e.K ts D:=(by unfold wOf;rw[Ay B,Z];unfold Qa;rw[ah]);refine Ho (Ih (Eb data t.U e.U)) (λj=>((j:Int),(cR (f q*bvs data (e.K.take j) (ts.take j) (D.take j))).N,(cR (f q*bvs data (e.K.take j) (ts.take j) (D.take j))).U,(cR (f q*bvs data (e.K.take j) (ts.take j) (D.take j))).B)) ?_ ω ?_ ?_
    .simp only[List.take_zero,Abg,Nat.mul_one];rfl
    .intro j pl hj aj h1 h2 h3;obtain⟨mm,a,w,rfl,V,hw,au,ax,be⟩:=ak j pl aj;have N:e.K[j]? = some (e.K[j]' ω):=Bx _;generalize e.K[j]'_=i' at N;obtain⟨d,d1,d2⟩:=i2 j i' a N V;have hb:=Sm.of ((Xo data 5000 δ _).1 i' a w d (Nat.le_refl _) d1 ω) ω;simp only[h1,h2,h3,Ak,Ad,Bv rfl V,Bv rfl N,Bv rfl hw];rw[b7 e ap i' a w d (Cf N) d1 ω (az a (Cf V)) ax ω,Ad];show (Ea (cR (f q*bvs data (e.K.take j) (ts.take j) (D.take j))) (cR (bv data i' a w))).bind _=_;rw[Auk (M j).lg hb.lg δ δ,Ak3 data _ _ _ j i' a w N V au,Nat.mul_assoc];rfl
    .intro h1;refine⟨_,by simp only[h1];rfl,?_⟩;have A:=M (Ih (Eb data t.U e.U)).length;have bf:D.length=ts.length:=by
      have:∀(l:List A3) (r:List Bool),l.length=r.length->(Ml l r).length=(Ih r).length:=by
       intro l r hl;unfold Ml Ih;rw[Ix,Ix];have key:∀(l:List A3) (r:List Bool) (s:Nat),l.length=r.length->((r.zipIdx s).filter λq=>!q.1).length=((l.zip r).filter λp=>!p.2).length:=by
        intro l;induction l with
        | nil=>intro r s h;have:r = []:=Fa.1 h.symm;subst this;rfl
        | cons a l ih=>intro r s h;cases r with| nil=>simp at h| cons b r=>have:=ih r (s+1) (by simpa using h);cases b <;> simp[this]
       exact (key l r 0 hl).symm
      obtain⟨_,_,_,_,am,_⟩:=Afo hk hx;rw[<-Z,this _ _ (by rw[<-am,B]),ai]
     rw[ai]at A ⊢;have Y:e.K.take ts.length=e.K:=Iw ω;have e2:D.take ts.length=D:=Iw ω;rw[Y,e2,Dh]at A ⊢;show ((Af _ _).bind λG=>(It G (cR (f q*bvs data e.K ts D))).bind _)=_;rw[b4];simp only[Ad];rw[A7i (aq.lg) A.lg δ δ];simp only[Ad,w1];congr 3;refine At7 U ?_ ?_
     .rw[Ay ω,a1,av]
     .intro p hp bg;by_cases Y:q+1<p
      .rw[Ay ω,Ay Y]
      .rw[Av ω,Av Y]
  .rw[Ek (λe=>B e.symm)];simp only[Ad,Ak];rw[L (by rw[a1,show wOf data t e x=0 by unfold wOf;rw[Av B],Nat.mul_zero,Nat.add_zero])]
 .refine⟨(0,I3 l.length g),?_,hJ⟩;simp only[Nat.sub_self];have:I3 l.length (λp=>if 0<p then g p else f p)=I3 l.length g:=Aky (λp hp=>by
   by_cases e:0<p
   .rw[Ay e]
   .have:p=0:=ω;subst this;rw[Av e,<-hg];rfl);rw[this];rfl
theorem A75 {data:List Aw} (B:Szv data) (N:O0 data) (Z:∀x∈data,x.O.length<=8) {t:Ah} (hk:t.G=5) (ht:B5 t<=200) (l:List Bj) (hp:∀e∈l,∃ts,Ig data t e.U=some ts/\D0 data e.K ts=some (pdg data t e)) (I:l.length+pds data t l<=6) (v:A3) (hv:Da v<=5000) (R:He data v t=true) (k:Nat) (M:∀e∈l,∀(i':Bj) (g:Ah) (w:A3) (d:Nat),i'∈e.K->G1 data i' g=some d->d<=6->B5 g<=200->He data w g=true->Da w<=5000->Nr k data g i' w=some (cR (bv data i' g w))) : V2 (k+1) data t l v=some (cR (dpS (bws data l t) (I2 data t.U v) l.length)):=by
 have Y:=Akc data t.U v;rw[V2];refine Ho l (λj=>((j:Int),(l.take j).map (Mj data t))) ψ ω ?_ ?_
 .intro j e hj z h1 h2 h3;obtain⟨ts,b,_⟩:=hp e (Cf z);unfold Ig at b;cases u:Jr data t e.U with| none=>rw[u]at b;cases b| some fl=>have G:=Aav u;have s:fl.length<=6:=(by obtain⟨U,y,_,D,_,hy,J,_⟩:=R9 u;obtain⟨S,_⟩:=B U (Hq D).2.2.2 y (Hq hy).2.2.2;rw[J];simpa using S);simp only[h1,h2,h3,Ak,Ad,Afa B t ht,Aar data t.U e.U N,u,okL];refine A7n fl (Eb data t.U e.U) G s ?_;show (Cj 80 _ [_]).bind _=_;rw[Dm ζ,Ad,Dc z,List.map_append];congr 4;show [_] = [Mj data t e];unfold Mj;rw[u]
 .intro h1;refine⟨l.map (Mj data t),by simp only[h1];rw[Dh];rfl,?_⟩;have e1:Ac ((((l.map (Mj data t)).length:Nat):Int)+1)=((l.length+1:Nat):Int):=(by rw[Ix,Ac,B3] <;> omega);rw[e1,Ka (n:=l.length+1) (c:=l.length+1) rfl rfl ω ω ω,Ad];refine A7o (l.length+1) ω ?_;have L:Af (List.replicate (l.length+1) (cR 0)) 0=some (cR 0):=Bv (n:=0) rfl (by rw[List.getElem?_replicate,Ay ω]);rw[P9,Ad,L,Ad,A5x N Z hk v hv R,Ad];have e2:Cu (List.replicate (l.length+1) (cR 0)) 0 (cR 1)=I3 l.length (dpS (bws data l t) []):=by
   have:List.replicate (l.length+1) (cR 0)=I3 l.length (λ_=>0):=by
    apply List.ext_getElem?;intro i;rcases Cg i (l.length+1) with hi|hi
    .rw[Sg _ ω,List.getElem?_replicate,Ay hi]
    .rw[Kv (by simpa using hi),Kv (by rw[Uu];exact hi)]
   rw[this];refine At7 (q:=0) ω rfl ?_;intro p _ hp;show (if p=0 then 1 else 0)=0;rw[Av hp]
  rw[e2];have f:∀x∈I2 data t.U v,∀q w,(bws data l t)[q]? = some w->5000 ^ pds data t (l.take q)*w x<=5000 ^ pds data t (l.take (q+1)):=by
   intro x hx q wt hq;rw[Af5]at hq;obtain⟨e,z,rfl⟩:=Option.map_eq_some_iff.1 hq;obtain⟨ts,b,E⟩:=hp e (Cf z);have X:=Ak4 data t.U v x hx;rw[Ak6 z,Nat.pow_add];refine Nat.mul_le_mul_left _ ?_;unfold wOf;split
   .rw[show Qa data t e.U=ts by unfold Qa;rw[b]];refine (Xo data 5000 δ _).2 e.K ts _ _ (Nat.le_refl _) E λy hy=>?_;have V:=M7 (Ak7 hy);have:=M6 x;omega
   .exact Nat.zero_le _
  have A:∀j q,dpS (bws data l t) ((I2 data t.U v).take j) q<=5000 ^ (q+pds data t (l.take q)):=λj q=>
   Aui _ 5000 δ (λq=>pds data t (l.take q)) _ (λx hx=>f x (List.mem_of_mem_take hx)) (by rw[List.length_take];omega) q
  refine Ho (I2 data t.U v) (λj=>((j:Int),I3 l.length (dpS (bws data l t) ((I2 data t.U v).take j)))) rfl ω ?_ ?_
  .intro j x hj hx h1 h2 h3;have hxm:=A7m hk _ v (Nat.le_refl _) R x (Cf hx);have h:O6 (bws data l t) x (dpS (bws data l t) ((I2 data t.U v).take j))=dpS (bws data l t) ((I2 data t.U v).take (j+1)):=(by rw[Dc hx,A7z]);simp only[h1,h2,h3,Ak,Ad];rw[show (((l.map (Mj data t)).length:Nat):Int)=(l.length:Int) by rw[Ix]];refine A74 B hk l hp I k M x hxm.1 ω _ (λq _=>A j q) (λq _=>by rw[h];exact A (j+1) q) ?_;rw[h]
  .intro h1;refine⟨_,by simp only[h1];rw[Dh];rfl,?_⟩;rw[Bv (n:=l.length) ψ (Sg _ (Nat.le_refl _))];rfl
theorem A76 {data:List Aw} (L:Szv data) (U:O0 data) (h8:∀x∈data,x.O.length<=8):∀(n:Nat) (i:Bj) (t:Ah) (w:A3) (k d:Nat),Dl i<=n->2*n<=k->n<1099511627776->G1 data i t=some d->d<=6->B5 t<=200->He data w t=true->Da w<=5000->Nr k data t i w=some (cR (bv data i t w)):=by
 intro n;induction n with
 | zero=>intro i t w k d h;have:=Hc i;omega
 | succ n ih=>
  intro i t w k d hi hk hn hd D ht l hw;obtain⟨k,rfl⟩:∃J,k=J+2:=⟨k-2,ω⟩;have X:=Hc i;have M:=M6 w;rw[Nr,P9,Aug];simp only[Ad];rw[Aaw]at hd;rw[Xi]at l;by_cases f:t.G=6
  .rw[Dk f,Ay f];rw[Ay f]at hd;rw[Av ω,Av ω,Av ω,Ay f]at l;simp only[Ck]at l;have c:=l.2;have hd:D0 data i.K t.R=some d:=by
    by_cases e:i.U=0
    .rw[Ay e]at hd;exact hd
    .rw[Av e]at hd;cases hd
   obtain⟨i1,i2⟩:=Akx data _ _ _ hd;have z:w.K.length=t.R.length:=by
    by_cases G:w.K.length=t.R.length
    .exact G
    .rw[Aa3 data _ _ G]at c;cases c
   have R:=K4 t;have S:=N3 t.R;have y:∀x∈w.K,Da x<=5000:=λx hx=>by have:=M7 hx;omega
   have hS:=A72 hd D y;rw[Ak];refine Ho t.R (λj=>((j:Int),(cR (bvs data (i.K.take j) (t.R.take j) (w.K.take j))).N,(cR (bvs data (i.K.take j) (t.R.take j) (w.K.take j))).U,(cR (bvs data (i.K.take j) (t.R.take j) (w.K.take j))).B)) (by simp only[List.take_zero,Abg];rfl) ω ?_ ?_
   .intro j a hj ha h1 h2 h3;have b:i.K[j]? = some (i.K[j]' ω):=Bx _;generalize i.K[j]'_=i' at b;have hu:w.K[j]? = some (w.K[j]' ω):=Bx _;generalize w.K[j]'_=u at hu;obtain⟨e,d1,d2⟩:=i2 j i' a b ha;have N:=M7 (Cf hu);have Y:=Md (Cf b);have a1:=Ln (Cf ha);have B:He data u a=true:=(by rw[Aa4 data _ _ z]at c;exact D2.1 c (u,a) (Cf (i:=j) (by rw[List.getElem?_zip_eq_some];exact⟨hu,ha⟩)));have hb:=Sm.of ((Xo data 5000 δ _).1 i' a u e (Nat.le_refl _) d1 ω) ω;simp only[h1,h2,h3,Ak,Ad,Bv rfl b,Bv rfl hu];rw[ih i' a u (k+1) e ω ω ω d1 ω ω B ω,Ad];show (Ea (cR (bvs data (i.K.take j) (t.R.take j) (w.K.take j))) (cR (bv data i' a u))).bind _=_;rw[Auk (hS j).lg hb.lg δ δ,Ak3 data _ _ _ j i' a u b ha hu];rfl
   .intro h1;refine⟨_,by simp only[h1];rfl,?_⟩;have e1:i.K.take t.R.length=i.K:=Iw ω;have e2:w.K.take t.R.length=w.K:=Iw ω;rw[e1,e2,Dh]
  .rw[Av f]at hd ⊢;rw[Cn f,Am];by_cases q:t.G=7
   .rw[Dk q,Ak,Ay q];rw[Ay q]at hd;have V:=Xh w.K;by_cases e:0<=i.U/\i.U<=6/\i.K.length=0
    .obtain⟨m,hm⟩:∃m:Nat,i.U=m:=⟨i.U.toNat,ω⟩;rw[hm];first|rw[At6 _ _ ω ω,Ad] | rw[At5 _ _ ω ω,Ad]
     rw[Int.toNat_natCast]
    .rw[Av e]at hd;cases hd
   .rw[Av q]at hd ⊢;rw[Cn q,Am];by_cases g:t.G=5
    .rw[Dk g,Ak,Ay g];rw[Ay g]at hd;have hd:Ib data i.K t=some d:=by
      by_cases e:i.U=0
      .rw[Ay e]at hd;exact hd
      .rw[Av e]at hd;cases hd
     obtain⟨h1,h2⟩:=Ak5 data _ _ _ hd;rw[<-Xi]at l;rw[A75 L U h8 g ht i.K h2 ω w hw l k (λe Z i' I u d' b E s ht' hu A=>by have h3:=Md b;have h4:=Hc e;have h5:=Md Z;exact ih i' I u k d' ω ω ω E s ht' hu A),Ad]
    .rw[Cn g,Am,Av g]
end Go.Ab
