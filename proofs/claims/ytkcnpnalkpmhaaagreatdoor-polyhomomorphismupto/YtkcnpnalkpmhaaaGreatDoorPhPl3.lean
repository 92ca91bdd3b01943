/- Plain laws: what the plain functions answer. -/
import Derived.Test.YtkcnpnalkpmhaaaGreatDoorPhPl2
open List
namespace Go.Ab
open Go
variable {t u:Aj} {x:Cd} {i v w:Int} {ps:List (List Aj)} {p q ts:List Aj} {data:List Ak} {P S X b l m:List Int} {K N a j k n:Nat} {g:Nat->Nat} {R α:Type} {r:R} {cmp:α->α->Option Int}
def Jz (n:Int) (f:Bool):List Int:=if f then (if n<0 then [45] else []) else (if n<0 then [32,45,32] else [32,43,32])
def K8 (n:Int):List Int:=if n.natAbs=1 then [] else ti n.natAbs++[42]
def Ke (v:Int):List Int:=if v = -1 then [114,101,115] else 118::ti v
def tT (f:Bool) (t:En):List Int:=Jz t.C f++(K8 t.C++Ke t.v)
def I6:Bool->List En->Int->List Int
 | f,[],c=>if c≠0\/f=true then Jz c f++ti c.natAbs else []
 | f,t::ts,c=>tT f t++I6 false ts c
def Ab0 (l:Co):List Int:=I6 true l.T l.Q
def Jq (X:List Int):Prop:=∀c m,X=c::m->c=97
theorem Jq.nil:Jq []:=by intro c m h;cases h
theorem Jq.cons (X:List Int):Jq (97::X):=by intro c m h;cases h;rfl
theorem Jq.nonum (h:Jq X):Mx X:=by intro c m e;rw[h c m e];decide
theorem Alv (n:Nat):∃c m,ti n=c::m/\48<=c/\c<=57:=by
 have b:=Af0 (n:Int);cases h:ti (n:Int) with
 | nil=>exact (b h).elim
 | cons c m=>refine⟨c,m,rfl,?_⟩;have hc:c∈ti (n:Int):=(by rw[h];simp);unfold ti at hc;obtain⟨x,hx,rfl⟩:=mem_map.1 hc;have e:Lib.itoa (n:Int)=Lib.decDigits n:=(by unfold Lib.itoa;first|rfl | (rw[Ar ω];simp) | simp);rw[e]at hx;have:=Afy n n (Nat.le_refl _) x hx;omega
theorem Aut (ts:List En) (c:Int) (b:Jq X):Mx (I6 false ts c++X):=by
 have k:∀(n:Int) (Y:List Int),Mx (Jz n false++Y):=by intro n Y c m e;unfold Jz at e;simp only[Bool.false_eq_true,if_false]at e;split at e <;> (cases e;decide)
 cases ts with
 | nil=>
  simp only[I6];split
  .rw[append_assoc];exact k _ _
  .exact b.nonum
 | cons t ts=>simp only[I6,tT,append_assoc];exact k _ _
theorem Auu {R:List Int} (c:Mx R) (b:Mx S) (h:Ke v++R=Ke w++S):v=w/\R=S:=by
 unfold Ke at h;split at h <;> split at h
 .simp only[Ed,nil_append,List.cons.injEq,true_and]at h;exact⟨ω,h⟩
 .simp at h
 .simp at h
 .simp only[Ed,List.cons.injEq,true_and]at h;obtain⟨g,f⟩:=Q8 _ _ _ _ (Ji v) (Ji w) c b h;exact⟨Vg g,f⟩
theorem Alw (v:Int):∃c m,Ke v=c::m/\(c=114\/c=118):=by
 unfold Ke;split
 .exact⟨_,_,rfl,.inl rfl⟩
 .exact⟨_,_,rfl,.inr rfl⟩
theorem Alx (X:List Int):Mx (42::X):=by intro c m e;cases e;decide
theorem A7h {a b:Int} {R:List Int} (i:Mx R) (g:Mx S) (h:K8 a++(Ke v++R)=K8 b++(Ke w++S)):a.natAbs=b.natAbs/\v=w/\R=S:=by
 unfold K8 at h;have bad:∀(n:Nat) (u:Int) (X Y:List Int),Ke u++X=ti n++[42]++Y->False:=by intro n u X Y e;obtain⟨c,m,f,q⟩:=Alw u;obtain⟨d,k,l,j⟩:=Alv n;rw[f,l]at e;simp only[Ed,List.cons.injEq]at e;omega
 split at h <;> split at h
 .rename_i h1 h2;simp only[nil_append]at h;exact⟨h1.trans h2.symm,Auu i g h⟩
 .exact (bad _ _ _ _ h).elim
 .exact (bad _ _ _ _ h.symm).elim
 .simp only[append_assoc,Ed,nil_append]at h;obtain⟨f,q⟩:=Q8 _ _ _ _ (Ji _) (Ji _) (Alx _) (Alx _) h;have l:=Vg f;obtain⟨j,s⟩:=Auu i g (List.cons.inj q).2;exact⟨ω,j,s⟩
def NoM (P:List Int):Prop:=∃c m,P=c::m/\c≠45
theorem NoM.ti (n:Nat) (X:List Int):NoM (Go.Ab.ti n++X):=by obtain⟨c,m,e,h⟩:=Alv n;exact⟨c,m++X,by rw[e];rfl,ω⟩
theorem NoM.pT (a v:Int) (X:List Int):NoM (K8 a++(Ke v++X)):=by
 unfold K8;split
 .obtain⟨c,m,e,h⟩:=Alw v;exact⟨c,m++X,by rw[e];rfl,ω⟩
 .rw[append_assoc];exact NoM.ti _ _
theorem Aly {a b:Int} {f:Bool} {Q:List Int} (i:NoM P) (g:NoM Q) (h:Jz a f++P=Jz b f++Q):(a<0↔b<0)/\P=Q:=by
 obtain⟨c,m,rfl,hc⟩:=i;obtain⟨d,k,rfl,hd⟩:=g;unfold Jz at h;cases f with
 | true=>
  simp only[if_true]at h;split at h <;> split at h
  .rename_i h1 h2;exact⟨by simp[h1,h2],by simpa using h⟩
  .simp at h;exact (hd h.1.symm).elim
  .simp at h;exact (hc h.1).elim
  .rename_i h1 h2;exact⟨by simp[h1,h2],by simpa using h⟩
 | false=>
  simp only[Bool.false_eq_true,if_false]at h;split at h <;> split at h
  .rename_i h1 h2;exact⟨by simp[h1,h2],by simpa using h⟩
  .simp at h
  .simp at h
  .rename_i h1 h2;exact⟨by simp[h1,h2],by simpa using h⟩
theorem Alz {n:Int} (b:Jq X) (h:Jz n false++P=X):False:=by
 unfold Jz at h;simp only[Bool.false_eq_true,if_false]at h;split at h
 .have:=b _ _ h.symm;omega
 .have:=b _ _ h.symm;omega
theorem Auv {c d:Int} {f:Bool} {u:En} {m:List En} {Y:List Int} (b:Jq X) (k:Jq Y) (h:I6 f [] c++X=I6 f (u::m) d++Y):False:=by
 simp only[I6,tT]at h;split at h
 .simp only[append_assoc]at h;obtain⟨_,e⟩:=Aly (NoM.ti _ _) (NoM.pT _ _ _) h;unfold K8 at e;split at e
  .obtain⟨c1,m1,j,h1⟩:=Alw u.v;obtain⟨c2,m2,g,h2⟩:=Alv c.natAbs;rw[j,g]at e;simp only[nil_append,Ed,List.cons.injEq]at e;omega
  .simp only[append_assoc,Ed,nil_append]at e;obtain⟨_,g⟩:=Q8 _ _ _ _ (Ji _) (Ji _) b.nonum (Alx _) e;have:=b _ _ g;omega
 .rename_i i;have hf:f=false:=(by cases f with|true=>simp at i|false=>rfl);subst hf;simp only[nil_append,append_assoc]at h;exact Alz b h.symm
theorem Auw:∀(l m:List En) (f:Bool) (c d:Int) (X Y:List Int),Jq X->Jq Y->I6 f l c++X=I6 f m d++Y->l=m/\c=d/\X=Y
 | [],[],f,c,d,X,Y,g,b,h=>by
  simp only[I6]at h;split at h <;> split at h
  .simp only[append_assoc]at h;obtain⟨x,q⟩:=Aly (NoM.ti _ _) (NoM.ti _ _) h;obtain⟨j,i⟩:=Q8 _ _ _ _ (Ji _) (Ji _) g.nonum b.nonum q;have s:=Vg j;exact⟨rfl,ω,i⟩
  .rename_i h1 h2;have hf:f=false:=(by cases f with|true=>simp at h2|false=>rfl);subst hf;simp only[append_assoc,nil_append]at h;exact (Alz b h).elim
  .rename_i h1 h2;have hf:f=false:=(by cases f with|true=>simp at h1|false=>rfl);subst hf;simp only[append_assoc,nil_append]at h;exact (Alz g h.symm).elim
  .rename_i h1 h2;refine⟨rfl,?_,by simpa using h⟩;have a1:c=0:=(by by_cases k:c=0;exact k;exact (h1 (.inl k)).elim);have a2:d=0:=(by by_cases k:d=0;exact k;exact (h2 (.inl k)).elim);omega
 | [],u::m,f,c,d,X,Y,g,b,h=>(Auv g b h).elim
 | t::l,[],f,c,d,X,Y,g,b,h=>(Auv b g h.symm).elim
 | t::l,u::m,f,c,d,X,Y,g,b,h=>by simp only[I6,tT,append_assoc]at h;obtain⟨x,q⟩:=Aly (NoM.pT _ _ _) (NoM.pT _ _ _) h;obtain⟨j,i,s⟩:=A7h (Aut _ _ g) (Aut _ _ b) q;obtain⟨A,z,y⟩:=Auw l m false c d X Y g b s;have:t=u:=(by cases t;cases u;simp only at x j i;subst i;congr 1;omega);exact⟨by rw[this,A],z,y⟩
def I0 (a:Bi):List Int:=97::(ti a.P++58::Ab0 a.L)
def D1 (f:Bh):List Int:=K6 f.v f.I
def Ab1 (m:Bj):List Int:=m.F.flatMap D1++m.A.flatMap I0
theorem Agy (l:List Bi):Jq (l.flatMap I0):=by cases l with| nil=>exact Jq.nil| cons a l=>simp only[flatMap_cons,I0,Ed];exact Jq.cons _
theorem Agz (X:List Int):Mx (58::X):=by intro c m e;cases e;decide
theorem Aux:∀(l m:List Bi),l.flatMap I0=m.flatMap I0->l=m
 | [],[],_=>rfl
 | [],b::m,h=>by simp[I0]at h
 | a::l,[],h=>by simp[I0]at h
 | a::l,b::m,h=>by simp only[flatMap_cons,I0,Ed,append_assoc,List.cons.injEq,true_and]at h;obtain⟨s,q⟩:=Q8 _ _ _ _ (Ji _) (Ji _) (Agz _) (Agz _) h;have k:=(List.cons.inj q).2;obtain⟨g,f,j⟩:=Auw _ _ true _ _ _ _ (Agy l) (Agy m) k;have i:=Aux l m j;have c:=Vg s;obtain⟨⟨c1,t1⟩,d1⟩:=a;obtain⟨⟨c2,t2⟩,d2⟩:=b;simp only at g f c;rw[g,f,c,i]
theorem Auy (l:List Bh) (b:Jq X):S4 (l.flatMap D1++X):=by cases l with| nil=>intro c m e;rw[b c m e];exact⟨δ,δ⟩| cons a l=>intro c m e;simp only[flatMap_cons,D1,K6,Ed]at e;cases e;exact⟨δ,δ⟩
theorem Al0:∀(l m:List Bh) (X Y:List Int),Jq X->Jq Y->l.flatMap D1++X=m.flatMap D1++Y->l=m/\X=Y
 | [],[],X,Y,_,_,h=>⟨rfl,by simpa using h⟩
 | [],b::m,X,Y,f,_,h=>by simp only[flatMap_cons,flatMap_nil,D1,K6,Ed,nil_append]at h;have:=f _ _ h;omega
 | a::l,[],X,Y,_,c,h=>by simp only[flatMap_cons,flatMap_nil,D1,K6,Ed,nil_append]at h;have:=c _ _ h.symm;omega
 | a::l,b::m,X,Y,f,c,h=>by simp only[flatMap_cons,D1,K6,Ed,append_assoc,List.cons.injEq,true_and]at h;obtain⟨x,u⟩:=Q8 _ _ _ _ (Ji _) (Ji _) (Agz _) (Agz _) h;have s:=(List.cons.inj u).2;obtain⟨i,q⟩:=Af3 _ _ _ _ (Auy l f) (Auy m c) s;obtain⟨k,j⟩:=Al0 l m X Y f c q;have g:=Vg x;obtain⟨y,i1⟩:=a;obtain⟨v2,i2⟩:=b;simp only at i g;exact⟨by rw[i,g,k],j⟩
theorem A7i {m n:Bj} (h:Ab1 m=Ab1 n):m=n:=by obtain⟨c,f⟩:=Al0 _ _ _ _ (Agy _) (Agy _) h;have b:=Aux _ _ f;cases m;cases n;simp only at c b;rw[c,b]
def By (l:List Int):Prop:=∀c∈l,0<=c/\c<256
theorem By.app (h:By l) (h':By m):By (l++m):=by
 intro c hc;rcases Ei.1 hc with k|k
 .exact h c k
 .exact h' c k
theorem By.ti (n:Int):By (Go.Ab.ti n):=by intro c h;have:=Ji n c h;simp only[Q7,Bool.or_eq_true,C3,beq_iff_eq,Dt]at this;omega
theorem By.cons {c:Int} {l:List Int} (hc:0<=c/\c<256) (h:By l):By (c::l):=by
 intro d hd;rcases F1.1 hd with rfl|k
 .exact hc
 .exact h d k
theorem By.nil:By []:=λc h=>by cases h
theorem By.sgn (n:Int) (f:Bool):By (Jz n f):=by unfold Jz;split <;> split <;> intro c hc <;> simp at hc <;> omega
theorem By.mag (n:Int):By (K8 n):=by
 unfold K8;split
 .exact By.nil
 .exact (By.ti _).app (By.cons ω By.nil)
theorem By.var (n:Int):By (Ke n):=by
 unfold Ke;split
 .intro c hc;simp at hc;omega
 .exact By.cons ω (By.ti _)
theorem By.tT (f:Bool) (t:En):By (tT f t):=(By.sgn _ _).app ((By.mag _).app (By.var _))
theorem By.lins:∀(l:List En) (f:Bool) (c:Int),By (I6 f l c)
 | [],f,c=>by
  simp only[I6];split
  .exact (By.sgn _ _).app (By.ti _)
  .exact By.nil
 | t::l,f,c=>(By.tT f t).app (By.lins l false c)
theorem By.at (a:Bi):By (I0 a):=By.cons ω ((By.ti _).app (By.cons ω (By.lins _ _ _)))
theorem By.flat {g:α->List Int} (h:∀a,By (g a)) (l:List α):By (l.flatMap g):=by intro c hc;obtain⟨a,_,k⟩:=mem_flatMap.1 hc;exact h a c k
theorem By.fac (f:Bh):By (D1 f):=Af5 f.v f.I
theorem By.mono (m:Bj):By (Ab1 m):=(By.flat By.fac _).app (By.flat By.at _)
def bs (l:List Int):ByteArray:=⟨(Fh l).toArray⟩
theorem Al1 (c:By l) (b:By m) (h:bs l=bs m):l=m:=by
 unfold bs at h;have h1:(Fh l).toArray=(Fh m).toArray:=by injection h
 have h2:Fh l=Fh m:=by simpa using congrArg Array.toList h1
 exact Alc _ _ c b h2
def Mf (m:Bj):ByteArray:=bs (Ab1 m)
theorem Auz {m n:Bj} (h:Mf m=Mf n):m=n:=A7i (Al1 (By.mono m) (By.mono n) h)
theorem Yc (l:List Int):(bs l).size=l.length:=by unfold bs Fh;simp[ByteArray.size]
theorem Au0 (h:By l):On (bs l)=l:=by
 unfold On bs Fh
 simp only[map_map]
 conv=>rhs;rw[<-map_id l]
 refine map_congr_left λc hc=>?_
 have:=h c hc
 simp only[Function.comp,UInt8.toNat_ofNat',id]
 omega
theorem A7j (l m:List Int):bs l++bs m=bs (l++m):=by apply ByteArray.ext;rw[ByteArray.data_append];unfold bs Fh;simp
theorem Vp (h:l.length+m.length<=9223372036854775807):Gu (bs l) (bs m)=some (bs (l++m)):=by unfold Gu;rw[Au (by rw[Yc,Yc];exact h),A7j]
theorem Ag0 {n:Int} (h:Ff n):Qh n=some (bs (ti n)):=by
 rw[Ala h]
 congr 2
 congr 1
 unfold Fh ti
 rw[map_map]
 conv=>lhs;rw[<-map_id (Lib.itoa n)]
 refine map_congr_left λc _=>?_
 simp[Function.comp]
theorem Ab2 {S E:Type} {step:S->Option (S⊕E)} {s0:S} {J:E->Option R} (c:α) (xs:List α) (b:Nat->S) (h0:s0=b 0) (h:xs.length<2305843009213693952) (f:∀(j:Nat) (x:α),xs[j]? = some x->decide (((j+1:Nat):Int)<((c::xs).length:Int))=true->Ag (c::xs) ((j+1:Nat):Int)=some x->Ac (((j+1:Nat):Int)+1)=((j+1+1:Nat):Int)->step (b j)=some (.inl (b (j+1)))) (g:decide (((xs.length+1:Nat):Int)<((c::xs).length:Int))=false->∃e,step (b xs.length)=some (.inr e)/\J e=some r):(An step s0).bind J=some r:=by refine K4 xs.length b h0 (λj hj=>?_) (g ψ);have hx:xs[j]? = some xs[j]:=Bt hj;exact f j _ hx (As (by simp only[D8];omega)) (Bu rfl ψ) (C9 (n:=xs.length+1) ω ω)
theorem bnd {β:Type} {X:Option α} {a:α} {K:α->Option β} {r:Option β} (h:X=some a) (k:K a=r):X.bind K=r:=by rw[h];exact k
theorem N7 (c:By l) (h:b.length+l.length<=140737488355328):Hm (bs l) b=some ((l.length:Int),b++l):=by simp only[Hm,Xl,Ad,Au0 c,Yc];rw[Ds ω];rfl
theorem Vq (c:By l) (h:b.length+l.length<=140737488355328):Jv (bs l) b=some ((l.length:Int),b++l):=by simp only[Jv,Aad,Ad,Au0 c,Yc];rw[Ds ω];rfl
theorem P7 (hb:By b):L7 b=some (bs b):=by exact Au hb
theorem A7k (hb:By b):Aa0 b=some (bs b):=P7 hb
theorem Al2 (n:Int) (h : -1048576<=n/\n<=1048576):(K8 n).length<=22:=by
 unfold K8;split
 .simp
 .have:=O0 (n:=(n.natAbs:Int)) (by unfold Ff;omega);simp;omega
theorem Ag1 (n:Int) (f:Bool):(Jz n f).length<=3:=by unfold Jz;split <;> split <;> simp
theorem A7l (h : -1<=v/\v<3000):(Ke v).length<=22:=by
 unfold Ke;split
 .simp
 .have:=O0 (n:=v) (by unfold Ff;omega);simp;omega
structure Au1 (a:Co):Prop where
 c : -1048576<=a.Q/\a.Q<=1048576
 n:a.T.length<=16
 t:∀t∈a.T,(-1<=t.v/\t.v<3000)/\(-1048576<=t.C/\t.C<=1048576)
theorem Al3 {a:Co} (h:Ip a=true):Au1 a:=by unfold Ip at h;simp only[C3,Dt]at h;refine⟨⟨h.1.1,h.1.2.1⟩,h.1.2.2,λt ht=>?_⟩;obtain⟨j,hj⟩:=Ht ht;have:=Jg h.2 hj;simp only[Abl,C3,Dt]at this;omega
theorem Al4 {t:En} (f:Bool) (h:(-1<=t.v/\t.v<3000)/\(-1048576<=t.C/\t.C<=1048576)):(tT f t).length<=47:=by have:=Ag1 t.C f;have:=Al2 t.C h.2;have:=A7l h.1;unfold tT;simp only[E5];omega
theorem Au2 {n:Int} (h : -1048576<=n/\n<=1048576):(if Ac (0-n)>n then Ac (0-n) else n)=(n.natAbs:Int):=by rw[Ac,Cj ω ω];split <;> omega
theorem c45:ByteArray.mk #[45]=bs [45]:=rfl
theorem A7m:ByteArray.mk #[32,45,32]=bs [32,45,32]:=rfl
theorem A7n:ByteArray.mk #[32,43,32]=bs [32,43,32]:=rfl
theorem c42:ByteArray.mk #[42]=bs [42]:=rfl
theorem Au3:ByteArray.mk #[118]=bs [118]:=rfl
theorem c97:ByteArray.mk #[97]=bs [97]:=rfl
theorem c58:ByteArray.mk #[58]=bs [58]:=rfl
theorem Au4:ByteArray.mk #[114,101,115]=bs [114,101,115]:=rfl
theorem Au5:By [45]:=By.cons ω By.nil
theorem by3 (a b c:Int) (ha:0<=a/\a<256) (hb:0<=b/\b<256) (hc:0<=c/\c<256):By [a,b,c]:=By.cons ha (By.cons hb (By.cons hc By.nil))
theorem Au6 {n:Int} (f:Bool) (c : -1048576<=n/\n<=1048576) (hb:b.length<=1099511627776):Aa1 n f b=some ((n.natAbs:Int),b++Jz n f):=by
 unfold Aa1 Jz;rw[Au2 c,c45,A7m,A7n];rw[N7 Au5 ζ,N7 (by3 _ _ _ ω ω ω) ζ,N7 (by3 _ _ _ ω ω ω) ζ];by_cases h:n<0
 .rw[As h,Au h,Au h];cases f <;> rfl
 .rw[Ay h,Ar h,Ar h];cases f <;> simp
theorem A7o {n:Int} (c : -1048576<=n/\n<=1048576) (hb:b.length<=1099511627776):Ut n true b=some (if n<0 then .inl ((n.natAbs:Int),b++[45]) else .inr ((n.natAbs:Int),b)):=by
 unfold Ut;rw[Au2 c,c45,Vq Au5 ζ];by_cases h:n<0
 .rw[As h,Au h];rfl
 .rw[Ay h,Ar h];rfl
theorem Al5 (h:n<=1048576):Ou (n:Int) 10=some (bs (ti n)):=by unfold Ou Ad7;exact Ag0 (by unfold Ff;omega)
theorem Ag2 (h:n<=1048576):(ti (n:Int)).length<=21:=O0 (by unfold Ff;omega)
theorem Au7 {n:Int} (c : -1048576<=n/\n<=1048576) (hb:b.length<=1099511627776) : (bif ((n.natAbs:Int) != (1:Int)) then (Ou (n.natAbs:Int) 10).bind λv=>(Gu v (ByteArray.mk #[42])).bind λu=>(Hm u b).bind λw=>some w.2 else some b)=some (b++K8 n):=by
 have ht:=Ag2 (n:=n.natAbs) ω;unfold K8;by_cases h:n.natAbs=1
 .rw[H9 ω,Au h];simp
 .rw[Gx ω,Ar h,Al5 ω,c42];simp only[Am,Ad];rw[Vp ζ,Ad,N7 ((By.ti _).app (By.cons ω By.nil)) ζ];rfl
theorem Al6 (K:List Int->Option R) (hv : -1<=v/\v<3000) (hb:b.length<=1099511627776) : (bif (v==(-1)) then (Hm (ByteArray.mk #[114,101,115]) b).bind λw=>K w.2 else (Jd v).bind λx=>(Gu (ByteArray.mk #[118]) x).bind λy=>(Hm y b).bind λw=>K w.2)=K (b++Ke v):=by
 have ht:=O0 (n:=v) (by unfold Ff;omega);unfold Ke;by_cases h:v = -1
 .rw[Ew h,Au h,Au4,N7 (by3 _ _ _ ω ω ω) ζ];rfl
 .rw[C7 h,Ar h,Au3];simp only[Aq,Jd];rw[Ag0 (by unfold Ff;omega),Ad,Vp ζ,Ad];rw[show [118]++ti v=118::ti v from rfl,N7 (By.cons ω (By.ti _)) ζ];rfl
theorem Ag3 {g:α->List Int} {l:List α} {x:α} (h:l[j]? = some x):(l.take (j+1)).flatMap g=(l.take j).flatMap g++g x:=by rw[Da h];simp
theorem Al7 {α:Type} {g:α->List Int} {n:Nat}:∀(l:List α),(∀a∈l,(g a).length<=n)->(l.flatMap g).length<=l.length*n
 | [],_=>ψ
 | a::l,h=>by have h1:=h a ψ;have h2:=Al7 l λb hb=>h b (by simp[hb]);simp only[flatMap_cons,E5,D8,Nat.add_mul];omega
theorem Al8 {g:α->List Int} (l:List α) (j:Nat) (h:∀a∈l,(g a).length<=n):((l.take j).flatMap g).length<=l.length*n:=by refine Nat.le_trans (Al7 _ λa ha=>h a (mem_of_mem_take ha)) (Nat.mul_le_mul_right _ ?_);rw[length_take];omega
theorem Au8:∀(ts:List En) (c:Int),I6 false ts c=ts.flatMap (tT false)++I6 false [] c
 | [],c=>ψ
 | t::ts,c=>by have:=Au8 ts c;simp only[flatMap_cons,append_assoc,<-this];rfl
theorem A7p {a:Co} (h:Ip a=true) (A:a.T≠[]):Qw a=some (bs (Ab0 a)):=by
 have y:=Al3 h;unfold Qw;rw[Atd,h];obtain⟨c,l⟩:=a;cases l with
 | nil=>exact (A rfl).elim
 | cons t ts=>
  have hc : -1048576<=c/\c<=1048576:=y.c;have L:ts.length<=15:=(by have:=y.n;simp at this;omega);have ht:(-1<=t.v/\t.v<3000)/\(-1048576<=t.C/\t.C<=1048576):=y.t t ψ;have s:∀u∈ts,(-1<=u.v/\u.v<3000)/\(-1048576<=u.C/\u.C<=1048576):=λu hu=>y.t u (by simp[hu]);have x:=λj=>Al8 (g:=tT false) (n:=47) ts j (λu hu=>Al4 false (s u hu));have I:=Al4 true ht;simp only[Ad,bnt,Aq];rw[As (by simp only[D8];omega),Am];refine bnd (a:=((t.C.natAbs:Int),tT true t)) ?_ ?_
  .rw[show Ag (t::ts) 0=some t from rfl,Ad,A7o ht.2 ψ,Ad];have E:=O0 (n:=t.v) (by unfold Ff;omega);have G:=Ag2 (n:=t.C.natAbs) ω;have B:=Al2 t.C ht.2;by_cases q:t.C<0
   .rw[Au q];simp only;rw[Au7 ht.2 ψ,Ad];refine (Al6 (λb=>some ((t.C.natAbs:Int),b)) ht.1 ζ).trans ?_;simp[tT,Jz,q]
   .rw[Ar q];simp only;by_cases h1:t.C.natAbs=1
    .rw[H9 ω];simp only[Aq];by_cases hv:t.v = -1
     .rw[Ew hv,Au4,Am,Vq (by3 _ _ _ ω ω ω) ψ];simp[tT,Jz,q,K8,h1,Ke,hv]
     .rw[C7 hv,Aq,Au3,Jd,Ag0 (by unfold Ff;omega),Ad,Vp ζ,Ad,show [118]++ti t.v=118::ti t.v from rfl,
       Vq (By.cons ω (By.ti _)) ζ];simp[tT,Jz,q,K8,h1,Ke,hv]
    .rw[Gx ω];simp only[Am];rw[Al5 ω,Ad,c42,Vp ζ,Ad,Vq ((By.ti _).app (By.cons ω By.nil)) ζ,Ad];refine (Al6 (λb=>some ((t.C.natAbs:Int),b)) ht.1 ζ).trans ?_;simp[tT,Jz,q,K8,h1]
  .simp only;refine Ab2 t ts (λj=>(((j+1:Nat):Int),tT true t++(ts.take j).flatMap (tT false))) (by simp[Ac,Cj]) ω ?_ ?_
   .intro j u hu h1 h2 h3;have f:=s u (Bv hu);have:=x j;have B:=Al2 u.C f.2;have z:=Ag1 u.C false;simp only[h1,h2,h3,Am,Ad];rw[C7 ω,Au6 false f.2 (by simp only[E5];omega),Ad,Au7 f.2 (by simp only[E5];omega),Ad];refine (Al6 (R:=(Int×List Int)⊕List Int) (λb=>some (.inl (((j+1+1:Nat):Int),b))) f.1 (by simp only[E5];omega)).trans ?_;rw[Ag3 hu];simp[tT]
   .intro h1;have h2:=x ts.length;rw[Db]at h2;refine⟨tT true t++ts.flatMap (tT false),by simp only[h1,Aq,Db],?_⟩;have D:By (tT true t++ts.flatMap (tT false)):=(By.tT _ _).app (By.flat (By.tT _) _);have e:Ab0 ⟨c,t::ts⟩=tT true t++ts.flatMap (tT false)++I6 false [] c:=(by have:=Au8 ts c;rw[append_assoc,<-this];rfl);rw[e];have k:((((t::ts).length:Nat):Int)==(0:Int))=false:=C7 (by simp only[D8];omega);by_cases i:c=0
    .simp only[H9 i,Aq,k,Ad];rw[P7 D];simp[I6,i]
    .have J:=Ag2 (n:=c.natAbs) ω;have z:=Ag1 c false;simp only[Gx i,Am,Ad,k];rw[Au6 false hc (by simp only[E5];omega),Ad,Al5 ω,Ad,N7 (By.ti _) (by simp only[E5];omega),Ad, P7 ((D.app (By.sgn _ _)).app (By.ti _))];simp[I6,i]
theorem Au9 {a:Co} (h:Au1 a):(Ab0 a).length<=1024:=by
 have key:∀(l:List En) (f:Bool),(∀t∈l,(-1<=t.v/\t.v<3000)/\(-1048576<=t.C/\t.C<=1048576))->(I6 f l a.Q).length<=47*l.length+24:=by
  intro l;induction l with
  | nil=>intro f _;have h1:=Ag2 (n:=a.Q.natAbs) (by have:=h.c;omega);have h2:=Ag1 a.Q f;simp only[I6];split <;> simp <;> omega
  | cons t l ih=>intro f b;have h1:=Al4 f (b t ψ);have h2:=ih false λu hu=>b u (by simp[hu]);simp only[I6,E5,D8];omega
 have:=key a.T true h.t;have:=h.n;unfold Ab0;omega
structure CMo (m:Bj):Prop where
 sz:MSz m
 nf:m.F.length<=6
 na:m.A.length<=6
 al:∀a∈m.A,Ip a.L=true/\a.L.T≠[]/\1<=a.P/\a.P<=6
theorem Ag4 {a:Bi} (K:ByteArray->Option R) (h:Ip a.L=true/\a.L.T≠[]/\1<=a.P/\a.P<=6) : ((Jd a.P).bind λu=>(Gu (ByteArray.mk #[97]) u).bind λv=>(Gu v (ByteArray.mk #[58])).bind λw=>(Qw a.L).bind λx=>(Gu w x).bind λy=>K y)=K (bs (I0 a)):=by have h1:=O0 (n:=a.P) (by unfold Ff;omega);have h2:=Au9 (Al3 h.1);rw[Jd,Ag0 (by unfold Ff;omega),Ad,c97,Vp ζ,Ad,c58,Vp ζ,Ad,A7p h.1 h.2.1,Ad,Vp ζ,Ad];simp[I0]
theorem Ab3 {a:Bi} (h:Ip a.L=true/\a.L.T≠[]/\1<=a.P/\a.P<=6):(I0 a).length<=1100:=by have h1:=O0 (n:=a.P) (by unfold Ff;omega);have h2:=Au9 (Al3 h.1);simp[I0];omega
theorem Ag5 {f:Bh} (h:Ca f.I<=1048576) (b:iR f.I/\Ff f.v):(D1 f).length<=33554432:=by have h1:=O0 b.2;have h2:=Ak8 f.I b.1;simp[D1,K6];omega
theorem Ava {m:Bj} (h:CMo m):Zp m=some (Mf m):=by
 obtain⟨fs,c⟩:=m;have k:∀f∈fs,Ca f.I<=1048576/\iR f.I/\Ff f.v:=λf hf=>⟨h.sz.fi f hf,h.sz.fr f hf⟩;have s:∀a∈c,Ip a.L=true/\a.L.T≠[]/\1<=a.P/\a.P<=6:=h.al;have nf:fs.length<=6:=h.nf;have na:c.length<=6:=h.na;have z:=λ(l:List Bh) (u:∀f∈l,f∈fs) (j:Nat)=>Al8 (g:=D1) (n:=33554432) l j (λf hf=>Ag5 (k f (u f hf)).1 (k f (u f hf)).2);have A:=λ(l:List Bi) (u:∀a∈l,a∈c) (j:Nat)=>Al8 (g:=I0) (n:=1100) l j (λa ha=>Ab3 (s a (u a ha)));have J:∀l:List Bh,By (l.flatMap D1):=λl=>By.flat By.fac l;have D:∀l:List Bi,By (l.flatMap I0):=λl=>By.flat By.at l;have key:∀f:Bh,f∈fs->Kz f.v f.I=some (bs (D1 f)):=λf hf=>Af6 f.v f.I (k f hf).2.2 (k f hf).2.1 (k f hf).1;unfold Zp Mf Ab1;cases fs with
 | nil=>
  rw[Ay ψ,Aq];cases c with
  | nil=>rw[Ay ψ,Aq];rw[A7k By.nil];rfl
  | cons a c=>
   have ha:=s a ψ;have x:=Ab3 ha;rw[As (by simp only[D8];omega),Am,show Ag (a::c) 0=some a from rfl,Ad];refine (Ag4 _ ha).trans ?_;rw[Vq (By.at a) ζ,Ad];refine Ab2 a c (λj=>(((j+1:Nat):Int),[]++I0 a++(c.take j).flatMap I0)) (by simp[Ac,Cj]) (by simp at na;omega) ?_ ?_
   .intro j b hb h1 h2 h3;have i:=s b (by simp[Bv hb]);have:=Ab3 i;have:=A c (λb hb=>by simp[hb]) j;simp at na;simp only[h1,h2,h3,Am,Ad];refine (Ag4 _ i).trans ?_;rw[N7 (By.at b) (by simp only[E5,length_nil];omega),Ad,Ag3 hb];simp
   .intro h1;refine⟨[]++I0 a++c.flatMap I0,by simp only[h1,Aq,Db],?_⟩;dsimp only;rw[P7 ((By.nil.app (By.at a)).app (D c))];simp
 | cons f fs=>
  have hf:=k f ψ;have I:=Ag5 hf.1 hf.2;rw[As (by simp only[D8];omega),Am,show Ag (f::fs) 0=some f from rfl,Ad,key f ψ,Ad,Vq (By.fac f) ζ,Ad];refine Ab2 f fs (λj=>(((j+1:Nat):Int),[]++D1 f++(fs.take j).flatMap D1)) (by simp[Ac,Cj]) (by simp at nf;omega) ?_ ?_
  .intro j g hg h1 h2 h3;have q:g∈f::fs:=(by simp[Bv hg]);have:=Ag5 (k g q).1 (k g q).2;have:=z fs (λb hb=>by simp[hb]) j;simp at nf;simp only[h1,h2,h3,Am,Ad];rw[key g q,Ad,N7 (By.fac g) (by simp only[E5,length_nil];omega),Ad,Ag3 hg];simp
  .intro h1;have E:=z fs (λb hb=>by simp[hb]) fs.length;rw[Db]at E;simp at nf;refine⟨[]++D1 f++fs.flatMap D1,by simp only[h1,Aq,Db],?_⟩;have y:By ([]++D1 f++fs.flatMap D1):=(By.nil.app (By.fac f)).app (J fs);have G:([]++D1 f++fs.flatMap D1).length<=234881024:=(by simp only[E5,length_nil];omega);have eB:(f::fs).flatMap D1 = []++D1 f++fs.flatMap D1:=ψ;rw[eB];generalize []++D1 f++fs.flatMap D1=B at y G;cases c with
   | nil=>rw[Ay ψ,Aq,P7 y];simp
   | cons a c=>
    have ha:=s a ψ;have x:=Ab3 ha;rw[As (by simp only[D8];omega),Am,show Ag (a::c) 0=some a from rfl,Ad];refine (Ag4 _ ha).trans ?_;rw[N7 (By.at a) ω,Ad];refine Ab2 a c (λj=>(((j+1:Nat):Int),B++I0 a++(c.take j).flatMap I0)) (by simp[Ac,Cj]) (by simp at na;omega) ?_ ?_
    .intro j b hb h1 h2 h3;have i:=s b (by simp[Bv hb]);have:=Ab3 i;have:=A c (λb hb=>by simp[hb]) j;simp at na;simp only[h1,h2,h3,Am,Ad];refine (Ag4 _ i).trans ?_;rw[N7 (By.at b) (by simp only[E5];omega),Ad,Ag3 hb];simp
    .intro h1;refine⟨B++I0 a++c.flatMap I0,by simp only[h1,Aq,Db],?_⟩;dsimp only;rw[P7 ((y.app (By.at a)).app (D c))];simp
def Fk (ts:List Aj):List (ByteArray×Int):=ts.zipIdx.map λq=>(Mf q.1.M,(q.2:Int))
def Dst (ts:List Aj):Prop:=ts.Pairwise λt u=>t.M≠u.M
theorem Avb (ts:List Aj) (t:Aj):Fk (ts++[t])=Fk ts++[(Mf t.M,(ts.length:Int))]:=by unfold Fk;simp[zipIdx_append]
theorem Ab4 (ts:List Aj) (j:Nat):(Fk ts)[j]? = (ts[j]?).map λt=>(Mf t.M,(j:Int)):=by unfold Fk;simp[getElem?_map,getElem?_zipIdx];cases ts[j]? <;> rfl
theorem Avc (h:ts[j]? = some t) (b:u.M=t.M):Fk (ts.set j u)=Fk ts:=by
 apply ext_getElem?;intro i;rw[Ab4,Ab4,getElem?_set];by_cases e:j=i
 .subst e;rw[Au rfl,Au (Eg h),h];simp[b]
 .rw[Ar e]
theorem Ag6 {α:Type}:∀(o:List (ByteArray×α)) (s:ByteArray) (v:α),E3 o s=false->Gv o s v=o++[(s,v)]
 | [],_,_,_=>rfl
 | p::o,s,v,h=>by simp only[E3,any_cons,Bool.or_eq_false_iff]at h;simp only[Gv,h.1,Aq,Ed,List.cons.injEq,true_and];exact Ag6 o s v h.2
theorem Avd {m:Bj} (h:∀t∈ts,t.M≠m):E3 (Fk ts) (Mf m)=false:=by unfold E3;rw[any_eq_false];intro p hp;obtain⟨j,hj⟩:=Ht hp;rw[Ab4]at hj;cases ht:ts[j]? with| none=>rw[ht]at hj;cases hj| some t=>rw[ht]at hj;simp only[Option.map_some,Option.some.injEq]at hj;subst hj;intro e;have e:=(N0 _ _).1 e;exact h t (Bv ht) (Auz e).symm
theorem Ave (hd:Dst ts) (h:ts[j]? = some t):E3 (Fk ts) (Mf t.M)=true/\Ir (Fk ts) (Mf t.M) 0=(j:Int):=by
 have hp:(Fk ts)[j]? = some (Mf t.M,(j:Int)):=by rw[Ab4,h];rfl
 refine⟨any_eq_true.2 ⟨_,Bv hp,(N0 _ _).2 rfl⟩,?_⟩;unfold Ir;have hf:(Fk ts).find? (λp=>Mf t.M==p.1)=some (Mf t.M,(j:Int)):=by
  cases hf:(Fk ts).find? (λp=>Mf t.M==p.1) with
  | none=>have:=find?_eq_none.1 hf _ (Bv hp);exact (this ((N0 _ _).2 rfl)).elim
  | some q=>
   have h1:=find?_some hf;obtain⟨i,hi⟩:=Ht (mem_of_find?_eq_some hf);rw[Ab4]at hi;cases hu:ts[i]? with
   | none=>rw[hu]at hi;cases hi
   | some u=>
    rw[hu]at hi;simp only[Option.map_some,Option.some.injEq]at hi;subst hi;have e:=Auz ((N0 _ _).1 h1);have f:i=j:=by
     have c:=Eg hu;have b:=Eg h;rw[Bt c]at hu;rw[Bt b]at h;rcases Nat.lt_trichotomy i j with k|k|k
     .have:=pairwise_iff_getElem.1 hd i j c b k;rw[Eo hu,Eo h]at this;exact (this e.symm).elim
     .exact k
     .have:=pairwise_iff_getElem.1 hd j i b c k;rw[Eo hu,Eo h]at this;exact (this e).elim
    subst f;rw[e]
 rw[hf];rfl
open Classical in
theorem Tf (t:Aj) (p:List Aj) (m:Bj):cf (t::p) m=(if t.M=m then rq t.C else 0)+cf p m:=by
 simp only[cf];by_cases e:t.M=m
 .rw[Au (Rg.2 e),Au e]
 .rw[Ar (λh=>e (Rg.1 h)),Ar e]
open Classical in
theorem Al9:∀{ts:List Aj} {j:Nat} {t u:Aj},ts[j]? = some t->u.M=t.M->∀m,cf (ts.set j u) m=cf ts m+(if t.M=m then rq u.C-rq t.C else 0)
 | [],j,t,u,h,_,m=>by simp at h
 | s::ts,0,t,u,h,hm,m=>by simp only[getElem?_cons_zero,Option.some.injEq]at h;subst h;rw[set_cons_zero,Tf,Tf,hm];split <;> grind
 | s::ts,j+1,t,u,h,hm,m=>by simp only[getElem?_cons_succ]at h;rw[set_cons_succ,Tf,Tf,Al9 h hm m];grind
theorem Dst.set (h:Dst ts) (ht:ts[j]? = some t) (b:u.M=t.M):Dst (ts.set j u):=by
 have e:(ts.set j u).map (·.M)=ts.map (·.M):=by
  apply ext_getElem?;intro i;rw[getElem?_map,getElem?_map,getElem?_set];by_cases e:j=i
  .subst e;rw[Au rfl,Au (Eg ht),ht];simp[b]
  .rw[Ar e]
 have k:∀l:List Aj,Dst l↔(l.map (·.M)).Pairwise (·≠·):=λl=>by rw[pairwise_map];exact Iff.rfl
 rw[k,e,<-k];exact h
structure Col (k:Nat) (P:Bj->Prop) (ts:List Aj):Prop where
 dst:Dst ts
 tb:∀t∈ts,RB k t.C
 mo:∀t∈ts,P t.M
theorem Col.nil (k:Nat) (P:Bj->Prop):Col k P []:=⟨Pairwise.nil,λ_ h=>(by cases h),λ_ h=>(by cases h)⟩
theorem Avf {k0:Nat} {P:Bj->Prop} (J:∀m,P m->CMo m) (l ts:List Aj) (y:Col k0 P ts) (I:∀t∈l,RB k t.C/\P t.M) (hk:k<=k0) (M:k0+l.length*(k+3)<34359738000) (L:ts.length+l.length<=1099511627776) : ∃f,L3 l (Fk ts) ts=some (Fk f,f)/\Col (k0+l.length*(k+3)) P f/\f.length<=ts.length+l.length/\∀m,cf f m=cf ts m+cf l m:=by
 unfold L3;refine Xs (A:=List Aj) (λf=>(Fk f,f)) ?_;refine Ee (λs=>∃(j:Nat) (u:List Aj),s=((j:Int),Fk u,u)/\j<=l.length/\Col (k0+j*(k+3)) P u/\u.length<=ts.length+j/\∀m,cf u m=cf ts m+cf (l.take j) m) (λs=>l.length-s.1.toNat) (λz=>∃u,z=(Fk u,u)/\Col (k0+l.length*(k+3)) P u/\u.length<=ts.length+l.length/\∀m,cf u m=cf ts m+cf l m) ⟨0,ts,rfl,ω,by simpa using y,ω,λm=>by simp only[take_zero,cf];grind⟩ ?_ ?_
 .rintro _ ⟨j,u,rfl,hj,hu,q,hv⟩;rcases Ch j l.length with h|h
  .have hx:l[j]? = some l[j]:=Bt h;generalize l[j]=x at hx;obtain⟨hb,E⟩:=I x (Bv hx);have D:j*(k+3)+(k+3)<=l.length*(k+3):=(by rw[<-Nat.succ_mul];exact Nat.mul_le_mul_right _ h);have B:(j+1)*(k+3)=j*(k+3)+(k+3):=(by rw[Nat.succ_mul]);simp only[As (ω:(j:Int)<(l.length:Int)),Am,Bu rfl hx,Ad,Ava (J _ E),C9 h ω];left;by_cases hex:∃t∈u,t.M=x.M
   .obtain⟨t,ht,G⟩:=hex;obtain⟨i,hi⟩:=Ht ht;obtain⟨g1,g2⟩:=Ave hu.dst hi;rw[G]at g1 g2;obtain⟨c,c1,_,c3,c4,c5⟩:=Vo (hu.tb t ht) hb ω ω;refine⟨((j+1:Nat),Fk (u.set i ⟨c,t.M⟩),u.set i ⟨c,t.M⟩),?_,⟨j+1,u.set i ⟨c,t.M⟩,rfl,ω,⟨hu.dst.set hi rfl,?_,?_⟩,by rw[length_set];omega,λm=>?_⟩,ζ⟩
    .simp only[g1,g2,Am,Ad,Bu rfl hi,c1,He rfl,Avc (u:=⟨c,t.M⟩) hi rfl]
    .intro w hw;rcases mem_or_eq_of_mem_set hw with hw|rfl
     .exact (hu.tb w hw).mono ω
     .exact c3.mono ω
    .intro w hw;rcases mem_or_eq_of_mem_set hw with hw|rfl
     .exact hu.mo w hw
     .exact hu.mo t ht
    .rw[Al9 (u:=⟨c,t.M⟩) hi rfl m,hv m,Da hx,Te,Tf];simp only[c5,G,cf];split <;> grind
   .have g:=Avd (m:=x.M) (ts:=u) λt ht e=>hex ⟨t,ht,e⟩;refine⟨((j+1:Nat),Fk (u++[x]),u++[x]),?_,⟨j+1,u++[x],rfl,ω,⟨?_,?_,?_⟩,ζ,λm=>?_⟩,ζ⟩
    .simp only[g,Aq,Ad];rw[Ds ζ,Ad,Ag6 _ _ _ g,Avb]
    .refine pairwise_append.2 ⟨hu.dst,pairwise_singleton _ _,λa ha b hb=>?_⟩;simp only[Et]at hb;subst hb;exact λe=>hex ⟨a,ha,e⟩
    .intro w hw;rcases Ei.1 hw with hw|hw
     .exact (hu.tb w hw).mono ω
     .simp only[Et]at hw;subst hw;exact hb.mono ω
    .intro w hw;rcases Ei.1 hw with hw|hw
     .exact hu.mo w hw
     .simp only[Et]at hw;subst hw;exact E
    .rw[Te,hv m,Da hx,Te];grind
  .have:j=l.length:=ω;subst this;rw[Db]at hv;simp only[Ay (ω:¬(l.length:Int)<(l.length:Int)),Aq];exact .inr ⟨_,rfl,u,rfl,hu,q,hv⟩
 .rintro _ ⟨u,rfl,h1,h2,h3⟩;exact⟨_,rfl,u,rfl,h1,h2,h3⟩
theorem Ama (t u:Aj) (h:MSz t.M):Qs t u=some (Ey t.M u.M):=by unfold Qs;rw[Ata _ _ h];rfl
theorem A7q (A R:List α) (x y:α):((A++y::x::R).set (A.length+1) y).set A.length x=A++x::y::R:=by induction A with| nil=>rfl| cons a A ih=>simp only[Ed,D8,set_cons_succ,ih]
theorem Avg (A R:List α) (x:α):(A++x::R)[A.length]? = some x:=ψ
theorem A7r (A R:List α) (x y:α):(A++y::x::R)[A.length+1]? = some x:=by induction A with| nil=>rfl| cons a A ih=>simp
theorem A7s {step:Int×List Aj->Option ((Int×List Aj)⊕(Int×List Aj))} (N:Nat) (G:N<4611686018427387904) (b:∀(x:Aj) (R:List Aj),step (0,x::R)=some (.inr (0,x::R))) (l:∀(A R:List Aj) (x y:Aj),(∀t∈A++y::x::R,MSz t.M)->(A++y::x::R).length<=N->step (((A.length+1:Nat):Int),A++y::x::R) = if Ey x.M y.M<0 then some (.inl ((A.length:Int),A++x::y::R)) else some (.inr (((A.length+1:Nat):Int),A++y::x::R))) : ∀(n:Nat) (A R:List Aj) (x:Aj),A.length=n->(∀t∈A++x::R,MSz t.M)->(A++x::R).length<=N -> ∃f i,An step ((A.length:Int),A++x::R)=some ((f.length:Int),f++x::(i++R))/\A=f++i/\(∀a∈i,ltT x a)/\∀q y,f=q++[y]->¬ltT x y:=by
 intro n;induction n with
 | zero=>intro A R x g _ _;have:A = []:=Fu.1 g;subst this;exact⟨[],[],Gn (b x R),rfl,nofun,(λq y h=>by simp at h)⟩
 | succ n ih=>
  intro A R x g k c;obtain⟨B,y,rfl⟩:∃B y,A=B++[y]:=by
   rcases eq_nil_or_concat A with h|⟨B,y,h⟩
   .rw[h]at g;cases g
   .exact⟨B,y,by simpa using h⟩
  have u:B.length=n:=(by simpa using g);have E:(B++[y])++x::R=B++y::x::R:=ψ;have el:(((B++[y]).length:Nat):Int)=((B.length+1:Nat):Int):=ψ;rw[E]at k c ⊢;rw[el];have j:=l B R x y k c;by_cases hc:Ey x.M y.M<0
  .rw[Au hc]at j;obtain⟨f,i,h1,h2,h3,D⟩:=ih B (y::R) x u (by intro t ht;refine k t ?_;simp only[Ei,F1]at ht ⊢;rcases ht with h|h|h|h <;> simp[h]) (by simpa using c);refine⟨f,i++[y],?_,by rw[h2];simp,?_,D⟩
   .rw[Lz j,h1];simp
   .intro a ha;rcases Ei.1 ha with ha|ha
    .exact h3 a ha
    .simp only[Et]at ha;subst ha;exact hc
  .rw[Ar hc]at j;refine⟨B++[y],[],?_,ψ,nofun,?_⟩
   .rw[Gn j];simp
   .intro q z s;have:=append_inj' s rfl;have e:y=z:=(by simpa using this.2);subst e;exact hc
theorem A7t {a b c:Aj} (h:ltT a b) (h':ltT b c):ltT a c:=Agw h h'
theorem A7u {c j:List Aj} {x:Aj} (u:(c++j).Pairwise ltT) (h2:∀a∈j,ltT x a) (h1:∀g y,c=g++[y]->¬ltT x y) (hd:∀a∈c,a.M≠x.M):(c++x::j).Pairwise ltT:=by
 obtain⟨i,s,l⟩:=pairwise_append.1 u;have hx:∀a∈c,ltT a x:=by
  intro a ha;rcases eq_nil_or_concat c with h|⟨g,y,h⟩
  .rw[h]at ha;cases ha
  .have h:c=g++[y]:=(by simpa using h);have f:ltT y x:=by
    have q:=h1 g y h;have z:=hd y (by rw[h];simp);unfold ltT at *;rcases Int.lt_trichotomy (Ey x.M y.M) 0 with k|k|k
    .exact (q k).elim
    .exact (z (Rg.1 k).symm).elim
    .exact Auq.1 k
   rw[h]at ha i;rcases Ei.1 ha with ha|ha
   .exact A7t ((pairwise_append.1 i).2.2 a ha y ψ) f
   .simp only[Et]at ha;subst ha;exact f
 refine pairwise_append.2 ⟨i,pairwise_cons.2 ⟨h2,s⟩,λa ha b hb=>?_⟩;rcases F1.1 hb with rfl|hb
 .exact hx a ha
 .exact l a ha b hb
noncomputable def Ab5:Int×List Aj->Option ((Int×List Aj)⊕(Int×List Aj)):=λ(v31,b)=> (show OB from bif v31>(0:Int) then ((Ag b v31).bind λv33=> (Ag b (Ac (v31-1))).bind λg=> (Qs v33 g).bind λv35=> some (decide (v35<(0:Int)))) else some false).bind λf=>
 bif f then ((Ag b (Ac (v31-1))).bind λv37=> (Ag b v31).bind λc=> (Ag b v31).bind λv39=> (Ag (C2 b v31 v37) (Ac (v31-1))).bind λv40=> some (.inl ((Ac (v31-1)),(C2 (C2 b v31 v37) (Ac (v31-1)) c)))) else some (.inr (v31,b))
theorem A7v (y:Aj) (R:List Aj):Ab5 (0,y::R)=some (.inr (0,y::R)):=by unfold Ab5;simp only[Ay (ω:¬(0:Int)>0),Aq,Ad]
theorem A7w (h:N<=1099511627776) (A R:List Aj) (u y:Aj) (b:∀t∈A++y::u::R,MSz t.M) (c:(A++y::u::R).length<=N):Ab5 (((A.length+1:Nat):Int),A++y::u::R) = if Ey u.M y.M<0 then some (.inl ((A.length:Int),A++u::y::R)) else some (.inr (((A.length+1:Nat):Int),A++y::u::R)):=by
 have g:A.length+1<N:=by simp at c;omega
 have f:Ac (((A.length+1:Nat):Int)-1)=(A.length:Int):=by rw[Ac,Cj] <;> omega
 unfold Ab5;simp only[As (ω:((A.length+1:Nat):Int)>0),Am,f,Bu (n:=A.length+1) rfl (A7r A R u y),Bu (n:=A.length) rfl (Avg A (u::R) y),Ad,Ama u y (b u ψ)];by_cases hc:Ey u.M y.M<0
 .rw[As hc,Au hc];simp only[Am];rw[He (n:=A.length+1) rfl,He (n:=A.length) rfl,A7q];have:Ag ((A++y::u::R).set (A.length+1) y) (A.length:Int)=some y:=(by refine Bu rfl ?_;rw[getElem?_set_ne ω];exact Avg A (u::R) y);rw[this];rfl
 .rw[Ay hc,Ar hc];rfl
theorem A7x (b:List Aj) (hd:Dst b) (I:∀t∈b,MSz t.M) (M:b.length<=1099511627776) : ∃R,Aae 0 (b.length:Int) b=some R/\R.Perm b/\R.Pairwise ltT:=by
 unfold Aae;cases b with
 | nil=>refine⟨[],?_,Perm.refl _,Pairwise.nil⟩;refine K4 0 (λ_=>((1:Int),([]:List Aj))) (by simp[Ac,Cj]) (λj hj=>ω) ⟨[],?_,rfl⟩;simp
 | cons z0 A=>
 generalize f:z0::A=b at *;have hpos:1<=b.length:=by rw[<-f];simp
 refine Ee (λs=>∃(i:Nat) (S:List Aj),s=((i:Int),S++b.drop i)/\1<=i/\i<=b.length/\S.length=i/\S.Perm (b.take i)/\S.Pairwise ltT) (λs=>b.length-s.1.toNat) (λR=>R.Perm b/\R.Pairwise ltT) ⟨1,[z0],by rw[<-f];simp[Ac,Cj],ω,hpos,rfl,by rw[<-f];simp,pairwise_singleton _ _⟩ ?_ ?_
 .rintro _ ⟨i,S,rfl,J,hi,G,c,k⟩;rcases Ch i b.length with h|h
  .have hx:b[i]? = some b[i]:=Bt h;generalize b[i]=x at hx;have g:b.drop i=x::b.drop (i+1):=N2 hx;have z:(S++x::b.drop (i+1)).length=b.length:=ζ;have y:∀t∈S++x::b.drop (i+1),t∈b:=by
    intro t ht;rcases Ei.1 ht with ht|ht
    .exact mem_of_mem_take (c.mem_iff.1 ht)
    .rw[<-g]at ht;exact mem_of_mem_drop ht
   simp only[As (ω:(i:Int)<(b.length:Int)),Am,C9 h ω];rw[g];left;obtain⟨q,l,h1,h2,h3,L⟩:=A7s (step:=Ab5) b.length ω A7v (A7w ω) S.length S (b.drop (i+1)) x rfl (λt ht=>I t (y t ht)) (by rw[z];exact Nat.le_refl _);rw[G]at h1;have hp:(q++x::l).Perm (b.take (i+1)):=(by rw[Da hx];have:(q++x::l).Perm ((q++l)++[x]):=(by rw[append_assoc];exact Perm.append_left q (perm_append_singleton x l).symm);exact this.trans (by rw[<-h2];exact c.append_right [x]));refine⟨(((i+1:Nat):Int),(q++x::l)++b.drop (i+1)),bnd h1 ψ,⟨i+1,q++x::l,rfl,ω,ω,?_,hp,?_⟩,ζ⟩
   .rw[hp.length_eq,length_take];omega
   .rw[h2]at k;refine A7u k h3 L λa ha=>?_;have E:a∈b.take i:=c.mem_iff.1 (by rw[h2];simp[ha]);have B:x∈b.drop i:=(by rw[g];simp);have D:(b.take i++b.drop i).Pairwise λt u=>t.M≠u.M:=(by rw[take_append_drop];exact hd);exact (pairwise_append.1 D).2.2 a E x B
  .have:i=b.length:=ω;subst this;rw[Db]at c;simp only[Ay (ω:¬(b.length:Int)<(b.length:Int)),Aq,drop_length,append_nil];exact .inr ⟨S,rfl,c,k⟩
 .rintro R ⟨h1,h2⟩;exact⟨R,rfl,h1,h2⟩
theorem M3 {l:List α} (h:n=l.length):Gf n l=some ():=by unfold Gf;rw[Au h]
theorem A7y {s:ByteArray} (h0:0<=i) (h:i.toNat<s.size):∃c,Kn s i=some c:=by unfold Kn;rw[Au h0];exact⟨_,getElem?_pos s i.toNat h⟩
set_option maxRecDepth 20000 in
theorem Avh {n:Nat} (h:n<256):∃v,Uk (Ba (n:Int))=some v:=by
 unfold Uk Aes;rw[Ba,Du ω ω,Ay ω];simp only[Aq,Ad];rw[Ay ω];simp only[Aq,Ad];rw[Ay ω];simp only[Aq,Ad];have b:wu8 (n:Int)=(n:Int):=by rw[wu8];unfold IntKind.wrap;simp[IntKind.bits,IntKind.signed];omega
 rw[b];generalize g:ByteArray.mk _=T;have f:T.size=256:=by rw[<-g];rfl
 obtain⟨c,hc⟩:=A7y (s:=T) (i:=(n:Int)) ω (by rw[f];simpa using h);rw[hc];exact⟨_,rfl⟩
theorem A7z (b:List Aj) (hd:Dst b) (f:∀t∈b,MSz t.M) (c:b.length<=12):∃R,Pj b=some R/\R.Perm b/\R.Pairwise ltT:=by
 obtain⟨R,h1,h2,h3⟩:=A7x b hd f ω;obtain⟨v,hv⟩:=Avh (n:=b.length) ω;refine⟨R,?_,h2,h3⟩;unfold Pj;rw[Nat.ble_eq_true_of_le c,Am];unfold Aki;rw[hv,Ad];have hp:Zy 0 (b.length:Int) v b=some R:=by unfold Zy;refine bnd (a:=R) (Gn ?_) rfl;have w:Ac ((b.length:Int)-0)=(b.length:Int):=ξ;simp only[w,As (ω:(b.length:Int)<=12),Am,h1,Ad,M3 h2.length_eq.symm]
 rw[hp,Ad,M3 h2.length_eq.symm];rfl
def clT (t:Aj):Aj:=⟨Cb (sv t.C) (nv t.C) (dv t.C),t.M⟩
theorem Avi (p:List Aj) (hk:k<34359738000) (hp:∀t∈p,RB k t.C/\MSz t.M) (b:p.length<=1048576):Wv p=some (p.map clT):=by
 unfold Wv;refine F3 p (λj=>((j:Int),(p.take j).map clT)) rfl ω ?_ ?_
 .intro j x hj hx h1 h2 h3;obtain⟨a1,a2⟩:=hp x (Bv hx);simp only[h1,h2,h3,Am,Ad,Alk x.C k a1 ω,A7f x.M a2];rw[Ds ζ,Ad,Da hx];simp[clT]
 .intro h1;exact⟨p.map clT,ψ,rfl⟩
theorem Avj (p:List Aj) (m:Bj):cf (p.map clT) m=cf p m:=by induction p with| nil=>rfl| cons t p ih=>simp only[map_cons,cf,ih,clT];rw[O1 _ _ _ (F4 _)];rfl
theorem Avk (h:p.Perm q) (m:Bj):cf p m=cf q m:=by induction h with| nil=>rfl| cons x _ ih=>simp only[cf,ih]| swap x y l=>simp only[cf];grind| trans _ _ h1 h2=>rw[h1,h2]
def nzT (t:Aj):Bool:=decide (rq t.C≠0)
theorem Avl (p:List Aj) (m:Bj):cf (p.filter nzT) m=cf p m:=by
 induction p with
 | nil=>rfl
 | cons t p ih=>
  by_cases h:rq t.C=0
  .rw[filter_cons_of_neg (by simp[nzT,h]),ih];simp only[cf,h];grind
  .rw[filter_cons_of_pos (by simp[nzT,h])];simp only[cf,ih]
theorem Avm (x:Rat):(N6 x != (0:Int))=decide (x≠0):=by
 unfold N6;by_cases h1:x<0
 .rw[Au h1];have:x≠0:=(by intro e;subst e;exact absurd h1 δ);simp[this]
 .rw[Ar h1];by_cases h2:0<x
  .rw[Au h2];have:x≠0:=(by intro e;subst e;exact absurd h2 δ);simp[this]
  .rw[Ar h2];have:x=0:=Rat.le_antisymm (Rat.not_lt.1 h2) (Rat.not_lt.1 h1);simp[this]
theorem Amb {f:α->Bool} {l:List α} {x:α} (h:l[j]? = some x):(l.take (j+1)).filter f=(l.take j).filter f++(if f x then [x] else []):=by rw[Da h,filter_append];congr 1;cases k:f x <;> simp[filter,k]
theorem A70 {P:Bj->Prop} (q:∀m,P m->CMo m) (o:List (ByteArray×Int)) (ts:List Aj) (h:Col k P ts) (hk:k<34359738000) (A:ts.length<=1000) (z:∀c:List Aj,c.length<=ts.length->Dst c->(∀t∈c,MSz t.M)->∃R,Pj c=some R/\R.Perm c/\R.Pairwise ltT) : ∃R,Lj o ts=some (R,0)/\CP R/\(∀m,cf R m=cf ts m)/\(∀t∈R,P t.M/\RB (k+1) t.C)/\R.length<=ts.length:=by
 unfold Lj;have g:(ts.filter nzT).length<=ts.length:=length_filter_le _ _;obtain⟨S,y,f,s⟩:=z (ts.filter nzT) g (Pairwise.filter _ h.dst) (λt ht=>(q _ (h.mo t (mem_filter.1 ht).1)).sz);have b:∀t∈S,t∈ts/\rq t.C≠0:=by intro t ht;have:=mem_filter.1 (f.mem_iff.1 ht);exact⟨this.1,by simpa[nzT] using this.2⟩
 refine⟨S.map clT,?_,⟨?_,?_⟩,?_,?_,?_⟩
 .refine F3 ts (λj=>((j:Int),(ts.take j).filter nzT)) rfl ω ?_ ?_
  .intro j x hj hx h1 h2 h3;have hb:=h.tb x (Bv hx);have l:((ts.take j).filter nzT).length<=ts.length:=Nat.le_trans (length_filter_le _ _) (by rw[length_take];omega);simp only[h1,h2,h3,Am,Ad,(Aby hb hk).1,Avm];rw[Amb hx];by_cases i:rq x.C=0
   .have:nzT x=false:=(by simp[nzT,i]);rw[Ay (by simpa using i),this];simp
   .have:nzT x=true:=(by simp[nzT,i]);rw[As i,this];simp only[Am];rw[Ds ζ];simp
  .intro h1;refine⟨ts.filter nzT,by simp only[h1,Aq,Db],?_⟩;rw[Ay ω];simp only[Aq];rw[y,Ad,M3 f.length_eq.symm,Ad, Avi (k:=k) S hk (λt ht=>⟨h.tb t (b t ht).1,(q _ (h.mo t (b t ht).1)).sz⟩) (by rw[f.length_eq];omega)];rfl
 .rw[pairwise_map];exact s
 .intro t ht;obtain⟨u,hu,rfl⟩:=mem_map.1 ht;refine⟨Re _ _ _ (F4 _),?_⟩;show rq (Cb _ _ _)≠0;rw[O1 _ _ _ (F4 _)];exact (b u hu).2
 .intro m;rw[Avj,Avk f,Avl]
 .intro t ht;obtain⟨u,hu,rfl⟩:=mem_map.1 ht;exact⟨h.mo u (b u hu).1,At0 (h.tb u (b u hu).1)⟩
 .rw[C6,f.length_eq];exact g
theorem Amc (x:Cd) (g:CSz x) (ps:List (List Aj)) (B:∀p∈ps,∀t∈p,TSz t) (J:ps.length<=1048576) : ∃r,Mn x ps=some r/\(((G6 x/\∀p∈ps,Hy x.D x.V x.E p=true)/\∃A,r = .inl (true,x,A,[],x.D,x.V,x.E.G,x.E.U,x.E.R)/\Dv x.D x.V x.E A) \/ ((¬(G6 x/\∀p∈ps,Hy x.D x.V x.E p=true))/\r = .inr false)):=by
 obtain⟨b,b1,b2⟩:=Afs g.ds;have I:=g.nv;have G:=g.rs;unfold Mn;rw[b1,Xu x.D x.E 0 ω];by_cases l:x.V.length<=3000
 .rw[Ay ω];simp only[Aq,Ad];cases b with
  | false=>exact⟨_,rfl,.inr ⟨λh=>(by have:=b2.2 h.1.2.1;cases this),rfl⟩⟩
  | true=>
   have hv:=b2.1 rfl;simp only[bnt,Aq];cases D:(E6 x.D 0 x.E&&decide (Bz x.E<=200)) with
   | false=>exact⟨_,rfl,.inr ⟨λh=>(by have:=h.1.2.2.1;rw[show G1 x.D x.E=false from D]at this;cases this),rfl⟩⟩
   | true=>
    simp only[bnt,Aq,Ad];refine Ee (λi=>∃j:Nat,i=j/\j<=x.V.length/\(x.V.take j).all (G1 x.D)=true) (λi=>x.V.length-i.toNat) (λz=>match z with|.inl r=>r=false/\¬G6 x | .inr _=>G6 x) ⟨0,rfl,ω,ψ⟩ ?_ ?_
    .rintro i ⟨j,rfl,hj,c⟩;rcases Ch j x.V.length with h|h
     .have ht:x.V[j]? = some x.V[j]:=Bt h;generalize x.V[j]=t at ht;have:=g.vs t (Bv ht);simp only[As (ω:(j:Int)<(x.V.length:Int)),Am,Bu rfl ht,Ad,Xu x.D t 0 ω,C9 h ω];rw[show (E6 x.D 0 t&&decide (Bz t<=200))=G1 x.D t from rfl];cases hg:G1 x.D t with| true=>exact .inl ⟨_,rfl,⟨j+1,rfl,ω,by rw[Da ht,all_append,c];simp[hg]⟩,ζ⟩| false=>refine .inr ⟨.inl false,rfl,rfl,λhh=>?_⟩;have:=G5.1 hh.2.2.2 t (Bv ht);rw[hg]at this;cases this
     .have:j=x.V.length:=ω;subst this;rw[Db]at c;exact .inr ⟨.inr (),ψ,l,hv,D,c⟩
    .rintro (r|u) f
     .obtain⟨rfl,f⟩:=f;exact⟨_,rfl,.inr ⟨λh=>f h.1,rfl⟩⟩
     .have hf:G6 x:=f;simp only;refine Ee (λs=>∃(j:Nat) (o:List (ByteArray×Int)),s=((j:Int),o)/\j<=ps.length/\Dv x.D x.V x.E o/\∀p∈ps.take j,Hy x.D x.V x.E p=true) (λs=>ps.length-s.1.toNat) (λz=>match z with|.inl r=>r=false/\¬(∀p∈ps,Hy x.D x.V x.E p=true) | .inr o=>Dv x.D x.V x.E o/\∀p∈ps,Hy x.D x.V x.E p=true) ⟨0,[],rfl,ω,(λq h=>by cases h),(λq h=>by simp at h)⟩ ?_ ?_
      .rintro _ ⟨j,o,rfl,hj,E,c⟩;rcases Ch j ps.length with h|h
       .have ht:ps[j]? = some ps[j]:=Bt h;generalize ps[j]=p at ht;have k:=Bv ht;obtain⟨A,c1,c2⟩:=A6o (hf.ctx g) [] E p (B p k);simp only[As (ω:(j:Int)<(ps.length:Int)),Am,Bu rfl ht,Ad,c1,C9 h ω];cases y:Hy x.D x.V x.E p with
        | true=>
         refine .inl ⟨_,rfl,⟨j+1,A,rfl,ω,c2,λq hq=>?_⟩,ζ⟩;rw[Da ht]at hq;rcases Ei.1 hq with hq|hq
         .exact c q hq
         .simp only[Et]at hq;subst hq;exact y
        | false=>refine .inr ⟨.inl false,rfl,rfl,λhh=>?_⟩;have:=hh p k;rw[y]at this;cases this
       .have:j=ps.length:=ω;subst this;rw[Db]at c;exact .inr ⟨.inr o,ψ,E,c⟩
      .rintro (r|o) hw
       .obtain⟨rfl,hw⟩:=hw;exact⟨_,rfl,.inr ⟨λh=>hw h.2,rfl⟩⟩
       .exact⟨_,rfl,.inl ⟨⟨hf,hw.2⟩,o,rfl,hw.1⟩⟩
 .rw[As ω];exact⟨_,rfl,.inr ⟨λh=>l h.1.1,rfl⟩⟩
theorem Amd {vars:List Af} {res:Af} {m:Bj} (h:Jp data vars res m=true) (k:MSz m):CMo m:=by
 have hf:=(Agu h).2;unfold Jp at h;simp only[C3,Dt]at h;obtain⟨⟨h1,h2⟩,h3⟩:=h;have b:∀f∈m.F,0<=Eh data vars res f:=by intro f hf;obtain⟨j,hj⟩:=Ht hf;have:=Jg h1 hj;simp only[P5,C3,Dt]at this;omega
 have ha:∀a∈m.A,1<=a.P/\Ip a.L=true/\a.L.T≠[]:=by intro a ha;obtain⟨j,hj⟩:=Ht ha;have:=Jg h2 hj;simp only[N4,C3,Dt]at this;refine⟨this.1.1.1.1,this.1.1.1.2,λe=>?_⟩;have i:=this.1.1.2;rw[e]at i;simp at i
 obtain⟨a1,a2,a3⟩:=Atj m.A λa h=>by have:=(ha a h).1;omega
 have f1:=A5l m.F b;have al:(m.A.length:Int)<=Dy m.A:=by have key:∀l:List Bi,(∀a∈l,1<=a.P)->(l.length:Int)<=Dy l:=(by intro l;induction l with| nil=>intro _;simp[Dy]| cons f fs ih=>intro c;have h1:=c f ψ;have h2:=ih (λg hg=>c g (by simp[hg]));unfold Dy at *;simp only[map_cons,sum_cons,D8];omega);exact key _ λa h=>(ha a h).1
 exact⟨k,hf,ω,λa h=>⟨(ha a h).2.1,(ha a h).2.2,(ha a h).1,by have:=a3 a h;omega⟩⟩
def Ii (x:Cd) (m:Bj):Prop:=Jp x.D x.V x.E m=true/\MSz m
theorem Ii.cmo {m:Bj} (h:Ii x m):CMo m:=Amd h.1 h.2
structure Ho (x:Cd) (p:List Aj):Prop where
 can:Hy x.D x.V x.E p=true
 sz:∀t∈p,TSz t
theorem Ho.cp (h:Ho x p):CP p:=(Abz.1 h.can).2.1
theorem Ho.mo (h:Ho x p):∀t∈p,Ii x t.M:=λt ht=>⟨(Abz.1 h.can).2.2 t ht,(h.sz t ht).mo⟩
theorem Ho.of (hc:CP p) (b:∀t∈p,Ii x t.M) (c:∀t∈p,RB 1048576 t.C) (f:p.length<=1000):Ho x p := ⟨Abz.2 ⟨f,hc,λt ht=>(b t ht).1⟩,λt ht=>⟨c t ht,(b t ht).2⟩⟩
theorem Ho.tb (h:Ho x p):∀t∈p,RB 1048576 t.C/\Ii x t.M:=λt ht=>⟨(h.sz t ht).co,h.mo t ht⟩
theorem A71 (i:CSz x) (hf:G6 x) (hp:Ho x p) (hq:Ho x q):∃f,Mn x [p,q]=some (.inl (true,x,f,[],x.D,x.V,x.E.G,x.E.U,x.E.R)):=by
 have b:∀r∈[p,q],Ho x r:=by intro r c;simp only[F1,not_mem_nil,or_false]at c;rcases c with rfl|rfl <;> assumption
 obtain⟨r,h,g⟩:=Amc x i [p,q] (λr c=>(b r c).sz) ψ;rcases g with⟨_,f,e,_⟩|⟨j,_⟩
 .exact⟨f,by rw[h,e]⟩
 .exact (j ⟨hf,λr c=>(b r c).can⟩).elim
def bc:Nat->Nat->Nat
 | _,0=>1
 | 0,_+1=>0
 | n+1,k+1=>bc n k+bc n (k+1)
theorem J0 (n:Nat):bc n 0=1:=by cases n <;> rfl
theorem Ab6:∀{n k:Nat},n<k->Ib n k=0
 | n,0,h=>absurd h ω
 | n,k+1,h=>by
  rw[Ib];by_cases e:n<k
  .rw[Ab6 e,Nat.zero_mul]
  .rw[show n-k=0 by omega,Nat.mul_zero]
theorem Avn (n:Nat):∀k,Ib (n+1) (k+1)=(n+1)*Ib n k
 | 0=>by simp[Ib]
 | k+1=>by rw[Ib,Avn n k,Ib,show n+1-(k+1)=n-k by omega,Nat.mul_assoc]
theorem Yd:∀n k,Ib n k=fct k*bc n k
 | n,0=>by rw[J0];rfl
 | 0,k+1=>by rw[Ab6 ω];simp[bc]
 | n+1,k+1=>by
  have h1:=Yd n (k+1);have h2:=Yd n k;rw[Avn,bc,Nat.mul_add,<-h1,fct,Ib,Nat.mul_right_comm,<-h2];by_cases e:k<=n
  .rw[<-Nat.mul_add,Nat.mul_comm,show k+1+(n-k)=n+1 by omega]
  .rw[Ab6 ω];simp
theorem Ab7:∀n k,bc n k<=2 ^ n
 | n,0=>by rw[J0];exact Nat.one_le_two_pow
 | 0,k+1=>by simp[bc]
 | n+1,k+1=>by have h1:=Ab7 n (k+1);have h2:=Ab7 n k;rw[bc,Nat.pow_succ];omega
def cR (n:Nat):Ao:=Cb false n 1
theorem Tg (n:Nat):sv (cR n)=false/\nv (cR n)=n/\dv (cR n)=1:=by
 obtain⟨g,f,c,b⟩:=Agi false n 1 δ;refine⟨?_,?_,?_⟩
 .by_cases h:n=0
  .exact b h
  .exact c h
 .unfold cR;rw[g];simp
 .unfold cR;rw[f];simp
theorem O2 (h:Bp n<=k) (hk:1<=k):RB k (cR n):=N5 _ _ _ _ h (by rw[S9];exact hk) hk
theorem A72 {b:Nat} (ha:Bp a<=K) (hb:Bp b<=K) (c:1<=K) (h:K<60000000000):Iy (cR a) (cR b)=some (cR (a+b)):=by obtain⟨a1,a2,a3⟩:=Tg a;obtain⟨b1,b2,f⟩:=Tg b;rw[Agh _ _ K K (O2 ha c) (O2 hb c) ω ω,a1,a2,a3,b1,b2,f];simp[Lv,Kd,cR]
theorem A73 (ha:Bp a<=K) (b:1<=K) (h:K<60000000000):Ik (cR a)=some (if a=0 then 0 else 1):=by obtain⟨a1,a2,a3⟩:=Tg a;rw[Agg _ K (O2 ha b) ω,a1,a2];simp[K7]
theorem Ag7:D0 0=some (cR 0):=Abp 0 δ δ
theorem Mg:D0 1=some (cR 1):=Abp 1 δ δ
theorem Avo (n k:Nat) (b:n<1000000000) (hk:k<=64):Zv (n:Int) (k:Int)=some (cR (bc n k),true):=by
 unfold Zv;have e:(if (n:Int)>0 then (n:Int) else 0)=(n:Int):=by split <;> omega
 simp only[Ay (ω:¬(k:Int)<0),Aq,Ay (ω:¬(k:Int)>64),Ad,e,At3 n k b hk];rw[Yd,show Cb false (fct k*bc n k) (fct k)=Cb false (fct k*bc n k) (fct k*1) by rw[Nat.mul_one],Tb _ _ _ _ (X7 k)];rfl
theorem Avp (n k:Nat) (b:n<1000000000) (hk:k<=64):Xm (n:Int) (k:Int)=some (cR (bc n k),true):=Avo n k b hk
theorem Ame:∀(l:List Af) (r:List Bool) (s:Nat) (n:Nat) (p:Int) (L:Nat->Option Af),l.length=r.length->(∀j,L (s+j)=l[j]?) -> (((r.zipIdx s).filter λq=>!q.1).map λq=>(q.2:Int))[n]? = some p->∃(m:Nat) (a:Af),p=m/\L m=some a/\(F7 l r)[n]? = some a
 | [],[],s,n,p,L,_,_,h=>by simp at h
 | a::l,b::r,s,n,p,L,i,g,h=>by
  have c:l.length=r.length:=(by simpa using i);have f:∀j,L (s+1+j)=l[j]?:=λj=>by rw[show s+1+j=s+(j+1) by omega,g];rfl
  cases b with
  | true=>simp only[zipIdx_cons,filter_cons,bnt]at h;obtain⟨m,x,h1,h2,h3⟩:=Ame l r (s+1) n p L c f (by simpa using h);exact⟨m,x,h1,h2,by simpa[F7] using h3⟩
  | false=>simp only[zipIdx_cons,filter_cons,Bool.not_false,if_true,map_cons]at h;cases n with| zero=>simp only[getElem?_cons_zero,Option.some.injEq]at h;exact⟨s,a,h.symm,by have:=g 0;simpa using this,by simp[F7]⟩| succ n=>simp only[getElem?_cons_succ]at h;obtain⟨m,x,h1,h2,h3⟩:=Ame l r (s+1) n p L c f h;exact⟨m,x,h1,h2,by simpa[F7] using h3⟩
 | [],_::_,_,_,_,_,h,_,_=>by simp at h
 | _::_,[],_,_,_,_,h,_,_=>by simp at h
theorem A74 {l:List Af} {r:List Bool} (b:l.length=r.length) {p:Int} (h:(I5 r)[n]? = some p):∃(m:Nat) (a:Af),p=m/\l[m]? = some a/\(F7 l r)[n]? = some a := Ame l r 0 n p (λj=>l[j]?) b (λj=>ψ) (by unfold I5 at h;exact h)
theorem A75 (l:List Af) (r:List Bool) (c:l.length=r.length):(I5 r).length=(F7 l r).length:=by
 unfold I5 F7;rw[C6,C6];have key:∀(l:List Af) (r:List Bool) (s:Nat),l.length=r.length->((r.zipIdx s).filter λq=>!q.1).length=((l.zip r).filter λp=>!p.2).length:=by
  intro l;induction l with
  | nil=>intro r s h;have:r = []:=Fu.1 h.symm;subst this;rfl
  | cons a l ih=>intro r s h;cases r with| nil=>simp at h| cons b r=>have:=ih r (s+1) (by simpa using h);cases b <;> simp[this]
 exact key l r 0 c
theorem Avq {t:Af} (hk:t.G=5):∀(n:Nat) (v:Az),Di v<=n->Ha data v t=true->∀x∈Iu data t.U v,Ha data x t=true/\Di x<=Di v:=by
 intro n;induction n with
 | zero=>intro v h;have:=Ya v;omega
 | succ n ih=>
  intro v h q x hx;have s:=Me v;obtain⟨y,_,_,_,k,f⟩:=Ags hk q;rw[Aue]at hx;rcases F1.1 hx with rfl|hx
  .exact⟨q,Nat.le_refl _⟩
  .have key:∀(l:List Az) (r:List Bool),(∀(j:Nat) (w:Az),l[j]? = some w->r[j]? = some true->Ha data w t=true)->E9 l<=n->x∈Iv data t.U l r->Ha data x t=true/\Di x<=E9 l:=by
    intro l;induction l with
    | nil=>intro r _ _ hx;simp[Iv]at hx
    | cons w l c=>
     intro r i u hx;cases r with
     | nil=>simp[Iv]at hx
     | cons b r=>
      have hw:E9 (w::l)=Di w+E9 l:=(by simp[E9]);have g:∀(j:Nat) (w':Az),l[j]? = some w'->r[j]? = some true->Ha data w' t=true:=λj w' h1 h2=>i (j+1) w' h1 h2;cases b with
      | true=>
       simp only[Iv,Am,Ei]at hx;rcases hx with hx|hx
       .have:=ih w ω (i 0 w rfl rfl) x hx;exact⟨this.1,ω⟩
       .have:=c r g ω hx;exact⟨this.1,ω⟩
      | false=>simp only[Iv,Aq,nil_append]at hx;have:=c r g ω hx;exact⟨this.1,ω⟩
   have:=key v.K _ f ω hx;exact⟨this.1,ω⟩
theorem Ye (data:List Ak):∀(is:List Ai) (ts:List Af) (d:Nat),Cy data is ts=some d->is.length=ts.length/\∀(j:Nat) (i:Ai) (t:Af),is[j]? = some i->ts[j]? = some t->∃e,Dj data i t=some e/\e<=d
 | [],[],d,_=>⟨rfl,λj i t h=>by simp at h⟩
 | i::is,t::ts,d,h=>by
  rw[N1]at h;cases h1:Dj data i t with
  | none=>rw[h1]at h;cases h
  | some a=>
   rw[h1,Ad]at h;cases h2:Cy data is ts with
   | none=>rw[h2]at h;cases h
   | some b=>rw[h2]at h;have h:a+b=d:=Eo h;obtain⟨g1,g2⟩:=Ye data is ts b h2;refine⟨by simp[g1],λj i' t' hi ht=>?_⟩;cases j with| zero=>cases hi;cases ht;exact⟨a,h1,ω⟩| succ j=>obtain⟨e,c,f⟩:=g2 j i' t' hi ht;exact⟨e,c,ω⟩
 | [],_::_,_,h=>by simp only[Cy]at h;cases h
 | _::_,[],_,h=>by simp only[Cy]at h;cases h
def M4 (data:List Ak) (t:Af) (e:Ai):Aay:=⟨e.U,e.K,I5 (D3 data t.U e.U),match Jh data t e.U with|some l=>F7 l (D3 data t.U e.U) | none=>[]⟩
def Jj (n:Nat) (f:Nat->Nat):List Ao:=(range (n+1)).map λq=>cR (f q)
theorem Vr (n:Nat) (f:Nat->Nat):(Jj n f).length=n+1:=by simp[Jj]
theorem Th {q:Nat} (f:Nat->Nat) (h:q<=n):(Jj n f)[q]? = some (cR (f q)):=by unfold Jj;rw[getElem?_map,getElem?_range ω];rfl
theorem Avr {q x:Nat} {f:Nat->Nat} (h:q<=n) (h1:g q=x) (h2:∀p,p<=n->p≠q->g p=f p):C2 (Jj n f) (q:Int) (cR x)=Jj n g:=by
 rw[He (n:=q) rfl];apply ext_getElem?;intro i;rw[getElem?_set];rcases Ch i (n+1) with hi|hi
 .rw[Th f ω,Th g ω,Vr];by_cases e:q=i
  .subst e;rw[Au rfl,Au ω,h1]
  .rw[Ar e,h2 i ω (Ne.symm e)]
 .rw[Lp (by rw[Vr];exact hi),Lp (by rw[Vr];exact hi)];split
  .rw[Ar (by rw[Vr];omega)]
  .rfl
theorem Amf {f:Nat->Nat} (h:∀p,p<=n->f p=g p):Jj n f=Jj n g:=by
 apply ext_getElem?;intro i;rcases Ch i (n+1) with hi|hi
 .rw[Th f ω,Th g ω,h i ω]
 .rw[Lp (by rw[Vr];exact hi),Lp (by rw[Vr];exact hi)]
theorem A76 (fl:List Af) (Q:List Bool) (x:Q.length=fl.length) (y:fl.length<=6) {J:Int×List Int×List Af->Option R} (u:J ((Q.length:Int),I5 Q,F7 fl Q)=some r) : (An (S:=(Int×List Int×List Af)) (E:=(Int×List Int×List Af)) (λ(v85,f,c)=> bif v85<(Q.length:Int) then ((Ag Q v85).bind λh=> bif (!h) then ((Cg 8 f [v85]).bind λk=> (Ag fl v85).bind λg=> (Cg 40 c [g]).bind λi=> some (.inl ((Ac (v85+1)),k,i))) else some (.inl ((Ac (v85+1)),f,c))) else some (.inr (v85,f,c))) (0,[],[])).bind J=some r:=by
 have q:∀j,(I5 (Q.take j)).length<=Q.length:=λj=>by unfold I5;rw[C6];refine Nat.le_trans (length_filter_le _ _) ?_;simp;omega
 refine F3 Q (λj=>((j:Int),I5 (Q.take j),F7 (fl.take j) (Q.take j))) (by simp[I5,F7]) ω ?_ ?_
 .intro j b hj hb h1 h2 h3;have ha:fl[j]? = some fl[j]:=Bt ω;generalize fl[j]=a at ha;have s:=Xx (fl.take j) (Q.take j);have:(fl.take j).length<=6:=ζ;have hp:=q j;have l:I5 (Q.take (j+1))=I5 (Q.take j)++bif b then [] else [(j:Int)]:=by unfold I5;rw[A42 hb,filter_append,map_append];cases b <;> rfl
  simp only[h1,h2,h3,Am,Ad,l,Afv ha hb];cases b with| true=>simp| false=>simp only[Bool.not_false,Am,Aq];rw[Ds ζ,Ad,Bu rfl ha,Ad,Ds ζ];rfl
 .intro h1;exact⟨_,by simp only[h1];rfl,by rw[Db,Ih ω];exact u⟩
theorem A77 (n:Nat) (k:n<=100) {J:List Ao->Option R} (h:J (replicate n (cR 0))=some r) : (An (S:=(Int×List Ao)) (E:=(List Ao)) (λ(b,c)=> bif b<(((replicate n (Ao.mk false [] [])).length:Nat):Int) then ((D0 0).bind λf=> (Ag c b).bind λg=> some (.inl ((Ac (b+1)),(C2 c b f)))) else some (.inr c)) (0,replicate n (Ao.mk false [] []))).bind J=some r:=by
 refine F3 (replicate n (Ao.mk false [] [])) (λj=>((j:Int),replicate j (cR 0)++replicate (n-j) (Ao.mk false [] []))) ψ ζ ?_ ?_
 .intro j x hj hx h1 h2 h3;have hj':j<n:=(by simpa using hj);have i:replicate (n-j) (Ao.mk false [] [])=Ao.mk false [] []::replicate (n-(j+1)) (Ao.mk false [] []):=(by rw[show n-j=(n-(j+1))+1 by omega];rfl);simp only[h1,h3,Am,Ag7,Ad,i];rw[Abd (replicate j (cR 0)) _ _ _ j rfl ψ,Ad,Abc _ _ _ _ _ j rfl ψ];rw[replicate_succ'];simp
 .intro h1;exact⟨replicate n (cR 0),by simp only[h1];simp,h⟩
theorem A78:Zo []=some []:=κ
theorem A79 (l:List Int):Zo l=some (l.mergeSort λx y=>decide (x<=y)):=by cases l with| nil=>rw[A78];simp| cons a l=>rfl
theorem A8a (l:List Int):(l.mergeSort λx y=>decide (x<=y)).Pairwise (·<=·):=by have:=pairwise_mergeSort (le:=λx y:Int=>decide (x<=y)) (λa b c h1 h2=>by simp only[Dt]at *;omega) (λa b=>by simp only[Bool.or_eq_true,Dt];omega) l;exact this.imp (λh=>by simpa using h)
structure Asc (b:List Int) (n:Nat) (l:List Int):Prop where
 up:l.Pairwise (· < ·)
 mem:∀y,y∈l↔y∈b.take n
theorem A8b (c:b.Pairwise (·<=·)) {q:Nat} {p:Int} (hp:b[q]? = some p):∀y∈b.take (q+1),y<=p:=by
 intro y hy;obtain⟨i,hi⟩:=Ht hy;rw[getElem?_take]at hi;split at hi
 .rename_i f;by_cases e:i=q
  .subst e;rw[hi]at hp;cases hp;exact Int.le_refl _
  .have h1:=Eg hi;have h2:=Eg hp;have:=(pairwise_iff_getElem.1 c) i q h1 h2 ω;rw[Bt h1]at hi;rw[Bt h2]at hp;cases hi;cases hp;exact this
 .cases hi
theorem Asc.step (g:b.Pairwise (·<=·)) {q:Nat} {p x:Int} (h:Asc b (q+1) l) (hp:b[q]? = some p) (hx:b[q+1]? = some x) (j:x≠p):Asc b (q+2) (l++[x]):=by
 have f:=A8b g hp;have i:p<x:=by have h1:=Eg hp;have h2:=Eg hx;have:=(pairwise_iff_getElem.1 g) q (q+1) h1 h2 ω;rw[Bt h1]at hp;rw[Bt h2]at hx;cases hp;cases hx;omega
 refine⟨?_,λy=>?_⟩
 .rw[pairwise_append];refine⟨h.up,ψ,λa ha c hc=>?_⟩;rw[Et]at hc;subst hc;have:=f a ((h.mem a).1 ha);omega
 .rw[Da hx,Ei,Ei,h.mem y]
theorem Asc.same {q:Nat} {x:Int} (h:Asc b (q+1) l) (hp:b[q]? = some x) (hx:b[q+1]? = some x):Asc b (q+2) l:=by
 refine⟨h.up,λy=>?_⟩;rw[Da hx,Ei,h.mem y];constructor
 .exact .inl
 .rintro (h1|h1)
  .exact h1
  .rw[Et]at h1;subst h1;rw[Da hp];simp
theorem Ab8 {l:List α} {off:Nat} {x:α} (hi:i=j) (hj:j<n) (h:l[off+j]? = some x):Ig l off n i=some x:=by subst hi;unfold Ig;rw[Au ω];simpa using h
theorem A8c {X:Option (Nat×List Int)} {Q:Nat×List Int->Prop} (h:∃r,X=some r/\Q r):∃(m:Nat) (o:List Int),X=some (m,o)/\Q (m,o):=by obtain⟨⟨m,o⟩,h1,h2⟩:=h;exact⟨m,o,h1,h2⟩
theorem A8d {X:Option (Int⊕((Nat×List Int)⊕Unit))} {P:Nat->List Int->Prop} {b:Prop} (h:∃r,X=some r/\∃(m:Nat) (o:List Int),r = .inr (.inl (m,o))/\P m o) : ∃e,X=some (.inr e)/\((∃(m:Nat) (o:List Int),e = .inl (m,o)/\P m o)\/(e = .inr ()/\b)):=by obtain⟨_,h1,m,o,rfl,h2⟩:=h;exact⟨_,h1,.inl ⟨m,o,rfl,h2⟩⟩
theorem A8e (b:List Int) (R:b.Pairwise (·<=·)) (hl:b.length<=1099511627776):∃(m:Nat) (o:List Int),Ws b.length b=some (m,o)/\m<=o.length/\Asc b b.length (o.take m):=by
 unfold Ws;by_cases h2:b.length<2
 .rw[As ω,Am];refine⟨b.length,b,rfl,Nat.le_refl _,?_,λy=>Iff.rfl⟩;rw[Db]
  match b,h2 with| [],_=>simp| [_],_=>simp
 .rw[Ay ω,Aq];refine A8c (Q:=λr:Nat×List Int=>r.1<=r.2.length/\Asc b b.length (r.2.take r.1)) ?_
  .refine Ee (Q:=λr:Nat×List Int=>r.1<=r.2.length/\Asc b b.length (r.2.take r.1)) (λv=>∃j:Nat,v=((j+1:Nat):Int)/\j+1<=b.length/\Asc b (j+1) (b.take (j+1))) (λv=>b.length-v.toNat) (λe:((Nat×List Int)⊕Unit)=>(∃(m:Nat) (o:List Int),e = .inl (m,o)/\m<=o.length/\Asc b b.length (o.take m))\/(e = .inr ()/\Asc b b.length (b.take b.length))) ?_ ?_ ?_ (J:=λz:((Nat×List Int)⊕Unit)=>match z with|.inl (G,E)=>some (G,E) | .inr _=>some (b.length,b))
   .exact⟨0,rfl,ω,by
     refine⟨?_,λy=>Iff.rfl⟩
     match b,h2 with
     | a::_,_=>simp
     | [],h=>simp at h⟩
   .rintro v ⟨j,rfl,hj,N⟩;rcases Ch (j+1) b.length with h|h
    .have hx:b[j+1]? = some b[j+1]:=Bt h;have hp:b[j]? = some b[j]:=Bt ω;generalize b[j+1]=x at hx;generalize b[j]=p at hp;have X:Ac (((j+1:Nat):Int)-1)=((j:Nat):Int):=(by rw[show (((j+1:Nat):Int)-1)=(j:Int) by omega,Ac,Cj] <;> omega);simp only[As (ω:((j+1:Nat):Int)<(b.length:Int)),Am,Ab8 (l:=b) (off:=0) (n:=b.length) (i:=((j+1:Nat):Int)) rfl h (by rw[Nat.zero_add];exact hx),X, Ab8 (l:=b) (off:=0) (n:=b.length) (i:=((j:Nat):Int)) rfl ω (by rw[Nat.zero_add];exact hp),Ad,C9 h ω];by_cases e:x=p
     .subst e;rw[Ew rfl,Am];have A:R0 b.length ((j+1:Nat):Int) ((b.length:Nat):Int)=some (j+1,b.length):=(by unfold R0;rw[Au ω];simp);rw[A,Ad];dsimp only;refine .inr ?_;refine A8d (Ee (Q:=λz:(Int⊕((Nat×List Int)⊕Unit))=>∃(m:Nat) (o:List Int),z = .inr (.inl (m,o))/\m<=o.length/\Asc b b.length (o.take m)) (λz=>∃(w k:Nat) (o:List Int),z=((w:Int),(k:Int),o)/\o.length=b.length/\w<=j+k/\1<=k/\j+1+k<=b.length/\Asc b (j+1+k) (o.take w)/\∀i,w<=i->o[i]? = b[i]?) (λz=>b.length-(j+1)-z.2.1.toNat) (λz=>∃(w k:Nat) (o:List Int),z=((w:Int),(k:Int),o)/\o.length=b.length/\w<=b.length/\Asc b b.length (o.take w)) ?_ ?_ ?_)
      .refine⟨j+1,1,b,rfl,rfl,ω,ω,ω,?_,λ_ _=>rfl⟩;exact N.same hp hx
      .rintro z ⟨w,k,o,rfl,D,hw,hk,Z,f,c⟩;rcases Ch (j+1+k) b.length with h'|h'
       .have hy:b[j+1+k]? = some b[j+1+k]:=Bt h';have hq:b[j+k]? = some b[j+k]:=Bt ω;generalize b[j+1+k]=y at hy;generalize b[j+k]=q at hq;have V:Ac ((k:Int)-1)=((k-1:Nat):Int):=(by rw[show ((k:Int)-1)=((k-1:Nat):Int) by omega,Ac,Cj] <;> omega);have U:Ac ((k:Int)+1)=((k+1:Nat):Int):=C9 (n:=b.length) ω ω;have S:Ac ((w:Int)+1)=((w+1:Nat):Int):=C9 (n:=b.length) ω ω;have i1:Ig o (0+(j+1)) (b.length-(j+1)) (k:Int)=some y:=Ab8 rfl ω (by rw[Nat.zero_add,c _ ω];exact hy);have i2:Ig o (0+(j+1)) (b.length-(j+1)) ((k-1:Nat):Int)=some q:=Ab8 rfl ω (by rw[Nat.zero_add,c _ ω,show j+1+(k-1)=j+k by omega];exact hq);have I:o[w]? = some (o[w]' ω):=Bt _;have i3:Ig o 0 b.length (w:Int)=some (o[w]' ω):=Ab8 rfl ω (by rw[Nat.zero_add];exact I);simp only[As (ω:(k:Int)<((b.length-(j+1):Nat):Int)),Am,i1,i2,i3,V,U,S,Ad];by_cases e:y=q
        .subst e;rw[H9 rfl,Aq];refine .inl ⟨_,rfl,⟨w,k+1,o,rfl,D,ω,ω,ω,?_,c⟩,by simp only[Int.toNat_natCast];omega⟩;have:=Asc.same (q:=j+k) (x:=y) (by rw[show j+k+1=j+1+k by omega];exact f) hq (by rw[show j+k+1=j+1+k by omega];exact hy);rw[show j+1+(k+1)=j+k+2 by omega];exact this
        .rw[Gx e,Am];have B:C2 o (((0:Nat):Int)+(w:Int)) y=o.set w y:=He (n:=w) ω y;have s:(o.set w y).take (w+1)=o.take w++[y]:=(by rw[Da (x:=y) (by rw[getElem?_set,Au rfl,Au ω]),take_set_of_le (Nat.le_refl _)]);rw[B];refine .inl ⟨_,rfl,⟨w+1,k+1,o.set w y,rfl,by simpa using D,ω,ω,ω,?_,?_⟩,by simp only[Int.toNat_natCast];omega⟩
         .rw[s];have:=Asc.step R (q:=j+k) (x:=y) (p:=q) (by rw[show j+k+1=j+1+k by omega];exact f) hq (by rw[show j+k+1=j+1+k by omega];exact hy) e;rw[show j+1+(k+1)=j+k+2 by omega];exact this
         .intro i hi;rw[getElem?_set,Ar ω];exact c i ω
       .have L:j+1+k=b.length:=ω;refine .inr ⟨((w:Int),(k:Int),o),?_,w,k,o,rfl,D,ω,by rw[<-L];exact f⟩;simp only[Ay (ω:¬(k:Int)<((b.length-(j+1):Nat):Int)),Aq]
      .rintro z ⟨w,k,o,rfl,D,hw,f⟩;dsimp only;have g:Wk b.length (w:Int)=some w:=(by unfold Wk;rw[Au ω];simp);by_cases Y:w=0\/w<b.length
       .have u:T5 b.length (w:Int) ((b.length:Nat):Int)=some (.inl (w,b.length)):=(by unfold T5;rw[Au ω,Au ω];simp);have M:R3 o (0+w) (b.length-w) (0:Int)=some (Fq o (0+w) (replicate (b.length-w) 0)):=(by unfold R3;rw[Au ω]);rw[u,Ad];dsimp only;rw[M,Ad,g,Ad];have s:(Fq o (0+w) (replicate (b.length-w) (0:Int))).take w=o.take w:=(by unfold Fq;rw[Nat.zero_add,append_assoc,take_append_of_le_length ζ,take_take,Nat.min_self]);refine⟨_,rfl,w,_,rfl,?_,?_⟩
        .unfold Fq;simp;omega
        .rw[s];exact f
       .have u:T5 b.length (w:Int) ((b.length:Nat):Int)=some (.inr ()):=(by unfold T5;rw[Au ω,Ar ω]);rw[u,Ad];dsimp only;rw[g,Ad];exact⟨_,rfl,w,o,rfl,ω,f⟩
     .rw[C7 e,Aq];refine .inl ⟨_,rfl,⟨j+1,rfl,ω,?_⟩,by simp only[Int.toNat_natCast];omega⟩;have:=Asc.step R N hp hx e;rw[<-Da hx]at this;exact this
    .have:j+1=b.length:=ω;refine .inr ⟨.inr (),?_,.inr ⟨rfl,by rw[<-this];exact N⟩⟩;rw[Ay ω];rfl
   .rintro e (⟨m,o,rfl,h1,h2⟩|⟨rfl,h1⟩)
    .exact⟨(m,o),rfl,h1,h2⟩
    .exact⟨(b.length,b),rfl,Nat.le_refl _,h1⟩
def Fw (b:List Az) (res:Az) (v:Int):Az:=match Ag b v with|some w=>w|none=>res
theorem Amg {b:List Az} (c:b.length=x.V.length) (res:Az) {t:Af} (ht:D4 x.V x.E v=some t):Mo v res b=some (Fw b res v):=by
 unfold Mo Fw;unfold D4 at ht;by_cases h:v = -1
 .subst h;rw[A34 ω];rfl
 .rw[Ar h]at ht;obtain⟨a1,a2,_⟩:=Hf ht;have hi:Ag b v=some (b[v.toNat]' ω):=Bu (n:=v.toNat) ω (Bt _);rw[C7 h,hi];rfl
theorem A8f {b:List Az} {res:Az} (h:∀v∈b,Di v<=N) (h':Di res<=N) (v:Int):Di (Fw b res v)<=N:=by unfold Fw;cases hi:Ag b v with| none=>exact h'| some w=>exact h w (Hf hi).2.2.2
def Jk (x:Cd) (b:List Az) (res:Az) (v:Int):Bool:=match D4 x.V x.E v with|some t=>M1 x.D (Fw b res v) t|none=>false
noncomputable def Yf (cmp:α->α->Option Int) (a0:Int):Int×List α->Option ((Int×List α)⊕(Int×List α)):=λ(v31,b)=> (show OB from bif v31>a0 then ((Ag b v31).bind λv33=> (Ag b (Ac (v31-1))).bind λg=> (cmp v33 g).bind λv35=> some (decide (v35<(0:Int)))) else some false).bind λf=>
 bif f then ((Ag b (Ac (v31-1))).bind λv37=> (Ag b v31).bind λc=> (Ag b v31).bind λv39=> (Ag (C2 b v31 v37) (Ac (v31-1))).bind λv40=> some (.inl ((Ac (v31-1)),(C2 (C2 b v31 v37) (Ac (v31-1)) c)))) else some (.inr (v31,b))
noncomputable def Ab9 (cmp:α->α->Option Int) (a0 a1:Int) (g:List α):Option (List α) := (An (S:=(Int×(List α))) (E:=(List α)) (λ(v21,b)=> bif v21<a1 then ((An (Yf cmp a0) (v21,b)).bind λ(v41,f)=> some (.inl ((Ac (v21+1)),f))) else (some (.inr b))) ((Ac (a0+1)),g)).bind λc=> some c
theorem A8g (A R:List α) (x y:α):((A++y::x::R).set (A.length+1) y).set A.length x=A++x::y::R:=by induction A with| nil=>rfl| cons a A ih=>simp only[Ed,D8,set_cons_succ,ih]
theorem Avs (A R:List α) (x:α):(A++x::R)[A.length]? = some x:=ψ
theorem A8h (A R:List α) (x y:α):(A++y::x::R)[A.length+1]? = some x:=by induction A with| nil=>rfl| cons a A ih=>simp
theorem A8i (cmp:α->α->Option Int) (y:α) (R:List α):Yf cmp 0 (0,y::R)=some (.inr (0,y::R)):=by unfold Yf;simp only[Ay (ω:¬(0:Int)>0),Aq,Ad]
theorem A8j {c:α->α->Int} (i:N<=1099511627776) (A R:List α) (u y:α) (b:cmp u y=some (c u y)) (f:(A++y::u::R).length<=N):Yf cmp 0 (((A.length+1:Nat):Int),A++y::u::R) = if c u y<0 then some (.inl ((A.length:Int),A++u::y::R)) else some (.inr (((A.length+1:Nat):Int),A++y::u::R)):=by
 have h:A.length+1<N:=by simp at f;omega
 have g:Ac (((A.length+1:Nat):Int)-1)=(A.length:Int):=by rw[Ac,Cj] <;> omega
 unfold Yf;simp only[As (ω:((A.length+1:Nat):Int)>0),Am,g,Bu (n:=A.length+1) rfl (A8h A R u y),Bu (n:=A.length) rfl (Avs A (u::R) y),Ad,b];by_cases hc:c u y<0
 .rw[As hc,Au hc];simp only[Am];rw[He (n:=A.length+1) rfl,He (n:=A.length) rfl,A8g];have:Ag ((A++y::u::R).set (A.length+1) y) (A.length:Int)=some y:=(by refine Bu rfl ?_;rw[getElem?_set_ne ω];exact Avs A (u::R) y);rw[this];rfl
 .rw[Ay hc,Ar hc];rfl
theorem A8k {c:α->α->Int} (s:N<=1099511627776) : ∀(n:Nat) (A R:List α) (x:α),A.length=n->(∀t∈A,cmp x t=some (c x t))->(A++x::R).length<=N -> ∃f i,An (Yf cmp 0) ((A.length:Int),A++x::R)=some ((f.length:Int),f++x::(i++R))/\A=f++i/\(∀a∈i,c x a<0)/\∀k y,f=k++[y]->¬c x y<0:=by
 intro n;induction n with
 | zero=>intro A R x g _ _;have:A = []:=Fu.1 g;subst this;exact⟨[],[],Gn (A8i cmp x R),rfl,nofun,(λk y h=>by simp at h)⟩
 | succ n ih=>
  intro A R x g l b;obtain⟨B,y,rfl⟩:∃B y,A=B++[y]:=by
   rcases eq_nil_or_concat A with h|⟨B,y,h⟩
   .rw[h]at g;cases g
   .exact⟨B,y,by simpa using h⟩
  have u:B.length=n:=(by simpa using g);have E:(B++[y])++x::R=B++y::x::R:=ψ;have el:(((B++[y]).length:Nat):Int)=((B.length+1:Nat):Int):=ψ;rw[E]at b ⊢;rw[el];have j:=A8j (cmp:=cmp) (c:=c) s B R x y (l y ψ) b;by_cases hc:c x y<0
  .rw[Au hc]at j;obtain⟨f,i,h1,h2,h3,D⟩:=ih B (y::R) x u (λt ht=>l t (by simp[ht])) (by simpa using b);refine⟨f,i++[y],?_,by rw[h2];simp,?_,D⟩
   .rw[Lz j,h1];simp
   .intro a ha;rcases Ei.1 ha with ha|ha
    .exact h3 a ha
    .simp only[Et]at ha;subst ha;exact hc
  .rw[Ar hc]at j;refine⟨B++[y],[],?_,ψ,nofun,?_⟩
   .rw[Gn j];simp
   .intro k z q;have:=append_inj' q rfl;have e:y=z:=(by simpa using this.2);subst e;exact hc
theorem A8l {c:α->α->Int} (L:Qi c) {f j:List α} {x:α} (s:(f++j).Pairwise (λa b=>¬c b a<0)) (h2:∀a∈j,c x a<0) (h1:∀g y,f=g++[y]->¬c x y<0):(f++x::j).Pairwise (λa b=>¬c b a<0):=by
 obtain⟨i,l,k⟩:=pairwise_append.1 s;have hx:∀a∈f,¬c x a<0:=by
  intro a ha;rcases eq_nil_or_concat f with h|⟨g,y,h⟩
  .rw[h]at ha;cases ha
  .have h:f=g++[y]:=(by simpa using h);have q:=h1 g y h;rw[h]at ha i;rcases Ei.1 ha with ha|ha
   .exact L.ntr x y a q ((pairwise_append.1 i).2.2 a ha y ψ)
   .simp only[Et]at ha;subst ha;exact q
 refine pairwise_append.2 ⟨i,pairwise_cons.2 ⟨λa ha h=>L.irr x (L.trs x a x (h2 a ha) h),l⟩,λa ha b hb=>?_⟩;rcases F1.1 hb with rfl|hb
 .exact hx a ha
 .exact k a ha b hb
theorem Avt {c:α->α->Int} (L:Qi c) (f:List α) (A:∀x∈f,∀y∈f,cmp x y=some (c x y)) (J:f.length<=1099511627776) : ∃R,Ab9 cmp 0 (f.length:Int) f=some R/\R.Perm f/\R.Pairwise (λa b=>¬c b a<0):=by
 unfold Ab9;cases f with
 | nil=>refine⟨[],?_,Perm.refl _,Pairwise.nil⟩;refine K4 0 (λ_=>((1:Int),([]:List α))) (by simp[Ac,Cj]) (λj hj=>ω) ⟨[],?_,rfl⟩;simp
 | cons z0 B=>
 generalize k:z0::B=f at *;have hpos:1<=f.length:=by rw[<-k];simp
 refine Ee (λs=>∃(i:Nat) (S:List α),s=((i:Int),S++f.drop i)/\1<=i/\i<=f.length/\S.length=i/\S.Perm (f.take i)/\S.Pairwise (λa b=>¬c b a<0)) (λs=>f.length-s.1.toNat) (λR=>R.Perm f/\R.Pairwise (λa b=>¬c b a<0)) ⟨1,[z0],by rw[<-k];simp[Ac,Cj],ω,hpos,rfl,by rw[<-k];simp,pairwise_singleton _ _⟩ ?_ ?_
 .rintro _ ⟨i,S,rfl,G,hi,E,g,l⟩;rcases Ch i f.length with h|h
  .have hx:f[i]? = some f[i]:=Bt h;have hxm:f[i]∈f:=getElem_mem h;generalize f[i]=x at hx hxm;have D:f.drop i=x::f.drop (i+1):=N2 hx;have z:(S++x::f.drop (i+1)).length=f.length:=ζ;simp only[As (ω:(i:Int)<(f.length:Int)),Am,C9 h ω];rw[D];left;obtain⟨u,q,h1,h2,h3,I⟩:=A8k (cmp:=cmp) (c:=c) (N:=f.length) ω S.length S (f.drop (i+1)) x rfl (λt ht=>A x hxm t (mem_of_mem_take (g.mem_iff.1 ht))) (by rw[z];exact Nat.le_refl _);rw[E]at h1;have hp:(u++x::q).Perm (f.take (i+1)):=(by rw[Da hx];have:(u++x::q).Perm ((u++q)++[x]):=(by rw[append_assoc];exact Perm.append_left u (perm_append_singleton x q).symm);exact this.trans (by rw[<-h2];exact g.append_right [x]));refine⟨(((i+1:Nat):Int),(u++x::q)++f.drop (i+1)),bnd h1 ψ,⟨i+1,u++x::q,rfl,ω,ω,?_,hp,?_⟩,ζ⟩
   .rw[hp.length_eq,length_take];omega
   .rw[h2]at l;exact A8l L l h3 I
  .have:i=f.length:=ω;subst this;rw[Db]at g;simp only[Ay (ω:¬(f.length:Int)<(f.length:Int)),Aq,drop_length,append_nil];exact .inr ⟨S,rfl,g,l⟩
 .rintro R ⟨h1,h2⟩;exact⟨R,rfl,h1,h2⟩
noncomputable def Ag8 (B:Nat) (gr:Int->Option (List α)) (a0:List (List α)):Option (List α) := (An (S:=(Int×Int)) (E:=Int) (λ(v2,v3)=> bif v3<(a0.length:Int) then ((Ag a0 v3).bind λv4=> bif (Ac (v2+(v4.length:Int)))<(0:Int) then (none) else (some (.inl ((Ac (v2+(v4.length:Int))),(Ac (v3+1)))))) else (some (.inr v2))) (0,0)).bind λv5=> (gr v5).bind λi=> (An (S:=(Int×(List α))) (E:=(List α)) (λ(b,c)=> bif b<(a0.length:Int) then ((Ag a0 b).bind λf=> (Cg B c f).bind λh=> some (.inl ((Ac (b+1)),h))) else (some (.inr c))) (0,i)).bind λg=> some g
theorem Amh {B:Nat} (g:B<=1024) {gr:Int->Option (List α)} (hg:∀n:Nat,n<=1000000->gr (n:Int)=some []) (a b:List α) (h:a.length+b.length<=1000000):Ag8 B gr [a,b]=some (a++b):=by
 have m1:a.length*B<=1000000*1024:=Nat.mul_le_mul ω g;have m2:(a.length+b.length)*B<=1000000*1024:=Nat.mul_le_mul h g;have f:Ac 1=1:=by rw[Ac,Cj] <;> omega
 have c:Ac 2=2:=by rw[Ac,Cj] <;> omega
 have k:Ac (a.length:Int)=(a.length:Int):=by rw[Ac,Cj] <;> omega
 have i:Ac ((a.length:Int)+(b.length:Int))=((a.length:Int)+(b.length:Int)):=by rw[Ac,Cj] <;> omega
 have i0:Ag [a,b] 0=some a:=rfl;have i1:Ag [a,b] 1=some b:=rfl;have q:Cg B [] a=some a:=by rw[Ds ζ];rfl
 have l:Cg B a b=some (a++b):=Ds ω;unfold Ag8;refine K4 2 (λj=>if j=0 then (0,0) else if j=1 then ((a.length:Int),1) else (((a.length+b.length:Nat):Int),2)) rfl ?_ ⟨((a.length+b.length:Nat):Int),?_,?_⟩
 .intro j hj;rcases (ω:j=0\/j=1) with rfl|rfl
  .have:¬((a.length:Int)<0):=ω;simp[i0,k,f,this]
  .have:¬((a.length:Int)+(b.length:Int)<0):=ω;simp[i1,i,c,this]
 .simp
 .rw[hg _ h,Ad];refine K4 2 (λj=>if j=0 then (0,[]) else if j=1 then (1,a) else (2,a++b)) rfl ?_ ⟨a++b,?_,rfl⟩
  .intro j hj;rcases (ω:j=0\/j=1) with rfl|rfl
   .simp[i0,f,q]
   .simp[i1,c,l]
  .simp
def sm:Nat->(Nat->Nat)->Nat
 | 0,_=>0
 | n+1,f=>sm n f+f n
theorem Yg {f g:Nat->Nat}:∀{n:Nat},(∀k,k<n->f k=g k)->sm n f=sm n g
 | 0,_=>rfl
 | n+1,h=>by rw[sm,sm,Yg (n:=n) λk hk=>h k ω,h n ω]
theorem Vs (f g:Nat->Nat):∀n,sm n (λk=>f k+g k)=sm n f+sm n g
 | 0=>rfl
 | n+1=>by simp only[sm,Vs f g n];omega
theorem Avu (c:Nat) (f:Nat->Nat):∀n,sm n (λk=>c*f k)=c*sm n f
 | 0=>rfl
 | n+1=>by simp only[sm,Avu c f n,Nat.mul_add]
theorem Vt {f:Nat->Nat}:∀{n:Nat},(∀k,k<n->f k=0)->sm n f=0
 | 0,_=>rfl
 | n+1,h=>by rw[sm,Vt (n:=n) λk hk=>h k ω,h n ω]
theorem Ag9 (f:Nat->Nat):∀n,sm (n+1) f=f 0+sm n (λk=>f (k+1))
 | 0=>by simp[sm]
 | n+1=>by rw[sm,Ag9 f n,sm];omega
theorem Avv {f:Nat->Nat} {n:Nat}:∀{m:Nat},n<=m->(∀k,n<=k->f k=0)->sm m f=sm n f
 | 0,h,_=>by rw[show n=0 by omega]
 | m+1,h,hf=>by
  by_cases e:n=m+1
  .rw[e]
  .rw[sm,Avv (m:=m) ω hf,hf m ω,Nat.add_zero]
theorem Aca {f:Nat->Nat} (hk:k<n) (hf:∀j,j≠k->f j=0):sm n f=f k:=by
 induction n with
 | zero=>omega
 | succ n ih=>
  rw[sm];by_cases e:k=n
  .subst e;rw[Vt λj hj=>hf j ω,Nat.zero_add]
  .rw[ih ω,hf n ω,Nat.add_zero]
theorem Vu:∀n,bc n n=1
 | 0=>rfl
 | n+1=>by
  rw[bc,Vu n]
  have:bc n (n+1)=0:=by have:=bc_big2 n (n+1) ω;exact this
  omega
where bc_big2:∀n k,n<k->bc n k=0
 | n,0,h=>absurd h ω
 | 0,k+1,_=>rfl
 | n+1,k+1,h=>by rw[bc,bc_big2 n k ω,bc_big2 n (k+1) ω]
theorem Yh (h:n<k):bc n k=0:=Vu.bc_big2 n k h
theorem Yi (n k:Nat):bc (n+1) (k+1)=bc n k+bc n (k+1):=by rw[bc]
def Rc (a b k:Nat):Nat:=if b<=k then bc k a*bc a (k-b) else 0
theorem Avw {b:Nat} (h:a+b<k):Rc a b k=0:=by unfold Rc;rw[Au ω,Yh (show a<k-b by omega),Nat.mul_zero]
theorem A8m {b:Nat} (h:k<a):Rc a b k=0:=by
 unfold Rc;split
 .rw[Yh h,Nat.zero_mul]
 .rfl
theorem Acb (b k:Nat):Rc 0 b k=if k=b then 1 else 0:=by
 unfold Rc;by_cases h:k=b
 .subst h;rw[Au (Nat.le_refl _),Au rfl,Nat.sub_self,J0,J0]
 .rw[Ar h];split
  .rw[Yh (show 0<k-b by omega),Nat.mul_zero]
  .rfl
theorem Acd (a k:Nat):Rc a 0 k=if k=a then 1 else 0:=by
 unfold Rc;rw[Au (Nat.zero_le _),Nat.sub_zero];by_cases h:k=a
 .subst h;rw[Au rfl,Vu]
 .rw[Ar h];rcases Ch k a with h2|h2
  .rw[Yh h2,Nat.zero_mul]
  .rw[Yh (show a<k by omega),Nat.mul_zero]
theorem Avx (a b k:Nat):Rc (a+1) (b+1) (k+1)=Rc a (b+1) k+Rc (a+1) b k+Rc a b k:=by
 unfold Rc;by_cases h:b<=k
 .rw[Au ω,Au h,Au h,show k+1-(b+1)=k-b by omega,Yi];by_cases h2:b+1<=k
  .rw[Au h2];obtain⟨j,hj⟩:∃j,k-b=j+1:=⟨k-b-1,ω⟩;rw[hj,show k-(b+1)=j by omega,Yi];simp only[Nat.add_mul,Nat.mul_add];omega
  .rw[Ar h2,show k-b=0 by omega,J0,J0];omega
 .rw[Ar ω,Ar h,Ar h,Ar ω]
theorem Avy (a b:Nat):Rc (a+1) (b+1) 0=0:=by unfold Rc;rw[Ar ω]
theorem A8n (f:Nat->Nat) (n N:Nat):sm (N+1) (λk=>f k*bc (n+1) k)=sm (N+1) (λk=>f k*bc n k)+sm N (λk=>f (k+1)*bc n k):=by
 rw[Ag9,Ag9 (λk=>f k*bc n k),J0,J0];have:sm N (λk=>f (k+1)*bc (n+1) (k+1))=sm N (λk=>f (k+1)*bc n (k+1))+sm N (λk=>f (k+1)*bc n k):=by rw[<-Vs];exact Yg λk _=>by rw[Yi,Nat.mul_add];omega
 rw[this];omega
theorem Yj:∀(n a b N:Nat),a+b<N->sm N (λk=>Rc a b k*bc n k)=bc n a*bc n b
 | n,0,b,N,h=>by rw[J0,Nat.one_mul,Aca (k:=b) ω λj hj=>by rw[Acb,Ar hj,Nat.zero_mul],Acb,Au rfl,Nat.one_mul]
 | n,a+1,0,N,h=>by rw[J0,Nat.mul_one,Aca (k:=a+1) ω λj hj=>by rw[Acd,Ar hj,Nat.zero_mul],Acd,Au rfl,Nat.one_mul]
 | 0,a+1,b+1,N,h=>by rw[show bc 0 (a+1)=0 from rfl,Nat.zero_mul];refine Vt λk _=>?_;cases k with| zero=>rw[Avy,Nat.zero_mul]| succ k=>rw[show bc 0 (k+1)=0 from rfl,Nat.mul_zero]
 | n+1,a+1,b+1,N,h=>by obtain⟨N,rfl⟩:∃M,N=M+1:=⟨N-1,ω⟩;rw[A8n,Yj n (a+1) (b+1) (N+1) h];have h1:=Yj n a (b+1) N ω;have h2:=Yj n (a+1) b N ω;have h3:=Yj n a b N ω;have c:sm N (λk=>Rc (a+1) (b+1) (k+1)*bc n k)=sm N (λk=>Rc a (b+1) k*bc n k)+sm N (λk=>Rc (a+1) b k*bc n k)+sm N (λk=>Rc a b k*bc n k):=(by rw[<-Vs,<-Vs];exact Yg λk _=>by rw[Avx,Nat.add_mul,Nat.add_mul]);rw[c,h1,h2,h3,Yi,Yi,Nat.add_mul,Nat.mul_add,Nat.mul_add];omega
theorem A8o {f:Nat->Nat} (h:∀n,n<N->sm N (λk=>f k*bc n k)=sm N (λk=>g k*bc n k)):∀k,k<N->f k=g k:=by
 intro k;induction k using Nat.strongRecOn with
 | ind k ih=>
  intro hk;have cut:∀F:Nat->Nat,sm N (λj=>F j*bc k j)=sm k (λj=>F j*bc k j)+F k:=by
   intro F;have e:sm N (λj=>F j*bc k j)=sm (k+1) (λj=>F j*bc k j):=Avv ω λj hj=>by rw[Yh ω,Nat.mul_zero]
   rw[e,sm,Vu,Nat.mul_one]
  have:=h k hk;rw[cut f,cut g,Yg (f:=λj=>f j*bc k j) (g:=λj=>g j*bc k j) λj hj=>by rw[ih j hj ω]]at this;omega
theorem A8p:Wn=some true:=κ
def M5 (l:List Bi):List Int:=l.flatMap λa=>a.L.T.map (·.v)
def J1 (m:Bj):List Int:=m.F.map (·.v)++M5 m.A
def Gk (p:List Aj):List Int:=p.flatMap λt=>J1 t.M
theorem Avz (F:List α) (g:α->Int) (o:List Int) (h:o.length+F.length<=1000000) {J:Int×List Int->Option R} (k:J ((F.length:Int),o++F.map g)=some r) : (An (S:=(Int×List Int)) (E:=(Int×List Int)) (λ(v164,b)=> bif v164<(F.length:Int) then ((Ag F v164).bind λc=> (Cg 8 b [g c]).bind λi=> some (.inl ((Ac (v164+1)),i))) else some (.inr (v164,b))) (0,o)).bind J=some r:=by
 refine F3 F (λj=>((j:Int),o++(F.take j).map g)) ψ ω ?_ ?_
 .intro j f hj hf h1 h2 h3;simp only[h1,h2,h3,Am,Ad];rw[Ds ζ,Da hf];simp
 .intro h1;exact⟨_,by simp only[h1];rfl,by rw[Db];exact k⟩
theorem A8q (f:α->List Int) (l:List α) (j:Nat):((l.take j).flatMap f).length<=(l.flatMap f).length:=by
 have:l.flatMap f=(l.take j).flatMap f++(l.drop j).flatMap f:=by rw[<-flatMap_append,take_append_drop]
 rw[this,E5];omega
theorem Av0 (f:α->List Int) {l:List α} {x:α} (h:l[j]? = some x):((l.take j).flatMap f).length+(f x).length<=(l.flatMap f).length:=by have:=A8q f l (j+1);rw[Da h,flatMap_append]at this;simpa using this
theorem A8r (p:List Aj) (E:p.length<=1000000) (ha:∀t∈p,t.M.A.length<=1000000) (hb:(Gk p).length<=1000000) : ∃V,Wo p=some V/\V.Pairwise (· < ·)/\V.length<=1000000/\∀y,y∈V↔y∈Gk p:=by
 obtain⟨m,o,c1,c2,c3⟩:=A8e ((Gk p).mergeSort λx y=>decide (x<=y)) (A8a _) (by rw[length_mergeSort];omega);refine⟨o.take m,?_,c3.up,?_,?_⟩
 .unfold Wo;refine F3 p (λj=>((j:Int),Gk (p.take j))) rfl ω ?_ ?_
  .intro j t hj ht h1 h2 h3;have q:=Bv ht;have B:=ha t q;have c:(Gk (p.take j)).length+(J1 t.M).length<=1000000:=Nat.le_trans (Av0 (λt:Aj=>J1 t.M) ht) hb;unfold J1 at c;rw[E5,C6]at c;simp only[h1,h2,h3,Am,Ad];refine Avz t.M.F (λf=>f.v) (Gk (p.take j)) ω ?_;dsimp only;refine F3 t.M.A (λi=>((i:Int),Gk (p.take j)++t.M.F.map (λf=>f.v)++M5 (t.M.A.take i))) (by simp[M5]) ω ?_ ?_
   .intro i a hi g k z u;have A:(M5 (t.M.A.take i)).length+(a.L.T.map (·.v)).length<=(M5 t.M.A).length:=Av0 (λa:Bi=>a.L.T.map (λl:En=>l.v)) g;rw[C6]at A;simp only[k,z,u,Am,Ad];refine Avz a.L.T (λl=>l.v) _ (by simp only[E5,C6];omega) ?_;show some (Sum.inl (_,_))=_;rw[Da g];unfold M5;rw[flatMap_append];simp
   .intro k;refine⟨_,by simp only[k];rw[Db];rfl,?_⟩;show some (Sum.inl (_,_))=_;rw[Da ht];unfold Gk;rw[flatMap_append];simp[J1]
  .intro h1;refine⟨Gk p,by simp only[h1];rw[Db];rfl,?_⟩;rw[A79,Ad];unfold Gf;rw[Au (by rw[length_mergeSort]),Ad];have:Ws (Gk p).length ((Gk p).mergeSort λx y=>decide (x<=y))=some (m,o):=(by rw[<-c1,length_mergeSort]);rw[this,Ad];unfold Ad6;rw[Au c2];rfl
 .have D:((o.take m).length:Nat)<=(Gk p).length:=by
   have s:(o.take m).Nodup:=c3.up.imp (λh=>ω);have b:∀y∈o.take m,y∈Gk p:=λy hy=>by have:=(c3.mem y).1 hy;rw[Db]at this;exact mem_mergeSort.1 this
   exact Nodup.length_le_of_subset s b
  omega
 .intro y;rw[c3.mem y,Db,mem_mergeSort]
theorem Av1 (l:List Int) (b:l.length<=1099511627776):Wq l l=some true:=by
 unfold Wq;rw[H9 rfl,Aq];refine F3 l (λj=>(j:Int)) rfl ω ?_ ?_
 .intro j x hj hx h1 h2 h3;simp only[h1,h2,h3,Am,Ad,bne_self_eq_false,Aq]
 .intro h;exact⟨.inr (),by simp only[h];rfl,rfl⟩
theorem Av2 (a:Ao) (h1:a.U.length<=1099511627776) (h2:a.B.length<=1099511627776):Pf a a=some true:=by unfold Pf;rw[beq_self_eq_true,Am,Av1 _ h1,Ad,Am,Av1 _ h2,Ad]
structure PSt (K:Nat) (n:Nat) (b:List Aj):Prop where
 le:n<=b.length
 cp:CP (b.take n)
 tm:∀t∈b.take n,RB K t.C/\MSz t.M
theorem PSt.mono {c:Nat} {b:List Aj} (h:PSt K n b) (f:K<=c):PSt c n b:=⟨h.le,h.cp,λt ht=>⟨((h.tm t ht).1).mono f,(h.tm t ht).2⟩⟩
theorem Av3:∀(k:Nat) (t:Af) (a:Int),Bz t<=k->k<1099511627776->∃r,Sg k t a=some r/\True:=by
 intro k;induction k with
 | zero=>intro i a h;have:=Jx i;omega
 | succ k ih=>
  intro i a h hk;have f:=Jx i;have g:=Lr i.R;rw[Sg];refine Py ⟨_,rfl,trivial⟩ ?_;refine Ee (λ(v,_)=>∃j:Nat,v=j/\j<=i.R.length) (λ(v,_)=>i.R.length-v.toNat) (λ_=>True) ⟨0,rfl,ω⟩ ?_ ?_
  .rintro⟨v,b⟩ ⟨j,rfl,hj⟩;rcases Ch j i.R.length with h'|h'
   .have hx:i.R[j]? = some i.R[j]:=Bt h';generalize i.R[j]=x at hx;have l:=Kb (Bv hx);obtain⟨⟨y,z⟩,c,_⟩:=ih x b ω ω;simp only[As (ω:(j:Int)<(i.R.length:Int)),Am,Bu rfl hx,Ad,c,C9 h' ω];cases y with| false=>exact .inr ⟨_,rfl,trivial⟩| true=>exact .inl ⟨_,rfl,⟨j+1,rfl,ω⟩,by simp only[Int.toNat_natCast];omega⟩
   .have:j=i.R.length:=ω;subst this;exact .inr ⟨.inr b,ψ,trivial⟩
  .rintro (⟨x,y⟩|e) _
   .exact⟨_,rfl,trivial⟩
   .exact⟨_,rfl,trivial⟩
theorem Av4 (t:Af) (h:Bz t<=1048576):∃b,Wr t=some b:=by unfold Wr;obtain⟨r,h1,_⟩:=Av3 4000000 t 250 ω ω;exact⟨_,by rw[h1];rfl⟩
theorem A8s (l:List Af) (n:Int) (c:l.length<=1048576) (h:∀t∈l,Bz t<=1048576):∃b,Zm l n=some b/\True:=by
 unfold Zm;refine Ee (λv=>∃j:Nat,v=j/\j<=l.length) (λv=>l.length-v.toNat) (λ_=>True) ⟨0,rfl,ω⟩ ?_ ?_
 .rintro v ⟨j,rfl,hj⟩;rcases Ch j l.length with h'|h'
  .have hx:l[j]? = some l[j]:=Bt h';generalize l[j]=x at hx;obtain⟨b,hb⟩:=Av4 x (h x (Bv hx));simp only[As (ω:(j:Int)<(l.length:Int)),Am,Bu rfl hx,Ad,hb,C9 h' ω];cases decide ((j:Int)<=n) with
   | false=>exact .inr ⟨_,rfl,trivial⟩
   | true=>cases b with| false=>exact .inr ⟨_,rfl,trivial⟩| true=>exact .inl ⟨_,rfl,⟨j+1,rfl,ω⟩,by simp only[Int.toNat_natCast];omega⟩
  .simp only[Ay (ω:¬(j:Int)<(l.length:Int)),Aq];exact .inr ⟨_,rfl,trivial⟩
 .rintro (r|r) _
  .exact⟨_,rfl,trivial⟩
  .exact⟨_,rfl,trivial⟩
theorem A8t (l:List Ak) (f:DSz l):∃b,Zl l=some b/\True:=by
 unfold Zl;have A:=f.len;refine Py ⟨_,rfl,trivial⟩ ?_;refine Ee (λv=>∃j:Nat,v=j/\j<=l.length) (λv=>l.length-v.toNat) (λ_=>True) ⟨0,rfl,ω⟩ ?_ ?_
 .rintro v ⟨j,rfl,hj⟩;rcases Ch j l.length with h'|h'
  .have hx:l[j]? = some l[j]:=Bt h';generalize l[j]=x at hx;obtain⟨c1,c2⟩:=f.sz x (Bv hx);simp only[As (ω:(j:Int)<(l.length:Int)),Am,Bu rfl hx,Ad,C9 h' ω];have hq:∃q,(bif decide ((x.S.size:Int)>40) then some true else some (decide ((x.O.length:Int)>10)))=some q:=(by cases decide ((x.S.size:Int)>40) <;> exact⟨_,rfl⟩);obtain⟨q,hq⟩:=hq
   erw[hq];simp only[Ad];cases q with
   | true=>exact .inr ⟨_,rfl,trivial⟩
   | false=>
    simp only[Aq];have key:∀(W:Option (Int⊕(Bool⊕Unit))),(∃r,W=some r/\(r = .inl ((j+1:Nat):Int)\/∃e,r = .inr e))->(∃s',W=some (Sum.inl s')/\(∃j:Nat,s'=(j:Int)/\j<=l.length)/\l.length-s'.toNat<l.length-((j:Int)).toNat)\/∃e,W=some (Sum.inr e)/\True:=by
     rintro W ⟨r,rfl,rfl|⟨e,rfl⟩⟩
     .exact .inl ⟨_,rfl,⟨j+1,rfl,ω⟩,by simp only[Int.toNat_natCast];omega⟩
     .exact .inr ⟨_,rfl,trivial⟩
    refine key _ ?_;refine Ee (λv=>∃j:Nat,v=j/\j<=x.O.length) (λv=>x.O.length-v.toNat) (λ_=>True) ⟨0,rfl,ω⟩ ?_ ?_
    .rintro v ⟨i,rfl,hi⟩;rcases Ch i x.O.length with h''|h''
     .have hy:x.O[i]? = some x.O[i]:=Bt h'';generalize x.O[i]=y at hy;have d1:=c2 y (Bv hy);have d2:=Lr y.R;simp only[As (ω:(i:Int)<(x.O.length:Int)),Am,Bu rfl hy,Ad,C9 h'' ω];have hq:∃q,(bif decide ((y.S.size:Int)>40) then some true else some (decide ((y.R.length:Int)>8)))=some q:=(by cases decide ((y.S.size:Int)>40) <;> exact⟨_,rfl⟩);obtain⟨q,hq⟩:=hq
      erw[hq];simp only[Ad];cases q with
      | true=>exact .inr ⟨_,rfl,trivial⟩
      | false=>
       simp only[Aq];have key:∀(W:Option (Int⊕(Bool⊕Int))),(∃r,W=some r/\(r = .inl ((i+1:Nat):Int)\/∃e,r = .inr e))->(∃s',W=some (Sum.inl s')/\(∃j:Nat,s'=(j:Int)/\j<=x.O.length)/\x.O.length-s'.toNat<x.O.length-((i:Int)).toNat)\/∃e,W=some (Sum.inr e)/\True:=by
        rintro W ⟨r,rfl,rfl|⟨e,rfl⟩⟩
        .exact .inl ⟨_,rfl,⟨i+1,rfl,ω⟩,by simp only[Int.toNat_natCast];omega⟩
        .exact .inr ⟨_,rfl,trivial⟩
       refine key _ ?_;refine Ee (λs=>∃j:Nat,s.1=j/\j<=y.R.length) (λs=>y.R.length-s.1.toNat) (λ_=>True) ⟨0,rfl,ω⟩ ?_ ?_
       .rintro⟨_,w⟩ ⟨u,rfl,hu⟩;rcases Ch u y.R.length with h3|h3
        .have c:y.R[u]? = some y.R[u]:=Bt h3;generalize y.R[u]=t at c;have z:=Kb (Bv c);obtain⟨⟨g,k⟩,h,_⟩:=Av3 4000000 t w ω ω;simp only[As (ω:(u:Int)<(y.R.length:Int)),Am,Bu rfl c,Ad,h,C9 h3 ω];cases g with| false=>exact .inr ⟨_,rfl,trivial⟩| true=>exact .inl ⟨_,rfl,⟨u+1,rfl,ω⟩,by simp only[Int.toNat_natCast];omega⟩
        .simp only[Ay (ω:¬(u:Int)<(y.R.length:Int)),Aq];exact .inr ⟨_,rfl,trivial⟩
       .rintro (r|r) _
        .exact⟨_,rfl,.inr ⟨_,rfl⟩⟩
        .exact⟨_,rfl,.inl rfl⟩
     .simp only[Ay (ω:¬(i:Int)<(x.O.length:Int)),Aq];exact .inr ⟨_,rfl,trivial⟩
    .rintro (r|r) _
     .exact⟨_,rfl,.inr ⟨_,rfl⟩⟩
     .exact⟨_,rfl,.inl rfl⟩
  .simp only[Ay (ω:¬(j:Int)<(l.length:Int)),Aq];exact .inr ⟨_,rfl,trivial⟩
 .rintro (r|r) _
  .exact⟨_,rfl,trivial⟩
  .exact⟨_,rfl,trivial⟩
theorem A8u (x:Cd) (f:CSz x):∃b,Zf x=some b:=by unfold Zf;obtain⟨a,ha,_⟩:=A8t x.D f.ds;obtain⟨b,hb,_⟩:=A8s x.V 40 f.nv f.vs;obtain⟨c,hc⟩:=Av4 x.E f.rs;rw[ha,hb,hc];cases a <;> cases b <;> exact⟨_,rfl⟩
theorem CP.dst (h:CP p):Dst p:=h.srt.imp λ{a b} hab e=>by unfold ltT at hab;rw[Rg.2 e]at hab;omega
theorem Av5:Qi (λt u:Aj=>Ey t.M u.M) where
 irr x:=by
  show ¬Ey x.M x.M<0
  rw[Aup];omega
 trs x y z h1 h2:=Agw h1 h2
 ntr x y z h1 h2:=by
  show ¬Ey x.M z.M<0
  have h1:¬Ey x.M y.M<0:=h1
  have h2:¬Ey y.M z.M<0:=h2
  intro h3
  rcases Int.lt_trichotomy (Ey x.M y.M) 0 with k|k|k
  .exact h1 k
  .rw[Rg.1 k]at h3;exact h2 h3
  .exact h2 (Agw (Auq.1 k) h3)
def Aha (b:List Aj):List Aj:=b.mergeSort λt u=>decide (Ey t.M u.M<=0)
theorem Av6 (b:List Aj):(Aha b).Perm b:=mergeSort_perm _ _
theorem A8v (f:List Aj) (hd:Dst f):(Aha f).Pairwise ltT:=by
 have h1:=pairwise_mergeSort (le:=λt u:Aj=>decide (Ey t.M u.M<=0)) (λa b c h1 h2=>by
  simp only[Dt]at *
  have:=Av5.ntr c b a (by show ¬Ey _ _<0;rw[Yb];omega) (by show ¬Ey _ _<0;rw[Yb];omega)
  have this:¬Ey c.M a.M<0:=this
  rw[Yb]at this;omega) (λa b=>by
  simp only[Bool.or_eq_true,Dt]
  rw[Yb a.M b.M];omega) f
 have h2:(Aha f).Pairwise λt u=>t.M≠u.M:=((Av6 f).pairwise_iff (λ{x y} h=>h.symm)).2 hd
 refine (h1.and h2).imp λ{t u} h=>?_
 have a:=of_decide_eq_true h.1
 have b:Ey t.M u.M≠0:=λe=>h.2 (Rg.1 e)
 unfold ltT;omega
theorem Av7 (b:List Aj) (hd:Dst b) (f:∀t∈b,MSz t.M):∃R,Pj b=some R/\R.Perm b/\R.Pairwise ltT:=by
 rcases Ch 12 b.length with h|h
 .have e:Nat.ble b.length 12=false:=(by cases k:Nat.ble b.length 12 with| false=>rfl| true=>have:=Nat.le_of_ble_eq_true k;omega);unfold Pj;rw[e,Aq];obtain⟨r,g,j,law,hc,hp,i⟩:=Apw (cmp:=Qs) (l:=b) (r:=Aha b) ⟨_,Av5,λx hx y _=>Ama x y (f x hx),Av6 b,A8v b hd⟩;refine⟨r,g,hp,?_⟩;refine (Pairwise.imp_of_mem (S:=ltT) (λ{t u} ht hu h=>?_) i);have c:=hc t (hp.mem_iff.1 ht) u (hp.mem_iff.1 hu);rw[Ama t u (f t (hp.mem_iff.1 ht))]at c;have c:=Eo c;unfold ltT;rw[c];exact h
 .exact A7z b hd f h
theorem Ami (g:CSz x) (b:∀p∈ps,∀t∈p,TSz t) (i:ps.length<=1048576) (h:¬(G6 x/\∀p∈ps,Hy x.D x.V x.E p=true)):Mn x ps=some (.inr false):=by
 obtain⟨r,f,c⟩:=Amc x g ps b i;rcases c with⟨h2,_⟩|⟨_,rfl⟩
 .exact (h h2).elim
 .exact f
theorem Av8 (i:CSz x) (c:∀p∈ps,∀t∈p,TSz t) (k:ps.length<=1048576) (h:G6 x/\∀p∈ps,Hy x.D x.V x.E p=true):∃b,Mn x ps=some (.inl (true,x,b,[],x.D,x.V,x.E.G,x.E.U,x.E.R))/\Dv x.D x.V x.E b:=by
 obtain⟨r,g,f⟩:=Amc x i ps c k;rcases f with⟨_,b,e,j⟩|⟨h2,_⟩
 .exact⟨b,by rw[g,e],j⟩
 .exact (h2 h).elim
structure PR (x:Cd) (n:Nat) (f:Bj->Rat) (R:List Aj):Prop where
 cp:CP R
 val:∀m,cf R m=f m
 tb:∀t∈R,Ii x t.M/\RB 8589934592 t.C
 len:R.length<=n
theorem A8w (h:Col k (Ii x) ts) (hk:k<8589934592) (l:ts.length<=1000):∃R,Lj (Fk ts) ts=some (R,0)/\PR x ts.length (cf ts) R:=by obtain⟨R,j,i,g,b,f⟩:=A70 (P:=Ii x) (λm h=>h.cmo) (Fk ts) ts h ω l (λc _ h2 h3=>Av7 c h2 h3);exact⟨R,j,i,g,λt ht=>⟨(b t ht).1,(b t ht).2.mono ω⟩,f⟩
theorem PR.of {m:Nat} {f g:Bj->Rat} {R:List Aj} (h:PR x n f R) (b:n<=m) (hf:∀a,f a=g a):PR x m g R := ⟨h.cp,λa=>by rw[h.val,hf],h.tb,Nat.le_trans h.len b⟩
theorem A8x (s:CSz x) (hf:G6 x) (hp:Ho x p) (hq:Ho x q) (y:p.length+q.length<=1000) : ∃R,R5 x p q=some (R,0)/\PR x (p.length+q.length) (λm=>cf p m+cf q m) R:=by obtain⟨z,hb⟩:=A71 s hf hp hq;unfold R5;rw[hb];simp only[Ad,bnt,Aq,Qm];obtain⟨u,i,g,f,c⟩:=Avf (k0:=1048576) (k:=1048576) (P:=Ii x) (λm h=>h.cmo) p [] (Col.nil _ _) hp.tb (Nat.le_refl _) ω ζ;simp at f;obtain⟨v,b,v2,v3,v4⟩:=Avf (k:=1048576) (P:=Ii x) (λm h=>h.cmo) q u g hq.tb ω ω ω;obtain⟨R,l,j⟩:=A8w v2 ω ω;rw[show L3 p [] []=some (Fk u,u) from i,Ad,b,Ad,l,Ad];exact⟨R,rfl,j.of ω λm=>by rw[v4,c];simp only[cf];grind⟩
theorem Ho.nil (x:Cd):Ho x []:=⟨Abz.2 ⟨ψ,CP.nil,λt ht=>by cases ht⟩,λt ht=>by cases ht⟩
def J2 (l:List α) (r:List Bool):List α:=((l.zip r).filter λp=>!p.2).map (·.1)
def J3 (data:List Ak) (t:Af) (c:Int):List Af:=match Gy data t c with|some ts=>ts|none=>[]
def P8 {α:Type} (b:List (α->Nat)) (x:α) (f:Nat->Nat):Nat->Nat
 | 0=>f 0
 | q+1=>f (q+1)+f q*(match b[q]? with|some w=>w x|none=>0)
def dpS (b:List (α->Nat)) (l:List α):Nat->Nat:=l.foldl (λf x=>P8 b x f) (λq=>if q=0 then 1 else 0)
theorem Av9 (b:List (α->Nat)) (l:List α) (x:α):dpS b (l++[x])=P8 b x (dpS b l):=by unfold dpS;rw[foldl_append];rfl
mutual
def bv (data:List Ak):Ai->Af->Az->Nat
 | ⟨n,ks⟩,t,w=>if t.G=6 then bvs data ks t.R w.K else if t.G=7 then bc w.K.length n.toNat else if t.G=5 then dpS (bws data ks t) (Iu data t.U w) ks.length else 1
def bvs (data:List Ak):List Ai->List Af->List Az->Nat
 | i::is,t::ts,w::ws=>bv data i t w*bvs data is ts ws
 | [],_,_=>1
 | _::_,[],_=>1
 | _::_,_::_,[]=>1
def bws (data:List Ak):List Ai->Af->List (Az->Nat)
 | [],_=>[]
 | ⟨n,ks⟩::es,t=>(λx=>if x.U=n then bvs data ks (J3 data t n) (J2 x.K (D3 data t.U n)) else 0)::bws data es t
end
theorem Rh (data:List Ak) (i:Ai) (t:Af) (w:Az):bv data i t w=if t.G=6 then bvs data i.K t.R w.K else if t.G=7 then bc w.K.length i.U.toNat else if t.G=5 then dpS (bws data i.K t) (Iu data t.U w) i.K.length else 1:=by cases i;simp only[bv]
theorem Ti (data:List Ak) (i:Ai) (is:List Ai) (t:Af) (ts:List Af) (w:Az) (b:List Az):bvs data (i::is) (t::ts) (w::b)=bv data i t w*bvs data is ts b:=by simp only[bvs]
theorem Tj (data:List Ak) (ts:List Af) (b:List Az):bvs data [] ts b=1:=by simp only[bvs]
def wOf (data:List Ak) (t:Af) (e:Ai) (x:Az):Nat:=if x.U=e.U then bvs data e.K (J3 data t e.U) (J2 x.K (D3 data t.U e.U)) else 0
theorem Ahb (data:List Ak) (t:Af):∀(es:List Ai) (q:Nat),(bws data es t)[q]? = (es[q]?).map (wOf data t)
 | [],q=>by simp[bws]
 | ⟨n,b⟩::es,0=>by simp only[bws,getElem?_cons_zero,Option.map_some];rfl
 | ⟨n,b⟩::es,q+1=>by simp only[bws,getElem?_cons_succ];exact Ahb data t es q
theorem Amj (data:List Ak):∀(is:List Ai) (ts:List Af) (b:List Az) (j:Nat) (i:Ai) (t:Af) (w:Az),is[j]? = some i->ts[j]? = some t->b[j]? = some w -> bvs data (is.take (j+1)) (ts.take (j+1)) (b.take (j+1))=bvs data (is.take j) (ts.take j) (b.take j)*bv data i t w
 | i' :: is,t' :: ts,w' :: b,0,i,t,w,h1,h2,h3=>by cases h1;cases h2;cases h3;simp only[take_succ_cons,take_zero,Ti,Tj,Nat.mul_one,Nat.one_mul]
 | i' :: is,t' :: ts,w' :: b,j+1,i,t,w,h1,h2,h3=>by have:=Amj data is ts b j i t w h1 h2 h3;rw[take_succ_cons,take_succ_cons,take_succ_cons,take_succ_cons,take_succ_cons,take_succ_cons,Ti,Ti,this,Nat.mul_assoc]
 | [],_,_,_,_,_,_,h,_,_=>by simp at h
 | _::_,[],_,_,_,_,_,_,h,_=>by simp at h
 | _::_,_::_,[],_,_,_,_,_,_,h=>by simp at h
theorem Ahc:∀n k,bc n k<=n ^ k
 | n,0=>by rw[J0];exact Nat.le_refl _
 | 0,k+1=>by simp[bc]
 | n+1,k+1=>by have h1:=Ahc n k;have h2:=Ahc n (k+1);have h3:n ^ k<=(n+1) ^ k:=Nat.pow_le_pow_left ω k;have b:n ^ (k+1)<=n*(n+1) ^ k:=(by rw[Nat.pow_succ,Nat.mul_comm];exact Nat.mul_le_mul_left _ h3);rw[bc,Nat.pow_succ,Nat.mul_add,Nat.mul_one,Nat.mul_comm];omega
theorem Awa {α:Type} (b:List (α->Nat)) (B:Nat) (E:Nat->Nat):∀(l:List α) (n:Nat) (f:Nat->Nat),(∀q,f q<=n ^ q*B ^ E q)->(∀x∈l,∀q w,b[q]? = some w->B ^ E q*w x<=B ^ E (q+1))->∀q,(l.foldl (λf x=>P8 b x f) f) q<=(n+l.length) ^ q*B ^ E q
 | [],n,f,hf,_,q=>hf q
 | x::l,n,f,hf,hw,q=>by
  rw[foldl_cons];have:=Awa b B E l (n+1) (P8 b x f) (λq=>?_) (λy hy=>hw y (by simp[hy])) q
  .rw[D8,show n+(l.length+1)=n+1+l.length by omega];exact this
  .cases q with
   | zero=>have:=hf 0;simpa[P8] using this
   | succ q=>
    have h1:=hf (q+1);have h2:=hf q;have h3:f q*(match b[q]? with|some w=>w x|none=>0)<=n ^ q*B ^ E (q+1):=by cases h:b[q]? with| none=>simp| some w=>have j:=hw x ψ q w h;refine Nat.le_trans (Nat.mul_le_mul_right _ h2) ?_;rw[Nat.mul_assoc];exact Nat.mul_le_mul_left _ j
    have c:n ^ q<=(n+1) ^ q:=Nat.pow_le_pow_left ω q;have i:n ^ (q+1)+n ^ q<=(n+1) ^ (q+1):=(by rw[Nat.pow_succ,Nat.pow_succ,Nat.mul_add,Nat.mul_one];exact Nat.add_le_add (Nat.mul_le_mul_right _ c) c);have g:=Nat.mul_le_mul_right (B ^ E (q+1)) i;rw[Nat.add_mul]at g;show f (q+1)+_<=_;omega
theorem Awb {α:Type} (b:List (α->Nat)) (B:Nat) (f:1<=B) (E:Nat->Nat) (l:List α) (hw:∀x∈l,∀q w,b[q]? = some w->B ^ E q*w x<=B ^ E (q+1)) (c:l.length<=B) (q:Nat):dpS b l q<=B ^ (q+E q):=by
 have h:=Awa b B E l 0 (λq=>if q=0 then 1 else 0) (λq=>by cases q with| zero=>have:0<B ^ E 0:=Nat.pow_pos ω;simp;omega| succ q=>simp) hw q
 refine Nat.le_trans h ?_;rw[Nat.zero_add,Nat.pow_add];exact Nat.mul_le_mul_right _ (Nat.pow_le_pow_left c q)
mutual
theorem Amk (data:List Ak) (d:Int):∀v,∀x∈Iu data d v,Di x<=Di v
 | ⟨k,n,kids⟩=>λx hx=>by
  have h:=Awc data d kids (D3 data d n)
  simp only[Iu,F1]at hx
  rcases hx with rfl|hx
  .exact Nat.le_refl _
  .have:=h x hx
   simp only[Di];omega
theorem Awc (data:List Ak) (d:Int):∀l r,∀x∈Iv data d l r,Di x<=E9 l
 | y::ys,b::bs=>λx hx=>by
  have h1:=Amk data d y
  have h2:=Awc data d ys bs
  simp only[Iv,Ei]at hx
  simp only[E9]
  rcases hx with hx|hx
  .cases b with
   | false=>simp at hx
   | true=>have:=h1 x (by simpa using hx);omega
  .have:=h2 x hx;omega
 | [],_=>λx hx=>by simp[Iv]at hx
 | _::_,[]=>λx hx=>by simp[Iv]at hx
end
def pdg (data:List Ak) (t:Af) (e:Ai):Nat:=match Cy data e.K (J3 data t e.U) with|some a=>a|none=>0
def pds (data:List Ak) (t:Af) (es:List Ai):Nat:=(es.map (pdg data t)).sum
theorem Ace (data:List Ak):∀(es:List Ai) (t:Af) (d:Nat),Fv data es t=some d->d=es.length+pds data t es/\∀e∈es,∃ts,Gy data t e.U=some ts/\Cy data e.K ts=some (pdg data t e)
 | [],t,d,h=>by simp only[Fv,Option.some.injEq]at h;subst h;exact⟨rfl,λe c=>by cases c⟩
 | e::es,t,d,h=>by
  rw[Ve]at h;cases h1:Gy data t e.U with
  | none=>rw[h1]at h;cases h
  | some ts=>
   rw[h1,Ad]at h;cases h2:Cy data e.K ts with
   | none=>rw[h2]at h;cases h
   | some a=>
    rw[h2,Ad]at h;cases h3:Fv data es t with
    | none=>rw[h3]at h;cases h
    | some b=>
     rw[h3]at h;have h:1+a+b=d:=Eo h;obtain⟨g1,g2⟩:=Ace data es t b h3;have hp:pdg data t e=a:=(by unfold pdg J3;rw[h1];simp only[h2]);refine⟨by unfold pds at *;simp only[map_cons,sum_cons,D8,hp];omega,λx hx=>?_⟩;rcases F1.1 hx with rfl|hx
     .exact⟨ts,h1,by rw[hp];exact h2⟩
     .exact g2 x hx
theorem Aml {data:List Ak} {t:Af} {es:List Ai} {q:Nat} {e:Ai} (h:es[q]? = some e):pds data t (es.take (q+1))=pds data t (es.take q)+pdg data t e:=by unfold pds;rw[Da h];simp
theorem A8y (data:List Ak) (t:Af) (es:List Ai) (q:Nat):pds data t (es.take q)<=pds data t es:=by
 have:pds data t es=pds data t (es.take q)+pds data t (es.drop q):=by unfold pds;rw[<-sum_append,<-map_append,take_append_drop]
 omega
theorem Amm {α:Type} {l:List α} {r:List Bool} {x:α} (h:x∈J2 l r):x∈l:=by unfold J2 at h;obtain⟨p,hp,rfl⟩:=mem_map.1 h;exact (of_mem_zip (a:=p.1) (b:=p.2) (mem_filter.1 hp).1).1
theorem Yk (data:List Ak) (B:Nat) (S:1<=B):∀n:Nat,(∀(i:Ai) (t:Af) (w:Az) (d:Nat),Ca i<=n->Dj data i t=some d->Di w<=B->bv data i t w<=B ^ d) /\ (∀(is:List Ai) (ts:List Af) (f:List Az) (d:Nat),Ck is<=n->Cy data is ts=some d->(∀w∈f,Di w<=B)->bvs data is ts f<=B ^ d):=by
 intro n;induction n with
 | zero=>refine⟨λi t w d h=>by have:=Ep i;omega,λis ts f d h _ _=>?_⟩;have:=P1 is;have:is = []:=Fu.1 ω;subst this;rw[Tj];exact Nat.pow_pos ω
 | succ n ih=>
  have c:∀d,1<=B ^ d:=λd=>Nat.pow_pos ω;have key:∀(i:Ai) (t:Af) (w:Az) (d:Nat),Ca i<=n+1->Dj data i t=some d->Di w<=B->bv data i t w<=B ^ d:=by
   intro i t w d hi hd hw;have M:=Ep i;have I:=Me w;have J:=Vm w.K;rw[Rh];rw[Mw]at hd;by_cases z:t.G=6
   .rw[Au z]at hd ⊢;by_cases e:i.U=0
    .rw[Au e]at hd;exact ih.2 i.K t.R w.K d ω hd λx hx=>by have:=M0 hx;omega
    .rw[Ar e]at hd;cases hd
   .rw[Ar z]at hd ⊢;by_cases u:t.G=7
    .rw[Au u]at hd ⊢;by_cases e:0<=i.U/\i.U<=6/\i.K.length=0
     .rw[Au e]at hd;have hd:=Eo hd;rw[hd];exact Nat.le_trans (Ahc _ _) (Nat.pow_le_pow_left ω d)
     .rw[Ar e]at hd;cases hd
    .rw[Ar u]at hd ⊢;by_cases A:t.G=5
     .rw[Au A]at hd ⊢;have hd:Fv data i.K t=some d:=by
       by_cases e:i.U=0
       .rw[Au e]at hd;exact hd
       .rw[Ar e]at hd;cases hd
      obtain⟨h1,h2⟩:=Ace data _ _ _ hd;have L:=Alq data t.U w;have:=Awb (bws data i.K t) B S (λq=>pds data t (i.K.take q)) (Iu data t.U w) (λx hx q wt hq=>by
       rw[Ahb]at hq;obtain⟨e,D,rfl⟩:=Option.map_eq_some_iff.1 hq;have g:=Bv D;obtain⟨ts,l,k⟩:=h2 e g;have G:=Amk data t.U w x hx;have N:=Kc g;have R:=Ep e;rw[Aml D,Nat.pow_add];refine Nat.mul_le_mul_left _ ?_;unfold wOf;split
       .have s:J3 data t e.U=ts:=(by unfold J3;rw[l]);rw[s];refine ih.2 e.K ts _ _ ω k λy hy=>?_;have hy:=Amm hy;have E:=M0 hy;have:=Me x;omega
       .omega) ω i.K.length
      rw[Db]at this;rw[h1];exact this
     .rw[Ar A];exact c d
  refine⟨key,?_⟩;intro is;induction is with
  | nil=>intro ts f d _ _ _;rw[Tj];exact c d
  | cons i is j=>
   intro ts f d hi hd hw;cases ts with
   | nil=>rw[show bvs data (i::is) [] f=1 by simp only[bvs]];exact c d
   | cons t ts=>
    cases f with
    | nil=>rw[show bvs data (i::is) (t::ts) []=1 by simp only[bvs]];exact c d
    | cons w f=>
     simp only[Ck]at hi;rw[N1]at hd;cases h1:Dj data i t with
     | none=>rw[h1]at hd;cases hd
     | some a=>rw[h1,Ad]at hd;cases h2:Cy data is ts with| none=>rw[h2]at hd;cases hd| some b=>rw[h2]at hd;have hd:a+b=d:=Eo hd;rw[Ti,<-hd,Nat.pow_add];exact Nat.mul_le_mul (key i t w a ω h1 (hw w ψ)) (j ts f b ω h2 λy hy=>hw y (by simp[hy]))
end Go.Ab
