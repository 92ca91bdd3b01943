/- Plain laws. -/
import Derived.Test.YtikjbngjfebkjaaGreatDoorLnPl2
open List
namespace Go.Ab
open Go
variable {t u:An} {x:Ck} {i v w:Int} {ps:List (List An)} {data:List Aj} {p ts:List An} {P S X b l m:List Int} {K N a j k n q:Nat} {g:Nat->Nat} {R α:Type} {r:R} {cmp:α->α->Option Int}
def J4 (n:Int) (f:Bool):List Int:=if f then (if n<0 then [45] else []) else (if n<0 then [32,45,32] else [32,43,32])
def Li (n:Int):List Int:=if n.natAbs=1 then [] else ti n.natAbs++[42]
def Ko (v:Int):List Int:=if v = -1 then [114,101,115] else 118::ti v
def tT (f:Bool) (t:Bt):List Int:=J4 t.C f++(Li t.C++Ko t.v)
def Jc:Bool->List Bt->Int->List Int
 | f,[],c=>if c≠0\/f=true then J4 c f++ti c.natAbs else []
 | f,t::ts,c=>tT f t++Jc false ts c
def Acz (l:Bg):List Int:=Jc true l.T l.Q
def Jx (X:List Int):Prop:=∀c m,X=c::m->c=97
theorem Jx.nil:Jx []:=by intro c m h;cases h
theorem Jx.cons (X:List Int):Jx (97::X):=by intro c m h;cases h;rfl
theorem Jx.nonum (h:Jx X):M2 X:=by intro c m e;rw[h c m e];decide
theorem Amv (n:Nat):∃c m,ti n=c::m/\48<=c/\c<=57:=by
 have b:=Agx (n:Int);cases h:ti (n:Int) with
 | nil=>exact (b h).elim
 | cons c m=>refine⟨c,m,rfl,?_⟩;have d:c∈ti (n:Int):=(by rw[h];simp);unfold ti at d;obtain⟨x,o,rfl⟩:=mem_map.1 d;have e:Lib.itoa (n:Int)=Lib.decDigits n:=(by unfold Lib.itoa;first|rfl | (rw[Ar ω];simp) | simp);rw[e]at o;have:=Agv n n (Nat.le_refl _) x o;omega
theorem Avm (ts:List Bt) (c:Int) (b:Jx X):M2 (Jc false ts c++X):=by
 have k:∀(n:Int) (Y:List Int),M2 (J4 n false++Y):=by intro n Y c m e;unfold J4 at e;simp only[Bool.false_eq_true,if_false]at e;split at e <;> (cases e;decide)
 cases ts with
 | nil=>
  simp only[Jc];split
  .rw[append_assoc];exact k _ _
  .exact b.nonum
 | cons t ts=>simp only[Jc,tT,append_assoc];exact k _ _
theorem Avn {R:List Int} (c:M2 R) (b:M2 S) (h:Ko v++R=Ko w++S):v=w/\R=S:=by
 unfold Ko at h;split at h <;> split at h
 .simp only[D4,nil_append,List.cons.injEq,true_and]at h;exact⟨ω,h⟩
 .simp at h
 .simp at h
 .simp only[D4,List.cons.injEq,true_and]at h;obtain⟨g,f⟩:=Q5 _ _ _ _ (Jq v) (Jq w) c b h;exact⟨Vj g,f⟩
theorem Amw (v:Int):∃c m,Ko v=c::m/\(c=114\/c=118):=by
 unfold Ko;split
 .exact⟨_,_,rfl,.inl rfl⟩
 .exact⟨_,_,rfl,.inr rfl⟩
theorem Amx (X:List Int):M2 (42::X):=by intro c m e;cases e;decide
theorem A8q {a b:Int} {R:List Int} (i:M2 R) (g:M2 S) (h:Li a++(Ko v++R)=Li b++(Ko w++S)):a.natAbs=b.natAbs/\v=w/\R=S:=by
 unfold Li at h;have o:∀(n:Nat) (u:Int) (X Y:List Int),Ko u++X=ti n++[42]++Y->False:=by intro n u X Y e;obtain⟨c,m,f,q⟩:=Amw u;obtain⟨d,k,l,j⟩:=Amv n;rw[f,l]at e;simp only[D4,List.cons.injEq]at e;omega
 split at h <;> split at h
 .rename_i y A;simp only[nil_append]at h;exact⟨y.trans A.symm,Avn i g h⟩
 .exact (o _ _ _ _ h).elim
 .exact (o _ _ _ _ h.symm).elim
 .simp only[append_assoc,D4,nil_append]at h;obtain⟨f,q⟩:=Q5 _ _ _ _ (Jq _) (Jq _) (Amx _) (Amx _) h;have l:=Vj f;obtain⟨j,s⟩:=Avn i g (List.cons.inj q).2;exact⟨ω,j,s⟩
def NoM (P:List Int):Prop:=∃c m,P=c::m/\c≠45
theorem NoM.ti (n:Nat) (X:List Int):NoM (Go.Ab.ti n++X):=by obtain⟨c,m,e,h⟩:=Amv n;exact⟨c,m++X,by rw[e];rfl,ω⟩
theorem NoM.pT (a v:Int) (X:List Int):NoM (Li a++(Ko v++X)):=by
 unfold Li;split
 .obtain⟨c,m,e,h⟩:=Amw v;exact⟨c,m++X,by rw[e];rfl,ω⟩
 .rw[append_assoc];exact NoM.ti _ _
theorem Amy {a b:Int} {f:Bool} {Q:List Int} (i:NoM P) (g:NoM Q) (h:J4 a f++P=J4 b f++Q):(a<0↔b<0)/\P=Q:=by
 obtain⟨c,m,rfl,s⟩:=i;obtain⟨d,k,rfl,y⟩:=g;unfold J4 at h;cases f with
 | true=>
  simp only[if_true]at h;split at h <;> split at h
  .rename_i e o;exact⟨by simp[e,o],by simpa using h⟩
  .simp at h;exact (y h.1.symm).elim
  .simp at h;exact (s h.1).elim
  .rename_i e o;exact⟨by simp[e,o],by simpa using h⟩
 | false=>
  simp only[Bool.false_eq_true,if_false]at h;split at h <;> split at h
  .rename_i e o;exact⟨by simp[e,o],by simpa using h⟩
  .simp at h
  .simp at h
  .rename_i e o;exact⟨by simp[e,o],by simpa using h⟩
theorem Amz {n:Int} (b:Jx X) (h:J4 n false++P=X):False:=by
 unfold J4 at h;simp only[Bool.false_eq_true,if_false]at h;split at h
 .have:=b _ _ h.symm;omega
 .have:=b _ _ h.symm;omega
theorem Avo {c d:Int} {f:Bool} {u:Bt} {m:List Bt} {Y:List Int} (b:Jx X) (k:Jx Y) (h:Jc f [] c++X=Jc f (u::m) d++Y):False:=by
 simp only[Jc,tT]at h;split at h
 .simp only[append_assoc]at h;obtain⟨_,e⟩:=Amy (NoM.ti _ _) (NoM.pT _ _ _) h;unfold Li at e;split at e
  .obtain⟨s,y,j,A⟩:=Amw u.v;obtain⟨B,C,g,D⟩:=Amv c.natAbs;rw[j,g]at e;simp only[nil_append,D4,List.cons.injEq]at e;omega
  .simp only[append_assoc,D4,nil_append]at e;obtain⟨_,g⟩:=Q5 _ _ _ _ (Jq _) (Jq _) b.nonum (Amx _) e;have:=b _ _ g;omega
 .rename_i i;have o:f=false:=(by cases f with|true=>simp at i|false=>rfl);subst o;simp only[nil_append,append_assoc]at h;exact Amz b h.symm
theorem Avp:∀(l m:List Bt) (f:Bool) (c d:Int) (X Y:List Int),Jx X->Jx Y->Jc f l c++X=Jc f m d++Y->l=m/\c=d/\X=Y
 | [],[],f,c,d,X,Y,g,b,h=>by
  simp only[Jc]at h;split at h <;> split at h
  .simp only[append_assoc]at h;obtain⟨x,q⟩:=Amy (NoM.ti _ _) (NoM.ti _ _) h;obtain⟨j,i⟩:=Q5 _ _ _ _ (Jq _) (Jq _) g.nonum b.nonum q;have s:=Vj j;exact⟨rfl,ω,i⟩
  .rename_i e o;have B:f=false:=(by cases f with|true=>simp at o|false=>rfl);subst B;simp only[append_assoc,nil_append]at h;exact (Amz b h).elim
  .rename_i e o;have B:f=false:=(by cases f with|true=>simp at e|false=>rfl);subst B;simp only[append_assoc,nil_append]at h;exact (Amz g h.symm).elim
  .rename_i e o;refine⟨rfl,?_,by simpa using h⟩;have C:c=0:=(by by_cases k:c=0;exact k;exact (e (.inl k)).elim);have D:d=0:=(by by_cases k:d=0;exact k;exact (o (.inl k)).elim);omega
 | [],u::m,f,c,d,X,Y,g,b,h=>(Avo g b h).elim
 | t::l,[],f,c,d,X,Y,g,b,h=>(Avo b g h.symm).elim
 | t::l,u::m,f,c,d,X,Y,g,b,h=>by simp only[Jc,tT,append_assoc]at h;obtain⟨x,q⟩:=Amy (NoM.pT _ _ _) (NoM.pT _ _ _) h;obtain⟨j,i,s⟩:=A8q (Avm _ _ g) (Avm _ _ b) q;obtain⟨A,z,y⟩:=Avp l m false c d X Y g b s;have:t=u:=(by cases t;cases u;simp only at x j i;subst i;congr 1;omega);exact⟨by rw[this,A],z,y⟩
def I4 (a:Bh):List Int:=97::(ti a.P++58::Acz a.L)
def D9 (f:Bi):List Int:=Lg f.v f.I
def Ac0 (m:A7):List Int:=m.F.flatMap D9++m.A.flatMap I4
theorem Aht (l:List Bh):Jx (l.flatMap I4):=by cases l with| nil=>exact Jx.nil| cons a l=>simp only[flatMap_cons,I4,D4];exact Jx.cons _
theorem Ahu (X:List Int):M2 (58::X):=by intro c m e;cases e;decide
theorem Avq:∀(l m:List Bh),l.flatMap I4=m.flatMap I4->l=m
 | [],[],_=>rfl
 | [],b::m,h=>by simp[I4]at h
 | a::l,[],h=>by simp[I4]at h
 | a::l,b::m,h=>by simp only[flatMap_cons,I4,D4,append_assoc,List.cons.injEq,true_and]at h;obtain⟨s,q⟩:=Q5 _ _ _ _ (Jq _) (Jq _) (Ahu _) (Ahu _) h;have k:=(List.cons.inj q).2;obtain⟨g,f,j⟩:=Avp _ _ true _ _ _ _ (Aht l) (Aht m) k;have i:=Avq l m j;have c:=Vj s;obtain⟨⟨d,t1⟩,d1⟩:=a;obtain⟨⟨e,t2⟩,d2⟩:=b;simp only at g f c;rw[g,f,c,i]
theorem Avr (l:List Bi) (b:Jx X):Sz (l.flatMap D9++X):=by cases l with| nil=>intro c m e;rw[b c m e];exact⟨δ,δ⟩| cons a l=>intro c m e;simp only[flatMap_cons,D9,Lg,D4]at e;cases e;exact⟨δ,δ⟩
theorem Am0:∀(l m:List Bi) (X Y:List Int),Jx X->Jx Y->l.flatMap D9++X=m.flatMap D9++Y->l=m/\X=Y
 | [],[],X,Y,_,_,h=>⟨rfl,by simpa using h⟩
 | [],b::m,X,Y,f,_,h=>by simp only[flatMap_cons,flatMap_nil,D9,Lg,D4,nil_append]at h;have:=f _ _ h;omega
 | a::l,[],X,Y,_,c,h=>by simp only[flatMap_cons,flatMap_nil,D9,Lg,D4,nil_append]at h;have:=c _ _ h.symm;omega
 | a::l,b::m,X,Y,f,c,h=>by simp only[flatMap_cons,D9,Lg,D4,append_assoc,List.cons.injEq,true_and]at h;obtain⟨x,u⟩:=Q5 _ _ _ _ (Jq _) (Jq _) (Ahu _) (Ahu _) h;have s:=(List.cons.inj u).2;obtain⟨i,q⟩:=Ag0 _ _ _ _ (Avr l f) (Avr m c) s;obtain⟨k,j⟩:=Am0 l m X Y f c q;have g:=Vj x;obtain⟨y,d⟩:=a;obtain⟨e,o⟩:=b;simp only at i g;exact⟨by rw[i,g,k],j⟩
theorem A8r {m n:A7} (h:Ac0 m=Ac0 n):m=n:=by obtain⟨c,f⟩:=Am0 _ _ _ _ (Aht _) (Aht _) h;have b:=Avq _ _ f;cases m;cases n;simp only at c b;rw[c,b]
def By (l:List Int):Prop:=∀c∈l,0<=c/\c<256
theorem By.app (h:By l) (h':By m):By (l++m):=by
 intro c hc;rcases En.1 hc with k|k
 .exact h c k
 .exact h' c k
theorem By.ti (n:Int):By (Go.Ab.ti n):=by intro c h;have:=Jq n c h;simp only[Q4,Bool.or_eq_true,Cv,beq_iff_eq,Dk]at this;omega
theorem By.cons {c:Int} {l:List Int} (hc:0<=c/\c<256) (h:By l):By (c::l):=by
 intro d hd;rcases Gl.1 hd with rfl|k
 .exact hc
 .exact h d k
theorem By.nil:By []:=λc h=>by cases h
theorem By.sgn (n:Int) (f:Bool):By (J4 n f):=by unfold J4;split <;> split <;> intro c hc <;> simp at hc <;> omega
theorem By.mag (n:Int):By (Li n):=by
 unfold Li;split
 .exact By.nil
 .exact (By.ti _).app (By.cons ω By.nil)
theorem By.var (n:Int):By (Ko n):=by
 unfold Ko;split
 .intro c hc;simp at hc;omega
 .exact By.cons ω (By.ti _)
theorem By.tT (f:Bool) (t:Bt):By (tT f t):=(By.sgn _ _).app ((By.mag _).app (By.var _))
theorem By.lins:∀(l:List Bt) (f:Bool) (c:Int),By (Jc f l c)
 | [],f,c=>by
  simp only[Jc];split
  .exact (By.sgn _ _).app (By.ti _)
  .exact By.nil
 | t::l,f,c=>(By.tT f t).app (By.lins l false c)
theorem By.at (a:Bh):By (I4 a):=By.cons ω ((By.ti _).app (By.cons ω (By.lins _ _ _)))
theorem By.flat {g:α->List Int} (h:∀a,By (g a)) (l:List α):By (l.flatMap g):=by intro c hc;obtain⟨a,_,k⟩:=mem_flatMap.1 hc;exact h a c k
theorem By.fac (f:Bi):By (D9 f):=Ag2 f.v f.I
theorem By.mono (m:A7):By (Ac0 m):=(By.flat By.fac _).app (By.flat By.at _)
def bs (l:List Int):ByteArray:=⟨(Fp l).toArray⟩
theorem Am1 (c:By l) (b:By m) (h:bs l=bs m):l=m:=by
 unfold bs at h;have d:(Fp l).toArray=(Fp m).toArray:=by injection h
 have e:Fp l=Fp m:=by simpa using congrArg Array.toList d
 exact Ama _ _ c b e
def Mk (m:A7):ByteArray:=bs (Ac0 m)
theorem Avs {m n:A7} (h:Mk m=Mk n):m=n:=A8r (Am1 (By.mono m) (By.mono n) h)
theorem Yi (l:List Int):(bs l).size=l.length:=by unfold bs Fp;simp[ByteArray.size]
theorem Avt (h:By l):Od (bs l)=l:=by
 unfold Od bs Fp
 simp only[map_map]
 conv=>rhs;rw[<-map_id l]
 refine map_congr_left λc d=>?_
 have:=h c d
 simp only[Function.comp,UInt8.toNat_ofNat',id]
 omega
theorem A8s (l m:List Int):bs l++bs m=bs (l++m):=by apply ByteArray.ext;rw[ByteArray.data_append];unfold bs Fp;simp
theorem Vr (h:l.length+m.length<=9223372036854775807):Gx (bs l) (bs m)=some (bs (l++m)):=by unfold Gx;rw[Au (by rw[Yi,Yi];exact h),A8s]
theorem Ahv {n:Int} (h:Ee n):Qh n=some (bs (ti n)):=by
 rw[Al8 h]
 congr 2
 congr 1
 unfold Fp ti
 rw[map_map]
 conv=>lhs;rw[<-map_id (Lib.itoa n)]
 refine map_congr_left λc _=>?_
 simp[Function.comp]
theorem Ac1 {S E:Type} {step:S->Option (S⊕E)} {s0:S} {J:E->Option R} (c:α) (xs:List α) (b:Nat->S) (h0:s0=b 0) (h:xs.length<2305843009213693952) (f:∀(j:Nat) (x:α),xs[j]? = some x->decide (((j+1:Nat):Int)<((c::xs).length:Int))=true->Ag (c::xs) ((j+1:Nat):Int)=some x->Ac (((j+1:Nat):Int)+1)=((j+1+1:Nat):Int)->step (b j)=some (.inl (b (j+1)))) (g:decide (((xs.length+1:Nat):Int)<((c::xs).length:Int))=false->∃e,step (b xs.length)=some (.inr e)/\J e=some r):(Am step s0).bind J=some r:=by refine Jn xs.length b h0 (λj d=>?_) (g ψ);have o:xs[j]? = some xs[j]:=Bq d;exact f j _ o (As (by simp only[D2];omega)) (Br rfl ψ) (C6 (n:=xs.length+1) ω ω)
theorem bnd {β:Type} {X:Option α} {a:α} {K:α->Option β} {r:Option β} (h:X=some a) (k:K a=r):X.bind K=r:=by rw[h];exact k
theorem N1 (c:By l) (h:b.length+l.length<=140737488355328):Hx (bs l) b=some ((l.length:Int),b++l):=by simp only[Hx,Xp,Ad,Avt c,Yi];rw[Dl ω];rfl
theorem Vs (c:By l) (h:b.length+l.length<=140737488355328):Kh (bs l) b=some ((l.length:Int),b++l):=by simp only[Kh,Abb,Ad,Avt c,Yi];rw[Dl ω];rfl
theorem P8 (hb:By b):Md b=some (bs b):=by exact Au hb
theorem A8t (hb:By b):Aby b=some (bs b):=P8 hb
theorem Am2 (n:Int) (h : -1048576<=n/\n<=1048576):(Li n).length<=22:=by
 unfold Li;split
 .simp
 .have:=Ow (n:=(n.natAbs:Int)) (by unfold Ee;omega);simp;omega
theorem Ahw (n:Int) (f:Bool):(J4 n f).length<=3:=by unfold J4;split <;> split <;> simp
theorem A8u (h : -1<=v/\v<3000):(Ko v).length<=22:=by
 unfold Ko;split
 .simp
 .have:=Ow (n:=v) (by unfold Ee;omega);simp;omega
structure Avu (a:Bg):Prop where
 c : -1048576<=a.Q/\a.Q<=1048576
 n:a.T.length<=16
 t:∀t∈a.T,(-1<=t.v/\t.v<3000)/\(-1048576<=t.C/\t.C<=1048576)
theorem Am3 {a:Bg} (h:D0 a=true):Avu a:=by unfold D0 at h;simp only[Cv,Dk]at h;refine⟨⟨h.1.1,h.1.2.1⟩,h.1.2.2,λt d=>?_⟩;obtain⟨j,e⟩:=Hu d;have:=Jo h.2 e;simp only[P3,Cv,Dk]at this;omega
theorem Am4 {t:Bt} (f:Bool) (h:(-1<=t.v/\t.v<3000)/\(-1048576<=t.C/\t.C<=1048576)):(tT f t).length<=47:=by have:=Ahw t.C f;have:=Am2 t.C h.2;have:=A8u h.1;unfold tT;simp only[Ew];omega
theorem Avv {n:Int} (h : -1048576<=n/\n<=1048576):(if Ac (0-n)>n then Ac (0-n) else n)=(n.natAbs:Int):=by rw[Ac,B4 ω ω];split <;> omega
theorem c45:ByteArray.mk #[45]=bs [45]:=rfl
theorem A8v:ByteArray.mk #[32,45,32]=bs [32,45,32]:=rfl
theorem A8w:ByteArray.mk #[32,43,32]=bs [32,43,32]:=rfl
theorem c42:ByteArray.mk #[42]=bs [42]:=rfl
theorem Avw:ByteArray.mk #[118]=bs [118]:=rfl
theorem c97:ByteArray.mk #[97]=bs [97]:=rfl
theorem c58:ByteArray.mk #[58]=bs [58]:=rfl
theorem Avx:ByteArray.mk #[114,101,115]=bs [114,101,115]:=rfl
theorem Avy:By [45]:=By.cons ω By.nil
theorem by3 (a b c:Int) (d:0<=a/\a<256) (hb:0<=b/\b<256) (e:0<=c/\c<256):By [a,b,c]:=By.cons d (By.cons hb (By.cons e By.nil))
theorem Avz {n:Int} (f:Bool) (c : -1048576<=n/\n<=1048576) (hb:b.length<=1099511627776):Abz n f b=some ((n.natAbs:Int),b++J4 n f):=by
 unfold Abz J4;rw[Avv c,c45,A8v,A8w];rw[N1 Avy ζ,N1 (by3 _ _ _ ω ω ω) ζ,N1 (by3 _ _ _ ω ω ω) ζ];by_cases h:n<0
 .rw[As h,Au h,Au h];cases f <;> rfl
 .rw[Aw h,Ar h,Ar h];cases f <;> simp
theorem A8x {n:Int} (c : -1048576<=n/\n<=1048576) (hb:b.length<=1099511627776):U1 n true b=some (if n<0 then .inl ((n.natAbs:Int),b++[45]) else .inr ((n.natAbs:Int),b)):=by
 unfold U1;rw[Avv c,c45,Vs Avy ζ];by_cases h:n<0
 .rw[As h,Au h];rfl
 .rw[Aw h,Ar h];rfl
theorem Am5 (h:n<=1048576):Oo (n:Int) 10=some (bs (ti n)):=by unfold Oo Ae3;exact Ahv (by unfold Ee;omega)
theorem Ahx (h:n<=1048576):(ti (n:Int)).length<=21:=Ow (by unfold Ee;omega)
theorem Av0 {n:Int} (c : -1048576<=n/\n<=1048576) (hb:b.length<=1099511627776) : (bif ((n.natAbs:Int) != (1:Int)) then (Oo (n.natAbs:Int) 10).bind λv=>(Gx v (ByteArray.mk #[42])).bind λu=>(Hx u b).bind λw=>some w.2 else some b)=some (b++Li n):=by
 have d:=Ahx (n:=n.natAbs) ω;unfold Li;by_cases h:n.natAbs=1
 .rw[G1 ω,Au h];simp
 .rw[F7 ω,Ar h,Am5 ω,c42];simp only[Ak,Ad];rw[Vr ζ,Ad,N1 ((By.ti _).app (By.cons ω By.nil)) ζ];rfl
theorem Am6 (K:List Int->Option R) (d : -1<=v/\v<3000) (hb:b.length<=1099511627776) : (bif (v==(-1)) then (Hx (ByteArray.mk #[114,101,115]) b).bind λw=>K w.2 else (Jk v).bind λx=>(Gx (ByteArray.mk #[118]) x).bind λy=>(Hx y b).bind λw=>K w.2)=K (b++Ko v):=by
 have e:=Ow (n:=v) (by unfold Ee;omega);unfold Ko;by_cases h:v = -1
 .rw[Ef h,Au h,Avx,N1 (by3 _ _ _ ω ω ω) ζ];rfl
 .rw[Cu h,Ar h,Avw];simp only[Ap,Jk];rw[Ahv (by unfold Ee;omega),Ad,Vr ζ,Ad];rw[show [118]++ti v=118::ti v from rfl,N1 (By.cons ω (By.ti _)) ζ];rfl
theorem Ahy {g:α->List Int} {l:List α} {x:α} (h:l[j]? = some x):(l.take (j+1)).flatMap g=(l.take j).flatMap g++g x:=by rw[Cz h];simp
theorem Am7 {α:Type} {g:α->List Int} {n:Nat}:∀(l:List α),(∀a∈l,(g a).length<=n)->(l.flatMap g).length<=l.length*n
 | [],_=>ψ
 | a::l,h=>by have e:=h a ψ;have o:=Am7 l λb d=>h b (by simp[d]);simp only[flatMap_cons,Ew,D2,Nat.add_mul];omega
theorem Am8 {g:α->List Int} (l:List α) (j:Nat) (h:∀a∈l,(g a).length<=n):((l.take j).flatMap g).length<=l.length*n:=by refine Nat.le_trans (Am7 _ λa d=>h a (mem_of_mem_take d)) (Nat.mul_le_mul_right _ ?_);rw[length_take];omega
theorem Av1:∀(ts:List Bt) (c:Int),Jc false ts c=ts.flatMap (tT false)++Jc false [] c
 | [],c=>ψ
 | t::ts,c=>by have:=Av1 ts c;simp only[flatMap_cons,append_assoc,<-this];rfl
theorem A8y {a:Bg} (h:D0 a=true) (A:a.T≠[]):Qs a=some (bs (Acz a)):=by
 have y:=Am3 h;unfold Qs;rw[X5,h];obtain⟨c,l⟩:=a;cases l with
 | nil=>exact (A rfl).elim
 | cons t ts=>
  have M : -1048576<=c/\c<=1048576:=y.c;have L:ts.length<=15:=(by have:=y.n;simp at this;omega);have o:(-1<=t.v/\t.v<3000)/\(-1048576<=t.C/\t.C<=1048576):=y.t t ψ;have s:∀u∈ts,(-1<=u.v/\u.v<3000)/\(-1048576<=u.C/\u.C<=1048576):=λu C=>y.t u (by simp[C]);have x:=λj=>Am8 (g:=tT false) (n:=47) ts j λu C=>Am4 false (s u C);have I:=Am4 true o;simp only[Ad,Fz,Ap];rw[As (by simp only[D2];omega),Ak];refine bnd (a:=((t.C.natAbs:Int),tT true t)) ?_ ?_
  .rw[show Ag (t::ts) 0=some t from rfl,Ad,A8x o.2 ψ,Ad];have E:=Ow (n:=t.v) (by unfold Ee;omega);have G:=Ahx (n:=t.C.natAbs) ω;have B:=Am2 t.C o.2;by_cases q:t.C<0
   .rw[Au q];simp only;rw[Av0 o.2 ψ,Ad];refine (Am6 (λb=>some ((t.C.natAbs:Int),b)) o.1 ζ).trans ?_;simp[tT,J4,q]
   .rw[Ar q];simp only;by_cases d:t.C.natAbs=1
    .rw[G1 ω];simp only[Ap];by_cases F:t.v = -1
     .rw[Ef F,Avx,Ak,Vs (by3 _ _ _ ω ω ω) ψ];simp[tT,J4,q,Li,d,Ko,F]
     .rw[Cu F,Ap,Avw,Jk,Ahv (by unfold Ee;omega),Ad,Vr ζ,Ad,show [118]++ti t.v=118::ti t.v from rfl,
       Vs (By.cons ω (By.ti _)) ζ];simp[tT,J4,q,Li,d,Ko,F]
    .rw[F7 ω];simp only[Ak];rw[Am5 ω,Ad,c42,Vr ζ,Ad,Vs ((By.ti _).app (By.cons ω By.nil)) ζ,Ad];refine (Am6 (λb=>some ((t.C.natAbs:Int),b)) o.1 ζ).trans ?_;simp[tT,J4,q,Li,d]
  .simp only;refine Ac1 t ts (λj=>(((j+1:Nat):Int),tT true t++(ts.take j).flatMap (tT false))) (by simp[Ac,B4]) ω ?_ ?_
   .intro j u C d H Q;have f:=s u (Bz C);have:=x j;have B:=Am2 u.C f.2;have z:=Ahw u.C false;simp only[d,H,Q,Ak,Ad];rw[Cu ω,Avz false f.2 (by simp only[Ew];omega),Ad,Av0 f.2 (by simp only[Ew];omega),Ad];refine (Am6 (R:=(Int×List Int)⊕List Int) (λb=>some (.inl (((j+1+1:Nat):Int),b))) f.1 (by simp only[Ew];omega)).trans ?_;rw[Ahy C];simp[tT]
   .intro d;have H:=x ts.length;rw[Db]at H;refine⟨tT true t++ts.flatMap (tT false),by simp only[d,Ap,Db],?_⟩;have D:By (tT true t++ts.flatMap (tT false)):=(By.tT _ _).app (By.flat (By.tT _) _);have e:Acz ⟨c,t::ts⟩=tT true t++ts.flatMap (tT false)++Jc false [] c:=(by have:=Av1 ts c;rw[append_assoc,<-this];rfl);rw[e];have k:((((t::ts).length:Nat):Int)==(0:Int))=false:=Cu (by simp only[D2];omega);by_cases i:c=0
    .simp only[G1 i,Ap,k,Ad];rw[P8 D];simp[Jc,i]
    .have J:=Ahx (n:=c.natAbs) ω;have z:=Ahw c false;simp only[F7 i,Ak,Ad,k];rw[Avz false M (by simp only[Ew];omega),Ad,Am5 ω,Ad,N1 (By.ti _) (by simp only[Ew];omega),Ad, P8 ((D.app (By.sgn _ _)).app (By.ti _))];simp[Jc,i]
theorem Av2 {a:Bg} (h:Avu a):(Acz a).length<=1024:=by
 have d:∀(l:List Bt) (f:Bool),(∀t∈l,(-1<=t.v/\t.v<3000)/\(-1048576<=t.C/\t.C<=1048576))->(Jc f l a.Q).length<=47*l.length+24:=by
  intro l;induction l with
  | nil=>intro f _;have e:=Ahx (n:=a.Q.natAbs) (by have:=h.c;omega);have o:=Ahw a.Q f;simp only[Jc];split <;> simp <;> omega
  | cons t l ih=>intro f b;have e:=Am4 f (b t ψ);have o:=ih false λu s=>b u (by simp[s]);simp only[Jc,Ew,D2];omega
 have:=d a.T true h.t;have:=h.n;unfold Acz;omega
structure CMo (m:A7):Prop where
 sz:MSz m
 nf:m.F.length<=6
 na:m.A.length<=6
 al:∀a∈m.A,D0 a.L=true/\a.L.T≠[]/\1<=a.P/\a.P<=6
theorem Ahz {a:Bh} (K:ByteArray->Option R) (h:D0 a.L=true/\a.L.T≠[]/\1<=a.P/\a.P<=6) : ((Jk a.P).bind λu=>(Gx (ByteArray.mk #[97]) u).bind λv=>(Gx v (ByteArray.mk #[58])).bind λw=>(Qs a.L).bind λx=>(Gx w x).bind λy=>K y)=K (bs (I4 a)):=by have d:=Ow (n:=a.P) (by unfold Ee;omega);have e:=Av2 (Am3 h.1);rw[Jk,Ahv (by unfold Ee;omega),Ad,c97,Vr ζ,Ad,c58,Vr ζ,Ad,A8y h.1 h.2.1,Ad,Vr ζ,Ad];simp[I4]
theorem Ac2 {a:Bh} (h:D0 a.L=true/\a.L.T≠[]/\1<=a.P/\a.P<=6):(I4 a).length<=1100:=by have d:=Ow (n:=a.P) (by unfold Ee;omega);have e:=Av2 (Am3 h.1);simp[I4];omega
theorem Ah0 {f:Bi} (h:Bw f.I<=1048576) (b:iR f.I/\Ee f.v):(D9 f).length<=33554432:=by have d:=Ow b.2;have e:=Al6 f.I b.1;simp[D9,Lg];omega
theorem A8z {m:A7} (h:CMo m):Aai m=some (Mk m):=by
 obtain⟨d,c⟩:=m;have k:∀f∈d,Bw f.I<=1048576/\iR f.I/\Ee f.v:=λf o=>⟨h.sz.fi f o,h.sz.fr f o⟩;have s:∀a∈c,D0 a.L=true/\a.L.T≠[]/\1<=a.P/\a.P<=6:=h.al;have T:d.length<=6:=h.nf;have Q:c.length<=6:=h.na;have z:=λ(l:List Bi) (u:∀f∈l,f∈d) (j:Nat)=>Am8 (g:=D9) (n:=33554432) l j λf o=>Ah0 (k f (u f o)).1 (k f (u f o)).2;have A:=λ(l:List Bh) (u:∀a∈l,a∈c) (j:Nat)=>Am8 (g:=I4) (n:=1100) l j λa F=>Ac2 (s a (u a F));have J:∀l:List Bi,By (l.flatMap D9):=λl=>By.flat By.fac l;have D:∀l:List Bh,By (l.flatMap I4):=λl=>By.flat By.at l;have H:∀f:Bi,f∈d->Mw f.v f.I=some (bs (D9 f)):=λf o=>Ag3 f.v f.I (k f o).2.2 (k f o).2.1 (k f o).1;unfold Aai Mk Ac0;cases d with
 | nil=>
  rw[Aw ψ,Ap];cases c with
  | nil=>rw[Aw ψ,Ap];rw[A8t By.nil];rfl
  | cons a c=>
   have F:=s a ψ;have x:=Ac2 F;rw[As (by simp only[D2];omega),Ak,show Ag (a::c) 0=some a from rfl,Ad];refine (Ahz _ F).trans ?_;rw[Vs (By.at a) ζ,Ad];refine Ac1 a c (λj=>(((j+1:Nat):Int),[]++I4 a++(c.take j).flatMap I4)) (by simp[Ac,B4]) (by simp at Q;omega) ?_ ?_
   .intro j b e C L M;have i:=s b (by simp[Bz e]);have:=Ac2 i;have:=A c (λb e=>by simp[e]) j;simp at Q;simp only[C,L,M,Ak,Ad];refine (Ahz _ i).trans ?_;rw[N1 (By.at b) (by simp only[Ew,length_nil];omega),Ad,Ahy e];simp
   .intro C;refine⟨[]++I4 a++c.flatMap I4,by simp only[C,Ap,Db],?_⟩;dsimp only;rw[P8 ((By.nil.app (By.at a)).app (D c))];simp
 | cons f d=>
  have o:=k f ψ;have I:=Ah0 o.1 o.2;rw[As (by simp only[D2];omega),Ak,show Ag (f::d) 0=some f from rfl,Ad,H f ψ,Ad,Vs (By.fac f) ζ,Ad];refine Ac1 f d (λj=>(((j+1:Nat):Int),[]++D9 f++(d.take j).flatMap D9)) (by simp[Ac,B4]) (by simp at T;omega) ?_ ?_
  .intro j g U C L M;have q:g∈f::d:=(by simp[Bz U]);have:=Ah0 (k g q).1 (k g q).2;have:=z d (λb e=>by simp[e]) j;simp at T;simp only[C,L,M,Ak,Ad];rw[H g q,Ad,N1 (By.fac g) (by simp only[Ew,length_nil];omega),Ad,Ahy U];simp
  .intro C;have E:=z d (λb e=>by simp[e]) d.length;rw[Db]at E;simp at T;refine⟨[]++D9 f++d.flatMap D9,by simp only[C,Ap,Db],?_⟩;have y:By ([]++D9 f++d.flatMap D9):=(By.nil.app (By.fac f)).app (J d);have G:([]++D9 f++d.flatMap D9).length<=234881024:=(by simp only[Ew,length_nil];omega);have eB:(f::d).flatMap D9 = []++D9 f++d.flatMap D9:=ψ;rw[eB];generalize []++D9 f++d.flatMap D9=B at y G;cases c with
   | nil=>rw[Aw ψ,Ap,P8 y];simp
   | cons a c=>
    have F:=s a ψ;have x:=Ac2 F;rw[As (by simp only[D2];omega),Ak,show Ag (a::c) 0=some a from rfl,Ad];refine (Ahz _ F).trans ?_;rw[N1 (By.at a) ω,Ad];refine Ac1 a c (λj=>(((j+1:Nat):Int),B++I4 a++(c.take j).flatMap I4)) (by simp[Ac,B4]) (by simp at Q;omega) ?_ ?_
    .intro j b e C L M;have i:=s b (by simp[Bz e]);have:=Ac2 i;have:=A c (λb e=>by simp[e]) j;simp at Q;simp only[C,L,M,Ak,Ad];refine (Ahz _ i).trans ?_;rw[N1 (By.at b) (by simp only[Ew];omega),Ad,Ahy e];simp
    .intro C;refine⟨B++I4 a++c.flatMap I4,by simp only[C,Ap,Db],?_⟩;dsimp only;rw[P8 ((y.app (By.at a)).app (D c))];simp
def plc (ts:List An):List (ByteArray×Int):=ts.zipIdx.map λq=>(Mk q.1.M,(q.2:Int))
def Dst (ts:List An):Prop:=ts.Pairwise λt u=>t.M≠u.M
theorem A80 (ts:List An) (t:An):plc (ts++[t])=plc ts++[(Mk t.M,(ts.length:Int))]:=by unfold plc;simp[zipIdx_append]
theorem Ac3 (ts:List An) (j:Nat):(plc ts)[j]? = (ts[j]?).map λt=>(Mk t.M,(j:Int)):=by unfold plc;simp[getElem?_map,getElem?_zipIdx];cases ts[j]? <;> rfl
theorem A81 (h:ts[j]? = some t) (b:u.M=t.M):plc (ts.set j u)=plc ts:=by
 apply ext_getElem?;intro i;rw[Ac3,Ac3,getElem?_set];by_cases e:j=i
 .subst e;rw[Au rfl,Au (Ek h),h];simp[b]
 .rw[Ar e]
theorem Am9 {α:Type}:∀(o:List (ByteArray×α)) (s:ByteArray) (v:α),Fd o s=false->Gy o s v=o++[(s,v)]
 | [],_,_,_=>rfl
 | p::o,s,v,h=>by simp only[Fd,any_cons,Bool.or_eq_false_iff]at h;simp only[Gy,h.1,Ap,D4,List.cons.injEq,true_and];exact Am9 o s v h.2
theorem A82 {m:A7} (h:∀t∈ts,t.M≠m):Fd (plc ts) (Mk m)=false:=by unfold Fd;rw[any_eq_false];intro p hp;obtain⟨j,d⟩:=Hu hp;rw[Ac3]at d;cases o:ts[j]? with| none=>rw[o]at d;cases d| some t=>rw[o]at d;simp only[Option.map_some,Option.some.injEq]at d;subst d;intro e;have e:=(Nw _ _).1 e;exact h t (Bz o) (Avs e).symm
theorem A83 (y:Dst ts) (h:ts[j]? = some t):Fd (plc ts) (Mk t.M)=true/\Iv (plc ts) (Mk t.M) 0=(j:Int):=by
 have hp:(plc ts)[j]? = some (Mk t.M,(j:Int)):=by rw[Ac3,h];rfl
 refine⟨any_eq_true.2 ⟨_,Bz hp,(Nw _ _).2 rfl⟩,?_⟩;unfold Iv;have s:(plc ts).find? (λp=>Mk t.M==p.1)=some (Mk t.M,(j:Int)):=by
  cases s:(plc ts).find? (λp=>Mk t.M==p.1) with
  | none=>have:=find?_eq_none.1 s _ (Bz hp);exact (this ((Nw _ _).2 rfl)).elim
  | some q=>
   have A:=find?_some s;obtain⟨i,d⟩:=Hu (mem_of_find?_eq_some s);rw[Ac3]at d;cases o:ts[i]? with
   | none=>rw[o]at d;cases d
   | some u=>
    rw[o]at d;simp only[Option.map_some,Option.some.injEq]at d;subst d;have e:=Avs ((Nw _ _).1 A);have f:i=j:=by
     have c:=Ek o;have b:=Ek h;rw[Bq c]at o;rw[Bq b]at h;rcases Nat.lt_trichotomy i j with k|k|k
     .have:=pairwise_iff_getElem.1 y i j c b k;rw[Eu o,Eu h]at this;exact (this e.symm).elim
     .exact k
     .have:=pairwise_iff_getElem.1 y j i b c k;rw[Eu o,Eu h]at this;exact (this e).elim
    subst f;rw[e]
 rw[s];rfl
open Classical in
theorem Vt (t:An) (p:List An) (m:A7):cf (t::p) m=(if t.M=m then rq t.C else 0)+cf p m:=by
 simp only[cf];by_cases e:t.M=m
 .rw[Au (Vq.2 e),Au e]
 .rw[Ar λh=>e (Vq.1 h),Ar e]
open Classical in
theorem Av3:∀{ts:List An} {j:Nat} {t u:An},ts[j]? = some t->u.M=t.M->∀m,cf (ts.set j u) m=cf ts m+(if t.M=m then rq u.C-rq t.C else 0)
 | [],j,t,u,h,_,m=>by simp at h
 | s::ts,0,t,u,h,d,m=>by simp only[getElem?_cons_zero,Option.some.injEq]at h;subst h;rw[set_cons_zero,Vt,Vt,d];split <;> grind
 | s::ts,j+1,t,u,h,d,m=>by simp only[getElem?_cons_succ]at h;rw[set_cons_succ,Vt,Vt,Av3 h d m];grind
theorem Dst.set (h:Dst ts) (ht:ts[j]? = some t) (b:u.M=t.M):Dst (ts.set j u):=by
 have e:(ts.set j u).map (·.M)=ts.map (·.M):=by
  apply ext_getElem?;intro i;rw[getElem?_map,getElem?_map,getElem?_set];by_cases e:j=i
  .subst e;rw[Au rfl,Au (Ek ht),ht];simp[b]
  .rw[Ar e]
 have k:∀l:List An,Dst l↔(l.map (·.M)).Pairwise (·≠·):=λl=>by rw[pairwise_map];exact Iff.rfl
 rw[k,e,<-k];exact h
structure Col (k:Nat) (P:A7->Prop) (ts:List An):Prop where
 dst:Dst ts
 tb:∀t∈ts,RB k t.C
 mo:∀t∈ts,P t.M
theorem Col.nil (k:Nat) (P:A7->Prop):Col k P []:=⟨Pairwise.nil,λ_ h=>(by cases h),λ_ h=>(by cases h)⟩
theorem Ana (t u:An) (h:MSz t.M):Qo t u=some (Fg t.M u.M):=by unfold Qo;rw[Aub _ _ h];rfl
theorem A84 (A R:List α) (x y:α):((A++y::x::R).set (A.length+1) y).set A.length x=A++x::y::R:=by induction A with| nil=>rfl| cons a A ih=>simp only[D4,D2,set_cons_succ,ih]
theorem Av4 (A R:List α) (x:α):(A++x::R)[A.length]? = some x:=by simp
theorem A85 (A R:List α) (x y:α):(A++y::x::R)[A.length+1]? = some x:=by induction A with| nil=>rfl| cons a A ih=>simp
theorem A86 {step:Int×List An->Option ((Int×List An)⊕(Int×List An))} (N:Nat) (D:N<4611686018427387904) (b:∀(x:An) (R:List An),step (0,x::R)=some (.inr (0,x::R))) (l:∀(A R:List An) (x y:An),(∀t∈A++y::x::R,MSz t.M)->(A++y::x::R).length<=N->step (((A.length+1:Nat):Int),A++y::x::R) = if Fg x.M y.M<0 then some (.inl ((A.length:Int),A++x::y::R)) else some (.inr (((A.length+1:Nat):Int),A++y::x::R))) : ∀(n:Nat) (A R:List An) (x:An),A.length=n->(∀t∈A++x::R,MSz t.M)->(A++x::R).length<=N -> ∃f i,Am step ((A.length:Int),A++x::R)=some ((f.length:Int),f++x::(i++R))/\A=f++i/\(∀a∈i,ltT x a)/\∀q y,f=q++[y]->¬ltT x y:=by
 intro n;induction n with
 | zero=>intro A R x g _ _;have:A = []:=Fr.1 g;subst this;exact⟨[],[],Ga (b x R),rfl,nofun,(λq y h=>by simp at h)⟩
 | succ n ih=>
  intro A R x g k c;obtain⟨B,y,rfl⟩:∃B y,A=B++[y]:=by
   rcases eq_nil_or_concat A with h|⟨B,y,h⟩
   .rw[h]at g;cases g
   .exact⟨B,y,by simpa using h⟩
  have s:B.length=n:=(by simpa using g);have u:(B++[y])++x::R=B++y::x::R:=ψ;have el:(((B++[y]).length:Nat):Int)=((B.length+1:Nat):Int):=ψ;rw[u]at k c ⊢;rw[el];have j:=l B R x y k c;by_cases o:Fg x.M y.M<0
  .rw[Au o]at j;obtain⟨f,i,E,F,G,H⟩:=ih B (y::R) x s (by intro t C;refine k t ?_;simp only[En,Gl]at C ⊢;rcases C with h|h|h|h <;> simp[h]) (by simpa using c);refine⟨f,i++[y],?_,by rw[F];simp,?_,H⟩
   .rw[Lm j,E];simp
   .intro a d;rcases En.1 d with d|d
    .exact G a d
    .simp only[D5]at d;subst d;exact o
  .rw[Ar o]at j;refine⟨B++[y],[],?_,ψ,nofun,?_⟩
   .rw[Ga j];simp
   .intro q z I;have:=append_inj' I rfl;have e:y=z:=(by simpa using this.2);subst e;exact o
theorem A87 {a b c:An} (h:ltT a b) (d:ltT b c):ltT a c:=Ahr h d
theorem A88 {c j:List An} {x:An} (u:(c++j).Pairwise ltT) (o:∀a∈j,ltT x a) (A:∀g y,c=g++[y]->¬ltT x y) (B:∀a∈c,a.M≠x.M):(c++x::j).Pairwise ltT:=by
 obtain⟨i,s,l⟩:=pairwise_append.1 u;have C:∀a∈c,ltT a x:=by
  intro a d;rcases eq_nil_or_concat c with h|⟨g,y,h⟩
  .rw[h]at d;cases d
  .have h:c=g++[y]:=(by simpa using h);have f:ltT y x:=by
    have q:=A g y h;have z:=B y (by rw[h];simp);unfold ltT at *;rcases Int.lt_trichotomy (Fg x.M y.M) 0 with k|k|k
    .exact (q k).elim
    .exact (z (Vq.1 k).symm).elim
    .exact Avj.1 k
   rw[h]at d i;rcases En.1 d with d|d
   .exact A87 ((pairwise_append.1 i).2.2 a d y ψ) f
   .simp only[D5]at d;subst d;exact f
 refine pairwise_append.2 ⟨i,pairwise_cons.2 ⟨o,s⟩,λa d b e=>?_⟩;rcases Gl.1 e with rfl|e
 .exact C a d
 .exact l a d b e
noncomputable def Ac4:Int×List An->Option ((Int×List An)⊕(Int×List An)):=λ(d,b)=> (show OB from bif d>(0:Int) then ((Ag b d).bind λh=> (Ag b (Ac (d-1))).bind λg=> (Qo h g).bind λo=> some (decide (o<(0:Int)))) else some false).bind λf=>
 bif f then ((Ag b (Ac (d-1))).bind λe=> (Ag b d).bind λc=> (Ag b d).bind λs=> (Ag (Ct b d e) (Ac (d-1))).bind λy=> some (.inl ((Ac (d-1)),(Ct (Ct b d e) (Ac (d-1)) c)))) else some (.inr (d,b))
theorem A89 (y:An) (R:List An):Ac4 (0,y::R)=some (.inr (0,y::R)):=by unfold Ac4;simp only[Aw (ω:¬(0:Int)>0),Ap,Ad]
theorem A9a (h:N<=1099511627776) (A R:List An) (u y:An) (b:∀t∈A++y::u::R,MSz t.M) (c:(A++y::u::R).length<=N):Ac4 (((A.length+1:Nat):Int),A++y::u::R) = if Fg u.M y.M<0 then some (.inl ((A.length:Int),A++u::y::R)) else some (.inr (((A.length+1:Nat):Int),A++y::u::R)):=by
 have g:A.length+1<N:=by simp at c;omega
 have f:Ac (((A.length+1:Nat):Int)-1)=(A.length:Int):=by rw[Ac,B4] <;> omega
 unfold Ac4;simp only[As (ω:((A.length+1:Nat):Int)>0),Ak,f,Br (n:=A.length+1) rfl (A85 A R u y),Br (n:=A.length) rfl (Av4 A (u::R) y),Ad,Ana u y (b u ψ)];by_cases d:Fg u.M y.M<0
 .rw[As d,Au d];simp only[Ak];rw[He (n:=A.length+1) rfl,He (n:=A.length) rfl,A84];have:Ag ((A++y::u::R).set (A.length+1) y) (A.length:Int)=some y:=(by refine Br rfl ?_;rw[getElem?_set_ne ω];exact Av4 A (u::R) y);rw[this];rfl
 .rw[Aw d,Ar d];rfl
theorem A9b (b:List An) (M:Dst b) (I:∀t∈b,MSz t.M) (L:b.length<=1099511627776) : ∃R,Abd 0 (b.length:Int) b=some R/\R.Perm b/\R.Pairwise ltT:=by
 unfold Abd;cases b with
 | nil=>refine⟨[],?_,Perm.refl _,Pairwise.nil⟩;refine Jn 0 (λ_=>((1:Int),([]:List An))) (by simp[Ac,B4]) (λj V=>ω) ⟨[],?_,rfl⟩;simp
 | cons H A=>
 generalize f:H::A=b at *;have e:1<=b.length:=by rw[<-f];simp
 refine Ej (λs=>∃(i:Nat) (S:List An),s=((i:Int),S++b.drop i)/\1<=i/\i<=b.length/\S.length=i/\S.Perm (b.take i)/\S.Pairwise ltT) (λs=>b.length-s.1.toNat) (λR=>R.Perm b/\R.Pairwise ltT) ⟨1,[H],by rw[<-f];simp[Ac,B4],ω,e,rfl,by rw[<-f];simp,pairwise_singleton _ _⟩ ?_ ?_
 .rintro _ ⟨i,S,rfl,J,W,G,c,k⟩;rcases Cf i b.length with h|h
  .have F:b[i]? = some b[i]:=Bq h;generalize b[i]=x at F;have g:b.drop i=x::b.drop (i+1):=Jv F;have z:(S++x::b.drop (i+1)).length=b.length:=ζ;have y:∀t∈S++x::b.drop (i+1),t∈b:=by
    intro t d;rcases En.1 d with d|d
    .exact mem_of_mem_take (c.mem_iff.1 d)
    .rw[<-g]at d;exact mem_of_mem_drop d
   simp only[As (ω:(i:Int)<(b.length:Int)),Ak,C6 h ω];rw[g];left;obtain⟨q,l,C,o,Q,T⟩:=A86 (step:=Ac4) b.length ω A89 (A9a ω) S.length S (b.drop (i+1)) x rfl (λt d=>I t (y t d)) (by rw[z];exact Nat.le_refl _);rw[G]at C;have hp:(q++x::l).Perm (b.take (i+1)):=(by rw[Cz F];have:(q++x::l).Perm ((q++l)++[x]):=(by rw[append_assoc];exact Perm.append_left q (perm_append_singleton x l).symm);exact this.trans (by rw[<-o];exact c.append_right [x]));refine⟨(((i+1:Nat):Int),(q++x::l)++b.drop (i+1)),bnd C ψ,⟨i+1,q++x::l,rfl,ω,ω,?_,hp,?_⟩,ζ⟩
   .rw[hp.length_eq,length_take];omega
   .rw[o]at k;refine A88 k Q T λa U=>?_;have E:a∈b.take i:=c.mem_iff.1 (by rw[o];simp[U]);have B:x∈b.drop i:=(by rw[g];simp);have D:(b.take i++b.drop i).Pairwise λt u=>t.M≠u.M:=(by rw[take_append_drop];exact M);exact (pairwise_append.1 D).2.2 a E x B
  .have:i=b.length:=ω;subst this;rw[Db]at c;simp only[Aw (ω:¬(b.length:Int)<(b.length:Int)),Ap,drop_length,append_nil];exact .inr ⟨S,rfl,c,k⟩
 .rintro R ⟨C,o⟩;exact⟨R,rfl,C,o⟩
theorem Lj {l:List α} (h:n=l.length):F6 n l=some ():=by unfold F6;rw[Au h]
theorem A9c {s:ByteArray} (h0:0<=i) (h:i.toNat<s.size):∃c,Kv s i=some c:=by unfold Kv;rw[Au h0];exact⟨_,getElem?_pos s i.toNat h⟩
set_option maxRecDepth 20000 in
theorem Anb {n:Nat} (h:n<256):∃v,Sd (Ba (n:Int))=some v:=by
 unfold Sd Afr;rw[Ba,Dr ω ω,Aw ω];simp only[Ap,Ad];rw[Aw ω];simp only[Ap,Ad];rw[Aw ω];simp only[Ap,Ad];have b:wu8 (n:Int)=(n:Int):=by rw[wu8];unfold IntKind.wrap;simp[IntKind.bits,IntKind.signed];omega
 rw[b];generalize g:ByteArray.mk _=T;have f:T.size=256:=by rw[<-g];rfl
 obtain⟨c,d⟩:=A9c (s:=T) (i:=(n:Int)) ω (by rw[f];simpa using h);rw[d];exact⟨_,rfl⟩
theorem A9d (b:List An) (e:Dst b) (f:∀t∈b,MSz t.M) (c:b.length<=12):∃R,Qm b=some R/\R.Perm b/\R.Pairwise ltT:=by
 obtain⟨R,h,d,o⟩:=A9b b e f ω;obtain⟨v,s⟩:=Anb (n:=b.length) ω;refine⟨R,?_,d,o⟩;unfold Qm;rw[Nat.ble_eq_true_of_le c,Ak];unfold Ale;rw[s,Ad];have hp:Aa2 0 (b.length:Int) v b=some R:=by unfold Aa2;refine bnd (a:=R) (Ga ?_) rfl;have w:Ac ((b.length:Int)-0)=(b.length:Int):=ξ;simp only[w,As (ω:(b.length:Int)<=12),Ak,h,Ad,Lj d.length_eq.symm]
 rw[hp,Ad,Lj d.length_eq.symm];rfl
def clT (t:An):An:=⟨Cg (sv t.C) (nv t.C) (dv t.C),t.M⟩
theorem A9e (p:List An) (A:k<34359738000) (hp:∀t∈p,RB k t.C/\MSz t.M) (b:p.length<=1048576):W8 p=some (p.map clT):=by
 unfold W8;refine Gd p (λj=>((j:Int),(p.take j).map clT)) rfl ω ?_ ?_
 .intro j x B d e h o;obtain⟨s,y⟩:=hp x (Bz d);simp only[e,h,o,Ak,Ad,Ahd x.C k s ω,A8o x.M y];rw[Dl ζ,Ad,Cz d];simp[clT]
 .intro e;exact⟨p.map clT,ψ,rfl⟩
theorem A9f (p:List An) (m:A7):cf (p.map clT) m=cf p m:=by induction p with| nil=>rfl| cons t p ih=>simp only[map_cons,cf,ih,clT];rw[Nz _ _ _ (F2 _)];rfl
theorem A9g {q:List An} (h:p.Perm q) (m:A7):cf p m=cf q m:=by induction h with| nil=>rfl| cons x _ ih=>simp only[cf,ih]| swap x y l=>simp only[cf];grind| trans _ _ d e=>rw[d,e]
def nzT (t:An):Bool:=decide (rq t.C≠0)
theorem A9h (p:List An) (m:A7):cf (p.filter nzT) m=cf p m:=by
 induction p with
 | nil=>rfl
 | cons t p ih=>
  by_cases h:rq t.C=0
  .rw[filter_cons_of_neg (by simp[nzT,h]),ih];simp only[cf,h];grind
  .rw[filter_cons_of_pos (by simp[nzT,h])];simp only[cf,ih]
theorem A9i (x:Rat):(N0 x != (0:Int))=decide (x≠0):=by
 unfold N0;by_cases d:x<0
 .rw[Au d];have:x≠0:=(by intro e;subst e;exact absurd d δ);simp[this]
 .rw[Ar d];by_cases h:0<x
  .rw[Au h];have:x≠0:=(by intro e;subst e;exact absurd h δ);simp[this]
  .rw[Ar h];have:x=0:=Rat.le_antisymm (Rat.not_lt.1 h) (Rat.not_lt.1 d);simp[this]
theorem Av5 {f:α->Bool} {l:List α} {x:α} (h:l[j]? = some x):(l.take (j+1)).filter f=(l.take j).filter f++(if f x then [x] else []):=by rw[Cz h,filter_append];congr 1;cases k:f x <;> simp[filter,k]
theorem Av6 (x:Ck) (C:CSz x) (ps:List (List An)) (A:∀p∈ps,∀t∈p,TSz t) (I:ps.length<=1048576) : ∃r,Of x ps=some r/\(((Ij x/\∀p∈ps,Jr x.D x.V x.E p=true)/\∃y,r = .inl (true,x,y,[],x.D,x.V,x.E.G,x.E.U,x.E.R)/\E4 x.D x.V x.E y) \/ ((¬(Ij x/\∀p∈ps,Jr x.D x.V x.E p=true))/\r = .inr false)):=by
 obtain⟨b,Q,J⟩:=Agp C.ds;have G:=C.nv;have E:=C.rs;unfold Of;rw[Q,Xx x.D x.E 0 ω];by_cases k:x.V.length<=3000
 .rw[Aw ω];simp only[Ap,Ad];cases b with
  | false=>exact⟨_,rfl,.inr ⟨λh=>(by have:=J.2 h.1.2.1;cases this),rfl⟩⟩
  | true=>
   have T:=J.1 rfl;simp only[Fz,Ap];cases B:(Fe x.D 0 x.E&&decide (B0 x.E<=200)) with
   | false=>exact⟨_,rfl,.inr ⟨λh=>(by have:=h.1.2.2.1;rw[show G4 x.D x.E=false from B]at this;cases this),rfl⟩⟩
   | true=>
    simp only[Fz,Ap,Ad];refine Ej (λi=>∃j:Nat,i=j/\j<=x.V.length/\(x.V.take j).all (G4 x.D)=true) (λi=>x.V.length-i.toNat) (λz=>match z with|.inl r=>r=false/\¬Ij x | .inr _=>Ij x) ⟨0,rfl,ω,ψ⟩ ?_ ?_
    .rintro i ⟨j,rfl,U,c⟩;rcases Cf j x.V.length with h|h
     .have d:x.V[j]? = some x.V[j]:=Bq h;generalize x.V[j]=t at d;have:=C.vs t (Bz d);simp only[As (ω:(j:Int)<(x.V.length:Int)),Ak,Br rfl d,Ad,Xx x.D t 0 ω,C6 h ω];rw[show (Fe x.D 0 t&&decide (B0 t<=200))=G4 x.D t from rfl];cases L:G4 x.D t with| true=>exact .inl ⟨_,rfl,⟨j+1,rfl,ω,by rw[Cz d,all_append,c];simp[L]⟩,ζ⟩| false=>refine .inr ⟨.inl false,rfl,rfl,λH=>?_⟩;have:=Gt.1 H.2.2.2 t (Bz d);rw[L]at this;cases this
     .have:j=x.V.length:=ω;subst this;rw[Db]at c;exact .inr ⟨.inr (),ψ,k,T,B,c⟩
    .rintro (r|u) f
     .obtain⟨rfl,f⟩:=f;exact⟨_,rfl,.inr ⟨λh=>f h.1,rfl⟩⟩
     .have M:Ij x:=f;simp only;refine Ej (λs=>∃(j:Nat) (o:List (ByteArray×Int)),s=((j:Int),o)/\j<=ps.length/\E4 x.D x.V x.E o/\∀p∈ps.take j,Jr x.D x.V x.E p=true) (λs=>ps.length-s.1.toNat) (λz=>match z with|.inl r=>r=false/\¬(∀p∈ps,Jr x.D x.V x.E p=true) | .inr o=>E4 x.D x.V x.E o/\∀p∈ps,Jr x.D x.V x.E p=true) ⟨0,[],rfl,ω,(λq h=>by cases h),(λq h=>by simp at h)⟩ ?_ ?_
      .rintro _ ⟨j,o,rfl,U,D,c⟩;rcases Cf j ps.length with h|h
       .have d:ps[j]? = some ps[j]:=Bq h;generalize ps[j]=p at d;have g:=Bz d;obtain⟨y,V,W⟩:=A7u (M.ctx C) [] D p (A p g);simp only[As (ω:(j:Int)<(ps.length:Int)),Ak,Br rfl d,Ad,V,C6 h ω];cases l:Jr x.D x.V x.E p with
        | true=>
         refine .inl ⟨_,rfl,⟨j+1,y,rfl,ω,W,λq e=>?_⟩,ζ⟩;rw[Cz d]at e;rcases En.1 e with e|e
         .exact c q e
         .simp only[D5]at e;subst e;exact l
        | false=>refine .inr ⟨.inl false,rfl,rfl,λH=>?_⟩;have:=H p g;rw[l]at this;cases this
       .have:j=ps.length:=ω;subst this;rw[Db]at c;exact .inr ⟨.inr o,ψ,D,c⟩
      .rintro (r|o) F
       .obtain⟨rfl,F⟩:=F;exact⟨_,rfl,.inr ⟨λh=>F h.2,rfl⟩⟩
       .exact⟨_,rfl,.inl ⟨⟨M,F.2⟩,o,rfl,F.1⟩⟩
 .rw[As ω];exact⟨_,rfl,.inr ⟨λh=>k h.1.1,rfl⟩⟩
theorem Anc {vars:List Af} {res:Af} {m:A7} (h:Jw data vars res m=true) (C:MSz m):CMo m:=by
 have o:=(Aho h).2;unfold Jw at h;simp only[Cv,Dk]at h;obtain⟨⟨A,B⟩,F⟩:=h;have b:∀f∈m.F,0<=Eg data vars res f:=by intro f o;obtain⟨j,s⟩:=Hu o;have:=Jo A s;simp only[P5,Cv,Dk]at this;omega
 have d:∀a∈m.A,1<=a.P/\D0 a.L=true/\a.L.T≠[]:=by intro a d;obtain⟨j,s⟩:=Hu d;have:=Jo B s;simp only[Ny,Cv,Dk]at this;refine⟨this.1.1.1.1,this.1.1.1.2,λe=>?_⟩;have i:=this.1.1.2;rw[e]at i;simp at i
 obtain⟨G,H,D⟩:=Aue m.A λa h=>by have:=(d a h).1;omega
 have f1:=A6q m.F b;have I:(m.A.length:Int)<=Eo m.A:=by have y:∀l:List Bh,(∀a∈l,1<=a.P)->(l.length:Int)<=Eo l:=(by intro l;induction l with| nil=>intro _;simp[Eo]| cons f J ih=>intro c;have A:=c f ψ;have B:=ih λg E=>c g (by simp[E]);unfold Eo at *;simp only[map_cons,sum_cons,D2];omega);exact y _ λa h=>(d a h).1
 exact⟨C,o,ω,λa h=>⟨(d a h).2.1,(d a h).2.2,(d a h).1,by have:=D a h;omega⟩⟩
def Jy (x:Ck) (m:A7):Prop:=Jw x.D x.V x.E m=true/\MSz m
theorem Jy.cmo {m:A7} (h:Jy x m):CMo m:=Anc h.1 h.2
structure J5 (x:Ck) (p:List An):Prop where
 can:Jr x.D x.V x.E p=true
 sz:∀t∈p,TSz t
theorem J5.cp (h:J5 x p):CP p:=(Acy.1 h.can).2.1
theorem J5.mo (h:J5 x p):∀t∈p,Jy x t.M:=λt d=>⟨(Acy.1 h.can).2.2 t d,(h.sz t d).mo⟩
theorem J5.of (hc:CP p) (b:∀t∈p,Jy x t.M) (c:∀t∈p,RB 1048576 t.C) (f:p.length<=1000):J5 x p := ⟨Acy.2 ⟨f,hc,λt d=>(b t d).1⟩,λt d=>⟨c t d,(b t d).2⟩⟩
theorem J5.tb (h:J5 x p):∀t∈p,RB 1048576 t.C/\Jy x t.M:=λt d=>⟨(h.sz t d).co,h.mo t d⟩
def bc:Nat->Nat->Nat
 | _,0=>1
 | 0,_+1=>0
 | n+1,k+1=>bc n k+bc n (k+1)
theorem J6 (n:Nat):bc n 0=1:=by cases n <;> rfl
theorem Ac5:∀{n k:Nat},n<k->Ia n k=0
 | n,0,h=>absurd h ω
 | n,k+1,h=>by
  rw[Ia];by_cases e:n<k
  .rw[Ac5 e,Nat.zero_mul]
  .rw[show n-k=0 by omega,Nat.mul_zero]
theorem Av7 (n:Nat):∀k,Ia (n+1) (k+1)=(n+1)*Ia n k
 | 0=>by simp[Ia]
 | k+1=>by rw[Ia,Av7 n k,Ia,show n+1-(k+1)=n-k by omega,Nat.mul_assoc]
theorem Yj:∀n k,Ia n k=fct k*bc n k
 | n,0=>by rw[J6];rfl
 | 0,k+1=>by rw[Ac5 ω];simp[bc]
 | n+1,k+1=>by
  have d:=Yj n (k+1);have h:=Yj n k;rw[Av7,bc,Nat.mul_add,<-d,fct,Ia,Nat.mul_right_comm,<-h];by_cases e:k<=n
  .rw[<-Nat.mul_add,Nat.mul_comm,show k+1+(n-k)=n+1 by omega]
  .rw[Ac5 ω];simp
theorem Ac6:∀n k,bc n k<=2 ^ n
 | n,0=>by rw[J6];exact Nat.one_le_two_pow
 | 0,k+1=>by simp[bc]
 | n+1,k+1=>by have d:=Ac6 n (k+1);have e:=Ac6 n k;rw[bc,Nat.pow_succ];omega
def cR (n:Nat):Ao:=Cg false n 1
theorem Tc (n:Nat):sv (cR n)=false/\nv (cR n)=n/\dv (cR n)=1:=by
 obtain⟨g,f,c,b⟩:=Ahg false n 1 δ;refine⟨?_,?_,?_⟩
 .by_cases h:n=0
  .exact b h
  .exact c h
 .unfold cR;rw[g];simp
 .unfold cR;rw[f];simp
theorem O0 (h:Bs n<=k) (d:1<=k):RB k (cR n):=M4 _ _ _ _ h (by rw[Oz];exact d) d
theorem A9j {b:Nat} (d:Bs a<=K) (hb:Bs b<=K) (c:1<=K) (h:K<60000000000):Jj (cR a) (cR b)=some (cR (a+b)):=by obtain⟨e,o,s⟩:=Tc a;obtain⟨y,A,f⟩:=Tc b;rw[Ahf _ _ K K (O0 d c) (O0 hb c) ω ω,e,o,s,y,A,f];simp[L0,Kn,cR]
theorem A9k (d:Bs a<=K) (b:1<=K) (h:K<60000000000):I1 (cR a)=some (if a=0 then 0 else 1):=by obtain⟨e,o,s⟩:=Tc a;rw[Ahe _ K (O0 d b) ω,e,o];simp[Lh]
theorem Ah1:Ei 0=some (cR 0):=X7 0 δ δ
theorem Ml:Ei 1=some (cR 1):=X7 1 δ δ
theorem Av8 (n k:Nat) (b:n<1000000000) (d:k<=64):Aar (n:Int) (k:Int)=some (cR (bc n k),true):=by
 unfold Aar;have e:(if (n:Int)>0 then (n:Int) else 0)=(n:Int):=by split <;> omega
 simp only[Aw (ω:¬(k:Int)<0),Ap,Aw (ω:¬(k:Int)>64),Ad,e,Auw n k b d];rw[Yj,show Cg false (fct k*bc n k) (fct k)=Cg false (fct k*bc n k) (fct k*1) by rw[Nat.mul_one],S8 _ _ _ _ (Yd k)];rfl
theorem Av9 (n k:Nat) (b:n<1000000000) (d:k<=64):Xq (n:Int) (k:Int)=some (cR (bc n k),true):=Av8 n k b d
theorem Ane:∀(l:List Af) (r:List Bool) (s:Nat) (n:Nat) (p:Int) (L:Nat->Option Af),l.length=r.length->(∀j,L (s+j)=l[j]?) -> (((r.zipIdx s).filter λq=>!q.1).map λq=>(q.2:Int))[n]? = some p->∃(m:Nat) (a:Af),p=m/\L m=some a/\(Gf l r)[n]? = some a
 | [],[],s,n,p,L,_,_,h=>by simp at h
 | a::l,b::r,s,n,p,L,i,g,h=>by
  have c:l.length=r.length:=(by simpa using i);have f:∀j,L (s+1+j)=l[j]?:=λj=>by rw[show s+1+j=s+(j+1) by omega,g];rfl
  cases b with
  | true=>simp only[zipIdx_cons,filter_cons,Fz]at h;obtain⟨m,x,d,e,o⟩:=Ane l r (s+1) n p L c f (by simpa using h);exact⟨m,x,d,e,by simpa[Gf] using o⟩
  | false=>simp only[zipIdx_cons,filter_cons,Bool.not_false,if_true,map_cons]at h;cases n with| zero=>simp only[getElem?_cons_zero,Option.some.injEq]at h;exact⟨s,a,h.symm,by have:=g 0;simpa using this,by simp[Gf]⟩| succ n=>simp only[getElem?_cons_succ]at h;obtain⟨m,x,d,e,o⟩:=Ane l r (s+1) n p L c f h;exact⟨m,x,d,e,by simpa[Gf] using o⟩
 | [],_::_,_,_,_,_,h,_,_=>by simp at h
 | _::_,[],_,_,_,_,h,_,_=>by simp at h
theorem A9l {l:List Af} {r:List Bool} (b:l.length=r.length) {p:Int} (h:(Jb r)[n]? = some p):∃(m:Nat) (a:Af),p=m/\l[m]? = some a/\(Gf l r)[n]? = some a := Ane l r 0 n p (λj=>l[j]?) b (λj=>ψ) (by unfold Jb at h;exact h)
theorem A9m (l:List Af) (r:List Bool) (c:l.length=r.length):(Jb r).length=(Gf l r).length:=by
 unfold Jb Gf;rw[C5,C5];have d:∀(l:List Af) (r:List Bool) (s:Nat),l.length=r.length->((r.zipIdx s).filter λq=>!q.1).length=((l.zip r).filter λp=>!p.2).length:=by
  intro l;induction l with
  | nil=>intro r s h;have:r = []:=Fr.1 h.symm;subst this;rfl
  | cons a l ih=>intro r s h;cases r with| nil=>simp at h| cons b r=>have:=ih r (s+1) (by simpa using h);cases b <;> simp[this]
 exact d l r 0 c
theorem Awa {t:Af} (A:t.G=5):∀(n:Nat) (v:Az),C1 v<=n->Hi data v t=true->∀x∈Iy data t.U v,Hi data x t=true/\C1 x<=C1 v:=by
 intro n;induction n with
 | zero=>intro v h;have:=Yg v;omega
 | succ n ih=>
  intro v h q x d;have s:=Mj v;obtain⟨y,_,_,_,k,f⟩:=Ahm A q;rw[Au7]at d;rcases Gl.1 d with rfl|d
  .exact⟨q,Nat.le_refl _⟩
  .have o:∀(l:List Az) (r:List Bool),(∀(j:Nat) (w:Az),l[j]? = some w->r[j]? = some true->Hi data w t=true)->Ec l<=n->x∈Iz data t.U l r->Hi data x t=true/\C1 x<=Ec l:=by
    intro l;induction l with
    | nil=>intro r _ _ d;simp[Iz]at d
    | cons w l c=>
     intro r i u d;cases r with
     | nil=>simp[Iz]at d
     | cons b r=>
      have D:Ec (w::l)=C1 w+Ec l:=(by simp[Ec]);have g:∀(j:Nat) (e:Az),l[j]? = some e->r[j]? = some true->Hi data e t=true:=λj e B C=>i (j+1) e B C;cases b with
      | true=>
       simp only[Iz,Ak,En]at d;rcases d with d|d
       .have:=ih w ω (i 0 w rfl rfl) x d;exact⟨this.1,ω⟩
       .have:=c r g ω d;exact⟨this.1,ω⟩
      | false=>simp only[Iz,Ap,nil_append]at d;have:=c r g ω d;exact⟨this.1,ω⟩
   have:=o v.K _ f ω d;exact⟨this.1,ω⟩
theorem Yk (data:List Aj):∀(is:List Ai) (ts:List Af) (d:Nat),C4 data is ts=some d->is.length=ts.length/\∀(j:Nat) (i:Ai) (t:Af),is[j]? = some i->ts[j]? = some t->∃e,Dj data i t=some e/\e<=d
 | [],[],d,_=>⟨rfl,λj i t h=>by simp at h⟩
 | i::is,t::ts,d,h=>by
  rw[Nx]at h;cases o:Dj data i t with
  | none=>rw[o]at h;cases h
  | some a=>
   rw[o,Ad]at h;cases s:C4 data is ts with
   | none=>rw[s]at h;cases h
   | some b=>rw[s]at h;have h:a+b=d:=Eu h;obtain⟨B,C⟩:=Yk data is ts b s;refine⟨by simp[B],λj i' t' y A=>?_⟩;cases j with| zero=>cases y;cases A;exact⟨a,o,ω⟩| succ j=>obtain⟨e,c,f⟩:=C j i' t' y A;exact⟨e,c,ω⟩
 | [],_::_,_,h=>by simp only[C4]at h;cases h
 | _::_,[],_,h=>by simp only[C4]at h;cases h
def M8 (data:List Aj) (t:Af) (e:Ai):Abw:=⟨e.U,e.K,Jb (Eb data t.U e.U),match Jp data t e.U with|some l=>Gf l (Eb data t.U e.U) | none=>[]⟩
def Js (n:Nat) (f:Nat->Nat):List Ao:=(range (n+1)).map λq=>cR (f q)
theorem Vu (n:Nat) (f:Nat->Nat):(Js n f).length=n+1:=by simp[Js]
theorem Td (f:Nat->Nat) (h:q<=n):(Js n f)[q]? = some (cR (f q)):=by unfold Js;rw[getElem?_map,getElem?_range ω];rfl
theorem Awb {x:Nat} {f:Nat->Nat} (h:q<=n) (o:g q=x) (s:∀p,p<=n->p≠q->g p=f p):Ct (Js n f) (q:Int) (cR x)=Js n g:=by
 rw[He (n:=q) rfl];apply ext_getElem?;intro i;rw[getElem?_set];rcases Cf i (n+1) with d|d
 .rw[Td f ω,Td g ω,Vu];by_cases e:q=i
  .subst e;rw[Au rfl,Au ω,o]
  .rw[Ar e,s i ω (Ne.symm e)]
 .rw[Lt (by rw[Vu];exact d),Lt (by rw[Vu];exact d)];split
  .rw[Ar (by rw[Vu];omega)]
  .rfl
theorem Anf {f:Nat->Nat} (h:∀p,p<=n->f p=g p):Js n f=Js n g:=by
 apply ext_getElem?;intro i;rcases Cf i (n+1) with d|d
 .rw[Td f ω,Td g ω,h i ω]
 .rw[Lt (by rw[Vu];exact d),Lt (by rw[Vu];exact d)]
theorem A9n (fl:List Af) (Q:List Bool) (x:Q.length=fl.length) (y:fl.length<=6) {J:Int×List Int×List Af->Option R} (u:J ((Q.length:Int),Jb Q,Gf fl Q)=some r) : (Am (S:=(Int×List Int×List Af)) (E:=(Int×List Int×List Af)) (λ(d,f,c)=> bif d<(Q.length:Int) then ((Ag Q d).bind λh=> bif (!h) then ((B6 8 f [d]).bind λk=> (Ag fl d).bind λg=> (B6 40 c [g]).bind λi=> some (.inl ((Ac (d+1)),k,i))) else some (.inl ((Ac (d+1)),f,c))) else some (.inr (d,f,c))) (0,[],[])).bind J=some r:=by
 have q:∀j,(Jb (Q.take j)).length<=Q.length:=λj=>by unfold Jb;rw[C5];refine Nat.le_trans (length_filter_le _ _) ?_;simp;omega
 refine Gd Q (λj=>((j:Int),Jb (Q.take j),Gf (fl.take j) (Q.take j))) (by simp[Jb,Gf]) ω ?_ ?_
 .intro j b D A e B C;have o:fl[j]? = some fl[j]:=Bq ω;generalize fl[j]=a at o;have s:=X0 (fl.take j) (Q.take j);have:(fl.take j).length<=6:=ζ;have hp:=q j;have l:Jb (Q.take (j+1))=Jb (Q.take j)++bif b then [] else [(j:Int)]:=by unfold Jb;rw[A54 A,filter_append,map_append];cases b <;> rfl
  simp only[e,B,C,Ak,Ad,l,Ags o A];cases b with| true=>simp| false=>simp only[Bool.not_false,Ak,Ap];rw[Dl ζ,Ad,Br rfl o,Ad,Dl ζ];rfl
 .intro e;exact⟨_,by simp only[e];rfl,by rw[Db,Ii ω];exact u⟩
theorem A9o (n:Nat) (k:n<=100) {J:List Ao->Option R} (h:J (replicate n (cR 0))=some r) : (Am (S:=(Int×List Ao)) (E:=(List Ao)) (λ(b,c)=> bif b<(((replicate n (Ao.mk false [] [])).length:Nat):Int) then ((Ei 0).bind λf=> (Ag c b).bind λg=> some (.inl ((Ac (b+1)),(Ct c b f)))) else some (.inr c)) (0,replicate n (Ao.mk false [] []))).bind J=some r:=by
 refine Gd (replicate n (Ao.mk false [] [])) (λj=>((j:Int),replicate j (cR 0)++replicate (n-j) (Ao.mk false [] []))) ψ ζ ?_ ?_
 .intro j x e y d A o;have s:j<n:=(by simpa using e);have i:replicate (n-j) (Ao.mk false [] [])=Ao.mk false [] []::replicate (n-(j+1)) (Ao.mk false [] []):=(by rw[show n-j=(n-(j+1))+1 by omega];rfl);simp only[d,o,Ak,Ah1,Ad,i];rw[Acb (replicate j (cR 0)) _ _ _ j rfl ψ,Ad,Aca _ _ _ _ _ j rfl ψ];rw[replicate_succ'];simp
 .intro d;exact⟨replicate n (cR 0),by simp only[d];simp,h⟩
theorem A9p:W1 []=some []:=by kernel_rfl
theorem Awc (l:List Int):W1 l=some (l.mergeSort λx y=>decide (x<=y)):=by cases l with| nil=>rw[A9p];simp| cons a l=>rfl
theorem Awd (l:List Int):(l.mergeSort λx y=>decide (x<=y)).Pairwise (·<=·):=by have:=pairwise_mergeSort (le:=λx y:Int=>decide (x<=y)) (λa b c d e=>by simp only[Dk]at *;omega) (λa b=>by simp only[Bool.or_eq_true,Dk];omega) l;exact this.imp (λh=>by simpa using h)
structure Asc (b:List Int) (n:Nat) (l:List Int):Prop where
 up:l.Pairwise (· < ·)
 mem:∀y,y∈l↔y∈b.take n
theorem A9q (c:b.Pairwise (·<=·)) {p:Int} (hp:b[q]? = some p):∀y∈b.take (q+1),y<=p:=by
 intro y s;obtain⟨i,d⟩:=Hu s;rw[getElem?_take]at d;split at d
 .rename_i f;by_cases e:i=q
  .subst e;rw[d]at hp;cases hp;exact Int.le_refl _
  .have h:=Ek d;have o:=Ek hp;have:=(pairwise_iff_getElem.1 c) i q h o ω;rw[Bq h]at d;rw[Bq o]at hp;cases d;cases hp;exact this
 .cases d
theorem Asc.step (g:b.Pairwise (·<=·)) {p x:Int} (h:Asc b (q+1) l) (hp:b[q]? = some p) (hx:b[q+1]? = some x) (j:x≠p):Asc b (q+2) (l++[x]):=by
 have f:=A9q g hp;have i:p<x:=by have h1:=Ek hp;have h2:=Ek hx;have:=(pairwise_iff_getElem.1 g) q (q+1) h1 h2 ω;rw[Bq h1]at hp;rw[Bq h2]at hx;cases hp;cases hx;omega
 refine⟨?_,λy=>?_⟩
 .rw[pairwise_append];refine⟨h.up,ψ,λa ha c hc=>?_⟩;rw[D5]at hc;subst hc;have:=f a ((h.mem a).1 ha);omega
 .rw[Cz hx,En,En,h.mem y]
theorem Asc.same {x:Int} (h:Asc b (q+1) l) (hp:b[q]? = some x) (hx:b[q+1]? = some x):Asc b (q+2) l:=by
 refine⟨h.up,λy=>?_⟩;rw[Cz hx,En,h.mem y];constructor
 .exact .inl
 .rintro (h1|h1)
  .exact h1
  .rw[D5]at h1;subst h1;rw[Cz hp];simp
theorem Ac7 {l:List α} {off:Nat} {x:α} (d:i=j) (e:j<n) (h:l[off+j]? = some x):Ig l off n i=some x:=by subst d;unfold Ig;rw[Au ω];simpa using h
theorem A9r {X:Option (Nat×List Int)} {Q:Nat×List Int->Prop} (h:∃r,X=some r/\Q r):∃(m:Nat) (o:List Int),X=some (m,o)/\Q (m,o):=by obtain⟨⟨m,o⟩,d,e⟩:=h;exact⟨m,o,d,e⟩
theorem A9s {X:Option (Int⊕((Nat×List Int)⊕Unit))} {P:Nat->List Int->Prop} {b:Prop} (h:∃r,X=some r/\∃(m:Nat) (o:List Int),r = .inr (.inl (m,o))/\P m o) : ∃e,X=some (.inr e)/\((∃(m:Nat) (o:List Int),e = .inl (m,o)/\P m o)\/(e = .inr ()/\b)):=by obtain⟨_,d,m,o,rfl,s⟩:=h;exact⟨_,d,.inl ⟨m,o,rfl,s⟩⟩
theorem Awe (b:List Int) (R:b.Pairwise (·<=·)) (hl:b.length<=1099511627776):∃(m:Nat) (o:List Int),Uh b.length b=some (m,o)/\m<=o.length/\Asc b b.length (o.take m):=by
 unfold Uh;by_cases C:b.length<2
 .rw[As ω,Ak];refine⟨b.length,b,rfl,Nat.le_refl _,?_,λy=>Iff.rfl⟩;rw[Db]
  match b,C with| [],_=>simp| [_],_=>simp
 .rw[Aw ω,Ap];refine A9r (Q:=λr:Nat×List Int=>r.1<=r.2.length/\Asc b b.length (r.2.take r.1)) ?_
  .refine Ej (Q:=λr:Nat×List Int=>r.1<=r.2.length/\Asc b b.length (r.2.take r.1)) (λv=>∃j:Nat,v=((j+1:Nat):Int)/\j+1<=b.length/\Asc b (j+1) (b.take (j+1))) (λv=>b.length-v.toNat) (λe:((Nat×List Int)⊕Unit)=>(∃(m:Nat) (o:List Int),e = .inl (m,o)/\m<=o.length/\Asc b b.length (o.take m))\/(e = .inr ()/\Asc b b.length (b.take b.length))) ?_ ?_ ?_ (J:=λz:((Nat×List Int)⊕Unit)=>match z with|.inl (G,E)=>some (G,E) | .inr _=>some (b.length,b))
   .exact⟨0,rfl,ω,by
     refine⟨?_,λy=>Iff.rfl⟩
     match b,C with
     | a::_,_=>simp
     | [],h=>simp at h⟩
   .rintro v ⟨j,rfl,hj,N⟩;rcases Cf (j+1) b.length with h|h
    .have d:b[j+1]? = some b[j+1]:=Bq h;have hp:b[j]? = some b[j]:=Bq ω;generalize b[j+1]=x at d;generalize b[j]=p at hp;have X:Ac (((j+1:Nat):Int)-1)=((j:Nat):Int):=(by rw[show (((j+1:Nat):Int)-1)=(j:Int) by omega,Ac,B4] <;> omega);simp only[As (ω:((j+1:Nat):Int)<(b.length:Int)),Ak,Ac7 (l:=b) (off:=0) (n:=b.length) (i:=((j+1:Nat):Int)) rfl h (by rw[Nat.zero_add];exact d),X, Ac7 (l:=b) (off:=0) (n:=b.length) (i:=((j:Nat):Int)) rfl ω (by rw[Nat.zero_add];exact hp),Ad,C6 h ω];by_cases e:x=p
     .subst e;rw[Ef rfl,Ak];have A:Ru b.length ((j+1:Nat):Int) ((b.length:Nat):Int)=some (j+1,b.length):=(by unfold Ru;rw[Au ω];simp);rw[A,Ad];dsimp only;refine .inr ?_;refine A9s (Ej (Q:=λz:(Int⊕((Nat×List Int)⊕Unit))=>∃(m:Nat) (o:List Int),z = .inr (.inl (m,o))/\m<=o.length/\Asc b b.length (o.take m)) (λz=>∃(w k:Nat) (o:List Int),z=((w:Int),(k:Int),o)/\o.length=b.length/\w<=j+k/\1<=k/\j+1+k<=b.length/\Asc b (j+1+k) (o.take w)/\∀i,w<=i->o[i]? = b[i]?) (λz=>b.length-(j+1)-z.2.1.toNat) (λz=>∃(w k:Nat) (o:List Int),z=((w:Int),(k:Int),o)/\o.length=b.length/\w<=b.length/\Asc b b.length (o.take w)) ?_ ?_ ?_)
      .refine⟨j+1,1,b,rfl,rfl,ω,ω,ω,?_,λ_ _=>rfl⟩;exact N.same hp d
      .rintro z ⟨w,k,o,rfl,D,hw,hk,Z,f,c⟩;rcases Cf (j+1+k) b.length with W|W
       .have F:b[j+1+k]? = some b[j+1+k]:=Bq W;have H:b[j+k]? = some b[j+k]:=Bq ω;generalize b[j+1+k]=y at F;generalize b[j+k]=q at H;have V:Ac ((k:Int)-1)=((k-1:Nat):Int):=(by rw[show ((k:Int)-1)=((k-1:Nat):Int) by omega,Ac,B4] <;> omega);have U:Ac ((k:Int)+1)=((k+1:Nat):Int):=C6 (n:=b.length) ω ω;have S:Ac ((w:Int)+1)=((w+1:Nat):Int):=C6 (n:=b.length) ω ω;have i1:Ig o (0+(j+1)) (b.length-(j+1)) (k:Int)=some y:=Ac7 rfl ω (by rw[Nat.zero_add,c _ ω];exact F);have i2:Ig o (0+(j+1)) (b.length-(j+1)) ((k-1:Nat):Int)=some q:=Ac7 rfl ω (by rw[Nat.zero_add,c _ ω,show j+1+(k-1)=j+k by omega];exact H);have I:o[w]? = some (o[w]' ω):=Bq _;have i3:Ig o 0 b.length (w:Int)=some (o[w]' ω):=Ac7 rfl ω (by rw[Nat.zero_add];exact I);simp only[As (ω:(k:Int)<((b.length-(j+1):Nat):Int)),Ak,i1,i2,i3,V,U,S,Ad];by_cases e:y=q
        .subst e;rw[G1 rfl,Ap];refine .inl ⟨_,rfl,⟨w,k+1,o,rfl,D,ω,ω,ω,?_,c⟩,by simp only[Int.toNat_natCast];omega⟩;have:=Asc.same (q:=j+k) (x:=y) (by rw[show j+k+1=j+1+k by omega];exact f) H (by rw[show j+k+1=j+1+k by omega];exact F);rw[show j+1+(k+1)=j+k+2 by omega];exact this
        .rw[F7 e,Ak];have B:Ct o (((0:Nat):Int)+(w:Int)) y=o.set w y:=He (n:=w) ω y;have s:(o.set w y).take (w+1)=o.take w++[y]:=(by rw[Cz (x:=y) (by rw[getElem?_set,Au rfl,Au ω]),take_set_of_le (Nat.le_refl _)]);rw[B];refine .inl ⟨_,rfl,⟨w+1,k+1,o.set w y,rfl,by simpa using D,ω,ω,ω,?_,?_⟩,by simp only[Int.toNat_natCast];omega⟩
         .rw[s];have:=Asc.step R (q:=j+k) (x:=y) (p:=q) (by rw[show j+k+1=j+1+k by omega];exact f) H (by rw[show j+k+1=j+1+k by omega];exact F) e;rw[show j+1+(k+1)=j+k+2 by omega];exact this
         .intro i hi;rw[getElem?_set,Ar ω];exact c i ω
       .have L:j+1+k=b.length:=ω;refine .inr ⟨((w:Int),(k:Int),o),?_,w,k,o,rfl,D,ω,by rw[<-L];exact f⟩;simp only[Aw (ω:¬(k:Int)<((b.length-(j+1):Nat):Int)),Ap]
      .rintro z ⟨w,k,o,rfl,D,hw,f⟩;dsimp only;have g:Wr b.length (w:Int)=some w:=(by unfold Wr;rw[Au ω];simp);by_cases Y:w=0\/w<b.length
       .have u:T2 b.length (w:Int) ((b.length:Nat):Int)=some (.inl (w,b.length)):=(by unfold T2;rw[Au ω,Au ω];simp);have M:Rv o (0+w) (b.length-w) (0:Int)=some (Gn o (0+w) (replicate (b.length-w) 0)):=(by unfold Rv;rw[Au ω]);rw[u,Ad];dsimp only;rw[M,Ad,g,Ad];have s:(Gn o (0+w) (replicate (b.length-w) (0:Int))).take w=o.take w:=(by unfold Gn;rw[Nat.zero_add,append_assoc,take_append_of_le_length ζ,take_take,Nat.min_self]);refine⟨_,rfl,w,_,rfl,?_,?_⟩
        .unfold Gn;simp;omega
        .rw[s];exact f
       .have u:T2 b.length (w:Int) ((b.length:Nat):Int)=some (.inr ()):=(by unfold T2;rw[Au ω,Ar ω]);rw[u,Ad];dsimp only;rw[g,Ad];exact⟨_,rfl,w,o,rfl,ω,f⟩
     .rw[Cu e,Ap];refine .inl ⟨_,rfl,⟨j+1,rfl,ω,?_⟩,by simp only[Int.toNat_natCast];omega⟩;have:=Asc.step R N hp d e;rw[<-Cz d]at this;exact this
    .have:j+1=b.length:=ω;refine .inr ⟨.inr (),?_,.inr ⟨rfl,by rw[<-this];exact N⟩⟩;rw[Aw ω];rfl
   .rintro e (⟨m,o,rfl,T,C⟩|⟨rfl,T⟩)
    .exact⟨(m,o),rfl,T,C⟩
    .exact⟨(b.length,b),rfl,Nat.le_refl _,T⟩
def Du (b:List Az) (res:Az) (v:Int):Az:=match Ag b v with|some w=>w|none=>res
theorem Ang {b:List Az} (c:b.length=x.V.length) (res:Az) {t:Af} (ht:D3 x.V x.E v=some t):Pe v res b=some (Du b res v):=by
 unfold Pe Du;unfold D3 at ht;by_cases h:v = -1
 .subst h;rw[Ab3 ω];rfl
 .rw[Ar h]at ht;obtain⟨e,o,_⟩:=Hg ht;have d:Ag b v=some (b[v.toNat]' ω):=Br (n:=v.toNat) ω (Bq _);rw[Cu h,d];rfl
theorem A9t {b:List Az} {res:Az} (h:∀v∈b,C1 v<=N) (d:C1 res<=N) (v:Int):C1 (Du b res v)<=N:=by unfold Du;cases e:Ag b v with| none=>exact d| some w=>exact h w (Hg e).2.2.2
def Jd (x:Ck) (b:List Az) (res:Az) (v:Int):Bool:=match D3 x.V x.E v with|some t=>M6 x.D (Du b res v) t|none=>false
noncomputable def Yl (cmp:α->α->Option Int) (a0:Int):Int×List α->Option ((Int×List α)⊕(Int×List α)):=λ(d,b)=> (show OB from bif d>a0 then ((Ag b d).bind λh=> (Ag b (Ac (d-1))).bind λg=> (cmp h g).bind λo=> some (decide (o<(0:Int)))) else some false).bind λf=>
 bif f then ((Ag b (Ac (d-1))).bind λe=> (Ag b d).bind λc=> (Ag b d).bind λs=> (Ag (Ct b d e) (Ac (d-1))).bind λy=> some (.inl ((Ac (d-1)),(Ct (Ct b d e) (Ac (d-1)) c)))) else some (.inr (d,b))
noncomputable def Ym (cmp:α->α->Option Int) (a0 a1:Int) (g:List α):Option (List α) := (Am (S:=(Int×(List α))) (E:=(List α)) (λ(d,b)=> bif d<a1 then ((Am (Yl cmp a0) (d,b)).bind λ(e,f)=> some (.inl ((Ac (d+1)),f))) else (some (.inr b))) ((Ac (a0+1)),g)).bind λc=> some c
theorem A9u (A R:List α) (x y:α):((A++y::x::R).set (A.length+1) y).set A.length x=A++x::y::R:=by induction A with| nil=>rfl| cons a A ih=>simp only[D4,D2,set_cons_succ,ih]
theorem Anh (A R:List α) (x:α):(A++x::R)[A.length]? = some x:=by simp
theorem A9v (A R:List α) (x y:α):(A++y::x::R)[A.length+1]? = some x:=by induction A with| nil=>rfl| cons a A ih=>simp
theorem A9w (cmp:α->α->Option Int) (y:α) (R:List α):Yl cmp 0 (0,y::R)=some (.inr (0,y::R)):=by unfold Yl;simp only[Aw (ω:¬(0:Int)>0),Ap,Ad]
theorem A9x {c:α->α->Int} (i:N<=1099511627776) (A R:List α) (u y:α) (b:cmp u y=some (c u y)) (f:(A++y::u::R).length<=N):Yl cmp 0 (((A.length+1:Nat):Int),A++y::u::R) = if c u y<0 then some (.inl ((A.length:Int),A++u::y::R)) else some (.inr (((A.length+1:Nat):Int),A++y::u::R)):=by
 have h:A.length+1<N:=by simp at f;omega
 have g:Ac (((A.length+1:Nat):Int)-1)=(A.length:Int):=by rw[Ac,B4] <;> omega
 unfold Yl;simp only[As (ω:((A.length+1:Nat):Int)>0),Ak,g,Br (n:=A.length+1) rfl (A9v A R u y),Br (n:=A.length) rfl (Anh A (u::R) y),Ad,b];by_cases d:c u y<0
 .rw[As d,Au d];simp only[Ak];rw[He (n:=A.length+1) rfl,He (n:=A.length) rfl,A9u];have:Ag ((A++y::u::R).set (A.length+1) y) (A.length:Int)=some y:=(by refine Br rfl ?_;rw[getElem?_set_ne ω];exact Anh A (u::R) y);rw[this];rfl
 .rw[Aw d,Ar d];rfl
theorem A9y {c:α->α->Int} (q:N<=1099511627776) : ∀(n:Nat) (A R:List α) (x:α),A.length=n->(∀t∈A,cmp x t=some (c x t))->(A++x::R).length<=N -> ∃f i,Am (Yl cmp 0) ((A.length:Int),A++x::R)=some ((f.length:Int),f++x::(i++R))/\A=f++i/\(∀a∈i,c x a<0)/\∀k y,f=k++[y]->¬c x y<0:=by
 intro n;induction n with
 | zero=>intro A R x g _ _;have:A = []:=Fr.1 g;subst this;exact⟨[],[],Ga (A9w cmp x R),rfl,nofun,(λk y h=>by simp at h)⟩
 | succ n ih=>
  intro A R x g l b;obtain⟨B,y,rfl⟩:∃B y,A=B++[y]:=by
   rcases eq_nil_or_concat A with h|⟨B,y,h⟩
   .rw[h]at g;cases g
   .exact⟨B,y,by simpa using h⟩
  have s:B.length=n:=(by simpa using g);have u:(B++[y])++x::R=B++y::x::R:=ψ;have el:(((B++[y]).length:Nat):Int)=((B.length+1:Nat):Int):=ψ;rw[u]at b ⊢;rw[el];have j:=A9x (cmp:=cmp) (c:=c) q B R x y (l y ψ) b;by_cases o:c x y<0
  .rw[Au o]at j;obtain⟨f,i,C,D,E,F⟩:=ih B (y::R) x s (λt G=>l t (by simp[G])) (by simpa using b);refine⟨f,i++[y],?_,by rw[D];simp,?_,F⟩
   .rw[Lm j,C];simp
   .intro a d;rcases En.1 d with d|d
    .exact E a d
    .simp only[D5]at d;subst d;exact o
  .rw[Ar o]at j;refine⟨B++[y],[],?_,ψ,nofun,?_⟩
   .rw[Ga j];simp
   .intro k z H;have:=append_inj' H rfl;have e:y=z:=(by simpa using this.2);subst e;exact o
theorem A9z {c:α->α->Int} (L:Oe c) {f j:List α} {x:α} (s:(f++j).Pairwise λa b=>¬c b a<0) (o:∀a∈j,c x a<0) (A:∀g y,f=g++[y]->¬c x y<0):(f++x::j).Pairwise (λa b=>¬c b a<0):=by
 obtain⟨i,l,k⟩:=pairwise_append.1 s;have B:∀a∈f,¬c x a<0:=by
  intro a d;rcases eq_nil_or_concat f with h|⟨g,y,h⟩
  .rw[h]at d;cases d
  .have h:f=g++[y]:=(by simpa using h);have q:=A g y h;rw[h]at d i;rcases En.1 d with d|d
   .exact L.ntr x y a q ((pairwise_append.1 i).2.2 a d y ψ)
   .simp only[D5]at d;subst d;exact q
 refine pairwise_append.2 ⟨i,pairwise_cons.2 ⟨λa d h=>L.irr x (L.trs x a x (o a d) h),l⟩,λa d b e=>?_⟩;rcases Gl.1 e with rfl|e
 .exact B a d
 .exact k a d b e
theorem Ani {c:α->α->Int} (L:Oe c) (f:List α) (A:∀x∈f,∀y∈f,cmp x y=some (c x y)) (I:f.length<=1099511627776) : ∃R,Ym cmp 0 (f.length:Int) f=some R/\R.Perm f/\R.Pairwise (λa b=>¬c b a<0):=by
 unfold Ym;cases f with
 | nil=>refine⟨[],?_,Perm.refl _,Pairwise.nil⟩;refine Jn 0 (λ_=>((1:Int),([]:List α))) (by simp[Ac,B4]) (λj T=>ω) ⟨[],?_,rfl⟩;simp
 | cons H B=>
 generalize k:H::B=f at *;have d:1<=f.length:=by rw[<-k];simp
 refine Ej (λs=>∃(i:Nat) (S:List α),s=((i:Int),S++f.drop i)/\1<=i/\i<=f.length/\S.length=i/\S.Perm (f.take i)/\S.Pairwise λa b=>¬c b a<0) (λs=>f.length-s.1.toNat) (λR=>R.Perm f/\R.Pairwise λa b=>¬c b a<0) ⟨1,[H],by rw[<-k];simp[Ac,B4],ω,d,rfl,by rw[<-k];simp,pairwise_singleton _ _⟩ ?_ ?_
 .rintro _ ⟨i,S,rfl,G,U,E,g,l⟩;rcases Cf i f.length with h|h
  .have F:f[i]? = some f[i]:=Bq h;have e:f[i]∈f:=getElem_mem h;generalize f[i]=x at F e;have D:f.drop i=x::f.drop (i+1):=Jv F;have z:(S++x::f.drop (i+1)).length=f.length:=ζ;simp only[As (ω:(i:Int)<(f.length:Int)),Ak,C6 h ω];rw[D];left;obtain⟨u,q,o,C,J,M⟩:=A9y (cmp:=cmp) (c:=c) (N:=f.length) ω S.length S (f.drop (i+1)) x rfl (λt Q=>A x e t (mem_of_mem_take (g.mem_iff.1 Q))) (by rw[z];exact Nat.le_refl _);rw[E]at o;have hp:(u++x::q).Perm (f.take (i+1)):=(by rw[Cz F];have:(u++x::q).Perm ((u++q)++[x]):=(by rw[append_assoc];exact Perm.append_left u (perm_append_singleton x q).symm);exact this.trans (by rw[<-C];exact g.append_right [x]));refine⟨(((i+1:Nat):Int),(u++x::q)++f.drop (i+1)),bnd o ψ,⟨i+1,u++x::q,rfl,ω,ω,?_,hp,?_⟩,ζ⟩
   .rw[hp.length_eq,length_take];omega
   .rw[C]at l;exact A9z L l J M
  .have:i=f.length:=ω;subst this;rw[Db]at g;simp only[Aw (ω:¬(f.length:Int)<(f.length:Int)),Ap,drop_length,append_nil];exact .inr ⟨S,rfl,g,l⟩
 .rintro R ⟨o,C⟩;exact⟨R,rfl,o,C⟩
noncomputable def Ah2 (B:Nat) (gr:Int->Option (List α)) (a0:List (List α)):Option (List α) := (Am (S:=(Int×Int)) (E:=Int) (λ(d,e)=> bif e<(a0.length:Int) then ((Ag a0 e).bind λo=> bif (Ac (d+(o.length:Int)))<(0:Int) then (none) else (some (.inl ((Ac (d+(o.length:Int))),(Ac (e+1)))))) else (some (.inr d))) (0,0)).bind λs=> (gr s).bind λi=> (Am (S:=(Int×(List α))) (E:=(List α)) (λ(b,c)=> bif b<(a0.length:Int) then ((Ag a0 b).bind λf=> (B6 B c f).bind λh=> some (.inl ((Ac (b+1)),h))) else (some (.inr c))) (0,i)).bind λg=> some g
theorem Anj {B:Nat} (g:B<=1024) {gr:Int->Option (List α)} (hg:∀n:Nat,n<=1000000->gr (n:Int)=some []) (a b:List α) (h:a.length+b.length<=1000000):Ah2 B gr [a,b]=some (a++b):=by
 have s:a.length*B<=1000000*1024:=Nat.mul_le_mul ω g;have y:(a.length+b.length)*B<=1000000*1024:=Nat.mul_le_mul h g;have f:Ac 1=1:=by rw[Ac,B4] <;> omega
 have c:Ac 2=2:=by rw[Ac,B4] <;> omega
 have k:Ac (a.length:Int)=(a.length:Int):=by rw[Ac,B4] <;> omega
 have i:Ac ((a.length:Int)+(b.length:Int))=((a.length:Int)+(b.length:Int)):=by rw[Ac,B4] <;> omega
 have d:Ag [a,b] 0=some a:=rfl;have e:Ag [a,b] 1=some b:=rfl;have q:B6 B [] a=some a:=by rw[Dl ζ];rfl
 have l:B6 B a b=some (a++b):=Dl ω;unfold Ah2;refine Jn 2 (λj=>if j=0 then (0,0) else if j=1 then ((a.length:Int),1) else (((a.length+b.length:Nat):Int),2)) rfl ?_ ⟨((a.length+b.length:Nat):Int),?_,?_⟩
 .intro j o;rcases (ω:j=0\/j=1) with rfl|rfl
  .have:¬((a.length:Int)<0):=ω;simp[d,k,f,this]
  .have:¬((a.length:Int)+(b.length:Int)<0):=ω;simp[e,i,c,this]
 .simp
 .rw[hg _ h,Ad];refine Jn 2 (λj=>if j=0 then (0,[]) else if j=1 then (1,a) else (2,a++b)) rfl ?_ ⟨a++b,?_,rfl⟩
  .intro j o;rcases (ω:j=0\/j=1) with rfl|rfl
   .simp[d,f,q]
   .simp[e,c,l]
  .simp
def sm:Nat->(Nat->Nat)->Nat
 | 0,_=>0
 | n+1,f=>sm n f+f n
theorem Yn {f g:Nat->Nat}:∀{n:Nat},(∀k,k<n->f k=g k)->sm n f=sm n g
 | 0,_=>rfl
 | n+1,h=>by rw[sm,sm,Yn (n:=n) λk d=>h k ω,h n ω]
theorem Vv (f g:Nat->Nat):∀n,sm n (λk=>f k+g k)=sm n f+sm n g
 | 0=>rfl
 | n+1=>by simp only[sm,Vv f g n];omega
theorem Awf (c:Nat) (f:Nat->Nat):∀n,sm n (λk=>c*f k)=c*sm n f
 | 0=>rfl
 | n+1=>by simp only[sm,Awf c f n,Nat.mul_add]
theorem Vx {f:Nat->Nat}:∀{n:Nat},(∀k,k<n->f k=0)->sm n f=0
 | 0,_=>rfl
 | n+1,h=>by rw[sm,Vx (n:=n) λk d=>h k ω,h n ω]
theorem Ah3 (f:Nat->Nat):∀n,sm (n+1) f=f 0+sm n (λk=>f (k+1))
 | 0=>by simp[sm]
 | n+1=>by rw[sm,Ah3 f n,sm];omega
theorem Awg {f:Nat->Nat} {n:Nat}:∀{m:Nat},n<=m->(∀k,n<=k->f k=0)->sm m f=sm n f
 | 0,h,_=>by rw[show n=0 by omega]
 | m+1,h,d=>by
  by_cases e:n=m+1
  .rw[e]
  .rw[sm,Awg (m:=m) ω d,d m ω,Nat.add_zero]
theorem Ac8 {f:Nat->Nat} (h:k<n) (d:∀j,j≠k->f j=0):sm n f=f k:=by
 induction n with
 | zero=>omega
 | succ n ih=>
  rw[sm];by_cases e:k=n
  .subst e;rw[Vx λj o=>d j ω,Nat.zero_add]
  .rw[ih ω,d n ω,Nat.add_zero]
theorem Vy:∀n,bc n n=1
 | 0=>rfl
 | n+1=>by
  rw[bc,Vy n]
  have:bc n (n+1)=0:=by have:=bc_big2 n (n+1) ω;exact this
  omega
where bc_big2:∀n k,n<k->bc n k=0
 | n,0,h=>absurd h ω
 | 0,k+1,_=>rfl
 | n+1,k+1,h=>by rw[bc,bc_big2 n k ω,bc_big2 n (k+1) ω]
theorem Yo (h:n<k):bc n k=0:=Vy.bc_big2 n k h
theorem Yp (n k:Nat):bc (n+1) (k+1)=bc n k+bc n (k+1):=by rw[bc]
def Rc (a b k:Nat):Nat:=if b<=k then bc k a*bc a (k-b) else 0
theorem Awh {b:Nat} (h:a+b<k):Rc a b k=0:=by unfold Rc;rw[Au ω,Yo (show a<k-b by omega),Nat.mul_zero]
theorem A90 {b:Nat} (h:k<a):Rc a b k=0:=by
 unfold Rc;split
 .rw[Yo h,Nat.zero_mul]
 .rfl
theorem Ac9 (b k:Nat):Rc 0 b k=if k=b then 1 else 0:=by
 unfold Rc;by_cases h:k=b
 .subst h;rw[Au (Nat.le_refl _),Au rfl,Nat.sub_self,J6,J6]
 .rw[Ar h];split
  .rw[Yo (show 0<k-b by omega),Nat.mul_zero]
  .rfl
theorem Ada (a k:Nat):Rc a 0 k=if k=a then 1 else 0:=by
 unfold Rc;rw[Au (Nat.zero_le _),Nat.sub_zero];by_cases h:k=a
 .subst h;rw[Au rfl,Vy]
 .rw[Ar h];rcases Cf k a with d|d
  .rw[Yo d,Nat.zero_mul]
  .rw[Yo (show a<k by omega),Nat.mul_zero]
theorem Awi (a b k:Nat):Rc (a+1) (b+1) (k+1)=Rc a (b+1) k+Rc (a+1) b k+Rc a b k:=by
 unfold Rc;by_cases h:b<=k
 .rw[Au ω,Au h,Au h,show k+1-(b+1)=k-b by omega,Yp];by_cases d:b+1<=k
  .rw[Au d];obtain⟨j,e⟩:∃j,k-b=j+1:=⟨k-b-1,ω⟩;rw[e,show k-(b+1)=j by omega,Yp];simp only[Nat.add_mul,Nat.mul_add];omega
  .rw[Ar d,show k-b=0 by omega,J6,J6];omega
 .rw[Ar ω,Ar h,Ar h,Ar ω]
theorem Awj (a b:Nat):Rc (a+1) (b+1) 0=0:=by unfold Rc;rw[Ar ω]
theorem A91 (f:Nat->Nat) (n N:Nat):sm (N+1) (λk=>f k*bc (n+1) k)=sm (N+1) (λk=>f k*bc n k)+sm N (λk=>f (k+1)*bc n k):=by
 rw[Ah3,Ah3 λk=>f k*bc n k,J6,J6];have:sm N (λk=>f (k+1)*bc (n+1) (k+1))=sm N (λk=>f (k+1)*bc n (k+1))+sm N (λk=>f (k+1)*bc n k):=by rw[<-Vv];exact Yn λk _=>by rw[Yp,Nat.mul_add];omega
 rw[this];omega
theorem Yq:∀(n a b N:Nat),a+b<N->sm N (λk=>Rc a b k*bc n k)=bc n a*bc n b
 | n,0,b,N,h=>by rw[J6,Nat.one_mul,Ac8 (k:=b) ω λj d=>by rw[Ac9,Ar d,Nat.zero_mul],Ac9,Au rfl,Nat.one_mul]
 | n,a+1,0,N,h=>by rw[J6,Nat.mul_one,Ac8 (k:=a+1) ω λj d=>by rw[Ada,Ar d,Nat.zero_mul],Ada,Au rfl,Nat.one_mul]
 | 0,a+1,b+1,N,h=>by rw[show bc 0 (a+1)=0 from rfl,Nat.zero_mul];refine Vx λk _=>?_;cases k with| zero=>rw[Awj,Nat.zero_mul]| succ k=>rw[show bc 0 (k+1)=0 from rfl,Nat.mul_zero]
 | n+1,a+1,b+1,N,h=>by obtain⟨N,rfl⟩:∃M,N=M+1:=⟨N-1,ω⟩;rw[A91,Yq n (a+1) (b+1) (N+1) h];have e:=Yq n a (b+1) N ω;have o:=Yq n (a+1) b N ω;have s:=Yq n a b N ω;have y:sm N (λk=>Rc (a+1) (b+1) (k+1)*bc n k)=sm N (λk=>Rc a (b+1) k*bc n k)+sm N (λk=>Rc (a+1) b k*bc n k)+sm N (λk=>Rc a b k*bc n k):=(by rw[<-Vv,<-Vv];exact Yn λk _=>by rw[Awi,Nat.add_mul,Nat.add_mul]);rw[y,e,o,s,Yp,Yp,Nat.add_mul,Nat.mul_add,Nat.mul_add];omega
theorem A92 {f:Nat->Nat} (h:∀n,n<N->sm N (λk=>f k*bc n k)=sm N λk=>g k*bc n k):∀k,k<N->f k=g k:=by
 intro k;induction k using Nat.strongRecOn with
 | ind k ih=>
  intro s;have d:∀F:Nat->Nat,sm N (λj=>F j*bc k j)=sm k (λj=>F j*bc k j)+F k:=by
   intro F;have e:sm N (λj=>F j*bc k j)=sm (k+1) (λj=>F j*bc k j):=Awg ω λj o=>by rw[Yo ω,Nat.mul_zero]
   rw[e,sm,Vy,Nat.mul_one]
  have:=h k s;rw[d f,d g,Yn (f:=λj=>f j*bc k j) (g:=λj=>g j*bc k j) λj o=>by rw[ih j o ω]]at this;omega
theorem Ah4:Pc=some true:=by kernel_rfl
def M9 (l:List Bh):List Int:=l.flatMap λa=>a.L.T.map (·.v)
def Jz (m:A7):List Int:=m.F.map (·.v)++M9 m.A
def Hy (p:List An):List Int:=p.flatMap λt=>Jz t.M
theorem Awk (F:List α) (g:α->Int) (o:List Int) (h:o.length+F.length<=1000000) {J:Int×List Int->Option R} (k:J ((F.length:Int),o++F.map g)=some r) : (Am (S:=(Int×List Int)) (E:=(Int×List Int)) (λ(d,b)=> bif d<(F.length:Int) then ((Ag F d).bind λc=> (B6 8 b [g c]).bind λi=> some (.inl ((Ac (d+1)),i))) else some (.inr (d,b))) (0,o)).bind J=some r:=by
 refine Gd F (λj=>((j:Int),o++(F.take j).map g)) ψ ω ?_ ?_
 .intro j f B s e y A;simp only[e,y,A,Ak,Ad];rw[Dl ζ,Cz s];simp
 .intro e;exact⟨_,by simp only[e];rfl,by rw[Db];exact k⟩
theorem A93 (f:α->List Int) (l:List α) (j:Nat):((l.take j).flatMap f).length<=(l.flatMap f).length:=by
 have:l.flatMap f=(l.take j).flatMap f++(l.drop j).flatMap f:=by rw[<-flatMap_append,take_append_drop]
 rw[this,Ew];omega
theorem Awl (f:α->List Int) {l:List α} {x:α} (h:l[j]? = some x):((l.take j).flatMap f).length+(f x).length<=(l.flatMap f).length:=by have:=A93 f l (j+1);rw[Cz h,flatMap_append]at this;simpa using this
theorem A94 (p:List An) (E:p.length<=1000000) (F:∀t∈p,t.M.A.length<=1000000) (hb:(Hy p).length<=1000000) : ∃V,Z4 p=some V/\V.Pairwise (· < ·)/\V.length<=1000000/\∀y,y∈V↔y∈Hy p:=by
 obtain⟨m,o,G,H,d⟩:=Awe ((Hy p).mergeSort λx y=>decide (x<=y)) (Awd _) (by rw[length_mergeSort];omega);refine⟨o.take m,?_,d.up,?_,?_⟩
 .unfold Z4;refine Gd p (λj=>((j:Int),Hy (p.take j))) rfl ω ?_ ?_
  .intro j t M e C I J;have q:=Bz e;have B:=F t q;have c:(Hy (p.take j)).length+(Jz t.M).length<=1000000:=Nat.le_trans (Awl (λt:An=>Jz t.M) e) hb;unfold Jz at c;rw[Ew,C5]at c;simp only[C,I,J,Ak,Ad];refine Awk t.M.F (λf=>f.v) (Hy (p.take j)) ω ?_;dsimp only;refine Gd t.M.A (λi=>((i:Int),Hy (p.take j)++t.M.F.map (λf=>f.v)++M9 (t.M.A.take i))) (by simp[M9]) ω ?_ ?_
   .intro i a Q g k z u;have A:(M9 (t.M.A.take i)).length+(a.L.T.map (·.v)).length<=(M9 t.M.A).length:=Awl (λa:Bh=>a.L.T.map λl:Bt=>l.v) g;rw[C5]at A;simp only[k,z,u,Ak,Ad];refine Awk a.L.T (λl=>l.v) _ (by simp only[Ew,C5];omega) ?_;show some (Sum.inl (_,_))=_;rw[Cz g];unfold M9;rw[flatMap_append];simp
   .intro k;refine⟨_,by simp only[k];rw[Db];rfl,?_⟩;show some (Sum.inl (_,_))=_;rw[Cz e];unfold Hy;rw[flatMap_append];simp[Jz]
  .intro C;refine⟨Hy p,by simp only[C];rw[Db];rfl,?_⟩;rw[Awc,Ad];unfold F6;rw[Au (by rw[length_mergeSort]),Ad];have:Uh (Hy p).length ((Hy p).mergeSort λx y=>decide (x<=y))=some (m,o):=(by rw[<-G,length_mergeSort]);rw[this,Ad];unfold Ae2;rw[Au H];rfl
 .have D:((o.take m).length:Nat)<=(Hy p).length:=by
   have s:(o.take m).Nodup:=d.up.imp λh=>ω;have b:∀y∈o.take m,y∈Hy p:=λy L=>by have:=(d.mem y).1 L;rw[Db]at this;exact mem_mergeSort.1 this
   exact Nodup.length_le_of_subset s b
  omega
 .intro y;rw[d.mem y,Db,mem_mergeSort]
theorem Awm (l:List Int) (b:l.length<=1099511627776):Ww l l=some true:=by
 unfold Ww;rw[G1 rfl,Ap];refine Gd l (λj=>(j:Int)) rfl ω ?_ ?_
 .intro j x s y d e o;simp only[d,e,o,Ak,Ad,bne_self_eq_false,Ap]
 .intro h;exact⟨.inr (),by simp only[h];rfl,rfl⟩
theorem A95 (a:Ao) (d:a.U.length<=1099511627776) (e:a.B.length<=1099511627776):T9 a a=some true:=by unfold T9;rw[beq_self_eq_true,Ak,Awm _ d,Ad,Ak,Awm _ e,Ad]
structure PSt (K:Nat) (n:Nat) (b:List An):Prop where
 le:n<=b.length
 cp:CP (b.take n)
 tm:∀t∈b.take n,RB K t.C/\MSz t.M
theorem PSt.mono {c:Nat} {b:List An} (h:PSt K n b) (f:K<=c):PSt c n b:=⟨h.le,h.cp,λt d=>⟨((h.tm t d).1).mono f,(h.tm t d).2⟩⟩
theorem Awn:∀(k:Nat) (t:Af) (a:Int),B0 t<=k->k<1099511627776->∃r,Sa k t a=some r/\True:=by
 intro k;induction k with
 | zero=>intro i a h;have:=J2 i;omega
 | succ k ih=>
  intro i a h s;have f:=J2 i;have g:=Lw i.R;rw[Sa];refine Q2 ⟨_,rfl,trivial⟩ ?_;refine Ej (λ(v,_)=>∃j:Nat,v=j/\j<=i.R.length) (λ(v,_)=>i.R.length-v.toNat) (λ_=>True) ⟨0,rfl,ω⟩ ?_ ?_
  .rintro⟨v,b⟩ ⟨j,rfl,A⟩;rcases Cf j i.R.length with d|d
   .have o:i.R[j]? = some i.R[j]:=Bq d;generalize i.R[j]=x at o;have l:=Kl (Bz o);obtain⟨⟨y,z⟩,c,_⟩:=ih x b ω ω;simp only[As (ω:(j:Int)<(i.R.length:Int)),Ak,Br rfl o,Ad,c,C6 d ω];cases y with| false=>exact .inr ⟨_,rfl,trivial⟩| true=>exact .inl ⟨_,rfl,⟨j+1,rfl,ω⟩,by simp only[Int.toNat_natCast];omega⟩
   .have:j=i.R.length:=ω;subst this;exact .inr ⟨.inr b,ψ,trivial⟩
  .rintro (⟨x,y⟩|e) _
   .exact⟨_,rfl,trivial⟩
   .exact⟨_,rfl,trivial⟩
theorem Awo (t:Af) (h:B0 t<=1048576):∃b,Wx t=some b:=by unfold Wx;obtain⟨r,d,_⟩:=Awn 4000000 t 250 ω ω;exact⟨_,by rw[d];rfl⟩
theorem A96 (l:List Af) (n:Int) (c:l.length<=1048576) (h:∀t∈l,B0 t<=1048576):∃b,Z8 l n=some b/\True:=by
 unfold Z8;refine Ej (λv=>∃j:Nat,v=j/\j<=l.length) (λv=>l.length-v.toNat) (λ_=>True) ⟨0,rfl,ω⟩ ?_ ?_
 .rintro v ⟨j,rfl,s⟩;rcases Cf j l.length with d|d
  .have e:l[j]? = some l[j]:=Bq d;generalize l[j]=x at e;obtain⟨b,o⟩:=Awo x (h x (Bz e));simp only[As (ω:(j:Int)<(l.length:Int)),Ak,Br rfl e,Ad,o,C6 d ω];cases decide ((j:Int)<=n) with
   | false=>exact .inr ⟨_,rfl,trivial⟩
   | true=>cases b with| false=>exact .inr ⟨_,rfl,trivial⟩| true=>exact .inl ⟨_,rfl,⟨j+1,rfl,ω⟩,by simp only[Int.toNat_natCast];omega⟩
  .simp only[Aw (ω:¬(j:Int)<(l.length:Int)),Ap];exact .inr ⟨_,rfl,trivial⟩
 .rintro (r|r) _
  .exact⟨_,rfl,trivial⟩
  .exact⟨_,rfl,trivial⟩
theorem A97 (l:List Aj) (G:DSz l):∃b,Z7 l=some b/\True:=by
 unfold Z7;have z:=G.len;refine Q2 ⟨_,rfl,trivial⟩ ?_;refine Ej (λv=>∃j:Nat,v=j/\j<=l.length) (λv=>l.length-v.toNat) (λ_=>True) ⟨0,rfl,ω⟩ ?_ ?_
 .rintro v ⟨j,rfl,I⟩;rcases Cf j l.length with C|C
  .have D:l[j]? = some l[j]:=Bq C;generalize l[j]=x at D;obtain⟨J,H⟩:=G.sz x (Bz D);simp only[As (ω:(j:Int)<(l.length:Int)),Ak,Br rfl D,Ad,C6 C ω];have d:∃q,(bif decide ((x.S.size:Int)>40) then some true else some (decide ((x.O.length:Int)>10)))=some q:=(by cases decide ((x.S.size:Int)>40) <;> exact⟨_,rfl⟩);obtain⟨q,d⟩:=d
   erw[d];simp only[Ad];cases q with
   | true=>exact .inr ⟨_,rfl,trivial⟩
   | false=>
    simp only[Ap];have o:∀(W:Option (Int⊕(Bool⊕Unit))),(∃r,W=some r/\(r = .inl ((j+1:Nat):Int)\/∃e,r = .inr e))->(∃A,W=some (Sum.inl A)/\(∃j:Nat,A=(j:Int)/\j<=l.length)/\l.length-A.toNat<l.length-((j:Int)).toNat)\/∃e,W=some (Sum.inr e)/\True:=by
     rintro W ⟨r,rfl,rfl|⟨e,rfl⟩⟩
     .exact .inl ⟨_,rfl,⟨j+1,rfl,ω⟩,by simp only[Int.toNat_natCast];omega⟩
     .exact .inr ⟨_,rfl,trivial⟩
    refine o _ ?_;refine Ej (λv=>∃j:Nat,v=j/\j<=x.O.length) (λv=>x.O.length-v.toNat) (λ_=>True) ⟨0,rfl,ω⟩ ?_ ?_
    .rintro v ⟨i,rfl,L⟩;rcases Cf i x.O.length with B|B
     .have E:x.O[i]? = some x.O[i]:=Bq B;generalize x.O[i]=y at E;have d1:=H y (Bz E);have d2:=Lw y.R;simp only[As (ω:(i:Int)<(x.O.length:Int)),Ak,Br rfl E,Ad,C6 B ω];have d:∃q,(bif decide ((y.S.size:Int)>40) then some true else some (decide ((y.R.length:Int)>8)))=some q:=(by cases decide ((y.S.size:Int)>40) <;> exact⟨_,rfl⟩);obtain⟨q,d⟩:=d
      erw[d];simp only[Ad];cases q with
      | true=>exact .inr ⟨_,rfl,trivial⟩
      | false=>
       simp only[Ap];have o:∀(W:Option (Int⊕(Bool⊕Int))),(∃r,W=some r/\(r = .inl ((i+1:Nat):Int)\/∃e,r = .inr e))->(∃A,W=some (Sum.inl A)/\(∃j:Nat,A=(j:Int)/\j<=x.O.length)/\x.O.length-A.toNat<x.O.length-((i:Int)).toNat)\/∃e,W=some (Sum.inr e)/\True:=by
        rintro W ⟨r,rfl,rfl|⟨e,rfl⟩⟩
        .exact .inl ⟨_,rfl,⟨i+1,rfl,ω⟩,by simp only[Int.toNat_natCast];omega⟩
        .exact .inr ⟨_,rfl,trivial⟩
       refine o _ ?_;refine Ej (λs=>∃j:Nat,s.1=j/\j<=y.R.length) (λs=>y.R.length-s.1.toNat) (λ_=>True) ⟨0,rfl,ω⟩ ?_ ?_
       .rintro⟨_,w⟩ ⟨u,rfl,M⟩;rcases Cf u y.R.length with F|F
        .have c:y.R[u]? = some y.R[u]:=Bq F;generalize y.R[u]=t at c;have k:=Kl (Bz c);obtain⟨⟨f,h⟩,g,_⟩:=Awn 4000000 t w ω ω;simp only[As (ω:(u:Int)<(y.R.length:Int)),Ak,Br rfl c,Ad,g,C6 F ω];cases f with| false=>exact .inr ⟨_,rfl,trivial⟩| true=>exact .inl ⟨_,rfl,⟨u+1,rfl,ω⟩,by simp only[Int.toNat_natCast];omega⟩
        .simp only[Aw (ω:¬(u:Int)<(y.R.length:Int)),Ap];exact .inr ⟨_,rfl,trivial⟩
       .rintro (r|r) _
        .exact⟨_,rfl,.inr ⟨_,rfl⟩⟩
        .exact⟨_,rfl,.inl rfl⟩
     .simp only[Aw (ω:¬(i:Int)<(x.O.length:Int)),Ap];exact .inr ⟨_,rfl,trivial⟩
    .rintro (r|r) _
     .exact⟨_,rfl,.inr ⟨_,rfl⟩⟩
     .exact⟨_,rfl,.inl rfl⟩
  .simp only[Aw (ω:¬(j:Int)<(l.length:Int)),Ap];exact .inr ⟨_,rfl,trivial⟩
 .rintro (r|r) _
  .exact⟨_,rfl,trivial⟩
  .exact⟨_,rfl,trivial⟩
theorem A98 (x:Ck) (d:CSz x):∃b,Zy x=some b:=by unfold Zy;obtain⟨a,e,_⟩:=A97 x.D d.ds;obtain⟨b,h,_⟩:=A96 x.V 40 d.nv d.vs;obtain⟨c,o⟩:=Awo x.E d.rs;rw[e,h,o];cases a <;> cases b <;> exact⟨_,rfl⟩
theorem CP.dst (h:CP p):Dst p:=h.srt.imp λ{a b} d e=>by unfold ltT at d;rw[Vq.2 e]at d;omega
theorem Awp:Oe (λt u:An=>Fg t.M u.M) where
 irr x:=by
  show ¬Fg x.M x.M<0
  rw[Avi];omega
 trs x y z e d:=Ahr e d
 ntr x y z e d:=by
  show ¬Fg x.M z.M<0
  have e:¬Fg x.M y.M<0:=e
  have d:¬Fg y.M z.M<0:=d
  intro h
  rcases Int.lt_trichotomy (Fg x.M y.M) 0 with k|k|k
  .exact e k
  .rw[Vq.1 k]at h;exact d h
  .exact d (Ahr (Avj.1 k) h)
def Ah5 (b:List An):List An:=b.mergeSort λt u=>decide (Fg t.M u.M<=0)
theorem Awq (b:List An):(Ah5 b).Perm b:=mergeSort_perm _ _
theorem A99 (f:List An) (s:Dst f):(Ah5 f).Pairwise ltT:=by
 have d:=pairwise_mergeSort (le:=λt u:An=>decide (Fg t.M u.M<=0)) (λa b c d o=>by
  simp only[Dk]at *
  have:=Awp.ntr c b a (by show ¬Fg _ _<0;rw[Yh];omega) (by show ¬Fg _ _<0;rw[Yh];omega)
  have this:¬Fg c.M a.M<0:=this
  rw[Yh]at this;omega) (λa b=>by
  simp only[Bool.or_eq_true,Dk]
  rw[Yh a.M b.M];omega) f
 have o:(Ah5 f).Pairwise λt u=>t.M≠u.M:=((Awq f).pairwise_iff λ{x y} h=>h.symm).2 s
 refine (d.and o).imp λ{t u} h=>?_
 have a:=of_decide_eq_true h.1
 have b:Fg t.M u.M≠0:=λe=>h.2 (Vq.1 e)
 unfold ltT;omega
theorem Baa (b:List An) (d:Dst b) (f:∀t∈b,MSz t.M):∃R,Qm b=some R/\R.Perm b/\R.Pairwise ltT:=by
 rcases Cf 12 b.length with h|h
 .have e:Nat.ble b.length 12=false:=(by cases k:Nat.ble b.length 12 with| false=>rfl| true=>have:=Nat.le_of_ble_eq_true k;omega);unfold Qm;rw[e,Ap];obtain⟨r,g,j,s,A,hp,i⟩:=Aq6 (cmp:=Qo) (l:=b) (r:=Ah5 b) ⟨_,Awp,λx B y _=>Ana x y (f x B),Awq b,A99 b d⟩;refine⟨r,g,hp,?_⟩;refine (Pairwise.imp_of_mem (S:=ltT) (λ{t u} o C h=>?_) i);have c:=A t (hp.mem_iff.1 o) u (hp.mem_iff.1 C);rw[Ana t u (f t (hp.mem_iff.1 o))]at c;have c:=Eu c;unfold ltT;rw[c];exact h
 .exact A9d b d f h
theorem Awr (d:CSz x) (b:∀p∈ps,∀t∈p,TSz t) (g:ps.length<=1048576) (h:¬(Ij x/\∀p∈ps,Jr x.D x.V x.E p=true)):Of x ps=some (.inr false):=by
 obtain⟨r,f,c⟩:=Av6 x d ps b g;rcases c with⟨e,_⟩|⟨_,rfl⟩
 .exact (h e).elim
 .exact f
theorem Aws (d:CSz x) (c:∀p∈ps,∀t∈p,TSz t) (j:ps.length<=1048576) (h:Ij x/\∀p∈ps,Jr x.D x.V x.E p=true):∃b,Of x ps=some (.inl (true,x,b,[],x.D,x.V,x.E.G,x.E.U,x.E.R))/\E4 x.D x.V x.E b:=by
 obtain⟨r,g,f⟩:=Av6 x d ps c j;rcases f with⟨_,b,e,i⟩|⟨o,_⟩
 .exact⟨b,by rw[g,e],i⟩
 .exact (o h).elim
structure PR (x:Ck) (n:Nat) (f:A7->Rat) (R:List An):Prop where
 cp:CP R
 val:∀m,cf R m=f m
 tb:∀t∈R,Jy x t.M/\RB 8589934592 t.C
 len:R.length<=n
theorem PR.of {m:Nat} {f g:A7->Rat} {R:List An} (h:PR x n f R) (b:n<=m) (hf:∀a,f a=g a):PR x m g R := ⟨h.cp,λa=>by rw[h.val,hf],h.tb,Nat.le_trans h.len b⟩
theorem J5.nil (x:Ck):J5 x []:=⟨Acy.2 ⟨ψ,CP.nil,λt d=>by cases d⟩,λt d=>by cases d⟩
def J7 (l:List α) (r:List Bool):List α:=((l.zip r).filter λp=>!p.2).map (·.1)
def J8 (data:List Aj) (t:Af) (c:Int):List Af:=match G2 data t c with|some ts=>ts|none=>[]
def P9 {α:Type} (b:List (α->Nat)) (x:α) (f:Nat->Nat):Nat->Nat
 | 0=>f 0
 | q+1=>f (q+1)+f q*(match b[q]? with|some w=>w x|none=>0)
def dpS (b:List (α->Nat)) (l:List α):Nat->Nat:=l.foldl (λf x=>P9 b x f) (λq=>if q=0 then 1 else 0)
theorem Awt (b:List (α->Nat)) (l:List α) (x:α):dpS b (l++[x])=P9 b x (dpS b l):=by unfold dpS;rw[foldl_append];rfl
mutual
def bv (data:List Aj):Ai->Af->Az->Nat
 | ⟨n,d⟩,t,w=>if t.G=6 then bvs data d t.R w.K else if t.G=7 then bc w.K.length n.toNat else if t.G=5 then dpS (bws data d t) (Iy data t.U w) d.length else 1
def bvs (data:List Aj):List Ai->List Af->List Az->Nat
 | i::is,t::ts,w::d=>bv data i t w*bvs data is ts d
 | [],_,_=>1
 | _::_,[],_=>1
 | _::_,_::_,[]=>1
def bws (data:List Aj):List Ai->Af->List (Az->Nat)
 | [],_=>[]
 | ⟨n,d⟩::e,t=>(λx=>if x.U=n then bvs data d (J8 data t n) (J7 x.K (Eb data t.U n)) else 0)::bws data e t
end
theorem Q9 (data:List Aj) (i:Ai) (t:Af) (w:Az):bv data i t w=if t.G=6 then bvs data i.K t.R w.K else if t.G=7 then bc w.K.length i.U.toNat else if t.G=5 then dpS (bws data i.K t) (Iy data t.U w) i.K.length else 1:=by cases i;simp only[bv]
theorem Te (data:List Aj) (i:Ai) (is:List Ai) (t:Af) (ts:List Af) (w:Az) (b:List Az):bvs data (i::is) (t::ts) (w::b)=bv data i t w*bvs data is ts b:=by simp only[bvs]
theorem Tf (data:List Aj) (ts:List Af) (b:List Az):bvs data [] ts b=1:=by simp only[bvs]
def wOf (data:List Aj) (t:Af) (e:Ai) (x:Az):Nat:=if x.U=e.U then bvs data e.K (J8 data t e.U) (J7 x.K (Eb data t.U e.U)) else 0
theorem Ah6 (data:List Aj) (t:Af):∀(es:List Ai) (q:Nat),(bws data es t)[q]? = (es[q]?).map (wOf data t)
 | [],q=>by simp[bws]
 | ⟨n,b⟩::es,0=>by simp only[bws,getElem?_cons_zero,Option.map_some];rfl
 | ⟨n,b⟩::es,q+1=>by simp only[bws,getElem?_cons_succ];exact Ah6 data t es q
theorem Ank (data:List Aj):∀(is:List Ai) (ts:List Af) (b:List Az) (j:Nat) (i:Ai) (t:Af) (w:Az),is[j]? = some i->ts[j]? = some t->b[j]? = some w -> bvs data (is.take (j+1)) (ts.take (j+1)) (b.take (j+1))=bvs data (is.take j) (ts.take j) (b.take j)*bv data i t w
 | i' :: is,t' :: ts,s :: b,0,i,t,w,d,e,o=>by cases d;cases e;cases o;simp only[take_succ_cons,take_zero,Te,Tf,Nat.mul_one,Nat.one_mul]
 | i' :: is,t' :: ts,s :: b,j+1,i,t,w,d,e,o=>by have:=Ank data is ts b j i t w d e o;rw[take_succ_cons,take_succ_cons,take_succ_cons,take_succ_cons,take_succ_cons,take_succ_cons,Te,Te,this,Nat.mul_assoc]
 | [],_,_,_,_,_,_,h,_,_=>by simp at h
 | _::_,[],_,_,_,_,_,_,h,_=>by simp at h
 | _::_,_::_,[],_,_,_,_,_,_,h=>by simp at h
theorem Ah7:∀n k,bc n k<=n ^ k
 | n,0=>by rw[J6];exact Nat.le_refl _
 | 0,k+1=>by simp[bc]
 | n+1,k+1=>by have e:=Ah7 n k;have h:=Ah7 n (k+1);have d:n ^ k<=(n+1) ^ k:=Nat.pow_le_pow_left ω k;have o:n ^ (k+1)<=n*(n+1) ^ k:=(by rw[Nat.pow_succ,Nat.mul_comm];exact Nat.mul_le_mul_left _ d);rw[bc,Nat.pow_succ,Nat.mul_add,Nat.mul_one,Nat.mul_comm];omega
theorem Awu {α:Type} (b:List (α->Nat)) (B:Nat) (E:Nat->Nat):∀(l:List α) (n:Nat) (f:Nat->Nat),(∀q,f q<=n ^ q*B ^ E q)->(∀x∈l,∀q w,b[q]? = some w->B ^ E q*w x<=B ^ E (q+1))->∀q,(l.foldl (λf x=>P9 b x f) f) q<=(n+l.length) ^ q*B ^ E q
 | [],n,f,d,_,q=>d q
 | x::l,n,f,d,e,q=>by
  rw[foldl_cons];have:=Awu b B E l (n+1) (P9 b x f) (λq=>?_) (λy o=>e y (by simp[o])) q
  .rw[D2,show n+(l.length+1)=n+1+l.length by omega];exact this
  .cases q with
   | zero=>have:=d 0;simpa[P9] using this
   | succ q=>
    have C:=d (q+1);have s:=d q;have D:f q*(match b[q]? with|some w=>w x|none=>0)<=n ^ q*B ^ E (q+1):=by cases h:b[q]? with| none=>simp| some w=>have A:=e x ψ q w h;refine Nat.le_trans (Nat.mul_le_mul_right _ s) ?_;rw[Nat.mul_assoc];exact Nat.mul_le_mul_left _ A
    have c:n ^ q<=(n+1) ^ q:=Nat.pow_le_pow_left ω q;have i:n ^ (q+1)+n ^ q<=(n+1) ^ (q+1):=(by rw[Nat.pow_succ,Nat.pow_succ,Nat.mul_add,Nat.mul_one];exact Nat.add_le_add (Nat.mul_le_mul_right _ c) c);have g:=Nat.mul_le_mul_right (B ^ E (q+1)) i;rw[Nat.add_mul]at g;show f (q+1)+_<=_;omega
theorem Awv {α:Type} (b:List (α->Nat)) (B:Nat) (f:1<=B) (E:Nat->Nat) (l:List α) (d:∀x∈l,∀q w,b[q]? = some w->B ^ E q*w x<=B ^ E (q+1)) (c:l.length<=B) (q:Nat):dpS b l q<=B ^ (q+E q):=by
 have h:=Awu b B E l 0 (λq=>if q=0 then 1 else 0) (λq=>by cases q with| zero=>have:0<B ^ E 0:=Nat.pow_pos ω;simp;omega| succ q=>simp) d q
 refine Nat.le_trans h ?_;rw[Nat.zero_add,Nat.pow_add];exact Nat.mul_le_mul_right _ (Nat.pow_le_pow_left c q)
mutual
theorem Anl (data:List Aj) (d:Int):∀v,∀x∈Iy data d v,C1 x<=C1 v
 | ⟨k,n,e⟩=>λx o=>by
  have h:=Aww data d e (Eb data d n)
  simp only[Iy,Gl]at o
  rcases o with rfl|o
  .exact Nat.le_refl _
  .have:=h x o
   simp only[C1];omega
theorem Aww (data:List Aj) (d:Int):∀l r,∀x∈Iz data d l r,C1 x<=Ec l
 | y::h,b::bs=>λx e=>by
  have o:=Anl data d y
  have s:=Aww data d h bs
  simp only[Iz,En]at e
  simp only[Ec]
  rcases e with e|e
  .cases b with
   | false=>simp at e
   | true=>have:=o x (by simpa using e);omega
  .have:=s x e;omega
 | [],_=>λx e=>by simp[Iz]at e
 | _::_,[]=>λx e=>by simp[Iz]at e
end
def pdg (data:List Aj) (t:Af) (e:Ai):Nat:=match C4 data e.K (J8 data t e.U) with|some a=>a|none=>0
def pds (data:List Aj) (t:Af) (es:List Ai):Nat:=(es.map (pdg data t)).sum
theorem Adb (data:List Aj):∀(es:List Ai) (t:Af) (d:Nat),F1 data es t=some d->d=es.length+pds data t es/\∀e∈es,∃ts,G2 data t e.U=some ts/\C4 data e.K ts=some (pdg data t e)
 | [],t,d,h=>by simp only[F1,Option.some.injEq]at h;subst h;exact⟨rfl,λe c=>by cases c⟩
 | e::es,t,d,h=>by
  rw[Vh]at h;cases o:G2 data t e.U with
  | none=>rw[o]at h;cases h
  | some ts=>
   rw[o,Ad]at h;cases s:C4 data e.K ts with
   | none=>rw[s]at h;cases h
   | some a=>
    rw[s,Ad]at h;cases y:F1 data es t with
    | none=>rw[y]at h;cases h
    | some b=>
     rw[y]at h;have h:1+a+b=d:=Eu h;obtain⟨C,B⟩:=Adb data es t b y;have hp:pdg data t e=a:=(by unfold pdg J8;rw[o];simp only[s]);refine⟨by unfold pds at *;simp only[map_cons,sum_cons,D2,hp];omega,λx A=>?_⟩;rcases Gl.1 A with rfl|A
     .exact⟨ts,o,by rw[hp];exact s⟩
     .exact B x A
theorem Anm {data:List Aj} {t:Af} {es:List Ai} {q:Nat} {e:Ai} (h:es[q]? = some e):pds data t (es.take (q+1))=pds data t (es.take q)+pdg data t e:=by unfold pds;rw[Cz h];simp
theorem Bab (data:List Aj) (t:Af) (es:List Ai) (q:Nat):pds data t (es.take q)<=pds data t es:=by
 have:pds data t es=pds data t (es.take q)+pds data t (es.drop q):=by unfold pds;rw[<-sum_append,<-map_append,take_append_drop]
 omega
theorem Ano {α:Type} {l:List α} {r:List Bool} {x:α} (h:x∈J7 l r):x∈l:=by unfold J7 at h;obtain⟨p,hp,rfl⟩:=mem_map.1 h;exact (of_mem_zip (a:=p.1) (b:=p.2) (mem_filter.1 hp).1).1
theorem Yr (data:List Aj) (B:Nat) (S:1<=B):∀n:Nat,(∀(i:Ai) (t:Af) (w:Az) (d:Nat),Bw i<=n->Dj data i t=some d->C1 w<=B->bv data i t w<=B ^ d) /\ (∀(is:List Ai) (ts:List Af) (f:List Az) (d:Nat),Ci is<=n->C4 data is ts=some d->(∀w∈f,C1 w<=B)->bvs data is ts f<=B ^ d):=by
 intro n;induction n with
 | zero=>refine⟨λi t w d h=>by have:=Ey i;omega,λis ts f d h _ _=>?_⟩;have:=Px is;have:is = []:=Fr.1 ω;subst this;rw[Tf];exact Nat.pow_pos ω
 | succ n ih=>
  have c:∀d,1<=B ^ d:=λd=>Nat.pow_pos ω;have C:∀(i:Ai) (t:Af) (w:Az) (d:Nat),Bw i<=n+1->Dj data i t=some d->C1 w<=B->bv data i t w<=B ^ d:=by
   intro i t w d V o T;have M:=Ey i;have I:=Mj w;have J:=Vo w.K;rw[Q9];rw[Mi]at o;by_cases z:t.G=6
   .rw[Au z]at o ⊢;by_cases e:i.U=0
    .rw[Au e]at o;exact ih.2 i.K t.R w.K d ω o λx U=>by have:=M5 U;omega
    .rw[Ar e]at o;cases o
   .rw[Ar z]at o ⊢;by_cases u:t.G=7
    .rw[Au u]at o ⊢;by_cases e:0<=i.U/\i.U<=6/\i.K.length=0
     .rw[Au e]at o;have o:=Eu o;rw[o];exact Nat.le_trans (Ah7 _ _) (Nat.pow_le_pow_left ω d)
     .rw[Ar e]at o;cases o
    .rw[Ar u]at o ⊢;by_cases A:t.G=5
     .rw[Au A]at o ⊢;have o:F1 data i.K t=some d:=by
       by_cases e:i.U=0
       .rw[Au e]at o;exact o
       .rw[Ar e]at o;cases o
      obtain⟨F,H⟩:=Adb data _ _ _ o;have L:=Amq data t.U w;have:=Awv (bws data i.K t) B S (λq=>pds data t (i.K.take q)) (Iy data t.U w) (λx U q wt W=>by
       rw[Ah6]at W;obtain⟨e,D,rfl⟩:=Option.map_eq_some_iff.1 W;have g:=Bz D;obtain⟨ts,l,k⟩:=H e g;have G:=Anl data t.U w x U;have N:=Km g;have R:=Ey e;rw[Anm D,Nat.pow_add];refine Nat.mul_le_mul_left _ ?_;unfold wOf;split
       .have s:J8 data t e.U=ts:=(by unfold J8;rw[l]);rw[s];refine ih.2 e.K ts _ _ ω k λy Q=>?_;have Q:=Ano Q;have E:=M5 Q;have:=Mj x;omega
       .omega) ω i.K.length
      rw[Db]at this;rw[F];exact this
     .rw[Ar A];exact c d
  refine⟨C,?_⟩;intro is;induction is with
  | nil=>intro ts f d _ _ _;rw[Tf];exact c d
  | cons i is j=>
   intro ts f d V o T;cases ts with
   | nil=>rw[show bvs data (i::is) [] f=1 by simp only[bvs]];exact c d
   | cons t ts=>
    cases f with
    | nil=>rw[show bvs data (i::is) (t::ts) []=1 by simp only[bvs]];exact c d
    | cons w f=>
     simp only[Ci]at V;rw[Nx]at o;cases F:Dj data i t with
     | none=>rw[F]at o;cases o
     | some a=>rw[F,Ad]at o;cases H:C4 data is ts with| none=>rw[H]at o;cases o| some b=>rw[H]at o;have o:a+b=d:=Eu o;rw[Te,<-o,Nat.pow_add];exact Nat.mul_le_mul (C i t w a ω F (T w ψ)) (j ts f b ω H λy Q=>T y (by simp[Q]))
end Go.Ab
