/- Plain laws: what the plain functions answer. -/
import Derived.Test.YtidkdnlhdbbbjaaGreatDoorAtPl2
namespace Go.Ab
open Go
def Hz (n:Int) (f:Bool):List Int:=if f then (if n<0 then [45] else []) else (if n<0 then [32,45,32] else [32,43,32])
def I8 (n:Int):List Int:=if n.natAbs=1 then [] else ti n.natAbs++[42]
def Ii (v:Int):List Int:=if v = -1 then [114,101,115] else 118::ti v
def tT (f:Bool) (t:Bb):List Int:=Hz t.Coef f++(I8 t.Coef++Ii t.Var)
def G7:Bool->List Bb->Int->List Int
 | f,[],c=>if c≠0\/f=true then Hz c f++ti c.natAbs else []
 | f,t::ts,c=>tT f t++G7 false ts c
def X2 (l:Be):List Int:=G7 true l.Terms l.Const
def Ij (X:List Int):Prop:=∀c m,X=c::m->c=97
theorem Ij.nil:Ij []:=by intro c m h; cases h
theorem Ij.cons (X:List Int):Ij (97::X):=by intro c m h; cases h; rfl
theorem Ij.nonum {X:List Int} (h:Ij X):Kk X:=by intro c m e; rw [h c m e]; decide
theorem Ag5 (n:Nat):∃c m,ti n=c::m/\48<=c/\c<=57:=by
 have b:=Agm (n:Int)
 cases h:ti (n:Int) with
 | nil=>exact (b h).elim
 | cons c m=>
  refine ⟨c,m,rfl,?_⟩
  have hc:c∈ti (n:Int):=by rw [h]; simp
  unfold ti at hc
  obtain ⟨x,hx,rfl⟩:=List.mem_map.1 hc
  have e:Lib.itoa (n:Int)=Lib.decDigits n:=by
   unfold Lib.itoa
   first | rfl | (rw [if_neg (by omega)]; simp) | simp
  rw [e] at hx
  have:=Ab5 n n (Nat.le_refl _) x hx
  omega
theorem Apk (ts:List Bb) (c:Int) {X:List Int} (b:Ij X):Kk (G7 false ts c++X):=by
 have k:∀(n:Int) (Y:List Int),Kk (Hz n false++Y):=by
  intro n Y c m e
  unfold Hz at e
  simp only [Bool.false_eq_true,if_false] at e
  split at e <;> (cases e; decide)
 cases ts with
 | nil=>
  simp only [G7]
  split
  .rw [List.append_assoc]; exact k _ _
  .exact b.nonum
 | cons t ts=>simp only [G7,tT,List.append_assoc]; exact k _ _
theorem Apl {v w:Int} {R S:List Int} (c:Kk R) (b:Kk S) (h:Ii v++R=Ii w++S):v=w/\R=S:=by
 unfold Ii at h
 split at h <;> split at h
 .simp only [List.cons_append,List.nil_append,List.cons.injEq,true_and] at h
  exact ⟨by omega,h⟩
 .simp at h
 .simp at h
 .simp only [List.cons_append,List.cons.injEq,true_and] at h
  obtain ⟨g,f⟩:=Nt _ _ _ _ (Hg v) (Hg w) c b h
  exact ⟨Rs g,f⟩
theorem Ag6 (v:Int):∃c m,Ii v=c::m/\(c=114\/c=118):=by
 unfold Ii
 split
 .exact ⟨_,_,rfl,.inl rfl⟩
 .exact ⟨_,_,rfl,.inr rfl⟩
theorem Ag7 (X:List Int):Kk (42::X):=by intro c m e; cases e; decide
theorem A07 {a b v w:Int} {R S:List Int} (i:Kk R) (g:Kk S) (h:I8 a++(Ii v++R)=I8 b++(Ii w++S)):a.natAbs=b.natAbs/\v=w/\R=S:=by
 unfold I8 at h
 have bad:∀(n:Nat) (u:Int) (X Y:List Int),Ii u++X=ti n++[42]++Y->False:=by
  intro n u X Y e
  obtain ⟨c,m,f,q⟩:=Ag6 u
  obtain ⟨d,k,l,j⟩:=Ag5 n
  rw [f,l] at e
  simp only [List.cons_append,List.cons.injEq] at e
  omega
 split at h <;> split at h
 .rename_i h1 h2
  simp only [List.nil_append] at h
  exact ⟨h1.trans h2.symm,Apl i g h⟩
 .exact (bad _ _ _ _ h).elim
 .exact (bad _ _ _ _ h.symm).elim
 .simp only [List.append_assoc,List.cons_append,List.nil_append] at h
  obtain ⟨f,q⟩:=Nt _ _ _ _ (Hg _) (Hg _) (Ag7 _) (Ag7 _) h
  have l:=Rs f
  obtain ⟨j,s⟩:=Apl i g (List.cons.inj q).2
  exact ⟨by omega,j,s⟩
def NoM (P:List Int):Prop:=∃c m,P=c::m/\c≠45
theorem NoM.ti (n:Nat) (X:List Int):NoM (Go.Ab.ti n++X):=by
 obtain ⟨c,m,e,h⟩:=Ag5 n
 exact ⟨c,m++X,by rw [e]; rfl,by omega⟩
theorem NoM.pT (a v:Int) (X:List Int):NoM (I8 a++(Ii v++X)):=by
 unfold I8
 split
 .obtain ⟨c,m,e,h⟩:=Ag6 v
  exact ⟨c,m++X,by rw [e]; rfl,by omega⟩
 .rw [List.append_assoc]; exact NoM.ti _ _
theorem Ag8 {a b:Int} {f:Bool} {P Q:List Int} (i:NoM P) (g:NoM Q) (h:Hz a f++P=Hz b f++Q):(a<0↔b<0)/\P=Q:=by
 obtain ⟨c,m,rfl,hc⟩:=i
 obtain ⟨d,k,rfl,hd⟩:=g
 unfold Hz at h
 cases f with
 | true=>
  simp only [if_true] at h
  split at h <;> split at h
  .rename_i h1 h2; exact ⟨by simp [h1,h2],by simpa using h⟩
  .simp at h; exact (hd h.1.symm).elim
  .simp at h; exact (hc h.1).elim
  .rename_i h1 h2; exact ⟨by simp [h1,h2],by simpa using h⟩
 | false=>
  simp only [Bool.false_eq_true,if_false] at h
  split at h <;> split at h
  .rename_i h1 h2; exact ⟨by simp [h1,h2],by simpa using h⟩
  .simp at h
  .simp at h
  .rename_i h1 h2; exact ⟨by simp [h1,h2],by simpa using h⟩
theorem Ag9 {n:Int} {P X:List Int} (b:Ij X) (h:Hz n false++P=X):False:=by
 unfold Hz at h
 simp only [Bool.false_eq_true,if_false] at h
 split at h
 .have:=b _ _ h.symm; omega
 .have:=b _ _ h.symm; omega
theorem Apm {c d:Int} {f:Bool} {u:Bb} {m:List Bb} {X Y:List Int} (b:Ij X) (l:Ij Y) (h:G7 f [] c++X=G7 f (u::m) d++Y):False:=by
 simp only [G7,tT] at h
 split at h
 .simp only [List.append_assoc] at h
  obtain ⟨_,e⟩:=Ag8 (NoM.ti _ _) (NoM.pT _ _ _) h
  unfold I8 at e
  split at e
  .obtain ⟨s,m1,k,h1⟩:=Ag6 u.Var
   obtain ⟨q,m2,g,h2⟩:=Ag5 c.natAbs
   rw [k,g] at e
   simp only [List.nil_append,List.cons_append,List.cons.injEq] at e
   omega
  .simp only [List.append_assoc,List.cons_append,List.nil_append] at e
   obtain ⟨_,g⟩:=Nt _ _ _ _ (Hg _) (Hg _) b.nonum (Ag7 _) e
   have:=b _ _ g; omega
 .rename_i i
  have j:f=false:=by cases f with | true=>simp at i | false=>rfl
  subst j
  simp only [List.nil_append,List.append_assoc] at h
  exact Ag9 b h.symm
theorem Apn:∀(l m:List Bb) (f:Bool) (c d:Int) (X Y:List Int),Ij X->Ij Y->G7 f l c++X=G7 f m d++Y->l=m/\c=d/\X=Y
 | [],[],f,c,d,X,Y,g,b,h=>by
  simp only [G7] at h
  split at h <;> split at h
  .simp only [List.append_assoc] at h
   obtain ⟨y,s⟩:=Ag8 (NoM.ti _ _) (NoM.ti _ _) h
   obtain ⟨q,i⟩:=Nt _ _ _ _ (Hg _) (Hg _) g.nonum b.nonum s
   have x:=Rs q
   exact ⟨rfl,by omega,i⟩
  .rename_i h1 h2
   have j:f=false:=by cases f with | true=>simp at h2 | false=>rfl
   subst j
   simp only [List.append_assoc,List.nil_append] at h
   exact (Ag9 b h).elim
  .rename_i h1 h2
   have j:f=false:=by cases f with | true=>simp at h1 | false=>rfl
   subst j
   simp only [List.append_assoc,List.nil_append] at h
   exact (Ag9 g h.symm).elim
  .rename_i h1 h2
   refine ⟨rfl,?_,by simpa using h⟩
   have a1:c=0:=by by_cases k:c=0; exact k; exact (h1 (.inl k)).elim
   have a2:d=0:=by by_cases k:d=0; exact k; exact (h2 (.inl k)).elim
   omega
 | [],u::m,f,c,d,X,Y,g,b,h=>(Apm g b h).elim
 | t::l,[],f,c,d,X,Y,g,b,h=>(Apm b g h.symm).elim
 | t::l,u::m,f,c,d,X,Y,g,b,h=>by
  simp only [G7,tT,List.append_assoc] at h
  obtain ⟨y,s⟩:=Ag8 (NoM.pT _ _ _) (NoM.pT _ _ _) h
  obtain ⟨q,i,x⟩:=A07 (Apk _ _ g) (Apk _ _ b) s
  obtain ⟨B,A,z⟩:=Apn l m false c d X Y g b x
  have:t=u:=by
   cases t; cases u
   simp only at y q i
   subst i
   congr 1; omega
  exact ⟨by rw [this,B],A,z⟩
def G1 (a:Ba):List Int:=97::(ti a.Deg++58::X2 a.Lin)
def F2 (f:Cg):List Int:=I7 f.Var f.Index
def X3 (m:A8):List Int:=m.Factors.flatMap F2++m.Atoms.flatMap G1
theorem Ach (l:List Ba):Ij (l.flatMap G1):=by
 cases l with
 | nil=>exact Ij.nil
 | cons a l=>simp only [List.flatMap_cons,G1,List.cons_append]; exact Ij.cons _
theorem Aci (X:List Int):Kk (58::X):=by intro c m e; cases e; decide
theorem Apo:∀(l m:List Ba),l.flatMap G1=m.flatMap G1->l=m
 | [],[],_=>rfl
 | [],b::m,h=>by simp [G1] at h
 | a::l,[],h=>by simp [G1] at h
 | a::l,b::m,h=>by
  simp only [List.flatMap_cons,G1,List.cons_append,List.append_assoc,List.cons.injEq,true_and] at h
  obtain ⟨s,q⟩:=Nt _ _ _ _ (Hg _) (Hg _) (Aci _) (Aci _) h
  have k:=(List.cons.inj q).2
  obtain ⟨g,f,j⟩:=Apn _ _ true _ _ _ _ (Ach l) (Ach m) k
  have i:=Apo l m j
  have c:=Rs s
  obtain ⟨⟨x,t1⟩,d1⟩:=a
  obtain ⟨⟨u,t2⟩,d2⟩:=b
  simp only at g f c
  rw [g,f,c,i]
theorem App (l:List Cg) {X:List Int} (b:Ij X):Pf (l.flatMap F2++X):=by
 cases l with
 | nil=>intro c m e; rw [b c m e]; exact ⟨by decide,by decide⟩
 | cons a l=>
  intro c m e
  simp only [List.flatMap_cons,F2,I7,List.cons_append] at e
  cases e; exact ⟨by decide,by decide⟩
theorem Apq:∀(l m:List Cg) (X Y:List Int),Ij X->Ij Y->l.flatMap F2++X=m.flatMap F2++Y->l=m/\X=Y
 | [],[],X,Y,_,_,h=>⟨rfl,by simpa using h⟩
 | [],b::m,X,Y,f,_,h=>by
  simp only [List.flatMap_cons,List.flatMap_nil,F2,I7,List.cons_append,List.nil_append] at h
  have:=f _ _ h; omega
 | a::l,[],X,Y,_,c,h=>by
  simp only [List.flatMap_cons,List.flatMap_nil,F2,I7,List.cons_append,List.nil_append] at h
  have:=c _ _ h.symm; omega
 | a::l,b::m,X,Y,f,c,h=>by
  simp only [List.flatMap_cons,F2,I7,List.cons_append,List.append_assoc,List.cons.injEq,true_and] at h
  obtain ⟨x,u⟩:=Nt _ _ _ _ (Hg _) (Hg _) (Aci _) (Aci _) h
  have s:=(List.cons.inj u).2
  obtain ⟨i,q⟩:=Ago _ _ _ _ (App l f) (App m c) s
  obtain ⟨k,j⟩:=Apq l m X Y f c q
  have g:=Rs x
  obtain ⟨y,i1⟩:=a
  obtain ⟨v2,i2⟩:=b
  simp only at i g
  exact ⟨by rw [i,g,k],j⟩
theorem A08 {m n:A8} (h:X3 m=X3 n):m=n:=by
 obtain ⟨c,f⟩:=Apq _ _ _ _ (Ach _) (Ach _) h
 have b:=Apo _ _ f
 cases m; cases n
 simp only at c b
 rw [c,b]
def By (l:List Int):Prop:=∀c∈l,0<=c/\c<256
theorem By.app {l m:List Int} (h:By l) (h':By m):By (l++m):=by
 intro c hc
 rcases List.mem_append.1 hc with k | k
 .exact h c k
 .exact h' c k
theorem By.ti (n:Int):By (Go.Ab.ti n):=by
 intro c h
 have:=Hg n c h
 simp only [Ns,Bool.or_eq_true,Cu,beq_iff_eq,decide_eq_true_eq] at this
 omega
theorem By.cons {c:Int} {l:List Int} (hc:0<=c/\c<256) (h:By l):By (c::l):=by
 intro d hd
 rcases List.mem_cons.1 hd with rfl | k
 .exact hc
 .exact h d k
theorem By.nil:By []:=fun c h=>by cases h
theorem By.sgn (n:Int) (f:Bool):By (Hz n f):=by
 unfold Hz
 split <;> split <;> intro c hc <;> simp at hc <;> omega
theorem By.mag (n:Int):By (I8 n):=by
 unfold I8
 split
 .exact By.nil
 .exact (By.ti _).app (By.cons (by omega) By.nil)
theorem By.var (n:Int):By (Ii n):=by
 unfold Ii
 split
 .intro c hc; simp at hc; omega
 .exact By.cons (by omega) (By.ti _)
theorem By.tT (f:Bool) (t:Bb):By (tT f t):=(By.sgn _ _).app ((By.mag _).app (By.var _))
theorem By.lins:∀(l:List Bb) (f:Bool) (c:Int),By (G7 f l c)
 | [],f,c=>by
  simp only [G7]
  split
  .exact (By.sgn _ _).app (By.ti _)
  .exact By.nil
 | t::l,f,c=>(By.tT f t).app (By.lins l false c)
theorem By.at (a:Ba):By (G1 a):=By.cons (by omega) ((By.ti _).app (By.cons (by omega) (By.lins _ _ _)))
theorem By.flat {α:Type} {g:α->List Int} (h:∀a,By (g a)) (l:List α):By (l.flatMap g):=by
 intro c hc
 obtain ⟨a,_,k⟩:=List.mem_flatMap.1 hc
 exact h a c k
theorem By.fac (f:Cg):By (F2 f):=Ab8 f.Var f.Index
theorem By.mono (m:A8):By (X3 m):=(By.flat By.fac _).app (By.flat By.at _)
def bs (l:List Int):ByteArray:=⟨(Fm l).toArray⟩
theorem A09 {l m:List Int} (c:By l) (b:By m) (h:bs l=bs m):l=m:=by
 unfold bs at h
 have h1:(Fm l).toArray=(Fm m).toArray:=by injection h
 have h2:Fm l=Fm m:=by simpa using congrArg Array.toList h1
 exact Agr _ _ c b h2
def J3 (m:A8):ByteArray:=bs (X3 m)
theorem Apr {m n:A8} (h:J3 m=J3 n):m=n:=A08 (A09 (By.mono m) (By.mono n) h)
theorem Acj (l:List Int):(bs l).size=l.length:=by unfold bs Fm; simp [ByteArray.size]
theorem Aps {l:List Int} (h:By l):Lo (bs l)=l:=by
 unfold Lo bs Fm
 simp only [List.map_map]
 conv=>rhs; rw [<-List.map_id l]
 refine List.map_congr_left fun c hc=>?_
 have:=h c hc
 simp only [Function.comp,UInt8.toNat_ofNat',id]
 omega
theorem A1a (l m:List Int):bs l++bs m=bs (l++m):=by
 apply ByteArray.ext
 rw [ByteArray.data_append]
 unfold bs Fm
 simp
theorem R3 {l m:List Int} (h:l.length+m.length<=9223372036854775807):Ey (bs l) (bs m)=some (bs (l++m)):=by
 unfold Ey
 rw [if_pos (by rw [Acj,Acj]; exact h),A1a]
theorem Ack {n:Int} (h:I64 n):M6 n=some (bs (ti n)):=by
 rw [Agq h]
 congr 2
 congr 1
 unfold Fm ti
 rw [List.map_map]
 conv=>lhs; rw [<-List.map_id (Lib.itoa n)]
 refine List.map_congr_left fun c _=>?_
 simp [Function.comp]
end Go.Ab
namespace Go.Ab
open Go
theorem Acl {S E R α:Type} {step:S->Option (S⊕E)} {s0:S} {J:E->Option R} {r:R} (c:α) (xs:List α) (b:Nat->S) (h0:s0=b 0) (h:xs.length<2305843009213693952)
  (f:∀(j:Nat) (x:α),xs[j]? = some x->decide (((j+1:Nat):Int)<((c::xs).length:Int))=true->Ag (c::xs) ((j+1:Nat):Int)=some x->Ac (((j+1:Nat):Int)+1)=((j+1+1:Nat):Int)->step (b j)=some (.inl (b (j+1))))
  (g:decide (((xs.length+1:Nat):Int)<((c::xs).length:Int))=false->∃e,step (b xs.length)=some (.inr e)/\J e=some r):(Al step s0).bind J=some r:=by
 refine Hn xs.length b h0 (fun j hj=>?_) (g (by simp))
 have hx:xs[j]? = some xs[j]:=B0 hj
 exact f j _ hx (Am (by simp only [List.length_cons]; omega)) (Bw rfl (by simp)) (C8 (n:=xs.length+1) (by omega) (by omega))
theorem bnd {α β:Type} {X:Option α} {a:α} {K:α->Option β} {r:Option β} (h:X=some a) (k:K a=r):X.bind K=r:=by rw [h]; exact k
theorem Ma {l b:List Int} (c:By l) (h:b.length+l.length<=140737488355328):Gd (bs l) b=some ((l.length:Int),b++l):=by
 simp only [Gd,T1,Ad,Aps c,Acj]
 rw [Dh (by omega)]; rfl
theorem Us {l b:List Int} (c:By l) (h:b.length+l.length<=140737488355328):Jf (bs l) b=some ((l.length:Int),b++l):=by
 simp only [Jf,Wf,Ad,Aps c,Acj]
 rw [Dh (by omega)]; rfl
theorem Ut {b:List Int} (hb:By b):K5 b=some (bs b):=by
 exact if_pos hb
theorem A1b {b:List Int} (hb:By b):Aa4 b=some (bs b):=Ut hb
theorem Aha (n:Int) (h : -1048576<=n/\n<=1048576):(I8 n).length<=22:=by
 unfold I8
 split
 .simp
 .have:=L5 (n:=(n.natAbs:Int)) (by unfold I64; omega)
  simp; omega
theorem Acm (n:Int) (f:Bool):(Hz n f).length<=3:=by unfold Hz; split <;> split <;> simp
theorem A1c {v:Int} (h : -1<=v/\v<3000):(Ii v).length<=22:=by
 unfold Ii
 split
 .simp
 .have:=L5 (n:=v) (by unfold I64; omega)
  simp; omega
structure Apt (a:Be):Prop where
 c : -1048576<=a.Const/\a.Const<=1048576
 n:a.Terms.length<=16
 t:∀t∈a.Terms,(-1<=t.Var/\t.Var<3000)/\(-1048576<=t.Coef/\t.Coef<=1048576)
theorem Ahb {a:Be} (h:Cz a=true):Apt a:=by
 unfold Cz at h
 simp only [Cu,decide_eq_true_eq] at h
 refine ⟨⟨h.1.1,h.1.2.1⟩,h.1.2.2,fun t ht=>?_⟩
 obtain ⟨j,hj⟩:=List.getElem?_of_mem ht
 have:=Hx h.2 hj
 simp only [Uk,Cu,decide_eq_true_eq] at this
 omega
theorem Ahc {t:Bb} (f:Bool) (h:(-1<=t.Var/\t.Var<3000)/\(-1048576<=t.Coef/\t.Coef<=1048576)):(tT f t).length<=47:=by
 have:=Acm t.Coef f
 have:=Aha t.Coef h.2
 have:=A1c h.1
 unfold tT
 simp only [List.length_append]; omega
theorem Apu {n:Int} (h : -1048576<=n/\n<=1048576):(if Ac (0-n)>n then Ac (0-n) else n)=(n.natAbs:Int):=by
 rw [Ac,Bs (by omega) (by omega)]; split <;> omega
theorem c45:ByteArray.mk #[45]=bs [45]:=rfl
theorem A1d:ByteArray.mk #[32,45,32]=bs [32,45,32]:=rfl
theorem A1e:ByteArray.mk #[32,43,32]=bs [32,43,32]:=rfl
theorem c42:ByteArray.mk #[42]=bs [42]:=rfl
theorem Apv:ByteArray.mk #[118]=bs [118]:=rfl
theorem c97:ByteArray.mk #[97]=bs [97]:=rfl
theorem c58:ByteArray.mk #[58]=bs [58]:=rfl
theorem Apw:ByteArray.mk #[114,101,115]=bs [114,101,115]:=rfl
theorem Apx:By [45]:=By.cons (by omega) By.nil
theorem by3 (a b c:Int) (ha:0<=a/\a<256) (hb:0<=b/\b<256) (hc:0<=c/\c<256):By [a,b,c]:=By.cons ha (By.cons hb (By.cons hc By.nil))
theorem Apy {n:Int} (f:Bool) {b:List Int} (c : -1048576<=n/\n<=1048576) (hb:b.length<=1099511627776):W5 n f b=some ((n.natAbs:Int),b++Hz n f):=by
 unfold W5 Hz
 rw [Apu c,c45,A1d,A1e]
 rw [Ma Apx (by simp; omega),Ma (by3 _ _ _ (by omega) (by omega) (by omega)) (by simp; omega),Ma (by3 _ _ _ (by omega) (by omega) (by omega)) (by simp; omega)]
 by_cases h:n<0
 .rw [Am h,if_pos h,if_pos h]; cases f <;> rfl
 .rw [Ar h,if_neg h,if_neg h]; cases f <;> simp
theorem A1f {n:Int} {b:List Int} (c : -1048576<=n/\n<=1048576) (hb:b.length<=1099511627776):Qw n true b=some (if n<0 then .inl ((n.natAbs:Int),b++[45]) else .inr ((n.natAbs:Int),b)):=by
 unfold Qw
 rw [Apu c,c45,Us Apx (by simp; omega)]
 by_cases h:n<0
 .rw [Am h,if_pos h]; rfl
 .rw [Ar h,if_neg h]; rfl
theorem Ahd {n:Nat} (h:n<=1048576):Lv (n:Int) 10=some (bs (ti n)):=by
 unfold Lv Zx
 exact Ack (by unfold I64; omega)
theorem Acn {n:Nat} (h:n<=1048576):(ti (n:Int)).length<=21:=L5 (by unfold I64; omega)
theorem Apz {n:Int} {b:List Int} (c : -1048576<=n/\n<=1048576) (hb:b.length<=1099511627776) :
  (bif ((n.natAbs:Int) != (1:Int)) then (Lv (n.natAbs:Int) 10).bind fun v=>(Ey v (ByteArray.mk #[42])).bind fun u=>(Gd u b).bind fun w=>some w.2 else some b)=some (b++I8 n):=by
 have ht:=Acn (n:=n.natAbs) (by omega)
 unfold I8
 by_cases h:n.natAbs=1
 .rw [Fp (by omega),if_pos h]; simp
 .rw [Em (by omega),if_neg h,Ahd (by omega),c42]
  simp only [cond_true,Ad]
  rw [R3 (by simp; omega),Ad,Ma ((By.ti _).app (By.cons (by omega) By.nil)) (by simp; omega)]; rfl
theorem Ahe {v:Int} {b:List Int} {R:Type} (K:List Int->Option R) (hv : -1<=v/\v<3000) (hb:b.length<=1099511627776) :
  (bif (v==(-1)) then (Gd (ByteArray.mk #[114,101,115]) b).bind fun w=>K w.2 else (Hv v).bind fun x=>(Ey (ByteArray.mk #[118]) x).bind fun y=>(Gd y b).bind fun w=>K w.2)=K (b++Ii v):=by
 have ht:=L5 (n:=v) (by unfold I64; omega)
 unfold Ii
 by_cases h:v = -1
 .rw [Dj h,if_pos h,Apw,Ma (by3 _ _ _ (by omega) (by omega) (by omega)) (by simp; omega)]; rfl
 .rw [Cp h,if_neg h,Apv]
  simp only [cond_false,Hv]
  rw [Ack (by unfold I64; omega),Ad,R3 (by simp; omega),Ad]
  rw [show [118]++ti v=118::ti v from rfl,Ma (By.cons (by omega) (By.ti _)) (by simp; omega)]; rfl
theorem Aco {α:Type} {g:α->List Int} {l:List α} {j:Nat} {x:α} (h:l[j]? = some x):(l.take (j+1)).flatMap g=(l.take j).flatMap g++g x:=by
 rw [C5 h]; simp
theorem Ap0 {α:Type} {g:α->List Int} {n:Nat}:∀(l:List α),(∀a∈l,(g a).length<=n)->(l.flatMap g).length<=l.length*n
 | [],_=>by simp
 | a::l,h=>by
  have h1:=h a (by simp)
  have h2:=Ap0 l fun b hb=>h b (by simp [hb])
  simp only [List.flatMap_cons,List.length_append,List.length_cons,Nat.add_mul]; omega
theorem Ahf {α:Type} {g:α->List Int} {n:Nat} (l:List α) (j:Nat) (h:∀a∈l,(g a).length<=n):((l.take j).flatMap g).length<=l.length*n:=by
 refine Nat.le_trans (Ap0 _ fun a ha=>h a (List.mem_of_mem_take ha)) (Nat.mul_le_mul_right _ ?_)
 rw [List.length_take]; omega
theorem Ap1:∀(ts:List Bb) (c:Int),G7 false ts c=ts.flatMap (tT false)++G7 false [] c
 | [],c=>by simp
 | t::ts,c=>by
  have:=Ap1 ts c
  simp only [List.flatMap_cons,List.append_assoc,<-this]; rfl
theorem A1g {a:Be} (h:Cz a=true) (A:a.Terms≠[]):Nj a=some (bs (X2 a)):=by
 have y:=Ahb h
 unfold Nj
 rw [L7,h]
 obtain ⟨c,l⟩:=a
 cases l with
 | nil=>exact (A rfl).elim
 | cons t ts=>
  have hc : -1048576<=c/\c<=1048576:=y.c
  have L:ts.length<=15:=by have:=y.n; simp at this; omega
  have ht:(-1<=t.Var/\t.Var<3000)/\(-1048576<=t.Coef/\t.Coef<=1048576):=y.t t (by simp)
  have s:∀u∈ts,(-1<=u.Var/\u.Var<3000)/\(-1048576<=u.Coef/\u.Coef<=1048576):=fun u hu=>y.t u (by simp [hu])
  have x:=fun j=>Ahf (g:=tT false) (n:=47) ts j (fun u hu=>Ahc false (s u hu))
  have I:=Ahc true ht
  simp only [Ad,Dt,cond_false]
  rw [Am (by simp only [List.length_cons]; omega),cond_true]
  refine bnd (a:=((t.Coef.natAbs:Int),tT true t)) ?_ ?_
  .rw [show Ag (t::ts) 0=some t from rfl,Ad,A1f ht.2 (by simp),Ad]
   have E:=L5 (n:=t.Var) (by unfold I64; omega)
   have G:=Acn (n:=t.Coef.natAbs) (by omega)
   have B:=Aha t.Coef ht.2
   by_cases q:t.Coef<0
   .rw [if_pos q]
    simp only
    rw [Apz ht.2 (by simp),Ad]
    refine (Ahe (fun b=>some ((t.Coef.natAbs:Int),b)) ht.1 (by simp; omega)).trans ?_
    simp [tT,Hz,q]
   .rw [if_neg q]
    simp only
    by_cases h1:t.Coef.natAbs=1
    .rw [Fp (by omega)]
     simp only [cond_false]
     by_cases hv:t.Var = -1
     .rw [Dj hv,Apw,cond_true,Us (by3 _ _ _ (by omega) (by omega) (by omega)) (by simp)]
      simp [tT,Hz,q,I8,h1,Ii,hv]
     .rw [Cp hv,cond_false,Apv,Hv,Ack (by unfold I64; omega),Ad,R3 (by simp; omega),Ad,show [118]++ti t.Var=118::ti t.Var from rfl,
       Us (By.cons (by omega) (By.ti _)) (by simp; omega)]
      simp [tT,Hz,q,I8,h1,Ii,hv]
    .rw [Em (by omega)]
     simp only [cond_true]
     rw [Ahd (by omega),Ad,c42,R3 (by simp; omega),Ad,Us ((By.ti _).app (By.cons (by omega) By.nil)) (by simp; omega),Ad]
     refine (Ahe (fun b=>some ((t.Coef.natAbs:Int),b)) ht.1 (by simp; omega)).trans ?_
     simp [tT,Hz,q,I8,h1]
  .simp only
   refine Acl t ts (fun j=>(((j+1:Nat):Int),tT true t++(ts.take j).flatMap (tT false))) (by simp [Ac,Bs]) (by omega) ?_ ?_
   .intro j u hu h1 h2 h3
    have f:=s u (B7 hu)
    have:=x j
    have B:=Aha u.Coef f.2
    have z:=Acm u.Coef false
    simp only [h1,h2,h3,cond_true,Ad]
    rw [Cp (by omega),Apy false f.2 (by simp only [List.length_append]; omega),Ad,Apz f.2 (by simp only [List.length_append]; omega),Ad]
    refine (Ahe (R:=(Int×List Int)⊕List Int) (fun b=>some (.inl (((j+1+1:Nat):Int),b))) f.1 (by simp only [List.length_append]; omega)).trans ?_
    rw [Aco hu]
    simp [tT]
   .intro h1
    have h2:=x ts.length
    rw [List.take_length] at h2
    refine ⟨tT true t++ts.flatMap (tT false),by simp only [h1,cond_false,List.take_length],?_⟩
    have D:By (tT true t++ts.flatMap (tT false)):=(By.tT _ _).app (By.flat (By.tT _) _)
    have e:X2 ⟨c,t::ts⟩=tT true t++ts.flatMap (tT false)++G7 false [] c:=by
     have:=Ap1 ts c
     rw [List.append_assoc,<-this]; rfl
    rw [e]
    have k:((((t::ts).length:Nat):Int)==(0:Int))=false:=Cp (by simp only [List.length_cons]; omega)
    by_cases i:c=0
    .simp only [Fp i,cond_false,k,Ad]
     rw [Ut D]
     simp [G7,i]
    .have J:=Acn (n:=c.natAbs) (by omega)
     have z:=Acm c false
     simp only [Em i,cond_true,Ad,k]
     rw [Apy false hc (by simp only [List.length_append]; omega),Ad,Ahd (by omega),Ad,Ma (By.ti _) (by simp only [List.length_append]; omega),Ad,
      Ut ((D.app (By.sgn _ _)).app (By.ti _))]
     simp [G7,i]
theorem Ap2 {a:Be} (h:Apt a):(X2 a).length<=1024:=by
 have key:∀(l:List Bb) (f:Bool),(∀t∈l,(-1<=t.Var/\t.Var<3000)/\(-1048576<=t.Coef/\t.Coef<=1048576))->(G7 f l a.Const).length<=47*l.length+24:=by
  intro l
  induction l with
  | nil=>
   intro f _
   have h1:=Acn (n:=a.Const.natAbs) (by have:=h.c; omega)
   have h2:=Acm a.Const f
   simp only [G7]
   split <;> simp <;> omega
  | cons t l ih=>
   intro f b
   have h1:=Ahc f (b t (by simp))
   have h2:=ih false fun u hu=>b u (by simp [hu])
   simp only [G7,List.length_append,List.length_cons]; omega
 have:=key a.Terms true h.t
 have:=h.n
 unfold X2; omega
structure CMo (m:A8):Prop where
 sz:MSz m
 nf:m.Factors.length<=6
 na:m.Atoms.length<=6
 al:∀a∈m.Atoms,Cz a.Lin=true/\a.Lin.Terms≠[]/\1<=a.Deg/\a.Deg<=6
theorem Acp {R:Type} {a:Ba} (K:ByteArray->Option R) (h:Cz a.Lin=true/\a.Lin.Terms≠[]/\1<=a.Deg/\a.Deg<=6) :
  ((Hv a.Deg).bind fun u=>(Ey (ByteArray.mk #[97]) u).bind fun v=>(Ey v (ByteArray.mk #[58])).bind fun w=>(Nj a.Lin).bind fun x=>(Ey w x).bind fun y=>K y)=K (bs (G1 a)):=by
 have h1:=L5 (n:=a.Deg) (by unfold I64; omega)
 have h2:=Ap2 (Ahb h.1)
 rw [Hv,Ack (by unfold I64; omega),Ad,c97,R3 (by simp; omega),Ad,c58,R3 (by simp; omega),Ad,A1g h.1 h.2.1,Ad,R3 (by simp; omega),Ad]
 simp [G1]
theorem X4 {a:Ba} (h:Cz a.Lin=true/\a.Lin.Terms≠[]/\1<=a.Deg/\a.Deg<=6):(G1 a).length<=1100:=by
 have h1:=L5 (n:=a.Deg) (by unfold I64; omega)
 have h2:=Ap2 (Ahb h.1)
 simp [G1]; omega
theorem Ahg {f:Cg} (h:Di f.Index<=1048576) (b:iR f.Index/\I64 f.Var):(F2 f).length<=33554432:=by
 have h1:=L5 b.2
 have h2:=Agp f.Index b.1
 simp [F2,I7]; omega
theorem A1h {m:A8} (h:CMo m):Vr m=some (J3 m):=by
 obtain ⟨fs,c⟩:=m
 have q:∀f∈fs,Di f.Index<=1048576/\iR f.Index/\I64 f.Var:=fun f i=>⟨h.sz.fi f i,h.sz.fr f i⟩
 have u:∀a∈c,Cz a.Lin=true/\a.Lin.Terms≠[]/\1<=a.Deg/\a.Deg<=6:=h.al
 have nf:fs.length<=6:=h.nf
 have na:c.length<=6:=h.na
 have A:=fun (l:List Cg) (x:∀f∈l,f∈fs) (j:Nat)=>Ahf (g:=F2) (n:=33554432) l j (fun f i=>Ahg (q f (x f i)).1 (q f (x f i)).2)
 have D:=fun (l:List Ba) (x:∀a∈l,a∈c) (j:Nat)=>Ahf (g:=G1) (n:=1100) l j (fun a ha=>X4 (u a (x a ha)))
 have M:∀l:List Cg,By (l.flatMap F2):=fun l=>By.flat By.fac l
 have G:∀l:List Ba,By (l.flatMap G1):=fun l=>By.flat By.at l
 have key:∀f:Cg,f∈fs->Ni f.Var f.Index=some (bs (F2 f)):=fun f i=>Aoj f.Var f.Index (q f i).2.2 (q f i).2.1 (q f i).1
 unfold Vr J3 X3
 cases fs with
 | nil=>
  rw [Ar (by simp),cond_false]
  cases c with
  | nil=>
   rw [Ar (by simp),cond_false]
   rw [A1b By.nil]; rfl
  | cons a c=>
   have ha:=u a (by simp)
   have y:=X4 ha
   rw [Am (by simp only [List.length_cons]; omega),cond_true,show Ag (a::c) 0=some a from rfl,Ad]
   refine (Acp _ ha).trans ?_
   rw [Us (By.at a) (by simp; omega),Ad]
   refine Acl a c (fun j=>(((j+1:Nat):Int),[]++G1 a++(c.take j).flatMap G1)) (by simp [Ac,Bs]) (by simp at na; omega) ?_ ?_
   .intro j b hb h1 h2 h3
    have k:=u b (by simp [B7 hb])
    have:=X4 k
    have:=D c (fun b hb=>by simp [hb]) j
    simp at na
    simp only [h1,h2,h3,cond_true,Ad]
    refine (Acp _ k).trans ?_
    rw [Ma (By.at b) (by simp only [List.length_append,List.length_nil]; omega),Ad,Aco hb]
    simp
   .intro h1
    refine ⟨[]++G1 a++c.flatMap G1,by simp only [h1,cond_false,List.take_length],?_⟩
    dsimp only
    rw [Ut ((By.nil.app (By.at a)).app (G c))]
    simp
 | cons f fs=>
  have i:=q f (by simp)
  have L:=Ahg i.1 i.2
  rw [Am (by simp only [List.length_cons]; omega),cond_true,show Ag (f::fs) 0=some f from rfl,Ad,key f (by simp),Ad,Us (By.fac f) (by simp; omega),Ad]
  refine Acl f fs (fun j=>(((j+1:Nat):Int),[]++F2 f++(fs.take j).flatMap F2)) (by simp [Ac,Bs]) (by simp at nf; omega) ?_ ?_
  .intro j g E h1 h2 h3
   have s:g∈f::fs:=by simp [B7 E]
   have:=Ahg (q g s).1 (q g s).2
   have:=A fs (fun b hb=>by simp [hb]) j
   simp at nf
   simp only [h1,h2,h3,cond_true,Ad]
   rw [key g s,Ad,Ma (By.fac g) (by simp only [List.length_append,List.length_nil]; omega),Ad,Aco E]
   simp
  .intro h1
   have I:=A fs (fun b hb=>by simp [hb]) fs.length
   rw [List.take_length] at I
   simp at nf
   refine ⟨[]++F2 f++fs.flatMap F2,by simp only [h1,cond_false,List.take_length],?_⟩
   have z:By ([]++F2 f++fs.flatMap F2):=(By.nil.app (By.fac f)).app (M fs)
   have J:([]++F2 f++fs.flatMap F2).length<=234881024:=by simp only [List.length_append,List.length_nil]; omega
   have eB:(f::fs).flatMap F2 = []++F2 f++fs.flatMap F2:=by simp
   rw [eB]
   generalize []++F2 f++fs.flatMap F2=B at z J
   cases c with
   | nil=>
    rw [Ar (by simp),cond_false,Ut z]; simp
   | cons a c=>
    have ha:=u a (by simp)
    have y:=X4 ha
    rw [Am (by simp only [List.length_cons]; omega),cond_true,show Ag (a::c) 0=some a from rfl,Ad]
    refine (Acp _ ha).trans ?_
    rw [Ma (By.at a) (by omega),Ad]
    refine Acl a c (fun j=>(((j+1:Nat):Int),B++G1 a++(c.take j).flatMap G1)) (by simp [Ac,Bs]) (by simp at na; omega) ?_ ?_
    .intro j b hb h1 h2 h3
     have k:=u b (by simp [B7 hb])
     have:=X4 k
     have:=D c (fun b hb=>by simp [hb]) j
     simp at na
     simp only [h1,h2,h3,cond_true,Ad]
     refine (Acp _ k).trans ?_
     rw [Ma (By.at b) (by simp only [List.length_append]; omega),Ad,Aco hb]
     simp
    .intro h1
     refine ⟨B++G1 a++c.flatMap G1,by simp only [h1,cond_false,List.take_length],?_⟩
     dsimp only
     rw [Ut ((z.app (By.at a)).app (G c))]
     simp
end Go.Ab
namespace Go.Ab
open Go
def plc (ts:List Aj):List (ByteArray×Int):=ts.zipIdx.map fun q=>(J3 q.1.Mono,(q.2:Int))
def Dst (ts:List Aj):Prop:=ts.Pairwise fun t u=>t.Mono≠u.Mono
theorem A1i (ts:List Aj) (t:Aj):plc (ts++[t])=plc ts++[(J3 t.Mono,(ts.length:Int))]:=by
 unfold plc; simp [List.zipIdx_append]
theorem X5 (ts:List Aj) (j:Nat):(plc ts)[j]? = (ts[j]?).map fun t=>(J3 t.Mono,(j:Int)):=by
 unfold plc; simp [List.getElem?_map,List.getElem?_zipIdx]
 cases ts[j]? <;> rfl
theorem A1j {ts:List Aj} {j:Nat} {t u:Aj} (h:ts[j]? = some t) (b:u.Mono=t.Mono):plc (ts.set j u)=plc ts:=by
 apply List.ext_getElem?
 intro i
 rw [X5,X5,List.getElem?_set]
 by_cases e:j=i
 .subst e
  rw [if_pos rfl,if_pos (Eo h),h]; simp [b]
 .rw [if_neg e]
theorem Ap3 {α:Type}:∀(o:List (ByteArray×α)) (s:ByteArray) (v:α),E3 o s=false->Fd o s v=o++[(s,v)]
 | [],_,_,_=>rfl
 | p::o,s,v,h=>by
  simp only [E3,List.any_cons,Bool.or_eq_false_iff] at h
  simp only [Fd,h.1,cond_false,List.cons_append,List.cons.injEq,true_and]
  exact Ap3 o s v h.2
theorem A1k {ts:List Aj} {m:A8} (h:∀t∈ts,t.Mono≠m):E3 (plc ts) (J3 m)=false:=by
 unfold E3
 rw [List.any_eq_false]
 intro p hp
 obtain ⟨j,hj⟩:=List.getElem?_of_mem hp
 rw [X5] at hj
 cases ht:ts[j]? with
 | none=>rw [ht] at hj; cases hj
 | some t=>
  rw [ht] at hj
  simp only [Option.map_some,Option.some.injEq] at hj
  subst hj
  intro e
  have e:=(Rr _ _).1 e
  exact h t (B7 ht) (Apr e).symm
theorem A1l {ts:List Aj} (hd:Dst ts) {j:Nat} {t:Aj} (h:ts[j]? = some t):E3 (plc ts) (J3 t.Mono)=true/\Iq (plc ts) (J3 t.Mono) 0=(j:Int):=by
 have hp:(plc ts)[j]? = some (J3 t.Mono,(j:Int)):=by rw [X5,h]; rfl
 refine ⟨List.any_eq_true.2 ⟨_,B7 hp,(Rr _ _).2 rfl⟩,?_⟩
 unfold Iq
 have b:(plc ts).find? (fun p=>J3 t.Mono==p.1)=some (J3 t.Mono,(j:Int)):=by
  cases b:(plc ts).find? (fun p=>J3 t.Mono==p.1) with
  | none=>
   have:=List.find?_eq_none.1 b _ (B7 hp)
   exact (this ((Rr _ _).2 rfl)).elim
  | some q=>
   have h1:=List.find?_some b
   obtain ⟨i,hi⟩:=List.getElem?_of_mem (List.mem_of_find?_eq_some b)
   rw [X5] at hi
   cases hu:ts[i]? with
   | none=>rw [hu] at hi; cases hi
   | some u=>
    rw [hu] at hi
    simp only [Option.map_some,Option.some.injEq] at hi
    subst hi
    have e:=Apr ((Rr _ _).1 h1)
    have g:i=j:=by
     have f:=Eo hu
     have c:=Eo h
     rw [B0 f] at hu
     rw [B0 c] at h
     rcases Nat.lt_trichotomy i j with k | k | k
     .have:=List.pairwise_iff_getElem.1 hd i j f c k
      rw [Option.some.inj hu,Option.some.inj h] at this
      exact (this e.symm).elim
     .exact k
     .have:=List.pairwise_iff_getElem.1 hd j i c f k
      rw [Option.some.inj hu,Option.some.inj h] at this
      exact (this e).elim
    subst g
    rw [e]
 rw [b]; rfl
open Classical in
theorem Uu (t:Aj) (p:List Aj) (m:A8):cf (t::p) m=(if t.Mono=m then rq t.Coef else 0)+cf p m:=by
 simp only [cf]
 by_cases e:t.Mono=m
 .rw [if_pos (Km.2 e),if_pos e]
 .rw [if_neg (fun h=>e (Km.1 h)),if_neg e]
open Classical in
theorem Ap4:∀{ts:List Aj} {j:Nat} {t u:Aj},ts[j]? = some t->u.Mono=t.Mono->∀m,cf (ts.set j u) m=cf ts m+(if t.Mono=m then rq u.Coef-rq t.Coef else 0)
 | [],j,t,u,h,_,m=>by simp at h
 | s::ts,0,t,u,h,hm,m=>by
  simp only [List.getElem?_cons_zero,Option.some.injEq] at h
  subst h
  rw [List.set_cons_zero,Uu,Uu,hm]
  split <;> grind
 | s::ts,j+1,t,u,h,hm,m=>by
  simp only [List.getElem?_cons_succ] at h
  rw [List.set_cons_succ,Uu,Uu,Ap4 h hm m]
  grind
theorem Dst.set {ts:List Aj} (h:Dst ts) {j:Nat} {t u:Aj} (ht:ts[j]? = some t) (b:u.Mono=t.Mono):Dst (ts.set j u):=by
 have e:(ts.set j u).map (·.Mono)=ts.map (·.Mono):=by
  apply List.ext_getElem?
  intro i
  rw [List.getElem?_map,List.getElem?_map,List.getElem?_set]
  by_cases e:j=i
  .subst e; rw [if_pos rfl,if_pos (Eo ht),ht]; simp [b]
  .rw [if_neg e]
 have k:∀l:List Aj,Dst l↔(l.map (·.Mono)).Pairwise (·≠·):=fun l=>by rw [List.pairwise_map]; exact Iff.rfl
 rw [k,e,<-k]; exact h
structure Col (k:Nat) (P:A8->Prop) (ts:List Aj):Prop where
 dst:Dst ts
 tb:∀t∈ts,RB k t.Coef
 mo:∀t∈ts,P t.Mono
theorem Col.nil (k:Nat) (P:A8->Prop):Col k P []:=⟨List.Pairwise.nil,fun _ h=>(by cases h),fun _ h=>(by cases h)⟩
theorem X6 {k0 k:Nat} {P:A8->Prop} (J:∀m,P m->CMo m) (l ts:List Aj) (y:Col k0 P ts) (I:∀t∈l,RB k t.Coef/\P t.Mono) (hk:k<=k0) (S:k0+l.length*(k+3)<34359738000) (R:ts.length+l.length<=1099511627776) :
  ∃f,Jv l (plc ts) ts=some (plc f,f)/\Col (k0+l.length*(k+3)) P f/\f.length<=ts.length+l.length/\∀m,cf f m=cf ts m+cf l m:=by
 unfold Jv
 refine Aba (A:=List Aj) (fun f=>(plc f,f)) ?_
 refine Ef (fun s=>∃(j:Nat) (u:List Aj),s=((j:Int),plc u,u)/\j<=l.length/\Col (k0+j*(k+3)) P u/\u.length<=ts.length+j/\∀m,cf u m=cf ts m+cf (l.take j) m) (fun s=>l.length-s.1.toNat)
  (fun z=>∃u,z=(plc u,u)/\Col (k0+l.length*(k+3)) P u/\u.length<=ts.length+l.length/\∀m,cf u m=cf ts m+cf l m) ⟨0,ts,rfl,by omega,by simpa using y,by omega,fun m=>by simp only [List.take_zero,cf]; grind⟩ ?_ ?_
 .rintro _ ⟨j,u,rfl,hj,hu,q,hv⟩
  rcases Nat.lt_or_ge j l.length with h | h
  .have hx:l[j]? = some l[j]:=B0 h
   generalize l[j]=x at hx
   obtain ⟨hb,E⟩:=I x (B7 hx)
   have D:j*(k+3)+(k+3)<=l.length*(k+3):=by rw [<-Nat.succ_mul]; exact Nat.mul_le_mul_right _ h
   have B:(j+1)*(k+3)=j*(k+3)+(k+3):=by rw [Nat.succ_mul]
   simp only [Am (by omega:(j:Int)<(l.length:Int)),cond_true,Bw rfl hx,Ad,A1h (J _ E),C8 h (by omega)]
   left
   by_cases hex:∃t∈u,t.Mono=x.Mono
   .obtain ⟨t,ht,G⟩:=hex
    obtain ⟨i,hi⟩:=List.getElem?_of_mem ht
    obtain ⟨g1,g2⟩:=A1l hu.dst hi
    rw [G] at g1 g2
    obtain ⟨c,N,_,M,U,L⟩:=Ag0 (hu.tb t ht) hb (by omega) (by omega)
    refine ⟨((j+1:Nat),plc (u.set i ⟨c,t.Mono⟩),u.set i ⟨c,t.Mono⟩),?_,⟨j+1,u.set i ⟨c,t.Mono⟩,rfl,by omega,⟨hu.dst.set hi rfl,?_,?_⟩,by rw [List.length_set]; omega,fun m=>?_⟩,by simp; omega⟩
    .simp only [g1,g2,cond_true,Ad,Bw rfl hi,N,Ff rfl,A1j (u:=⟨c,t.Mono⟩) hi rfl]
    .intro w hw
     rcases List.mem_or_eq_of_mem_set hw with hw | rfl
     .exact (hu.tb w hw).mono (by omega)
     .exact M.mono (by omega)
    .intro w hw
     rcases List.mem_or_eq_of_mem_set hw with hw | rfl
     .exact hu.mo w hw
     .exact hu.mo t ht
    .rw [Ap4 (u:=⟨c,t.Mono⟩) hi rfl m,hv m,C5 hx,Ur,Uu]
     simp only [L,G,cf]
     split <;> grind
   .have g:=A1k (m:=x.Mono) (ts:=u) fun t ht e=>hex ⟨t,ht,e⟩
    refine ⟨((j+1:Nat),plc (u++[x]),u++[x]),?_,⟨j+1,u++[x],rfl,by omega,⟨?_,?_,?_⟩,by simp; omega,fun m=>?_⟩,by simp; omega⟩
    .simp only [g,cond_false,Ad]
     rw [Dh (by simp; omega),Ad,Ap3 _ _ _ g,A1i]
    .refine List.pairwise_append.2 ⟨hu.dst,List.pairwise_singleton _ _,fun a ha b hb=>?_⟩
     simp only [List.mem_singleton] at hb
     subst hb
     exact fun e=>hex ⟨a,ha,e⟩
    .intro w hw
     rcases List.mem_append.1 hw with hw | hw
     .exact (hu.tb w hw).mono (by omega)
     .simp only [List.mem_singleton] at hw
      subst hw
      exact hb.mono (by omega)
    .intro w hw
     rcases List.mem_append.1 hw with hw | hw
     .exact hu.mo w hw
     .simp only [List.mem_singleton] at hw
      subst hw
      exact E
    .rw [Ur,hv m,C5 hx,Ur]; grind
  .have:j=l.length:=by omega
   subst this
   rw [List.take_length] at hv
   simp only [Ar (by omega:¬(l.length:Int)<(l.length:Int)),cond_false]
   exact .inr ⟨_,rfl,u,rfl,hu,q,hv⟩
 .rintro _ ⟨u,rfl,h1,h2,h3⟩
  exact ⟨_,rfl,u,rfl,h1,h2,h3⟩
end Go.Ab
namespace Go.Ab
open Go
theorem Ahh (t u:Aj) (h:MSz t.Mono):Nc t u=some (C9 t.Mono u.Mono):=by
 unfold Nc
 rw [Aop _ _ h]; rfl
theorem A1m {α:Type} (A R:List α) (x y:α):((A++y::x::R).set (A.length+1) y).set A.length x=A++x::y::R:=by
 induction A with
 | nil=>rfl
 | cons a A ih=>simp only [List.cons_append,List.length_cons,List.set_cons_succ,ih]
theorem Ap5 {α:Type} (A R:List α) (x:α):(A++x::R)[A.length]? = some x:=by simp
theorem A1n {α:Type} (A R:List α) (x y:α):(A++y::x::R)[A.length+1]? = some x:=by
 induction A with
 | nil=>rfl
 | cons a A ih=>simp
theorem A1o {step:Int×List Aj->Option ((Int×List Aj)⊕(Int×List Aj))} (N:Nat) (G:N<4611686018427387904)
  (b:∀(x:Aj) (R:List Aj),step (0,x::R)=some (.inr (0,x::R)))
  (l:∀(A R:List Aj) (x y:Aj),(∀t∈A++y::x::R,MSz t.Mono)->(A++y::x::R).length<=N->step (((A.length+1:Nat):Int),A++y::x::R) =
   if C9 x.Mono y.Mono<0 then some (.inl ((A.length:Int),A++x::y::R)) else some (.inr (((A.length+1:Nat):Int),A++y::x::R))) :
  ∀(n:Nat) (A R:List Aj) (x:Aj),A.length=n->(∀t∈A++x::R,MSz t.Mono)->(A++x::R).length<=N ->
   ∃f i,Al step ((A.length:Int),A++x::R)=some ((f.length:Int),f++x::(i++R))/\A=f++i/\(∀a∈i,ltT x a)/\∀q y,f=q++[y]->¬ltT x y:=by
 intro n
 induction n with
 | zero=>
  intro A R x g _ _
  have:A = []:=List.length_eq_zero_iff.1 g
  subst this
  exact ⟨[],[],Ee (b x R),rfl,(fun _ h=>by cases h),(fun q y h=>by simp at h)⟩
 | succ n ih=>
  intro A R x g k c
  obtain ⟨B,y,rfl⟩:∃B y,A=B++[y]:=by
   rcases List.eq_nil_or_concat A with h | ⟨B,y,h⟩
   .rw [h] at g; cases g
   .exact ⟨B,y,by simpa using h⟩
  have u:B.length=n:=by simpa using g
  have E:(B++[y])++x::R=B++y::x::R:=by simp
  have el:(((B++[y]).length:Nat):Int)=((B.length+1:Nat):Int):=by simp
  rw [E] at k c ⊢
  rw [el]
  have j:=l B R x y k c
  by_cases hc:C9 x.Mono y.Mono<0
  .rw [if_pos hc] at j
   obtain ⟨f,i,h1,h2,h3,D⟩:=ih B (y::R) x u (by
    intro t ht
    refine k t ?_
    simp only [List.mem_append,List.mem_cons] at ht ⊢
    rcases ht with h | h | h | h <;> simp [h]) (by simpa using c)
   refine ⟨f,i++[y],?_,by rw [h2]; simp,?_,D⟩
   .rw [Je j,h1]; simp
   .intro a ha
    rcases List.mem_append.1 ha with ha | ha
    .exact h3 a ha
    .simp only [List.mem_singleton] at ha
     subst ha; exact hc
  .rw [if_neg hc] at j
   refine ⟨B++[y],[],?_,by simp,(fun _ h=>by cases h),?_⟩
   .rw [Ee j]; simp
   .intro q z s
    have:=List.append_inj' s rfl
    have e:y=z:=by simpa using this.2
    subst e; exact hc
theorem A1p {a b c:Aj} (h:ltT a b) (h':ltT b c):ltT a c:=Uq h h'
theorem A1q {c j:List Aj} {x:Aj} (u:(c++j).Pairwise ltT) (h2:∀a∈j,ltT x a) (h1:∀g y,c=g++[y]->¬ltT x y) (hd:∀a∈c,a.Mono≠x.Mono):(c++x::j).Pairwise ltT:=by
 obtain ⟨i,s,l⟩:=List.pairwise_append.1 u
 have hx:∀a∈c,ltT a x:=by
  intro a ha
  rcases List.eq_nil_or_concat c with h | ⟨g,y,h⟩
  .rw [h] at ha; cases ha
  .have h:c=g++[y]:=by simpa using h
   have f:ltT y x:=by
    have q:=h1 g y h
    have z:=hd y (by rw [h]; simp)
    unfold ltT at *
    rcases Int.lt_trichotomy (C9 x.Mono y.Mono) 0 with k | k | k
    .exact (q k).elim
    .exact (z (Km.1 k).symm).elim
    .exact Ag3.1 k
   rw [h] at ha i
   rcases List.mem_append.1 ha with ha | ha
   .exact A1p ((List.pairwise_append.1 i).2.2 a ha y (by simp)) f
   .simp only [List.mem_singleton] at ha
    subst ha; exact f
 refine List.pairwise_append.2 ⟨i,List.pairwise_cons.2 ⟨h2,s⟩,fun a ha b hb=>?_⟩
 rcases List.mem_cons.1 hb with rfl | hb
 .exact hx a ha
 .exact l a ha b hb
noncomputable def X7:Int×List Aj->Option ((Int×List Aj)⊕(Int×List Aj)):=fun (v31,b)=>
 (show Option Bool from
 bif (decide (v31>(0:Int))) then (
 (Ag b v31).bind fun v33=>
 (Ag b (Ac (v31-1))).bind fun g=>
 (Nc v33 g).bind fun v35=>
 some (decide (v35<(0:Int))))
 else some false).bind fun f=>
 bif f then (
 (Ag b (Ac (v31-1))).bind fun v37=>
 (Ag b v31).bind fun c=>
 (Ag b v31).bind fun v39=>
 (Ag (Ca b v31 v37) (Ac (v31-1))).bind fun v40=>
 some (.inl ((Ac (v31-1)),(Ca (Ca b v31 v37) (Ac (v31-1)) c))))
 else some (.inr (v31,b))
theorem A1r (y:Aj) (R:List Aj):X7 (0,y::R)=some (.inr (0,y::R)):=by
 unfold X7
 simp only [Ar (by omega:¬(0:Int)>0),cond_false,Ad]
theorem A1s {N:Nat} (h:N<=1099511627776) (A R:List Aj) (u y:Aj) (b:∀t∈A++y::u::R,MSz t.Mono) (c:(A++y::u::R).length<=N):X7 (((A.length+1:Nat):Int),A++y::u::R) =
  if C9 u.Mono y.Mono<0 then some (.inl ((A.length:Int),A++u::y::R)) else some (.inr (((A.length+1:Nat):Int),A++y::u::R)):=by
 have g:A.length+1<N:=by simp at c; omega
 have f:Ac (((A.length+1:Nat):Int)-1)=(A.length:Int):=by rw [Ac,Bs] <;> omega
 unfold X7
 simp only [Am (by omega:((A.length+1:Nat):Int)>0),cond_true,f,Bw (n:=A.length+1) rfl (A1n A R u y),Bw (n:=A.length) rfl (Ap5 A (u::R) y),Ad,Ahh u y (b u (by simp))]
 by_cases hc:C9 u.Mono y.Mono<0
 .rw [Am hc,if_pos hc]
  simp only [cond_true]
  rw [Ff (n:=A.length+1) rfl,Ff (n:=A.length) rfl,A1m]
  have:Ag ((A++y::u::R).set (A.length+1) y) (A.length:Int)=some y:=by
   refine Bw rfl ?_
   rw [List.getElem?_set_ne (by omega)]; exact Ap5 A (u::R) y
  rw [this]; rfl
 .rw [Ar hc,if_neg hc]; rfl
theorem A1t (b:List Aj) (hd:Dst b) (I:∀t∈b,MSz t.Mono) (M:b.length<=1099511627776) :
  ∃R,Wg 0 (b.length:Int) b=some R/\R.Perm b/\R.Pairwise ltT:=by
 unfold Wg
 cases b with
 | nil=>
  refine ⟨[],?_,List.Perm.refl _,List.Pairwise.nil⟩
  refine Hn 0 (fun _=>((1:Int),([]:List Aj))) (by simp [Ac,Bs]) (fun j hj=>by omega) ⟨[],?_,rfl⟩
  simp
 | cons z0 A=>
 generalize f:z0::A=b at *
 have hpos:1<=b.length:=by rw [<-f]; simp
 refine Ef (fun s=>∃(i:Nat) (S:List Aj),s=((i:Int),S++b.drop i)/\1<=i/\i<=b.length/\S.length=i/\S.Perm (b.take i)/\S.Pairwise ltT) (fun s=>b.length-s.1.toNat)
  (fun R=>R.Perm b/\R.Pairwise ltT) ⟨1,[z0],by rw [<-f]; simp [Ac,Bs],by omega,hpos,rfl,by rw [<-f]; simp,List.pairwise_singleton _ _⟩ ?_ ?_
 .rintro _ ⟨i,S,rfl,J,hi,G,c,k⟩
  rcases Nat.lt_or_ge i b.length with h | h
  .have hx:b[i]? = some b[i]:=B0 h
   generalize b[i]=x at hx
   have g:b.drop i=x::b.drop (i+1):=Iu hx
   have z:(S++x::b.drop (i+1)).length=b.length:=by simp; omega
   have y:∀t∈S++x::b.drop (i+1),t∈b:=by
    intro t ht
    rcases List.mem_append.1 ht with ht | ht
    .exact List.mem_of_mem_take (c.mem_iff.1 ht)
    .rw [<-g] at ht; exact List.mem_of_mem_drop ht
   simp only [Am (by omega:(i:Int)<(b.length:Int)),cond_true,C8 h (by omega)]
   rw [g]
   left
   obtain ⟨q,l,h1,h2,h3,L⟩:=A1o (step:=X7) b.length (by omega) A1r (A1s (by omega)) S.length S (b.drop (i+1)) x rfl (fun t ht=>I t (y t ht)) (by rw [z]; exact Nat.le_refl _)
   rw [G] at h1
   have hp:(q++x::l).Perm (b.take (i+1)):=by
    rw [C5 hx]
    have:(q++x::l).Perm ((q++l)++[x]):=by
     rw [List.append_assoc]
     exact List.Perm.append_left q (List.perm_append_singleton x l).symm
    exact this.trans (by rw [<-h2]; exact c.append_right [x])
   refine ⟨(((i+1:Nat):Int),(q++x::l)++b.drop (i+1)),bnd h1 (by simp),⟨i+1,q++x::l,rfl,by omega,by omega,?_,hp,?_⟩,by simp; omega⟩
   .rw [hp.length_eq,List.length_take]; omega
   .rw [h2] at k
    refine A1q k h3 L fun a ha=>?_
    have E:a∈b.take i:=c.mem_iff.1 (by rw [h2]; simp [ha])
    have B:x∈b.drop i:=by rw [g]; simp
    have D:(b.take i++b.drop i).Pairwise fun t u=>t.Mono≠u.Mono:=by rw [List.take_append_drop]; exact hd
    exact (List.pairwise_append.1 D).2.2 a E x B
  .have:i=b.length:=by omega
   subst this
   rw [List.take_length] at c
   simp only [Ar (by omega:¬(b.length:Int)<(b.length:Int)),cond_false,List.drop_length,List.append_nil]
   exact .inr ⟨S,rfl,c,k⟩
 .rintro R ⟨h1,h2⟩
  exact ⟨R,rfl,h1,h2⟩
theorem Nv {α:Type} {n:Nat} {l:List α} (h:n=l.length):Fb n l=some ():=by unfold Fb; rw [if_pos h]
theorem A1u {s:ByteArray} {i:Int} (h0:0<=i) (h:i.toNat<s.size):∃c,Ip s i=some c:=by
 unfold Ip
 rw [if_pos h0]
 exact ⟨_,getElem?_pos s i.toNat h⟩
set_option maxRecDepth 20000 in
theorem Ap6 {n:Nat} (h:n<256):∃v,Qp (Aw (n:Int))=some v:=by
 unfold Qp Aah
 rw [Aw,C4 (by omega) (by omega),Ar (by omega)]
 simp only [cond_false,Ad]
 rw [Ar (by omega)]
 simp only [cond_false,Ad]
 rw [Ar (by omega)]
 simp only [cond_false,Ad]
 have b:wu8 (n:Int)=(n:Int):=by
  rw [wu8]; unfold IntKind.wrap; simp [IntKind.bits,IntKind.signed]; omega
 rw [b]
 generalize g:ByteArray.mk _=T
 have f:T.size=256:=by rw [<-g]; rfl
 obtain ⟨c,hc⟩:=A1u (s:=T) (i:=(n:Int)) (by omega) (by rw [f]; simpa using h)
 rw [hc]
 exact ⟨_,rfl⟩
theorem A1v (b:List Aj) (hd:Dst b) (f:∀t∈b,MSz t.Mono) (c:b.length<=12):∃R,Nb b=some R/\R.Perm b/\R.Pairwise ltT:=by
 obtain ⟨R,h1,h2,h3⟩:=A1t b hd f (by omega)
 obtain ⟨v,hv⟩:=Ap6 (n:=b.length) (by omega)
 refine ⟨R,?_,h2,h3⟩
 unfold Nb
 rw [Nat.ble_eq_true_of_le c,cond_true]
 unfold Afh
 rw [hv,Ad]
 have hp:V3 0 (b.length:Int) v b=some R:=by
  unfold V3
  refine bnd (a:=R) (Ee ?_) rfl
  have w:Ac ((b.length:Int)-0)=(b.length:Int):=by rw [Ac,Bs] <;> omega
  simp only [w,Am (by omega:(b.length:Int)<=12),cond_true,h1,Ad,Nv h2.length_eq.symm]
 rw [hp,Ad,Nv h2.length_eq.symm]; rfl
def clT (t:Aj):Aj:=⟨Bq (sv t.Coef) (nv t.Coef) (dv t.Coef),t.Mono⟩
theorem A1w {k:Nat} (p:List Aj) (hk:k<34359738000) (hp:∀t∈p,RB k t.Coef/\MSz t.Mono) (b:p.length<=1048576):Vs p=some (p.map clT):=by
 unfold Vs
 refine Gf p (fun j=>((j:Int),(p.take j).map clT)) rfl (by omega) ?_ ?_
 .intro j x hj hx h1 h2 h3
  obtain ⟨a1,a2⟩:=hp x (B7 hx)
  simp only [h1,h2,h3,cond_true,Ad,Af2 x.Coef k a1 (by omega),A04 x.Mono a2]
  rw [Dh (by simp; omega),Ad,C5 hx]
  simp [clT]
 .intro h1
  exact ⟨p.map clT,by simp,rfl⟩
theorem A1x (p:List Aj) (m:A8):cf (p.map clT) m=cf p m:=by
 induction p with
 | nil=>rfl
 | cons t p ih=>
  simp only [List.map_cons,cf,ih,clT]
  rw [Lc _ _ _ (E7 _)]; rfl
theorem A1y {p q:List Aj} (h:p.Perm q) (m:A8):cf p m=cf q m:=by
 induction h with
 | nil=>rfl
 | cons x _ ih=>simp only [cf,ih]
 | swap x y l=>simp only [cf]; grind
 | trans _ _ h1 h2=>rw [h1,h2]
def nzT (t:Aj):Bool:=decide (rq t.Coef≠0)
theorem A1z (p:List Aj) (m:A8):cf (p.filter nzT) m=cf p m:=by
 induction p with
 | nil=>rfl
 | cons t p ih=>
  by_cases h:rq t.Coef=0
  .rw [List.filter_cons_of_neg (by simp [nzT,h]),ih]; simp only [cf,h]; grind
  .rw [List.filter_cons_of_pos (by simp [nzT,h])]; simp only [cf,ih]
theorem A10 (x:Rat):(Jp x != (0:Int))=decide (x≠0):=by
 unfold Jp
 by_cases h1:x<0
 .rw [if_pos h1]
  have:x≠0:=by intro e; subst e; exact absurd h1 (by decide)
  simp [this]
 .rw [if_neg h1]
  by_cases h2:0<x
  .rw [if_pos h2]
   have:x≠0:=by intro e; subst e; exact absurd h2 (by decide)
   simp [this]
  .rw [if_neg h2]
   have:x=0:=Rat.le_antisymm (Rat.not_lt.1 h2) (Rat.not_lt.1 h1)
   simp [this]
theorem A11 {α:Type} {f:α->Bool} {l:List α} {j:Nat} {x:α} (h:l[j]? = some x):(l.take (j+1)).filter f=(l.take j).filter f++(if f x then [x] else []):=by
 rw [C5 h,List.filter_append]; congr 1; cases k:f x <;> simp [List.filter,k]
theorem Ahi {k:Nat} {P:A8->Prop} (q:∀m,P m->CMo m) (o:List (ByteArray×Int)) (ts:List Aj) (h:Col k P ts) (hk:k<34359738000) (A:ts.length<=1000)
  (z:∀c:List Aj,c.length<=ts.length->Dst c->(∀t∈c,MSz t.Mono)->∃R,Nb c=some R/\R.Perm c/\R.Pairwise ltT) :
  ∃R,Ka o ts=some (R,0)/\CP R/\(∀m,cf R m=cf ts m)/\(∀t∈R,P t.Mono/\RB (k+1) t.Coef)/\R.length<=ts.length:=by
 unfold Ka
 have g:(ts.filter nzT).length<=ts.length:=List.length_filter_le _ _
 obtain ⟨S,y,f,s⟩:=z (ts.filter nzT) g (List.Pairwise.filter _ h.dst) (fun t ht=>(q _ (h.mo t (List.mem_filter.1 ht).1)).sz)
 have b:∀t∈S,t∈ts/\rq t.Coef≠0:=by
  intro t ht
  have:=List.mem_filter.1 (f.mem_iff.1 ht)
  exact ⟨this.1,by simpa [nzT] using this.2⟩
 refine ⟨S.map clT,?_,⟨?_,?_⟩,?_,?_,?_⟩
 .refine Gf ts (fun j=>((j:Int),(ts.take j).filter nzT)) rfl (by omega) ?_ ?_
  .intro j x hj hx h1 h2 h3
   have hb:=h.tb x (B7 hx)
   have l:((ts.take j).filter nzT).length<=ts.length:=Nat.le_trans (List.length_filter_le _ _) (by rw [List.length_take]; omega)
   simp only [h1,h2,h3,cond_true,Ad,(X0 hb hk).1,A10]
   rw [A11 hx]
   by_cases i:rq x.Coef=0
   .have:nzT x=false:=by simp [nzT,i]
    rw [Ar (by simpa using i),this]; simp
   .have:nzT x=true:=by simp [nzT,i]
    rw [Am i,this]
    simp only [cond_true]
    rw [Dh (by simp; omega)]; simp
  .intro h1
   refine ⟨ts.filter nzT,by simp only [h1,cond_false,List.take_length],?_⟩
   rw [Ar (by omega)]
   simp only [cond_false]
   rw [y,Ad,Nv f.length_eq.symm,Ad,
    A1w (k:=k) S hk (fun t ht=>⟨h.tb t (b t ht).1,(q _ (h.mo t (b t ht).1)).sz⟩) (by rw [f.length_eq]; omega)]; rfl
 .rw [List.pairwise_map]; exact s
 .intro t ht
  obtain ⟨u,hu,rfl⟩:=List.mem_map.1 ht
  refine ⟨Ph _ _ _ (E7 _),?_⟩
  show rq (Bq _ _ _)≠0
  rw [Lc _ _ _ (E7 _)]; exact (b u hu).2
 .intro m
  rw [A1x,A1y f,A1z]
 .intro t ht
  obtain ⟨u,hu,rfl⟩:=List.mem_map.1 ht
  exact ⟨h.mo u (b u hu).1,Anf (h.tb u (b u hu).1)⟩
 .rw [List.length_map,f.length_eq]; exact g
end Go.Ab
namespace Go.Ab
open Go
theorem Ahj (x:Bo) (g:CSz x) (ps:List (List Aj)) (B:∀p∈ps,∀t∈p,TSz t) (R:ps.length<=1048576) :
  ∃r,Ju x ps=some r/\(((D9 x/\∀p∈ps,Hh x.Data x.Vars x.Res p=true)/\∃A,r = .inl (true,x,A,[],x.Data,x.Vars,x.Res.Kind,x.Res.Num,x.Res.Args)/\Fw x.Data x.Vars x.Res A) \/
   ((¬(D9 x/\∀p∈ps,Hh x.Data x.Vars x.Res p=true))/\r = .inr false)):=by
 obtain ⟨b,b1,b2⟩:=Abx g.ds
 have L:=g.nv
 have J:=g.rs
 unfold Ju
 rw [b1,Rq x.Data x.Res 0 (by omega)]
 by_cases l:x.Vars.length<=3000
 .rw [Ar (by omega)]
  simp only [cond_false,Ad]
  cases b with
  | false=>exact ⟨_,rfl,.inr ⟨fun h=>(by have:=b2.2 h.1.2.1; cases this),rfl⟩⟩
  | true=>
   have hv:=b2.1 rfl
   simp only [Dt,cond_false]
   cases D:(Du x.Data 0 x.Res&&decide (Bx x.Res<=200)) with
   | false=>exact ⟨_,rfl,.inr ⟨fun h=>(by have:=h.1.2.2.1; rw [show Gg x.Data x.Res=false from D] at this; cases this),rfl⟩⟩
   | true=>
    simp only [Dt,cond_false,Ad]
    refine Ef (fun i=>∃j:Nat,i=j/\j<=x.Vars.length/\(x.Vars.take j).all (Gg x.Data)=true) (fun i=>x.Vars.length-i.toNat)
     (fun z=>match z with | .inl r=>r=false/\¬D9 x | .inr _=>D9 x) ⟨0,rfl,by omega,by simp⟩ ?_ ?_
    .rintro i ⟨j,rfl,hj,c⟩
     rcases Nat.lt_or_ge j x.Vars.length with h | h
     .have ht:x.Vars[j]? = some x.Vars[j]:=B0 h
      generalize x.Vars[j]=t at ht
      have:=g.vs t (B7 ht)
      simp only [Am (by omega:(j:Int)<(x.Vars.length:Int)),cond_true,Bw rfl ht,Ad,Rq x.Data t 0 (by omega),C8 h (by omega)]
      rw [show (Du x.Data 0 t&&decide (Bx t<=200))=Gg x.Data t from rfl]
      cases G:Gg x.Data t with
      | true=>exact .inl ⟨_,rfl,⟨j+1,rfl,by omega,by rw [C5 ht,List.all_append,c]; simp [G]⟩,by simp; omega⟩
      | false=>
       refine .inr ⟨.inl false,rfl,rfl,fun hh=>?_⟩
       have:=List.all_eq_true.1 hh.2.2.2 t (B7 ht)
       rw [G] at this; cases this
     .have:j=x.Vars.length:=by omega
      subst this
      rw [List.take_length] at c
      exact .inr ⟨.inr (),by simp,l,hv,D,c⟩
    .rintro (r | u) f
     .obtain ⟨rfl,f⟩:=f
      exact ⟨_,rfl,.inr ⟨fun h=>f h.1,rfl⟩⟩
     .have I:D9 x:=f
      simp only
      refine Ef (fun s=>∃(j:Nat) (o:List (ByteArray×Int)),s=((j:Int),o)/\j<=ps.length/\Fw x.Data x.Vars x.Res o/\∀p∈ps.take j,Hh x.Data x.Vars x.Res p=true) (fun s=>ps.length-s.1.toNat)
       (fun z=>match z with | .inl r=>r=false/\¬(∀p∈ps,Hh x.Data x.Vars x.Res p=true) | .inr o=>Fw x.Data x.Vars x.Res o/\∀p∈ps,Hh x.Data x.Vars x.Res p=true)
       ⟨0,[],rfl,by omega,(fun q h=>by cases h),(fun q h=>by simp at h)⟩ ?_ ?_
      .rintro _ ⟨j,o,rfl,hj,E,c⟩
       rcases Nat.lt_or_ge j ps.length with h | h
       .have ht:ps[j]? = some ps[j]:=B0 h
        generalize ps[j]=p at ht
        have k:=B7 ht
        obtain ⟨A,N,M⟩:=Aow (I.ctx g) [] E p (B p k)
        simp only [Am (by omega:(j:Int)<(ps.length:Int)),cond_true,Bw rfl ht,Ad,N,C8 h (by omega)]
        cases y:Hh x.Data x.Vars x.Res p with
        | true=>
         refine .inl ⟨_,rfl,⟨j+1,A,rfl,by omega,M,fun q hq=>?_⟩,by simp; omega⟩
         rw [C5 ht] at hq
         rcases List.mem_append.1 hq with hq | hq
         .exact c q hq
         .simp only [List.mem_singleton] at hq
          subst hq; exact y
        | false=>
         refine .inr ⟨.inl false,rfl,rfl,fun hh=>?_⟩
         have:=hh p k
         rw [y] at this; cases this
       .have:j=ps.length:=by omega
        subst this
        rw [List.take_length] at c
        exact .inr ⟨.inr o,by simp,E,c⟩
      .rintro (r | o) hw
       .obtain ⟨rfl,hw⟩:=hw
        exact ⟨_,rfl,.inr ⟨fun h=>hw h.2,rfl⟩⟩
       .exact ⟨_,rfl,.inl ⟨⟨I,hw.2⟩,o,rfl,hw.1⟩⟩
 .rw [Am (by omega)]
  exact ⟨_,rfl,.inr ⟨fun h=>l h.1.1,rfl⟩⟩
theorem Ahk {data:List Ap} {vars:List Ah} {res:Ah} {m:A8} (h:Iw data vars res m=true) (q:MSz m):CMo m:=by
 have c:=(Acf h).2
 unfold Iw at h
 simp only [Cu,decide_eq_true_eq] at h
 obtain ⟨⟨h1,h2⟩,h3⟩:=h
 have b:∀f∈m.Factors,0<=F7 data vars res f:=by
  intro f c
  obtain ⟨j,hj⟩:=List.getElem?_of_mem c
  have:=Hx h1 hj
  simp only [Xs,Cu,decide_eq_true_eq] at this
  omega
 have ha:∀a∈m.Atoms,1<=a.Deg/\Cz a.Lin=true/\a.Lin.Terms≠[]:=by
  intro a ha
  obtain ⟨j,hj⟩:=List.getElem?_of_mem ha
  have:=Hx h2 hj
  simp only [Lb,Cu,decide_eq_true_eq] at this
  refine ⟨this.1.1.1.1,this.1.1.1.2,fun e=>?_⟩
  have k:=this.1.1.2
  rw [e] at k; simp at k
 obtain ⟨a1,a2,a3⟩:=Aot m.Atoms fun a h=>by have:=(ha a h).1; omega
 have f1:=A0b m.Factors b
 have al:(m.Atoms.length:Int)<=Cv m.Atoms:=by
  have key:∀l:List Ba,(∀a∈l,1<=a.Deg)->(l.length:Int)<=Cv l:=by
   intro l
   induction l with
   | nil=>intro _; simp [Cv]
   | cons f fs ih=>
    intro i
    have h1:=i f (by simp)
    have h2:=ih (fun g s=>i g (by simp [s]))
    unfold Cv at *
    simp only [List.map_cons,List.sum_cons,List.length_cons]; omega
  exact key _ fun a h=>(ha a h).1
 exact ⟨q,c,by omega,fun a h=>⟨(ha a h).2.1,(ha a h).2.2,(ha a h).1,by have:=a3 a h; omega⟩⟩
def G2 (x:Bo) (m:A8):Prop:=Iw x.Data x.Vars x.Res m=true/\MSz m
theorem G2.cmo {x:Bo} {m:A8} (h:G2 x m):CMo m:=Ahk h.1 h.2
structure Ho (x:Bo) (p:List Aj):Prop where
 can:Hh x.Data x.Vars x.Res p=true
 sz:∀t∈p,TSz t
theorem Ho.cp {x:Bo} {p:List Aj} (h:Ho x p):CP p:=(X1.1 h.can).2.1
theorem Ho.mo {x:Bo} {p:List Aj} (h:Ho x p):∀t∈p,G2 x t.Mono:=fun t ht=>⟨(X1.1 h.can).2.2 t ht,(h.sz t ht).mo⟩
theorem Ho.of {x:Bo} {p:List Aj} (hc:CP p) (b:∀t∈p,G2 x t.Mono) (c:∀t∈p,RB 1048576 t.Coef) (f:p.length<=1000):Ho x p :=
 ⟨X1.2 ⟨f,hc,fun t ht=>(b t ht).1⟩,fun t ht=>⟨c t ht,(b t ht).2⟩⟩
theorem Ho.tb {x:Bo} {p:List Aj} (h:Ho x p):∀t∈p,RB 1048576 t.Coef/\G2 x t.Mono:=fun t ht=>⟨(h.sz t ht).co,h.mo t ht⟩
theorem Ap7 {x:Bo} (i:CSz x) (k:D9 x) {p q:List Aj} (hp:Ho x p) (hq:Ho x q):∃f,Ju x [p,q]=some (.inl (true,x,f,[],x.Data,x.Vars,x.Res.Kind,x.Res.Num,x.Res.Args)):=by
 have b:∀r∈[p,q],Ho x r:=by
  intro r c
  simp only [List.mem_cons,List.not_mem_nil,or_false] at c
  rcases c with rfl | rfl <;> assumption
 obtain ⟨r,h,g⟩:=Ahj x i [p,q] (fun r c=>(b r c).sz) (by simp)
 rcases g with ⟨_,f,e,_⟩ | ⟨j,_⟩
 .exact ⟨f,by rw [h,e]⟩
 .exact (j ⟨k,fun r c=>(b r c).can⟩).elim
theorem A12 {r:Ak} {j k:Nat} (q:List Aj) (y:RB j r) (hq:∀t∈q,RB k t.Coef) (hj:j<34359738000) (hk:k<34359738000) (D:q.length<=1048576) :
  ∃x,Vy q r=some x/\x.length=q.length/\(∀m,cf x m=cf q m*rq r)/\∀t∈x,RB (k+j+2) t.Coef/\∃u∈q,u.Mono=t.Mono:=by
 unfold Vy
 refine Ef (fun s=>∃(i:Nat) (o:List Aj),s=((i:Int),o)/\i<=q.length/\o.length=i/\(∀m,cf o m=cf (q.take i) m*rq r)/\∀t∈o,RB (k+j+2) t.Coef/\∃u∈q,u.Mono=t.Mono) (fun s=>q.length-s.1.toNat)
  (fun o=>o.length=q.length/\(∀m,cf o m=cf q m*rq r)/\∀t∈o,RB (k+j+2) t.Coef/\∃u∈q,u.Mono=t.Mono) ⟨0,[],rfl,by omega,rfl,(fun m=>by simp only [List.take_zero,cf]; grind),fun _ h=>by cases h⟩ ?_ ?_
 .rintro _ ⟨i,o,rfl,hi,l,b,g⟩
  rcases Nat.lt_or_ge i q.length with h | h
  .have hx:q[i]? = some q[i]:=B0 h
   generalize q[i]=t at hx
   have f:=B7 hx
   obtain ⟨c,B,A,E,z⟩:=Pi (hq t f) y hk hj
   simp only [Am (by omega:(i:Int)<(q.length:Int)),cond_true,Bw rfl hx,Ad,B,C8 h (by omega)]
   rw [Dh (by simp; omega)]
   refine .inl ⟨_,rfl,⟨i+1,o++[⟨c,t.Mono⟩],rfl,by omega,by simp [l],fun m=>?_,fun w hw=>?_⟩,by simp; omega⟩
   .rw [Ur,b,C5 hx,Ur]
    simp only [cf,z]
    split <;> grind
   .rcases List.mem_append.1 hw with hw | hw
    .exact g w hw
    .simp only [List.mem_singleton] at hw
     subst hw
     exact ⟨A,t,f,rfl⟩
  .have:i=q.length:=by omega
   subst this
   rw [List.take_length] at b
   simp only [Ar (by omega:¬(q.length:Int)<(q.length:Int)),cond_false]
   exact .inr ⟨_,rfl,l,b,g⟩
 .rintro o ⟨h1,h2,h3⟩
  exact ⟨_,rfl,h1,h2,h3⟩
theorem A13:∃r,Dn (-1)=some r/\RB 1 r/\rq r = -1:=by
 refine ⟨_,Ub (-1) (by decide) (by decide),?_,?_⟩
 .exact K9 _ _ _ 1 (Ji (by decide)) (Ji (by decide)) (by omega)
 .rw [Lc _ _ _ (by decide)]; decide
end Go.Ab
namespace Go.Ab
open Go
theorem A14 {x:Bo} (c:CSz x) (f:D9 x) {p:List Aj} (hp:Ho x p):Oe x p=some true:=by
 obtain ⟨b,b1,b2⟩:=Agw x c p hp.sz
 rw [b1,b2.2 ⟨f,hp.can⟩]
end Go.Ab
namespace Go.Ab
open Go
def bc:Nat->Nat->Nat
 | _,0=>1
 | 0,_+1=>0
 | n+1,k+1=>bc n k+bc n (k+1)
theorem F8 (n:Nat):bc n 0=1:=by cases n <;> rfl
theorem X8:∀{n k:Nat},n<k->F1 n k=0
 | n,0,h=>absurd h (by omega)
 | n,k+1,h=>by
  rw [F1]
  by_cases e:n<k
  .rw [X8 e,Nat.zero_mul]
  .rw [show n-k=0 by omega,Nat.mul_zero]
theorem Ap8 (n:Nat):∀k,F1 (n+1) (k+1)=(n+1)*F1 n k
 | 0=>by simp [F1]
 | k+1=>by
  rw [F1,Ap8 n k,F1,show n+1-(k+1)=n-k by omega,Nat.mul_assoc]
theorem Uv:∀n k,F1 n k=fct k*bc n k
 | n,0=>by rw [F8]; rfl
 | 0,k+1=>by rw [X8 (by omega)]; simp [bc]
 | n+1,k+1=>by
  have h1:=Uv n (k+1)
  have h2:=Uv n k
  rw [Ap8,bc,Nat.mul_add,<-h1,fct,F1,Nat.mul_right_comm,<-h2]
  by_cases e:k<=n
  .rw [<-Nat.mul_add,Nat.mul_comm,show k+1+(n-k)=n+1 by omega]
  .rw [X8 (by omega)]; simp
theorem X9:∀n k,bc n k<=2 ^ n
 | n,0=>by rw [F8]; exact Nat.one_le_two_pow
 | 0,k+1=>by simp [bc]
 | n+1,k+1=>by
  have h1:=X9 n (k+1)
  have h2:=X9 n k
  rw [bc,Nat.pow_succ]; omega
def cR (n:Nat):Ak:=Bq false n 1
theorem Pj (n:Nat):sv (cR n)=false/\nv (cR n)=n/\dv (cR n)=1:=by
 obtain ⟨g,f,c,b⟩:=Xd false n 1 (by decide)
 refine ⟨?_,?_,?_⟩
 .by_cases h:n=0
  .exact b h
  .exact c h
 .unfold cR; rw [g]; simp
 .unfold cR; rw [f]; simp
theorem Kn {n k:Nat} (h:Bd n<=k) (hk:1<=k):RB k (cR n):=K9 _ _ _ _ h (by rw [L1]; exact hk) hk
theorem A15 {a b K:Nat} (ha:Bd a<=K) (hb:Bd b<=K) (c:1<=K) (h:K<60000000000):Hc (cR a) (cR b)=some (cR (a+b)):=by
 obtain ⟨a1,a2,a3⟩:=Pj a
 obtain ⟨b1,b2,f⟩:=Pj b
 rw [Abn _ _ K K (Kn ha c) (Kn hb c) (by omega) (by omega),a1,a2,a3,b1,b2,f]
 simp [Jk,Ie,cR]
theorem A16 {a K:Nat} (ha:Bd a<=K) (b:1<=K) (h:K<60000000000):He (cR a)=some (if a=0 then 0 else 1):=by
 obtain ⟨a1,a2,a3⟩:=Pj a
 rw [Abl _ K (Kn ha b) (by omega),a1,a2]
 simp [Ic]
theorem Acq:Dn 0=some (cR 0):=Ub 0 (by decide) (by decide)
theorem Pk:Dn 1=some (cR 1):=Ub 1 (by decide) (by decide)
theorem Ap9 (n k:Nat) (b:n<1000000000) (hk:k<=64):Wa (n:Int) (k:Int)=some (cR (bc n k),true):=by
 unfold Wa
 have e:(if (n:Int)>0 then (n:Int) else 0)=(n:Int):=by split <;> omega
 simp only [Ar (by omega:¬(k:Int)<0),cond_false,Ar (by omega:¬(k:Int)>64),Ad,e,Anj n k b hk]
 rw [Uv,show Bq false (fct k*bc n k) (fct k)=Bq false (fct k*bc n k) (fct k*1) by rw [Nat.mul_one],Ro _ _ _ _ (Ud k)]
 rfl
theorem Aqa (n k:Nat) (b:n<1000000000) (hk:k<=64):T3 (n:Int) (k:Int)=some (cR (bc n k),true):=Ap9 n k b hk
theorem Ahl:∀(l:List Ah) (r:List Bool) (s:Nat) (n:Nat) (p:Int) (L:Nat->Option Ah),l.length=r.length->(∀j,L (s+j)=l[j]?) ->
  (((r.zipIdx s).filter fun q=>!q.1).map fun q=>(q.2:Int))[n]? = some p->∃(m:Nat) (a:Ah),p=m/\L m=some a/\(Fq l r)[n]? = some a
 | [],[],s,n,p,L,_,_,h=>by simp at h
 | a::l,b::r,s,n,p,L,i,g,h=>by
  have c:l.length=r.length:=by simpa using i
  have f:∀j,L (s+1+j)=l[j]?:=fun j=>by rw [show s+1+j=s+(j+1) by omega,g]; rfl
  cases b with
  | true=>
   simp only [List.zipIdx_cons,List.filter_cons,Dt] at h
   obtain ⟨m,x,h1,h2,h3⟩:=Ahl l r (s+1) n p L c f (by simpa using h)
   exact ⟨m,x,h1,h2,by simpa [Fq] using h3⟩
  | false=>
   simp only [List.zipIdx_cons,List.filter_cons,Bool.not_false,if_true,List.map_cons] at h
   cases n with
   | zero=>
    simp only [List.getElem?_cons_zero,Option.some.injEq] at h
    exact ⟨s,a,h.symm,by have:=g 0; simpa using this,by simp [Fq]⟩
   | succ n=>
    simp only [List.getElem?_cons_succ] at h
    obtain ⟨m,x,h1,h2,h3⟩:=Ahl l r (s+1) n p L c f h
    exact ⟨m,x,h1,h2,by simpa [Fq] using h3⟩
 | [],_::_,_,_,_,_,h,_,_=>by simp at h
 | _::_,[],_,_,_,_,h,_,_=>by simp at h
theorem A17 {l:List Ah} {r:List Bool} (b:l.length=r.length) {n:Nat} {p:Int} (h:(G6 r)[n]? = some p):∃(m:Nat) (a:Ah),p=m/\l[m]? = some a/\(Fq l r)[n]? = some a :=
 Ahl l r 0 n p (fun j=>l[j]?) b (fun j=>by simp) (by unfold G6 at h; exact h)
theorem A18 (l:List Ah) (r:List Bool) (c:l.length=r.length):(G6 r).length=(Fq l r).length:=by
 unfold G6 Fq
 rw [List.length_map,List.length_map]
 have key:∀(l:List Ah) (r:List Bool) (s:Nat),l.length=r.length->((r.zipIdx s).filter fun q=>!q.1).length=((l.zip r).filter fun p=>!p.2).length:=by
  intro l
  induction l with
  | nil=>intro r s h; have:r = []:=List.length_eq_zero_iff.1 h.symm; subst this; rfl
  | cons a l ih=>
   intro r s h
   cases r with
   | nil=>simp at h
   | cons b r=>
    have:=ih r (s+1) (by simpa using h)
    cases b <;> simp [this]
 exact key l r 0 c
theorem A19 {data:List Ap} {t:Ah} (hk:t.Kind=5):∀(n:Nat) (v:Ay),C6 v<=n->Fr data v t=true->∀x∈Hi data t.Num v,Fr data x t=true/\C6 x<=C6 v:=by
 intro n
 induction n with
 | zero=>intro v h; have:=Xv v; omega
 | succ n ih=>
  intro v h q x hx
  have s:=L8 v
  obtain ⟨y,_,_,_,k,f⟩:=Ace hk q
  rw [Ao5] at hx
  rcases List.mem_cons.1 hx with rfl | hx
  .exact ⟨q,Nat.le_refl _⟩
  .have key:∀(l:List Ay) (r:List Bool),(∀(j:Nat) (w:Ay),l[j]? = some w->r[j]? = some true->Fr data w t=true)->Dv l<=n->x∈Gt data t.Num l r->Fr data x t=true/\C6 x<=Dv l:=by
    intro l
    induction l with
    | nil=>intro r _ _ hx; simp [Gt] at hx
    | cons w l c=>
     intro r i u hx
     cases r with
     | nil=>simp [Gt] at hx
     | cons b r=>
      have hw:Dv (w::l)=C6 w+Dv l:=by simp [Dv]
      have g:∀(j:Nat) (w':Ay),l[j]? = some w'->r[j]? = some true->Fr data w' t=true:=fun j w' h1 h2=>i (j+1) w' h1 h2
      cases b with
      | true=>
       simp only [Gt,cond_true,List.mem_append] at hx
       rcases hx with hx | hx
       .have:=ih w (by omega) (i 0 w rfl rfl) x hx
        exact ⟨this.1,by omega⟩
       .have:=c r g (by omega) hx
        exact ⟨this.1,by omega⟩
      | false=>
       simp only [Gt,cond_false,List.nil_append] at hx
       have:=c r g (by omega) hx
       exact ⟨this.1,by omega⟩
   have:=key v.Kids _ f (by omega) hx
   exact ⟨this.1,by omega⟩
theorem Ahm (data:List Ap):∀(c:List Bc) (ts:List Ah) (d:Nat),Df data c ts=some d->c.length=ts.length/\∀(j:Nat) (i:Bc) (t:Ah),c[j]? = some i->ts[j]? = some t->∃e,Fh data i t=some e/\e<=d
 | [],[],d,_=>⟨rfl,fun j i t h=>by simp at h⟩
 | i::c,t::ts,d,h=>by
  rw [Pe] at h
  cases h1:Fh data i t with
  | none=>rw [h1] at h; cases h
  | some a=>
   rw [h1,Ad] at h
   cases h2:Df data c ts with
   | none=>rw [h2] at h; cases h
   | some b=>
    rw [h2] at h
    have h:a+b=d:=Option.some.inj h
    obtain ⟨g1,g2⟩:=Ahm data c ts b h2
    refine ⟨by simp [g1],fun j i' f hi ht=>?_⟩
    cases j with
    | zero=>cases hi; cases ht; exact ⟨a,h1,by omega⟩
    | succ j=>
     obtain ⟨e,g,k⟩:=g2 j i' f hi ht
     exact ⟨e,g,by omega⟩
 | [],_::_,_,h=>by simp only [Df] at h; cases h
 | _::_,[],_,h=>by simp only [Df] at h; cases h
end Go.Ab
namespace Go.Ab
open Go
def Ko (data:List Ap) (t:Ah) (e:Bc):W3:=⟨e.Num,e.Kids,G6 (Dq data t.Num e.Num),match Ih data t e.Num with | some l=>Fq l (Dq data t.Num e.Num) | none=>[]⟩
def Hj (n:Nat) (f:Nat->Nat):List Ak:=(List.range (n+1)).map fun q=>cR (f q)
theorem R4 (n:Nat) (f:Nat->Nat):(Hj n f).length=n+1:=by simp [Hj]
theorem Pl {n q:Nat} (f:Nat->Nat) (h:q<=n):(Hj n f)[q]? = some (cR (f q)):=by
 unfold Hj
 rw [List.getElem?_map,List.getElem?_range (by omega)]; rfl
theorem Aqb {n q x:Nat} {f g:Nat->Nat} (h:q<=n) (h1:g q=x) (h2:∀p,p<=n->p≠q->g p=f p):Ca (Hj n f) (q:Int) (cR x)=Hj n g:=by
 rw [Ff (n:=q) rfl]
 apply List.ext_getElem?
 intro i
 rw [List.getElem?_set]
 rcases Nat.lt_or_ge i (n+1) with hi | hi
 .rw [Pl f (by omega),Pl g (by omega),R4]
  by_cases e:q=i
  .subst e; rw [if_pos rfl,if_pos (by omega),h1]
  .rw [if_neg e,h2 i (by omega) (Ne.symm e)]
 .rw [List.getElem?_eq_none (by rw [R4]; exact hi),List.getElem?_eq_none (by rw [R4]; exact hi)]
  split
  .rw [if_neg (by rw [R4]; omega)]
  .rfl
theorem Ahn {n:Nat} {f g:Nat->Nat} (h:∀p,p<=n->f p=g p):Hj n f=Hj n g:=by
 apply List.ext_getElem?
 intro i
 rcases Nat.lt_or_ge i (n+1) with hi | hi
 .rw [Pl f (by omega),Pl g (by omega),h i (by omega)]
 .rw [List.getElem?_eq_none (by rw [R4]; exact hi),List.getElem?_eq_none (by rw [R4]; exact hi)]
theorem A2a (c:List Ah) (Q:List Bool) (y:Q.length=c.length) (z:c.length<=6) {R:Type} {J:Int×List Int×List Ah->Option R} {r:R} (x:J ((Q.length:Int),G6 Q,Fq c Q)=some r) :
  (Al (S:=(Int×(List Int)×(List Ah))) (E:=(Int×(List Int)×(List Ah))) (fun (v85,g,f)=>
   bif (decide (v85<(Q.length:Int))) then (
   (Ag Q v85).bind fun i=>
   bif (!i) then (
   (B9 8 g [v85]).bind fun l=>
   (Ag c v85).bind fun h=>
   (B9 40 f [h]).bind fun k=>
   some (.inl ((Ac (v85+1)),l,k)))
   else some (.inl ((Ac (v85+1)),g,f)))
   else some (.inr (v85,g,f))) (0,[],[])).bind J=some r:=by
 have s:∀j,(G6 (Q.take j)).length<=Q.length:=fun j=>by
  unfold G6
  rw [List.length_map]
  refine Nat.le_trans (List.length_filter_le _ _) ?_
  simp; omega
 refine Gf Q (fun j=>((j:Int),G6 (Q.take j),Fq (c.take j) (Q.take j))) (by simp [G6,Fq]) (by omega) ?_ ?_
 .intro j b hj hb h1 h2 h3
  have ha:c[j]? = some c[j]:=B0 (by omega)
  generalize c[j]=a at ha
  have u:=Ab1 (c.take j) (Q.take j)
  have:(c.take j).length<=6:=by simp; omega
  have hp:=s j
  have q:G6 (Q.take (j+1))=G6 (Q.take j)++bif b then [] else [(j:Int)]:=by
   unfold G6
   rw [Azk hb,List.filter_append,List.map_append]
   cases b <;> rfl
  simp only [h1,h2,h3,cond_true,Ad,q,Agi ha hb]
  cases b with
  | true=>simp
  | false=>
   simp only [Bool.not_false,cond_true,cond_false]
   rw [Dh (by simp; omega),Ad,Bw rfl ha,Ad,Dh (by simp; omega)]; rfl
 .intro h1
  exact ⟨_,by simp only [h1]; rfl,by rw [List.take_length,List.take_of_length_le (by omega)]; exact x⟩
theorem A2b (n:Nat) (k:n<=100) {R:Type} {J:List Ak->Option R} {r:R} (h:J (List.replicate n (cR 0))=some r) :
  (Al (S:=(Int×(List Ak))) (E:=(List Ak)) (fun (b,c)=>
   bif (decide (b<(((List.replicate n (Ak.mk false [] [])).length:Nat):Int))) then (
   (Dn 0).bind fun f=>
   (Ag c b).bind fun g=>
   some (.inl ((Ac (b+1)),(Ca c b f))))
   else some (.inr c)) (0,List.replicate n (Ak.mk false [] []))).bind J=some r:=by
 refine Gf (List.replicate n (Ak.mk false [] [])) (fun j=>((j:Int),List.replicate j (cR 0)++List.replicate (n-j) (Ak.mk false [] []))) (by simp) (by simp; omega) ?_ ?_
 .intro j x hj hx h1 h2 h3
  have hj':j<n:=by simpa using hj
  have i:List.replicate (n-j) (Ak.mk false [] [])=Ak.mk false [] []::List.replicate (n-(j+1)) (Ak.mk false [] []):=by rw [show n-j=(n-(j+1))+1 by omega]; rfl
  simp only [h1,h3,cond_true,Acq,Ad,i]
  rw [Xi (List.replicate j (cR 0)) _ _ _ j rfl (by simp),Ad,Xh _ _ _ _ _ j rfl (by simp)]
  rw [List.replicate_succ']; simp
 .intro h1
  exact ⟨List.replicate n (cR 0),by simp only [h1]; simp,h⟩
end Go.Ab
namespace Go.Ab
open Go
end Go.Ab
namespace Go.Ab
open Go
theorem A2c:Vx []=some []:=by kernel_rfl
theorem A2d (l:List Int):Vx l=some (l.mergeSort fun x y=>decide (x<=y)):=by
 cases l with
 | nil=>rw [A2c]; simp
 | cons a l=>rfl
theorem A2e (l:List Int):(l.mergeSort fun x y=>decide (x<=y)).Pairwise (·<=·):=by
 have:=List.pairwise_mergeSort (le:=fun x y:Int=>decide (x<=y)) (fun a b c h1 h2=>by simp only [decide_eq_true_eq] at *; omega) (fun a b=>by simp only [Bool.or_eq_true,decide_eq_true_eq]; omega) l
 exact this.imp (fun h=>by simpa using h)
structure Asc (b:List Int) (n:Nat) (l:List Int):Prop where
 up:l.Pairwise (· < ·)
 mem:∀y,y∈l↔y∈b.take n
theorem A2f {b:List Int} (c:b.Pairwise (·<=·)) {q:Nat} {p:Int} (hp:b[q]? = some p):∀y∈b.take (q+1),y<=p:=by
 intro y hy
 obtain ⟨i,hi⟩:=List.getElem?_of_mem hy
 rw [List.getElem?_take] at hi
 split at hi
 .rename_i f
  by_cases e:i=q
  .subst e; rw [hi] at hp; cases hp; exact Int.le_refl _
  .have h1:=Eo hi
   have h2:=Eo hp
   have:=(List.pairwise_iff_getElem.1 c) i q h1 h2 (by omega)
   rw [B0 h1] at hi
   rw [B0 h2] at hp
   cases hi; cases hp; exact this
 .cases hi
theorem Asc.step {b:List Int} (g:b.Pairwise (·<=·)) {q:Nat} {l:List Int} {p x:Int} (h:Asc b (q+1) l) (hp:b[q]? = some p) (hx:b[q+1]? = some x) (j:x≠p):Asc b (q+2) (l++[x]):=by
 have f:=A2f g hp
 have i:p<x:=by
  have h1:=Eo hp
  have h2:=Eo hx
  have:=(List.pairwise_iff_getElem.1 g) q (q+1) h1 h2 (by omega)
  rw [B0 h1] at hp
  rw [B0 h2] at hx
  cases hp; cases hx; omega
 refine ⟨?_,fun y=>?_⟩
 .rw [List.pairwise_append]
  refine ⟨h.up,by simp,fun a ha c hc=>?_⟩
  rw [List.mem_singleton] at hc
  subst hc
  have:=f a ((h.mem a).1 ha)
  omega
 .rw [C5 hx,List.mem_append,List.mem_append,h.mem y]
theorem Asc.same {b:List Int} {q:Nat} {l:List Int} {x:Int} (h:Asc b (q+1) l) (hp:b[q]? = some x) (hx:b[q+1]? = some x):Asc b (q+2) l:=by
 refine ⟨h.up,fun y=>?_⟩
 rw [C5 hx,List.mem_append,h.mem y]
 constructor
 .exact .inl
 .rintro (h1 | h1)
  .exact h1
  .rw [List.mem_singleton] at h1
   subst h1
   rw [C5 hp]; simp
theorem Ya {α:Type} {l:List α} {off n:Nat} {i:Int} {j:Nat} {x:α} (hi:i=j) (hj:j<n) (h:l[off+j]? = some x):F4 l off n i=some x:=by
 subst hi
 unfold F4
 rw [if_pos (by omega)]; simpa using h
theorem A2g {X:Option (Nat×List Int)} {Q:Nat×List Int->Prop} (h:∃r,X=some r/\Q r):∃(m:Nat) (o:List Int),X=some (m,o)/\Q (m,o):=by
 obtain ⟨⟨m,o⟩,h1,h2⟩:=h
 exact ⟨m,o,h1,h2⟩
theorem A2h {X:Option (Int⊕((Nat×List Int)⊕Unit))} {P:Nat->List Int->Prop} {b:Prop} (h:∃r,X=some r/\∃(m:Nat) (o:List Int),r = .inr (.inl (m,o))/\P m o) :
  ∃e,X=some (.inr e)/\((∃(m:Nat) (o:List Int),e = .inl (m,o)/\P m o)\/(e = .inr ()/\b)):=by
 obtain ⟨_,h1,m,o,rfl,h2⟩:=h
 exact ⟨_,h1,.inl ⟨m,o,rfl,h2⟩⟩
theorem A2i (b:List Int) (R:b.Pairwise (·<=·)) (hl:b.length<=1099511627776):∃(m:Nat) (o:List Int),S9 b.length b=some (m,o)/\m<=o.length/\Asc b b.length (o.take m):=by
 unfold S9
 by_cases h2:b.length<2
 .rw [Am (by omega),cond_true]
  refine ⟨b.length,b,rfl,Nat.le_refl _,?_,fun y=>Iff.rfl⟩
  rw [List.take_length]
  match b,h2 with
  | [],_=>simp
  | [_],_=>simp
 .rw [Ar (by omega),cond_false]
  refine A2g (Q:=fun r:Nat×List Int=>r.1<=r.2.length/\Asc b b.length (r.2.take r.1)) ?_
  .refine Ef (Q:=fun r:Nat×List Int=>r.1<=r.2.length/\Asc b b.length (r.2.take r.1)) (fun v=>∃j:Nat,v=((j+1:Nat):Int)/\j+1<=b.length/\Asc b (j+1) (b.take (j+1))) (fun v=>b.length-v.toNat) (fun e:((Nat×List Int)⊕Unit)=>(∃(m:Nat) (o:List Int),e = .inl (m,o)/\m<=o.length/\Asc b b.length (o.take m))\/(e = .inr ()/\Asc b b.length (b.take b.length))) ?_ ?_ ?_ (J:=fun z:((Nat×List Int)⊕Unit)=>match z with | .inl (G,E)=>some (G,E) | .inr _=>some (b.length,b))
   .exact ⟨0,rfl,by omega,by
     refine ⟨?_,fun y=>Iff.rfl⟩
     match b,h2 with
     | a::_,_=>simp
     | [],h=>simp at h⟩
   .rintro v ⟨j,rfl,hj,N⟩
    rcases Nat.lt_or_ge (j+1) b.length with h | h
    .have hx:b[j+1]? = some b[j+1]:=B0 h
     have hp:b[j]? = some b[j]:=B0 (by omega)
     generalize b[j+1]=x at hx
     generalize b[j]=p at hp
     have X:Ac (((j+1:Nat):Int)-1)=((j:Nat):Int):=by rw [show (((j+1:Nat):Int)-1)=(j:Int) by omega,Ac,Bs] <;> omega
     simp only [Am (by omega:((j+1:Nat):Int)<(b.length:Int)),cond_true,Ya (l:=b) (off:=0) (n:=b.length) (i:=((j+1:Nat):Int)) rfl h (by rw [Nat.zero_add]; exact hx),X,
      Ya (l:=b) (off:=0) (n:=b.length) (i:=((j:Nat):Int)) rfl (by omega) (by rw [Nat.zero_add]; exact hp),Ad,C8 h (by omega)]
     by_cases e:x=p
     .subst e
      rw [Dj rfl,cond_true]
      have A:Oa b.length ((j+1:Nat):Int) ((b.length:Nat):Int)=some (j+1,b.length):=by
       unfold Oa
       rw [if_pos (by omega)]; simp
      rw [A,Ad]
      dsimp only
      refine .inr ?_
      refine A2h (Ef (Q:=fun z:(Int⊕((Nat×List Int)⊕Unit))=>∃(m:Nat) (o:List Int),z = .inr (.inl (m,o))/\m<=o.length/\Asc b b.length (o.take m)) (fun z=>∃(w k:Nat) (o:List Int),z=((w:Int),(k:Int),o)/\o.length=b.length/\w<=j+k/\1<=k/\j+1+k<=b.length/\Asc b (j+1+k) (o.take w)/\∀i,w<=i->o[i]? = b[i]?)
       (fun z=>b.length-(j+1)-z.2.1.toNat) (fun z=>∃(w k:Nat) (o:List Int),z=((w:Int),(k:Int),o)/\o.length=b.length/\w<=b.length/\Asc b b.length (o.take w)) ?_ ?_ ?_)
      .refine ⟨j+1,1,b,rfl,rfl,by omega,by omega,by omega,?_,fun _ _=>rfl⟩
       exact N.same hp hx
      .rintro z ⟨w,k,o,rfl,D,hw,hk,Z,f,c⟩
       rcases Nat.lt_or_ge (j+1+k) b.length with h' | h'
       .have hy:b[j+1+k]? = some b[j+1+k]:=B0 h'
        have hq:b[j+k]? = some b[j+k]:=B0 (by omega)
        generalize b[j+1+k]=y at hy
        generalize b[j+k]=q at hq
        have V:Ac ((k:Int)-1)=((k-1:Nat):Int):=by rw [show ((k:Int)-1)=((k-1:Nat):Int) by omega,Ac,Bs] <;> omega
        have U:Ac ((k:Int)+1)=((k+1:Nat):Int):=C8 (n:=b.length) (by omega) (by omega)
        have S:Ac ((w:Int)+1)=((w+1:Nat):Int):=C8 (n:=b.length) (by omega) (by omega)
        have i1:F4 o (0+(j+1)) (b.length-(j+1)) (k:Int)=some y:=Ya rfl (by omega) (by rw [Nat.zero_add,c _ (by omega)]; exact hy)
        have i2:F4 o (0+(j+1)) (b.length-(j+1)) ((k-1:Nat):Int)=some q:=Ya rfl (by omega) (by rw [Nat.zero_add,c _ (by omega),show j+1+(k-1)=j+k by omega]; exact hq)
        have I:o[w]? = some (o[w]'(by omega)):=B0 _
        have i3:F4 o 0 b.length (w:Int)=some (o[w]'(by omega)):=Ya rfl (by omega) (by rw [Nat.zero_add]; exact I)
        simp only [Am (by omega:(k:Int)<((b.length-(j+1):Nat):Int)),cond_true,i1,i2,i3,V,U,S,Ad]
        by_cases e:y=q
        .subst e
         rw [Fp rfl,cond_false]
         refine .inl ⟨_,rfl,⟨w,k+1,o,rfl,D,by omega,by omega,by omega,?_,c⟩,by simp only [Int.toNat_natCast]; omega⟩
         have:=Asc.same (q:=j+k) (x:=y) (by rw [show j+k+1=j+1+k by omega]; exact f) hq (by rw [show j+k+1=j+1+k by omega]; exact hy)
         rw [show j+1+(k+1)=j+k+2 by omega]; exact this
        .rw [Em e,cond_true]
         have B:Ca o (((0:Nat):Int)+(w:Int)) y=o.set w y:=Ff (n:=w) (by omega) y
         have s:(o.set w y).take (w+1)=o.take w++[y]:=by
          rw [C5 (x:=y) (by rw [List.getElem?_set,if_pos rfl,if_pos (by omega)]),List.take_set_of_le (Nat.le_refl _)]
         rw [B]
         refine .inl ⟨_,rfl,⟨w+1,k+1,o.set w y,rfl,by simpa using D,by omega,by omega,by omega,?_,?_⟩,by simp only [Int.toNat_natCast]; omega⟩
         .rw [s]
          have:=Asc.step R (q:=j+k) (x:=y) (p:=q) (by rw [show j+k+1=j+1+k by omega]; exact f) hq (by rw [show j+k+1=j+1+k by omega]; exact hy) e
          rw [show j+1+(k+1)=j+k+2 by omega]; exact this
         .intro i hi
          rw [List.getElem?_set,if_neg (by omega)]
          exact c i (by omega)
       .have L:j+1+k=b.length:=by omega
        refine .inr ⟨((w:Int),(k:Int),o),?_,w,k,o,rfl,D,by omega,by rw [<-L]; exact f⟩
        simp only [Ar (by omega:¬(k:Int)<((b.length-(j+1):Nat):Int)),cond_false]
      .rintro z ⟨w,k,o,rfl,D,hw,f⟩
       dsimp only
       have g:Sx b.length (w:Int)=some w:=by
        unfold Sx
        rw [if_pos (by omega)]; simp
       by_cases Y:w=0\/w<b.length
       .have u:Qb b.length (w:Int) ((b.length:Nat):Int)=some (.inl (w,b.length)):=by
         unfold Qb
         rw [if_pos (by omega),if_pos (by omega)]; simp
        have M:Ob o (0+w) (b.length-w) (0:Int)=some (D6 o (0+w) (List.replicate (b.length-w) 0)):=by
         unfold Ob
         rw [if_pos (by omega)]
        rw [u,Ad]
        dsimp only
        rw [M,Ad,g,Ad]
        have s:(D6 o (0+w) (List.replicate (b.length-w) (0:Int))).take w=o.take w:=by
         unfold D6
         rw [Nat.zero_add,List.append_assoc,List.take_append_of_le_length (by simp; omega),List.take_take,Nat.min_self]
        refine ⟨_,rfl,w,_,rfl,?_,?_⟩
        .unfold D6; simp; omega
        .rw [s]; exact f
       .have u:Qb b.length (w:Int) ((b.length:Nat):Int)=some (.inr ()):=by
         unfold Qb
         rw [if_pos (by omega),if_neg (by omega)]
        rw [u,Ad]
        dsimp only
        rw [g,Ad]
        exact ⟨_,rfl,w,o,rfl,by omega,f⟩
     .rw [Cp e,cond_false]
      refine .inl ⟨_,rfl,⟨j+1,rfl,by omega,?_⟩,by simp only [Int.toNat_natCast]; omega⟩
      have:=Asc.step R N hp hx e
      rw [<-C5 hx] at this
      exact this
    .have:j+1=b.length:=by omega
     refine .inr ⟨.inr (),?_,.inr ⟨rfl,by rw [<-this]; exact N⟩⟩
     rw [Ar (by omega)]; rfl
   .rintro e (⟨m,o,rfl,h1,h2⟩ | ⟨rfl,h1⟩)
    .exact ⟨(m,o),rfl,h1,h2⟩
    .exact ⟨(b.length,b),rfl,Nat.le_refl _,h1⟩
end Go.Ab
namespace Go.Ab
open Go
end Go.Ab
namespace Go.Ab
open Go
def Dk (b:List Ay) (res:Ay) (v:Int):Ay:=match Ag b v with | some w=>w | none=>res
theorem Aho {x:Bo} {b:List Ay} (c:b.length=x.Vars.length) (res:Ay) {v:Int} {t:Ah} (ht:D2 x.Vars x.Res v=some t):Kb v res b=some (Dk b res v):=by
 unfold Kb Dk
 unfold D2 at ht
 by_cases h:v = -1
 .subst h
  rw [Afp (by omega)]; rfl
 .rw [if_neg h] at ht
  obtain ⟨a1,a2,_⟩:=F5 ht
  have hi:Ag b v=some (b[v.toNat]'(by omega)):=Bw (n:=v.toNat) (by omega) (B0 _)
  rw [Cp h,hi]; rfl
theorem A2j {b:List Ay} {res:Ay} {N:Nat} (h:∀v∈b,C6 v<=N) (h':C6 res<=N) (v:Int):C6 (Dk b res v)<=N:=by
 unfold Dk
 cases hi:Ag b v with
 | none=>exact h'
 | some w=>exact h w (F5 hi).2.2.2
end Go.Ab
namespace Go.Ab
open Go
def Iy (x:Bo) (b:List Ay) (res:Ay) (v:Int):Bool:=match D2 x.Vars x.Res v with | some t=>Kl x.Data (Dk b res v) t | none=>false
end Go.Ab
namespace Go.Ab
open Go
end Go.Ab
namespace Go.Ab
open Go
end Go.Ab
namespace Go.Ab
open Go
def Ld (l:List Ba):List Int:=l.flatMap fun a=>a.Lin.Terms.map (·.Var)
def Kp (m:A8):List Int:=m.Factors.map (·.Var)++Ld m.Atoms
def F9 (p:List Aj):List Int:=p.flatMap fun t=>Kp t.Mono
theorem Aqc {α:Type} (F:List α) (g:α->Int) (o:List Int) (h:o.length+F.length<=1000000) {R:Type} {J:Int×List Int->Option R} {r:R} (l:J ((F.length:Int),o++F.map g)=some r) :
  (Al (S:=(Int×(List Int))) (E:=(Int×(List Int))) (fun (v164,b)=>
   bif (decide (v164<(F.length:Int))) then (
   (Ag F v164).bind fun c=>
   (B9 8 b [g c]).bind fun i=>
   some (.inl ((Ac (v164+1)),i)))
   else some (.inr (v164,b))) (0,o)).bind J=some r:=by
 refine Gf F (fun j=>((j:Int),o++(F.take j).map g)) (by simp) (by omega) ?_ ?_
 .intro j f hj k h1 h2 h3
  simp only [h1,h2,h3,cond_true,Ad]
  rw [Dh (by simp; omega),C5 k]; simp
 .intro h1
  exact ⟨_,by simp only [h1]; rfl,by rw [List.take_length]; exact l⟩
theorem A2k {α:Type} (f:α->List Int) (l:List α) (j:Nat):((l.take j).flatMap f).length<=(l.flatMap f).length:=by
 have:l.flatMap f=(l.take j).flatMap f++(l.drop j).flatMap f:=by rw [<-List.flatMap_append,List.take_append_drop]
 rw [this,List.length_append]; omega
theorem Aqd {α:Type} (f:α->List Int) {l:List α} {j:Nat} {x:α} (h:l[j]? = some x):((l.take j).flatMap f).length+(f x).length<=(l.flatMap f).length:=by
 have:=A2k f l (j+1)
 rw [C5 h,List.flatMap_append] at this
 simpa using this
theorem A2l (p:List Aj) (J:p.length<=1000000) (ha:∀t∈p,t.Mono.Atoms.length<=1000000) (hb:(F9 p).length<=1000000) :
  ∃V,S4 p=some V/\V.Pairwise (· < ·)/\V.length<=1000000/\∀y,y∈V↔y∈F9 p:=by
 obtain ⟨m,o,G,E,k⟩:=A2i ((F9 p).mergeSort fun x y=>decide (x<=y)) (A2e _) (by rw [List.length_mergeSort]; omega)
 refine ⟨o.take m,?_,k.up,?_,?_⟩
 .unfold S4
  refine Gf p (fun j=>((j:Int),F9 (p.take j))) rfl (by omega) ?_ ?_
  .intro j t hj ht h1 h2 h3
   have s:=B7 ht
   have D:=ha t s
   have c:(F9 (p.take j)).length+(Kp t.Mono).length<=1000000:=Nat.le_trans (Aqd (fun t:Aj=>Kp t.Mono) ht) hb
   unfold Kp at c
   rw [List.length_append,List.length_map] at c
   simp only [h1,h2,h3,cond_true,Ad]
   refine Aqc t.Mono.Factors (fun f=>f.Var) (F9 (p.take j)) (by omega) ?_
   dsimp only
   refine Gf t.Mono.Atoms (fun i=>((i:Int),F9 (p.take j)++t.Mono.Factors.map (fun f=>f.Var)++Ld (t.Mono.Atoms.take i))) (by simp [Ld]) (by omega) ?_ ?_
   .intro i a hi g q A z
    have B:(Ld (t.Mono.Atoms.take i)).length+(a.Lin.Terms.map (·.Var)).length<=(Ld t.Mono.Atoms).length:=Aqd (fun a:Ba=>a.Lin.Terms.map (fun l:Bb=>l.Var)) g
    rw [List.length_map] at B
    simp only [q,A,z,cond_true,Ad]
    refine Aqc a.Lin.Terms (fun l=>l.Var) _ (by simp only [List.length_append,List.length_map]; omega) ?_
    show some (Sum.inl (_,_))=_
    rw [C5 g]
    unfold Ld
    rw [List.flatMap_append]
    simp
   .intro q
    refine ⟨_,by simp only [q]; rw [List.take_length]; rfl,?_⟩
    show some (Sum.inl (_,_))=_
    rw [C5 ht]
    unfold F9
    rw [List.flatMap_append]
    simp [Kp]
  .intro h1
   refine ⟨F9 p,by simp only [h1]; rw [List.take_length]; rfl,?_⟩
   rw [A2d,Ad]
   unfold Fb
   rw [if_pos (by rw [List.length_mergeSort]),Ad]
   have:S9 (F9 p).length ((F9 p).mergeSort fun x y=>decide (x<=y))=some (m,o):=by
    rw [<-G,List.length_mergeSort]
   rw [this,Ad]
   unfold Zw
   rw [if_pos E]; rfl
 .have I:((o.take m).length:Nat)<=(F9 p).length:=by
   have u:(o.take m).Nodup:=k.up.imp (fun h=>by omega)
   have b:∀y∈o.take m,y∈F9 p:=fun y hy=>by
    have:=(k.mem y).1 hy
    rw [List.take_length] at this
    exact List.mem_mergeSort.1 this
   exact List.Nodup.length_le_of_subset u b
  omega
 .intro y
  rw [k.mem y,List.take_length,List.mem_mergeSort]
end Go.Ab
namespace Go.Ab
open Go
end Go.Ab
namespace Go.Ab
open Go
end Go.Ab
namespace Go.Ab
open Go
end Go.Ab
namespace Go.Ab
open Go
end Go.Ab
namespace Go.Ab
open Go
end Go.Ab
namespace Go.Ab
open Go
end Go.Ab
namespace Go.Ab
open Go
end Go.Ab
namespace Go.Ab
open Go
structure PSt (K:Nat) (n:Nat) (b:List Aj):Prop where
 le:n<=b.length
 cp:CP (b.take n)
 tm:∀t∈b.take n,RB K t.Coef/\MSz t.Mono
end Go.Ab
namespace Go.Ab
open Go
theorem PSt.mono {K c n:Nat} {b:List Aj} (h:PSt K n b) (f:K<=c):PSt c n b:=⟨h.le,h.cp,fun t ht=>⟨((h.tm t ht).1).mono f,(h.tm t ht).2⟩⟩
end Go.Ab
namespace Go.Ab
open Go
end Go.Ab
namespace Go.Ab
open Go
theorem CP.dst {p:List Aj} (h:CP p):Dst p:=h.srt.imp fun {a b} hab e=>by
 unfold ltT at hab
 rw [Km.2 e] at hab; omega
end Go.Ab
namespace Go.Ab
open Go
theorem Aqe:Oc (fun t u:Aj=>C9 t.Mono u.Mono) where
 irr x:=by
  show ¬C9 x.Mono x.Mono<0
  rw [Apg]; omega
 trs x y z h1 h2:=Uq h1 h2
 ntr x y z h1 h2:=by
  show ¬C9 x.Mono z.Mono<0
  have h1:¬C9 x.Mono y.Mono<0:=h1
  have h2:¬C9 y.Mono z.Mono<0:=h2
  intro h3
  rcases Int.lt_trichotomy (C9 x.Mono y.Mono) 0 with k | k | k
  .exact h1 k
  .rw [Km.1 k] at h3; exact h2 h3
  .exact h2 (Uq (Ag3.1 k) h3)
def Acr (b:List Aj):List Aj:=b.mergeSort fun t u=>decide (C9 t.Mono u.Mono<=0)
theorem Aqf (b:List Aj):(Acr b).Perm b:=List.mergeSort_perm _ _
theorem A2m (f:List Aj) (hd:Dst f):(Acr f).Pairwise ltT:=by
 have h1:=List.pairwise_mergeSort (le:=fun t u:Aj=>decide (C9 t.Mono u.Mono<=0)) (fun a b c h1 h2=>by
  simp only [decide_eq_true_eq] at *
  have:=Aqe.ntr c b a (by show ¬C9 _ _<0; rw [Up]; omega) (by show ¬C9 _ _<0; rw [Up]; omega)
  have this:¬C9 c.Mono a.Mono<0:=this
  rw [Up] at this; omega) (fun a b=>by
  simp only [Bool.or_eq_true,decide_eq_true_eq]
  rw [Up a.Mono b.Mono]; omega) f
 have h2:(Acr f).Pairwise fun t u=>t.Mono≠u.Mono:=((Aqf f).pairwise_iff (fun {x y} h=>h.symm)).2 hd
 refine (h1.and h2).imp fun {t u} h=>?_
 have a:=of_decide_eq_true h.1
 have b:C9 t.Mono u.Mono≠0:=fun e=>h.2 (Km.1 e)
 unfold ltT; omega
theorem Ahp (b:List Aj) (hd:Dst b) (f:∀t∈b,MSz t.Mono):∃R,Nb b=some R/\R.Perm b/\R.Pairwise ltT:=by
 rcases Nat.lt_or_ge 12 b.length with h | h
 .have e:Nat.ble b.length 12=false:=by
   cases k:Nat.ble b.length 12 with
   | false=>rfl
   | true=>have:=Nat.le_of_ble_eq_true k; omega
  unfold Nb
  rw [e,cond_false]
  obtain ⟨r,g,j,law,hc,hp,i⟩:=Av9 (cmp:=Nc) (l:=b) (r:=Acr b) ⟨_,Aqe,fun x hx y _=>Ahh x y (f x hx),Aqf b,A2m b hd⟩
  refine ⟨r,g,hp,?_⟩
  refine (List.Pairwise.imp_of_mem (S:=ltT) (fun {t u} ht hu h=>?_) i)
  have c:=hc t (hp.mem_iff.1 ht) u (hp.mem_iff.1 hu)
  rw [Ahh t u (f t (hp.mem_iff.1 ht))] at c
  have c:=Option.some.inj c
  unfold ltT; rw [c]; exact h
 .exact A1v b hd f h
end Go.Ab
namespace Go.Ab
open Go
theorem A2n {x:Bo} (g:CSz x) {ps:List (List Aj)} (b:∀p∈ps,∀t∈p,TSz t) (i:ps.length<=1048576) (h:¬(D9 x/\∀p∈ps,Hh x.Data x.Vars x.Res p=true)):Ju x ps=some (.inr false):=by
 obtain ⟨r,f,c⟩:=Ahj x g ps b i
 rcases c with ⟨h2,_⟩ | ⟨_,rfl⟩
 .exact (h h2).elim
 .exact f
theorem Ahq {x:Bo} (i:CSz x) {ps:List (List Aj)} (c:∀p∈ps,∀t∈p,TSz t) (k:ps.length<=1048576) (h:D9 x/\∀p∈ps,Hh x.Data x.Vars x.Res p=true):∃b,Ju x ps=some (.inl (true,x,b,[],x.Data,x.Vars,x.Res.Kind,x.Res.Num,x.Res.Args))/\Fw x.Data x.Vars x.Res b:=by
 obtain ⟨r,g,f⟩:=Ahj x i ps c k
 rcases f with ⟨_,b,e,j⟩ | ⟨h2,_⟩
 .exact ⟨b,by rw [g,e],j⟩
 .exact (h2 h).elim
structure PR (x:Bo) (n:Nat) (f:A8->Rat) (R:List Aj):Prop where
 cp:CP R
 val:∀m,cf R m=f m
 tb:∀t∈R,G2 x t.Mono/\RB 8589934592 t.Coef
 len:R.length<=n
theorem A2o {x:Bo} {k:Nat} {ts:List Aj} (h:Col k (G2 x) ts) (hk:k<8589934592) (l:ts.length<=1000):∃R,Ka (plc ts) ts=some (R,0)/\PR x ts.length (cf ts) R:=by
 obtain ⟨R,j,i,g,b,f⟩:=Ahi (P:=G2 x) (fun m h=>h.cmo) (plc ts) ts h (by omega) l (fun c _ h2 h3=>Ahp c h2 h3)
 exact ⟨R,j,i,g,fun t ht=>⟨(b t ht).1,(b t ht).2.mono (by omega)⟩,f⟩
theorem PR.of {x:Bo} {n m:Nat} {f g:A8->Rat} {R:List Aj} (h:PR x n f R) (b:n<=m) (c:∀a,f a=g a):PR x m g R :=
 ⟨h.cp,fun a=>by rw [h.val,c],h.tb,Nat.le_trans h.len b⟩
theorem A2p {x:Bo} (I:CSz x) (J:D9 x) {p q:List Aj} (hp:Ho x p) (hq:Ho x q) (L:p.length+q.length<=1000) :
  ∃R,Og x p q=some (R,0)/\PR x (p.length+q.length) (fun m=>cf p m-cf q m) R:=by
 obtain ⟨M,hb⟩:=Ap7 I J hp hq
 unfold Og
 rw [hb]
 simp only [Ad,Dt,cond_false,J9]
 obtain ⟨u,l,j,i,g⟩:=X6 (k0:=1048579) (k:=1048576) (P:=G2 x) (fun m h=>h.cmo) p [] (Col.nil _ _) hp.tb (by omega) (by omega) (by simp; omega)
 simp at i
 obtain ⟨r,B,A,z⟩:=A13
 obtain ⟨G,E,c,D,b⟩:=A12 (k:=1048576) q A (fun t ht=>(hq.tb t ht).1) (by omega) (by omega) (by omega)
 obtain ⟨v,f,v2,v3,v4⟩:=X6 (k:=1048579) (P:=G2 x) (fun m h=>h.cmo) G u j (fun t ht=>⟨(b t ht).1,by obtain ⟨w,hw,e⟩:=(b t ht).2; rw [<-e]; exact (hq.tb w hw).2⟩) (by omega) (by rw [c]; omega) (by omega)
 obtain ⟨R,y,s⟩:=A2o v2 (by rw [c]; omega) (by omega)
 rw [show Jv p [] []=some (plc u,u) from l,Ad,B,Ad,E,Ad,f,Ad,y,Ad]
 exact ⟨R,rfl,s.of (by omega) fun m=>by rw [v4,g,D,z]; simp only [cf]; grind⟩
theorem Ho.nil (x:Bo):Ho x []:=⟨X1.2 ⟨by simp,CP.nil,fun t ht=>by cases ht⟩,fun t ht=>by cases ht⟩
end Go.Ab
namespace Go.Ab
open Go
def Kq {α:Type} (l:List α) (r:List Bool):List α:=((l.zip r).filter fun p=>!p.2).map (·.1)
def Nw (data:List Ap) (t:Ah) (c:Int):List Ah:=match G5 data t c with | some ts=>ts | none=>[]
def M0 {α:Type} (b:List (α->Nat)) (x:α) (f:Nat->Nat):Nat->Nat
 | 0=>f 0
 | q+1=>f (q+1)+f q*(match b[q]? with | some w=>w x | none=>0)
def dpS {α:Type} (b:List (α->Nat)) (l:List α):Nat->Nat:=l.foldl (fun f x=>M0 b x f) (fun q=>if q=0 then 1 else 0)
theorem A2q {α:Type} (b:List (α->Nat)) (l:List α) (x:α):dpS b (l++[x])=M0 b x (dpS b l):=by unfold dpS; rw [List.foldl_append]; rfl
mutual
def bv (data:List Ap):Bc->Ah->Ay->Nat
 | ⟨n,ks⟩,t,w=>if t.Kind=6 then bvs data ks t.Args w.Kids else if t.Kind=7 then bc w.Kids.length n.toNat else if t.Kind=5 then dpS (bws data ks t) (Hi data t.Num w) ks.length else 1
def bvs (data:List Ap):List Bc->List Ah->List Ay->Nat
 | i::is,t::ts,w::ws=>bv data i t w*bvs data is ts ws
 | [],_,_=>1
 | _::_,[],_=>1
 | _::_,_::_,[]=>1
def bws (data:List Ap):List Bc->Ah->List (Ay->Nat)
 | [],_=>[]
 | ⟨n,ks⟩::es,t=>(fun x=>if x.Num=n then bvs data ks (Nw data t n) (Kq x.Kids (Dq data t.Num n)) else 0)::bws data es t
end
theorem Aqg (data:List Ap) (i:Bc) (t:Ah) (w:Ay):bv data i t w=if t.Kind=6 then bvs data i.Kids t.Args w.Kids else if t.Kind=7 then bc w.Kids.length i.Num.toNat else if t.Kind=5 then dpS (bws data i.Kids t) (Hi data t.Num w) i.Kids.length else 1:=by
 cases i; simp only [bv]
theorem Acs (data:List Ap) (i:Bc) (c:List Bc) (t:Ah) (ts:List Ah) (w:Ay) (b:List Ay):bvs data (i::c) (t::ts) (w::b)=bv data i t w*bvs data c ts b:=by simp only [bvs]
theorem Yb (data:List Ap) (ts:List Ah) (b:List Ay):bvs data [] ts b=1:=by simp only [bvs]
def wOf (data:List Ap) (t:Ah) (e:Bc) (x:Ay):Nat:=if x.Num=e.Num then bvs data e.Kids (Nw data t e.Num) (Kq x.Kids (Dq data t.Num e.Num)) else 0
theorem Acu (data:List Ap) (t:Ah):∀(es:List Bc) (q:Nat),(bws data es t)[q]? = (es[q]?).map (wOf data t)
 | [],q=>by simp [bws]
 | ⟨n,b⟩::es,0=>by simp only [bws,List.getElem?_cons_zero,Option.map_some]; rfl
 | ⟨n,b⟩::es,q+1=>by simp only [bws,List.getElem?_cons_succ]; exact Acu data t es q
theorem Ahr (data:List Ap):∀(c:List Bc) (ts:List Ah) (b:List Ay) (j:Nat) (i:Bc) (t:Ah) (w:Ay),c[j]? = some i->ts[j]? = some t->b[j]? = some w ->
  bvs data (c.take (j+1)) (ts.take (j+1)) (b.take (j+1))=bvs data (c.take j) (ts.take j) (b.take j)*bv data i t w
 | i' :: c,f::ts,w' :: b,0,i,t,w,h1,h2,h3=>by
  cases h1; cases h2; cases h3
  simp only [List.take_succ_cons,List.take_zero,Acs,Yb,Nat.mul_one,Nat.one_mul]
 | i' :: c,f::ts,w' :: b,j+1,i,t,w,h1,h2,h3=>by
  have:=Ahr data c ts b j i t w h1 h2 h3
  rw [List.take_succ_cons,List.take_succ_cons,List.take_succ_cons,List.take_succ_cons,List.take_succ_cons,List.take_succ_cons,Acs,Acs,this,Nat.mul_assoc]
 | [],_,_,_,_,_,_,h,_,_=>by simp at h
 | _::_,[],_,_,_,_,_,_,h,_=>by simp at h
 | _::_,_::_,[],_,_,_,_,_,_,h=>by simp at h
theorem Acv:∀n k,bc n k<=n ^ k
 | n,0=>by rw [F8]; exact Nat.le_refl _
 | 0,k+1=>by simp [bc]
 | n+1,k+1=>by
  have h1:=Acv n k
  have h2:=Acv n (k+1)
  have h3:n ^ k<=(n+1) ^ k:=Nat.pow_le_pow_left (by omega) k
  have b:n ^ (k+1)<=n*(n+1) ^ k:=by rw [Nat.pow_succ,Nat.mul_comm]; exact Nat.mul_le_mul_left _ h3
  rw [bc,Nat.pow_succ,Nat.mul_add,Nat.mul_one,Nat.mul_comm]; omega
theorem Aqh {α:Type} (b:List (α->Nat)) (B:Nat) (E:Nat->Nat):∀(l:List α) (n:Nat) (f:Nat->Nat),(∀q,f q<=n ^ q*B ^ E q)->(∀x∈l,∀q w,b[q]? = some w->B ^ E q*w x<=B ^ E (q+1))->∀q,(l.foldl (fun f x=>M0 b x f) f) q<=(n+l.length) ^ q*B ^ E q
 | [],n,f,c,_,q=>c q
 | x::l,n,f,c,hw,q=>by
  rw [List.foldl_cons]
  have:=Aqh b B E l (n+1) (M0 b x f) (fun q=>?_) (fun y hy=>hw y (by simp [hy])) q
  .rw [List.length_cons,show n+(l.length+1)=n+1+l.length by omega]; exact this
  .cases q with
   | zero=>have:=c 0; simpa [M0] using this
   | succ q=>
    have h1:=c (q+1)
    have h2:=c q
    have h3:f q*(match b[q]? with | some w=>w x | none=>0)<=n ^ q*B ^ E (q+1):=by
     cases h:b[q]? with
     | none=>simp
     | some w=>
      have k:=hw x (by simp) q w h
      refine Nat.le_trans (Nat.mul_le_mul_right _ h2) ?_
      rw [Nat.mul_assoc]
      exact Nat.mul_le_mul_left _ k
    have g:n ^ q<=(n+1) ^ q:=Nat.pow_le_pow_left (by omega) q
    have j:n ^ (q+1)+n ^ q<=(n+1) ^ (q+1):=by
     rw [Nat.pow_succ,Nat.pow_succ,Nat.mul_add,Nat.mul_one]
     exact Nat.add_le_add (Nat.mul_le_mul_right _ g) g
    have i:=Nat.mul_le_mul_right (B ^ E (q+1)) j
    rw [Nat.add_mul] at i
    show f (q+1)+_<=_
    omega
theorem Aqi {α:Type} (b:List (α->Nat)) (B:Nat) (f:1<=B) (E:Nat->Nat) (l:List α) (hw:∀x∈l,∀q w,b[q]? = some w->B ^ E q*w x<=B ^ E (q+1)) (c:l.length<=B) (q:Nat):dpS b l q<=B ^ (q+E q):=by
 have h:=Aqh b B E l 0 (fun q=>if q=0 then 1 else 0) (fun q=>by
  cases q with
  | zero=>
   have:0<B ^ E 0:=Nat.pow_pos (by omega)
   simp; omega
  | succ q=>simp) hw q
 refine Nat.le_trans h ?_
 rw [Nat.zero_add,Nat.pow_add]
 exact Nat.mul_le_mul_right _ (Nat.pow_le_pow_left c q)
mutual
theorem Ahs (data:List Ap) (d:Int):∀v,∀x∈Hi data d v,C6 x<=C6 v
 | ⟨k,n,kids⟩=>fun x hx=>by
  have h:=Aqj data d kids (Dq data d n)
  simp only [Hi,List.mem_cons] at hx
  rcases hx with rfl | hx
  .exact Nat.le_refl _
  .have:=h x hx
   simp only [C6]; omega
theorem Aqj (data:List Ap) (d:Int):∀l r,∀x∈Gt data d l r,C6 x<=Dv l
 | y::ys,b::bs=>fun x hx=>by
  have h1:=Ahs data d y
  have h2:=Aqj data d ys bs
  simp only [Gt,List.mem_append] at hx
  simp only [Dv]
  rcases hx with hx | hx
  .cases b with
   | false=>simp at hx
   | true=>have:=h1 x (by simpa using hx); omega
  .have:=h2 x hx; omega
 | [],_=>fun x hx=>by simp [Gt] at hx
 | _::_,[]=>fun x hx=>by simp [Gt] at hx
end
def pdg (data:List Ap) (t:Ah) (e:Bc):Nat:=match Df data e.Kids (Nw data t e.Num) with | some a=>a | none=>0
def pds (data:List Ap) (t:Ah) (es:List Bc):Nat:=(es.map (pdg data t)).sum
theorem Aht (data:List Ap):∀(es:List Bc) (t:Ah) (d:Nat),G0 data es t=some d->d=es.length+pds data t es/\∀e∈es,∃ts,G5 data t e.Num=some ts/\Df data e.Kids ts=some (pdg data t e)
 | [],t,d,h=>by
  simp only [G0,Option.some.injEq] at h
  subst h
  exact ⟨rfl,fun e c=>by cases c⟩
 | e::es,t,d,h=>by
  rw [Ab3] at h
  cases h1:G5 data t e.Num with
  | none=>rw [h1] at h; cases h
  | some ts=>
   rw [h1,Ad] at h
   cases h2:Df data e.Kids ts with
   | none=>rw [h2] at h; cases h
   | some a=>
    rw [h2,Ad] at h
    cases h3:G0 data es t with
    | none=>rw [h3] at h; cases h
    | some b=>
     rw [h3] at h
     have h:1+a+b=d:=Option.some.inj h
     obtain ⟨g1,g2⟩:=Aht data es t b h3
     have hp:pdg data t e=a:=by unfold pdg Nw; rw [h1]; simp only [h2]
     refine ⟨by unfold pds at *; simp only [List.map_cons,List.sum_cons,List.length_cons,hp]; omega,fun x hx=>?_⟩
     rcases List.mem_cons.1 hx with rfl | hx
     .exact ⟨ts,h1,by rw [hp]; exact h2⟩
     .exact g2 x hx
theorem Ahu {data:List Ap} {t:Ah} {es:List Bc} {q:Nat} {e:Bc} (h:es[q]? = some e):pds data t (es.take (q+1))=pds data t (es.take q)+pdg data t e:=by
 unfold pds; rw [C5 h]; simp
theorem A2r (data:List Ap) (t:Ah) (es:List Bc) (q:Nat):pds data t (es.take q)<=pds data t es:=by
 have:pds data t es=pds data t (es.take q)+pds data t (es.drop q):=by
  unfold pds
  rw [<-List.sum_append,<-List.map_append,List.take_append_drop]
 omega
theorem Ahv {α:Type} {l:List α} {r:List Bool} {x:α} (h:x∈Kq l r):x∈l:=by
 unfold Kq at h
 obtain ⟨p,hp,rfl⟩:=List.mem_map.1 h
 exact (List.of_mem_zip (a:=p.1) (b:=p.2) (List.mem_filter.1 hp).1).1
theorem Uw (data:List Ap) (B:Nat) (U:1<=B):∀n:Nat,(∀(i:Bc) (t:Ah) (w:Ay) (d:Nat),Di i<=n->Fh data i t=some d->C6 w<=B->bv data i t w<=B ^ d) /\
  (∀(f:List Bc) (ts:List Ah) (g:List Ay) (d:Nat),Fg f<=n->Df data f ts=some d->(∀w∈g,C6 w<=B)->bvs data f ts g<=B ^ d):=by
 intro n
 induction n with
 | zero=>
  refine ⟨fun i t w d h=>by have:=F6 i; omega,fun f ts g d h _ _=>?_⟩
  have:=Pd f
  have:f = []:=List.length_eq_zero_iff.1 (by omega)
  subst this
  rw [Yb]; exact Nat.pow_pos (by omega)
 | succ n ih=>
  have c:∀d,1<=B ^ d:=fun d=>Nat.pow_pos (by omega)
  have key:∀(i:Bc) (t:Ah) (w:Ay) (d:Nat),Di i<=n+1->Fh data i t=some d->C6 w<=B->bv data i t w<=B ^ d:=by
   intro i t w d hi hd hw
   have N:=F6 i
   have J:=L8 w
   have L:=Xw w.Kids
   rw [Aqg]
   rw [Xo] at hd
   by_cases A:t.Kind=6
   .rw [if_pos A] at hd ⊢
    by_cases e:i.Num=0
    .rw [if_pos e] at hd
     exact ih.2 i.Kids t.Args w.Kids d (by omega) hd fun x hx=>by have:=L9 hx; omega
    .rw [if_neg e] at hd; cases hd
   .rw [if_neg A] at hd ⊢
    by_cases z:t.Kind=7
    .rw [if_pos z] at hd ⊢
     by_cases e:0<=i.Num/\i.Num<=6/\i.Kids.length=0
     .rw [if_pos e] at hd
      have hd:=Option.some.inj hd
      rw [hd]
      exact Nat.le_trans (Acv _ _) (Nat.pow_le_pow_left (by omega) d)
     .rw [if_neg e] at hd; cases hd
    .rw [if_neg z] at hd ⊢
     by_cases D:t.Kind=5
     .rw [if_pos D] at hd ⊢
      have hd:G0 data i.Kids t=some d:=by
       by_cases e:i.Num=0
       .rw [if_pos e] at hd; exact hd
       .rw [if_neg e] at hd; cases hd
      obtain ⟨h1,h2⟩:=Aht data _ _ _ hd
      have M:=Agy data t.Num w
      have:=Aqi (bws data i.Kids t) B U (fun q=>pds data t (i.Kids.take q)) (Hi data t.Num w) (fun x hx q wt hq=>by
       rw [Acu] at hq
       obtain ⟨e,E,rfl⟩:=Option.map_eq_some_iff.1 hq
       have j:=B7 E
       obtain ⟨ts,s,l⟩:=h2 e j
       have I:=Ahs data t.Num w x hx
       have R:=La j
       have S:=F6 e
       rw [Ahu E,Nat.pow_add]
       refine Nat.mul_le_mul_left _ ?_
       unfold wOf
       split
       .have u:Nw data t e.Num=ts:=by unfold Nw; rw [s]
        rw [u]
        refine ih.2 e.Kids ts _ _ (by omega) l fun y hy=>?_
        have hy:=Ahv hy
        have G:=L9 hy
        have:=L8 x
        omega
       .omega) (by omega) i.Kids.length
      rw [List.take_length] at this
      rw [h1]; exact this
     .rw [if_neg D]; exact c d
  refine ⟨key,?_⟩
  intro f
  induction f with
  | nil=>intro ts g d _ _ _; rw [Yb]; exact c d
  | cons i f k=>
   intro ts g d hi hd hw
   cases ts with
   | nil=>rw [show bvs data (i::f) [] g=1 by simp only [bvs]]; exact c d
   | cons t ts=>
    cases g with
    | nil=>rw [show bvs data (i::f) (t::ts) []=1 by simp only [bvs]]; exact c d
    | cons w g=>
     simp only [Fg] at hi
     rw [Pe] at hd
     cases h1:Fh data i t with
     | none=>rw [h1] at hd; cases hd
     | some a=>
      rw [h1,Ad] at hd
      cases h2:Df data f ts with
      | none=>rw [h2] at hd; cases hd
      | some b=>
       rw [h2] at hd
       have hd:a+b=d:=Option.some.inj hd
       rw [Acs,<-hd,Nat.pow_add]
       exact Nat.mul_le_mul (key i t w a (by omega) h1 (hw w (by simp))) (k ts g b (by omega) h2 fun y hy=>hw y (by simp [hy]))
end Go.Ab
namespace Go.Ab
open Go
theorem Ahw {α:Type}:∀(l:List α) (r:List Bool) (s:Nat) (n:Nat) (p:Int) (L:Nat->Option α),l.length=r.length->(∀j,L (s+j)=l[j]?) ->
  (((r.zipIdx s).filter fun q=>!q.1).map fun q=>(q.2:Int))[n]? = some p->∃(m:Nat) (a:α),p=m/\L m=some a/\(Kq l r)[n]? = some a
 | [],[],s,n,p,L,_,_,h=>by simp at h
 | a::l,b::r,s,n,p,L,i,g,h=>by
  have c:l.length=r.length:=by simpa using i
  have f:∀j,L (s+1+j)=l[j]?:=fun j=>by rw [show s+1+j=s+(j+1) by omega,g]; rfl
  cases b with
  | true=>
   simp only [List.zipIdx_cons,List.filter_cons,Dt] at h
   obtain ⟨m,x,h1,h2,h3⟩:=Ahw l r (s+1) n p L c f (by simpa using h)
   exact ⟨m,x,h1,h2,by simpa [Kq] using h3⟩
  | false=>
   simp only [List.zipIdx_cons,List.filter_cons,Bool.not_false,if_true,List.map_cons] at h
   cases n with
   | zero=>
    simp only [List.getElem?_cons_zero,Option.some.injEq] at h
    exact ⟨s,a,h.symm,by have:=g 0; simpa using this,by simp [Kq]⟩
   | succ n=>
    simp only [List.getElem?_cons_succ] at h
    obtain ⟨m,x,h1,h2,h3⟩:=Ahw l r (s+1) n p L c f h
    exact ⟨m,x,h1,h2,by simpa [Kq] using h3⟩
 | [],_::_,_,_,_,_,h,_,_=>by simp at h
 | _::_,[],_,_,_,_,h,_,_=>by simp at h
theorem A2s {α:Type} {l:List α} {r:List Bool} (b:l.length=r.length) {n:Nat} {p:Int} (h:(G6 r)[n]? = some p):∃(m:Nat) (a:α),p=m/\l[m]? = some a/\(Kq l r)[n]? = some a :=
 Ahw l r 0 n p (fun j=>l[j]?) b (fun j=>by simp) (by unfold G6 at h; exact h)
theorem Aqk {a b K:Nat} (ha:Bd a<=K) (hb:Bd b<=K) (c:1<=K) (h:K<60000000000):Eb (cR a) (cR b)=some (cR (a*b)):=by
 obtain ⟨a1,a2,a3⟩:=Pj a
 obtain ⟨b1,b2,f⟩:=Pj b
 rw [Abm _ _ K K (Kn ha c) (Kn hb c) (by omega) (by omega),a1,a2,a3,b1,b2,f]
 simp [cR]
def Sm (a:Nat):Prop:=a<=5000 ^ 6
theorem Sm.lg {a:Nat} (h:Sm a):Bd a<=3:=Ji (Nat.lt_of_le_of_lt h (by decide))
theorem Sm.of {a d:Nat} (h:a<=5000 ^ d) (hd:d<=6):Sm a:=Nat.le_trans h (Nat.pow_le_pow_right (by decide) hd)
theorem Ahx (data:List Ap):∀(c:List Bc) (ts:List Ah) (d j:Nat),Df data c ts=some d->∃e,Df data (c.take j) (ts.take j)=some e/\e<=d
 | [],[],d,j,_=>⟨0,by simp [Df],by omega⟩
 | i::c,t::ts,d,0,_=>⟨0,by simp [Df],by omega⟩
 | i::c,t::ts,d,j+1,h=>by
  rw [Pe] at h
  cases h1:Fh data i t with
  | none=>rw [h1] at h; cases h
  | some a=>
   rw [h1,Ad] at h
   cases h2:Df data c ts with
   | none=>rw [h2] at h; cases h
   | some b=>
    rw [h2] at h
    have h:a+b=d:=Option.some.inj h
    obtain ⟨e,f,g⟩:=Ahx data c ts b j h2
    refine ⟨a+e,?_,by omega⟩
    rw [List.take_succ_cons,List.take_succ_cons,Pe,h1,Ad,f]; rfl
 | [],_::_,_,_,h=>by simp only [Df] at h; cases h
 | _::_,[],_,_,h=>by simp only [Df] at h; cases h
theorem A2t {data:List Ap} {b:List Bc} {ts:List Ah} {c:List Ay} {d:Nat} (h:Df data b ts=some d) (hd:d<=6) (hw:∀w∈c,C6 w<=5000) (j:Nat):Sm (bvs data (b.take j) (ts.take j) (c.take j)):=by
 obtain ⟨e,f,g⟩:=Ahx data b ts d j h
 exact Sm.of ((Uw data 5000 (by decide) _).2 _ _ _ e (Nat.le_refl _) f fun w hx=>hw w (List.mem_of_mem_take hx)) (by omega)
theorem A2u {data:List Ap} {t:Ah} (S:Szv data) (hk:t.Kind=5) {e:Bc} {x:Ay} {ts:List Ah} (hx:Fr data x t=true) (A:x.Num=e.Num) (b:G5 data t e.Num=some ts) :
  (Ko data t e).types=ts/\(G6 (Dq data t.Num e.Num)).length=ts.length/\ts.length<=6/\(∀a∈ts,Bx a<=200) /\
   ∀(j:Nat) (u:Int),(G6 (Dq data t.Num e.Num))[j]? = some u->∃(m:Nat) (a:Ah) (w:Ay),u=m/\ts[j]? = some a/\x.Kids[m]? = some w/\(Kq x.Kids (Dq data t.Num e.Num))[j]? = some w/\Fr data w a=true/\C6 w<=C6 x:=by
 have E:=b
 unfold G5 at b
 cases g:Ih data t e.Num with
 | none=>rw [g] at b; cases b
 | some fl=>
  rw [g] at b
  have b:Fq fl (Dq data t.Num e.Num)=ts:=Option.some.inj b
  have h:=Xn g
  have c:Jo data x.Kids fl=true:=by
   rw [Uo,if_neg (by omega),if_neg (by omega),if_neg (by omega),if_neg (by omega),if_pos hk] at hx
   rw [A,g] at hx
   simp only [Cu] at hx
   exact hx.2
  have z:x.Kids.length=fl.length:=by
   by_cases J:x.Kids.length=fl.length
   .exact J
   .rw [Xx data _ _ J] at c; cases c
  have L:fl.length<=6:=by
   obtain ⟨N,y,_,B,_,hy,G,_⟩:=Pc g
   obtain ⟨M,_⟩:=S N (F5 B).2.2.2 y (F5 hy).2.2.2
   rw [G]; simpa using M
  have V:=Ab1 fl (Dq data t.Num e.Num)
  have k:=A18 fl (Dq data t.Num e.Num) h.symm
  have U:=L8 x
  refine ⟨by unfold Ko; simp only [g,b],by rw [k,b],by rw [<-b]; omega,(Agj E).1,fun j u q=>?_⟩
  obtain ⟨m,a,rfl,I,s⟩:=A17 h.symm q
  obtain ⟨R,w,X,f,D⟩:=A2s (l:=x.Kids) (by omega) q
  obtain rfl:m=R:=by omega
  rw [b] at s
  refine ⟨m,a,w,rfl,s,f,D,?_,?_⟩
  .rw [Xy data _ _ z] at c
   exact List.all_eq_true.1 c (w,a) (B7 (i:=m) (by rw [List.getElem?_zip_eq_some]; exact ⟨f,I⟩))
  .have:=L9 (B7 f)
   omega
theorem A2v {data:List Ap} {t:Ah} (hz:Szv data) (hk:t.Kind=5) (l:List Bc) (hp:∀e∈l,∃ts,G5 data t e.Num=some ts/\Df data e.Kids ts=some (pdg data t e)) (bh:l.length+pds data t l<=6) (k:Nat)
  (b7:∀e∈l,∀(i':Bc) (t':Ah) (w:Ay) (d:Nat),i'∈e.Kids->Fh data i' t'=some d->d<=6->Bx t'<=200->Fr data w t'=true->C6 w<=5000->Lt k data t' i' w=some (cR (bv data i' t' w)))
  (x:Ay) (hx:Fr data x t=true) (bb:C6 x<=5000) (f:Nat->Nat) (hf:∀q,q<=l.length->f q<=5000 ^ (q+pds data t (l.take q))) (b5:∀q,q<=l.length->M0 (bws data l t) x f q<=5000 ^ (q+pds data t (l.take q))) {R:Type} {J:Int×List Ak->Option R} {r:R}
  (hJ:J (0,Hj l.length (M0 (bws data l t) x f))=some r) :
  (Al (S:=(Int×(List Ak))) (E:=(Int×(List Ak))) (fun (c,u)=>
   bif (decide (c>(0:Int))) then (
   (Ag (l.map (Ko data t)) (Ac (c-1))).bind fun z=>
   (show Option Bool from
   bif (z.con != x.Num) then some true
   else (
   (Ag u (Ac (c-1))).bind fun af=>
   (He af).bind fun ae=>
   some (ae==(0:Int)))).bind fun ad=>
   bif ad then some (.inl ((Ac (c-1)),u))
   else (
   (Ag u (Ac (c-1))).bind fun I=>
   (Al (S:=(Int×Bool×(List Int)×(List Int))) (E:=(Int×Bool×(List Int)×(List Int))) (fun (y,X,v226,v227)=>
   bif (decide (y<(z.places.length:Int))) then (
   (Ag z.places y).bind fun v228=>
   (Ag z.types y).bind fun v229=>
   (Ag z.kids y).bind fun ac=>
   (Ag x.Kids v228).bind fun ab=>
   (Lt k data v229 ac ab).bind fun v232=>
   (Eb (Ak.mk X v226 v227) v232).bind fun v233=>
   some (.inl ((Ac (y+1)),v233.Neg,v233.Num,v233.Den)))
   else some (.inr (y,X,v226,v227))) (0,I.Neg,I.Num,I.Den)).bind fun (v234,aa,v236,a8)=>
   (Ag u c).bind fun G=>
   (Hc G (Ak.mk aa v236 a8)).bind fun a7=>
   (Ag u c).bind fun b9=>
   some (.inl ((Ac (c-1)),(Ca u c a7)))))
   else some (.inr (c,u))) ((l.length:Int),Hj l.length f)).bind J=some r:=by
 generalize hg:M0 (bws data l t) x f=g at hJ b5
 have sm:∀q,q<=l.length->q+pds data t (l.take q)<=6:=fun q hq=>by have:=A2r data t l q; omega
 refine Hn l.length (fun i=>(((l.length-i:Nat):Int),Hj l.length (fun p=>if l.length-i<p then g p else f p))) ?_ ?_ ?_
 .simp only [Nat.sub_zero,Int.ofNat_eq_natCast]
  congr 1
  exact Ahn (fun p hp=>by rw [if_neg (by omega)])
 .intro i hi
  obtain ⟨q,hq⟩:∃q:Nat,l.length-i=q+1:=⟨l.length-i-1,by omega⟩
  have hq':l.length-(i+1)=q:=by omega
  have U:q+1<=l.length:=by omega
  have he:l[q]? = some l[q]:=B0 (by omega)
  generalize l[q]=e at he
  have ap:=B7 he
  have w1:Ac (((q+1:Nat):Int)-1)=((q:Nat):Int):=by rw [show (((q+1:Nat):Int)-1)=(q:Int) by omega,Ac,Bs] <;> omega
  have b6:Ag (l.map (Ko data t)) (q:Int)=some (Ko data t e):=Bw rfl (by rw [List.getElem?_map,he]; rfl)
  have a1:g (q+1)=f (q+1)+f q*wOf data t e x:=by
   rw [<-hg]
   simp only [M0,Acu,he,Option.map_some]
  simp only [hq,hq',Am (by omega:((q+1:Nat):Int)>0),cond_true,w1,b6,Ad]
  have ao:Ag (Hj l.length (fun p=>if q+1<p then g p else f p)) (q:Int)=some (cR (f q)):=by
   rw [Bw rfl (Pl _ (by omega)),if_neg (by omega)]
  have b4:Ag (Hj l.length (fun p=>if q+1<p then g p else f p)) ((q+1:Nat):Int)=some (cR (f (q+1))):=by
   rw [Bw rfl (Pl _ (by omega)),if_neg (by omega)]
  have L:g (q+1)=f (q+1)->Hj l.length (fun p=>if q+1<p then g p else f p)=Hj l.length (fun p=>if q<p then g p else f p):=fun Y=>Ahn (fun p hp=>by
   by_cases e2:q+1<p
   .rw [if_pos e2,if_pos (by omega)]
   .rw [if_neg e2]
    by_cases e3:q<p
    .rw [if_pos e3,show p=q+1 by omega,Y]
    .rw [if_neg e3])
  show ((bif (e.Num != x.Num) then some true else _).bind _)=_
  by_cases B:x.Num=e.Num
  .rw [Fp B.symm]
   have sq:=Sm.of (hf q (by omega)) (sm q (by omega))
   have aq:=Sm.of (hf (q+1) U) (sm (q+1) U)
   simp only [cond_false,ao,Ad,A16 sq.lg (by decide) (by decide)]
   by_cases a6:f q=0
   .rw [if_pos a6]
    simp only [beq_self_eq_true,cond_true]
    rw [L (by rw [a1,a6,Nat.zero_mul,Nat.add_zero])]
   .rw [if_neg a6]
    have b8:((1:Int)==0)=false:=rfl
    simp only [b8,cond_false,ao,Ad]
    obtain ⟨ts,ah,ag⟩:=hp e ap
    obtain ⟨ay,ai,ba,az,ak⟩:=A2u hz hk hx B ah
    have b0:(Ko data t e).places=G6 (Dq data t.Num e.Num):=rfl
    have b3:(Ko data t e).kids=e.Kids:=rfl
    rw [ay,b0,b3]
    obtain ⟨i1,i2⟩:=Ahm data _ _ _ ag
    have bg:q+1+pds data t (l.take q)+pdg data t e<=6:=by
     have:=sm (q+1) U
     rw [Ahu he] at this; omega
    generalize Z:Kq x.Kids (Dq data t.Num e.Num)=D at ak
    have ar:∀w∈D,C6 w<=5000:=fun w hw=>by
     rw [<-Z] at hw
     have:=L9 (Ahv hw)
     have:=L8 x
     omega
    have M:∀j,Sm (f q*bvs data (e.Kids.take j) (ts.take j) (D.take j)):=fun j=>by
     obtain ⟨e',Y,e2⟩:=Ahx data e.Kids ts _ j ag
     have h1:=(Uw data 5000 (by decide) _).2 _ _ (D.take j) e' (Nat.le_refl _) Y fun w hx=>ar w (List.mem_of_mem_take hx)
     have h2:=Nat.mul_le_mul (hf q (by omega)) h1
     rw [<-Nat.pow_add] at h2
     exact Sm.of h2 (by omega)
    have av:wOf data t e x=bvs data e.Kids ts D:=by
     unfold wOf
     rw [if_pos B,Z]
     unfold Nw
     rw [ah]
    refine Gf (G6 (Dq data t.Num e.Num)) (fun j=>((j:Int),(cR (f q*bvs data (e.Kids.take j) (ts.take j) (D.take j))).Neg,(cR (f q*bvs data (e.Kids.take j) (ts.take j) (D.take j))).Num,(cR (f q*bvs data (e.Kids.take j) (ts.take j) (D.take j))).Den)) ?_ (by omega) ?_ ?_
    .simp only [List.take_zero,Yb,Nat.mul_one]; rfl
    .intro j pl hj aj h1 h2 h3
     obtain ⟨mm,a,w,rfl,V,hw,au,ax,bd⟩:=ak j pl aj
     have N:e.Kids[j]? = some (e.Kids[j]'(by omega)):=B0 _
     generalize e.Kids[j]'_=i' at N
     obtain ⟨d,d1,d2⟩:=i2 j i' a N V
     have hb:=Sm.of ((Uw data 5000 (by decide) _).1 i' a w d (Nat.le_refl _) d1 (by omega)) (by omega)
     simp only [h1,h2,h3,cond_true,Ad,Bw rfl V,Bw rfl N,Bw rfl hw]
     rw [b7 e ap i' a w d (B7 N) d1 (by omega) (az a (B7 V)) ax (by omega),Ad]
     show (Eb (cR (f q*bvs data (e.Kids.take j) (ts.take j) (D.take j))) (cR (bv data i' a w))).bind _=_
     rw [Aqk (M j).lg hb.lg (by decide) (by decide),Ahr data _ _ _ j i' a w N V au,Nat.mul_assoc]; rfl
    .intro h1
     refine ⟨_,by simp only [h1]; rfl,?_⟩
     have A:=M (G6 (Dq data t.Num e.Num)).length
     have be:D.length=ts.length:=by
      have:∀(l:List Ay) (r:List Bool),l.length=r.length->(Kq l r).length=(G6 r).length:=by
       intro l r hl
       unfold Kq G6
       rw [List.length_map,List.length_map]
       have key:∀(l:List Ay) (r:List Bool) (s:Nat),l.length=r.length->((r.zipIdx s).filter fun q=>!q.1).length=((l.zip r).filter fun p=>!p.2).length:=by
        intro l
        induction l with
        | nil=>intro r s h; have:r = []:=List.length_eq_zero_iff.1 h.symm; subst this; rfl
        | cons a l ih=>
         intro r s h
         cases r with
         | nil=>simp at h
         | cons b r=>
          have:=ih r (s+1) (by simpa using h)
          cases b <;> simp [this]
       exact (key l r 0 hl).symm
      obtain ⟨_,_,_,_,am,_⟩:=Ace hk hx
      rw [<-Z,this _ _ (by rw [<-am,B]),ai]
     rw [ai] at A ⊢
     have Y:e.Kids.take ts.length=e.Kids:=List.take_of_length_le (by omega)
     have e2:D.take ts.length=D:=List.take_of_length_le (by omega)
     rw [Y,e2,List.take_length] at A ⊢
     show ((Ag _ _).bind fun G=>(Hc G (cR (f q*bvs data e.Kids ts D))).bind _)=_
     rw [b4]
     simp only [Ad]
     rw [A15 (aq.lg) A.lg (by decide) (by decide)]
     simp only [Ad,w1]
     congr 3
     refine Aqb U ?_ ?_
     .rw [if_pos (by omega),a1,av]
     .intro p hp bf
      by_cases Y:q+1<p
      .rw [if_pos (by omega),if_pos Y]
      .rw [if_neg (by omega),if_neg Y]
  .rw [Em (fun e=>B e.symm)]
   simp only [Ad,cond_true]
   rw [L (by rw [a1,show wOf data t e x=0 by unfold wOf; rw [if_neg B],Nat.mul_zero,Nat.add_zero])]
 .refine ⟨(0,Hj l.length g),?_,hJ⟩
  simp only [Nat.sub_self]
  have:Hj l.length (fun p=>if 0<p then g p else f p)=Hj l.length g:=Ahn (fun p hp=>by
   by_cases e:0<p
   .rw [if_pos e]
   .have:p=0:=by omega
    subst this; rw [if_neg e,<-hg]; rfl)
  rw [this]; rfl
theorem A2w {data:List Ap} (B:Szv data) (N:Mx data) (Z:∀x∈data,x.Cons.length<=8) {t:Ah} (hk:t.Kind=5) (ht:Bx t<=200) (l:List Bc)
  (hp:∀e∈l,∃ts,G5 data t e.Num=some ts/\Df data e.Kids ts=some (pdg data t e)) (I:l.length+pds data t l<=6) (v:Ay) (hv:C6 v<=5000) (R:Fr data v t=true) (k:Nat)
  (M:∀e∈l,∀(i':Bc) (g:Ah) (w:Ay) (d:Nat),i'∈e.Kids->Fh data i' g=some d->d<=6->Bx g<=200->Fr data w g=true->C6 w<=5000->Lt k data g i' w=some (cR (bv data i' g w))) :
  Te (k+1) data t l v=some (cR (dpS (bws data l t) (Hi data t.Num v) l.length)):=by
 have Y:=Agy data t.Num v
 rw [Te]
 refine Gf l (fun j=>((j:Int),(l.take j).map (Ko data t))) (by simp) (by omega) ?_ ?_
 .intro j e hj z h1 h2 h3
  obtain ⟨ts,b,_⟩:=hp e (B7 z)
  unfold G5 at b
  cases u:Ih data t e.Num with
  | none=>rw [u] at b; cases b
  | some fl=>
   have G:=Xn u
   have s:fl.length<=6:=by
    obtain ⟨U,y,_,D,_,hy,J,_⟩:=Pc u
    obtain ⟨S,_⟩:=B U (F5 D).2.2.2 y (F5 hy).2.2.2
    rw [J]; simpa using S
   simp only [h1,h2,h3,cond_true,Ad,Ab0 B t ht,Xj data t.Num e.Num N,u,okL]
   refine A2a fl (Dq data t.Num e.Num) G s ?_
   show (B9 80 _ [_]).bind _=_
   rw [Dh (by simp; omega),Ad,C5 z,List.map_append]
   congr 4
   show [_] = [Ko data t e]
   unfold Ko
   rw [u]
 .intro h1
  refine ⟨l.map (Ko data t),by simp only [h1]; rw [List.take_length]; rfl,?_⟩
  have e1:Ac ((((l.map (Ko data t)).length:Nat):Int)+1)=((l.length+1:Nat):Int):=by
   rw [List.length_map,Ac,Bs] <;> omega
  rw [e1,I4 (n:=l.length+1) (c:=l.length+1) rfl rfl (by omega) (by omega) (by omega),Ad]
  refine A2b (l.length+1) (by omega) ?_
  have L:Ag (List.replicate (l.length+1) (cR 0)) 0=some (cR 0):=Bw (n:=0) rfl (by rw [List.getElem?_replicate,if_pos (by omega)])
  rw [Pk,Ad,L,Ad,A0p N Z hk v hv R,Ad]
  have e2:Ca (List.replicate (l.length+1) (cR 0)) 0 (cR 1)=Hj l.length (dpS (bws data l t) []):=by
   have:List.replicate (l.length+1) (cR 0)=Hj l.length (fun _=>0):=by
    apply List.ext_getElem?
    intro i
    rcases Nat.lt_or_ge i (l.length+1) with hi | hi
    .rw [Pl _ (by omega),List.getElem?_replicate,if_pos hi]
    .rw [List.getElem?_eq_none (by simpa using hi),List.getElem?_eq_none (by rw [R4]; exact hi)]
   rw [this]
   refine Aqb (q:=0) (by omega) rfl ?_
   intro p _ hp
   show (if p=0 then 1 else 0)=0
   rw [if_neg hp]
  rw [e2]
  have f:∀x∈Hi data t.Num v,∀q w,(bws data l t)[q]? = some w->5000 ^ pds data t (l.take q)*w x<=5000 ^ pds data t (l.take (q+1)):=by
   intro x hx q wt hq
   rw [Acu] at hq
   obtain ⟨e,z,rfl⟩:=Option.map_eq_some_iff.1 hq
   obtain ⟨ts,b,E⟩:=hp e (B7 z)
   have X:=Ahs data t.Num v x hx
   rw [Ahu z,Nat.pow_add]
   refine Nat.mul_le_mul_left _ ?_
   unfold wOf
   split
   .rw [show Nw data t e.Num=ts by unfold Nw; rw [b]]
    refine (Uw data 5000 (by decide) _).2 e.Kids ts _ _ (Nat.le_refl _) E fun y hy=>?_
    have V:=L9 (Ahv hy)
    have:=L8 x
    omega
   .exact Nat.zero_le _
  have A:∀j q,dpS (bws data l t) ((Hi data t.Num v).take j) q<=5000 ^ (q+pds data t (l.take q)):=fun j q=>
   Aqi _ 5000 (by decide) (fun q=>pds data t (l.take q)) _ (fun x hx=>f x (List.mem_of_mem_take hx)) (by rw [List.length_take]; omega) q
  refine Gf (Hi data t.Num v) (fun j=>((j:Int),Hj l.length (dpS (bws data l t) ((Hi data t.Num v).take j)))) rfl (by omega) ?_ ?_
  .intro j x hj hx h1 h2 h3
   have hxm:=A19 hk _ v (Nat.le_refl _) R x (B7 hx)
   have h:M0 (bws data l t) x (dpS (bws data l t) ((Hi data t.Num v).take j))=dpS (bws data l t) ((Hi data t.Num v).take (j+1)):=by rw [C5 hx,A2q]
   simp only [h1,h2,h3,cond_true,Ad]
   rw [show (((l.map (Ko data t)).length:Nat):Int)=(l.length:Int) by rw [List.length_map]]
   refine A2v B hk l hp I k M x hxm.1 (by omega) _ (fun q _=>A j q) (fun q _=>by rw [h]; exact A (j+1) q) ?_
   rw [h]
  .intro h1
   refine ⟨_,by simp only [h1]; rw [List.take_length]; rfl,?_⟩
   rw [Bw (n:=l.length) (by simp) (Pl _ (Nat.le_refl _))]; rfl
theorem A2x {data:List Ap} (L:Szv data) (U:Mx data) (h8:∀x∈data,x.Cons.length<=8):∀(n:Nat) (i:Bc) (t:Ah) (w:Ay) (k d:Nat),Di i<=n->2*n<=k->n<1099511627776->Fh data i t=some d->d<=6->Bx t<=200->Fr data w t=true->C6 w<=5000->Lt k data t i w=some (cR (bv data i t w)):=by
 intro n
 induction n with
 | zero=>intro i t w k d h; have:=F6 i; omega
 | succ n ih=>
  intro i t w k d hi hk hn hd D ht l hw
  obtain ⟨k,rfl⟩:∃J,k=J+2:=⟨k-2,by omega⟩
  have Y:=F6 i
  have M:=L8 w
  rw [Lt,Pk,Aqg]
  simp only [Ad]
  rw [Xo] at hd
  rw [Uo] at l
  by_cases f:t.Kind=6
  .rw [Dj f,if_pos f]
   rw [if_pos f] at hd
   rw [if_neg (by omega),if_neg (by omega),if_neg (by omega),if_pos f] at l
   simp only [Cu] at l
   have c:=l.2
   have hd:Df data i.Kids t.Args=some d:=by
    by_cases e:i.Num=0
    .rw [if_pos e] at hd; exact hd
    .rw [if_neg e] at hd; cases hd
   obtain ⟨i1,i2⟩:=Ahm data _ _ _ hd
   have z:w.Kids.length=t.Args.length:=by
    by_cases G:w.Kids.length=t.Args.length
    .exact G
    .rw [Xx data _ _ G] at c; cases c
   have R:=Jl t
   have S:=L2 t.Args
   have y:∀x∈w.Kids,C6 x<=5000:=fun x hx=>by have:=L9 hx; omega
   have hS:=A2t hd D y
   rw [cond_true]
   refine Gf t.Args (fun j=>((j:Int),(cR (bvs data (i.Kids.take j) (t.Args.take j) (w.Kids.take j))).Neg,(cR (bvs data (i.Kids.take j) (t.Args.take j) (w.Kids.take j))).Num,(cR (bvs data (i.Kids.take j) (t.Args.take j) (w.Kids.take j))).Den)) (by simp only [List.take_zero,Yb]; rfl) (by omega) ?_ ?_
   .intro j a hj ha h1 h2 h3
    have b:i.Kids[j]? = some (i.Kids[j]'(by omega)):=B0 _
    generalize i.Kids[j]'_=i' at b
    have hu:w.Kids[j]? = some (w.Kids[j]'(by omega)):=B0 _
    generalize w.Kids[j]'_=u at hu
    obtain ⟨e,d1,d2⟩:=i2 j i' a b ha
    have N:=L9 (B7 hu)
    have Z:=La (B7 b)
    have a1:=J1 (B7 ha)
    have B:Fr data u a=true:=by
     rw [Xy data _ _ z] at c
     exact List.all_eq_true.1 c (u,a) (B7 (i:=j) (by rw [List.getElem?_zip_eq_some]; exact ⟨hu,ha⟩))
    have hb:=Sm.of ((Uw data 5000 (by decide) _).1 i' a u e (Nat.le_refl _) d1 (by omega)) (by omega)
    simp only [h1,h2,h3,cond_true,Ad,Bw rfl b,Bw rfl hu]
    rw [ih i' a u (k+1) e (by omega) (by omega) (by omega) d1 (by omega) (by omega) B (by omega),Ad]
    show (Eb (cR (bvs data (i.Kids.take j) (t.Args.take j) (w.Kids.take j))) (cR (bv data i' a u))).bind _=_
    rw [Aqk (hS j).lg hb.lg (by decide) (by decide),Ahr data _ _ _ j i' a u b ha hu]; rfl
   .intro h1
    refine ⟨_,by simp only [h1]; rfl,?_⟩
    have e1:i.Kids.take t.Args.length=i.Kids:=List.take_of_length_le (by omega)
    have e2:w.Kids.take t.Args.length=w.Kids:=List.take_of_length_le (by omega)
    rw [e1,e2,List.take_length]
  .rw [if_neg f] at hd ⊢
   rw [Cp f,cond_false]
   by_cases q:t.Kind=7
   .rw [Dj q,cond_true,if_pos q]
    rw [if_pos q] at hd
    have X:=Xw w.Kids
    by_cases e:0<=i.Num/\i.Num<=6/\i.Kids.length=0
    .obtain ⟨m,V⟩:∃m:Nat,i.Num=m:=⟨i.Num.toNat,by omega⟩
     rw [V]
     first | rw [Aqa _ _ (by omega) (by omega),Ad] | rw [Ap9 _ _ (by omega) (by omega),Ad]
     rw [Int.toNat_natCast]
    .rw [if_neg e] at hd; cases hd
   .rw [if_neg q] at hd ⊢
    rw [Cp q,cond_false]
    by_cases g:t.Kind=5
    .rw [Dj g,cond_true,if_pos g]
     rw [if_pos g] at hd
     have hd:G0 data i.Kids t=some d:=by
      by_cases e:i.Num=0
      .rw [if_pos e] at hd; exact hd
      .rw [if_neg e] at hd; cases hd
     obtain ⟨h1,h2⟩:=Aht data _ _ _ hd
     rw [<-Uo] at l
     rw [A2w L U h8 g ht i.Kids h2 (by omega) w hw l k (fun e he i' I u d' b E s ht' hu A=>by
      have h3:=La b
      have h4:=F6 e
      have h5:=La he
      exact ih i' I u k d' (by omega) (by omega) (by omega) E s ht' hu A),Ad]
    .rw [Cp g,cond_false,if_neg g]
end Go.Ab
