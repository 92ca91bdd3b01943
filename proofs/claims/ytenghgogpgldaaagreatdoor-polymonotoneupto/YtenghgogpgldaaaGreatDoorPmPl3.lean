/- Plain laws: what the plain functions answer. -/
import Derived.Test.YtenghgogpgldaaaGreatDoorPmPl2
namespace Go.Ab
open Go
def Gw (n:Int) (f:Bool):List Int:=if f then (if n<0 then [45] else []) else (if n<0 then [32,45,32] else [32,43,32])
def Hz (n:Int):List Int:=if n.natAbs=1 then [] else ti n.natAbs++[42]
def G6 (v:Int):List Int:=if v = -1 then [114,101,115] else 118::ti v
def tT (f:Bool) (t:C1):List Int:=Gw t.Coef f++(Hz t.Coef++G6 t.Var)
def F5:Bool->List C1->Int->List Int
 | f,[],c=>if c≠0\/f=true then Gw c f++ti c.natAbs else []
 | f,t::ts,c=>tT f t++F5 false ts c
def Vx (l:Da):List Int:=F5 true l.Terms l.Const
def G7 (X:List Int):Prop:=∀c m,X=c::m->c=97
theorem G7.nil:G7 []:=by intro c m h; cases h
theorem G7.cons (X:List Int):G7 (97::X):=by intro c m h; cases h; rfl
theorem G7.nonum {X:List Int} (h:G7 X):Jh X:=by intro c m e; rw [h c m e]; decide
theorem Aeg (n:Nat):∃c m,ti n=c::m/\48<=c/\c<=57:=by
 have b:=Ad1 (n:Int)
 cases h:ti (n:Int) with
 | nil=>exact (b h).elim
 | cons c m=>
  refine ⟨c,m,rfl,?_⟩
  have hc:c∈ti (n:Int):=by rw [h]; simp
  unfold ti at hc
  obtain ⟨x,hx,rfl⟩:=List.mem_map.1 hc
  have e:Lib.itoa (n:Int)=Lib.decDigits n:=by
   unfold Lib.itoa
   first | rfl | (rw [if_neg (by omega)]; simp) | simp
  rw [e] at hx
  have:=Zm n n (Nat.le_refl _) x hx
  omega
theorem Al9 (ts:List C1) (c:Int) {X:List Int} (b:G7 X):Jh (F5 false ts c++X):=by
 have k:∀(n:Int) (Y:List Int),Jh (Gw n false++Y):=by
  intro n Y c m e
  unfold Gw at e
  simp only [Bool.false_eq_true,if_false] at e
  split at e <;> (cases e; decide)
 cases ts with
 | nil=>
  simp only [F5]
  split
  .rw [List.append_assoc]; exact k _ _
  .exact b.nonum
 | cons t ts=>simp only [F5,tT,List.append_assoc]; exact k _ _
theorem Ama {v w:Int} {R S:List Int} (c:Jh R) (b:Jh S) (h:G6 v++R=G6 w++S):v=w/\R=S:=by
 unfold G6 at h
 split at h <;> split at h
 .simp only [List.cons_append,List.nil_append,List.cons.injEq,true_and] at h
  exact ⟨by omega,h⟩
 .simp at h
 .simp at h
 .simp only [List.cons_append,List.cons.injEq,true_and] at h
  obtain ⟨g,f⟩:=L9 _ _ _ _ (Gc v) (Gc w) c b h
  exact ⟨Pn g,f⟩
theorem Aeh (v:Int):∃c m,G6 v=c::m/\(c=114\/c=118):=by
 unfold G6
 split
 .exact ⟨_,_,rfl,.inl rfl⟩
 .exact ⟨_,_,rfl,.inr rfl⟩
theorem Aei (X:List Int):Jh (42::X):=by intro c m e; cases e; decide
theorem Awx {a b v w:Int} {R S:List Int} (i:Jh R) (g:Jh S) (h:Hz a++(G6 v++R)=Hz b++(G6 w++S)):a.natAbs=b.natAbs/\v=w/\R=S:=by
 unfold Hz at h
 have bad:∀(n:Nat) (u:Int) (X Y:List Int),G6 u++X=ti n++[42]++Y->False:=by
  intro n u X Y e
  obtain ⟨c,m,f,q⟩:=Aeh u
  obtain ⟨d,k,l,j⟩:=Aeg n
  rw [f,l] at e
  simp only [List.cons_append,List.cons.injEq] at e
  omega
 split at h <;> split at h
 .rename_i h1 h2
  simp only [List.nil_append] at h
  exact ⟨h1.trans h2.symm,Ama i g h⟩
 .exact (bad _ _ _ _ h).elim
 .exact (bad _ _ _ _ h.symm).elim
 .simp only [List.append_assoc,List.cons_append,List.nil_append] at h
  obtain ⟨f,q⟩:=L9 _ _ _ _ (Gc _) (Gc _) (Aei _) (Aei _) h
  have l:=Pn f
  obtain ⟨j,s⟩:=Ama i g (List.cons.inj q).2
  exact ⟨by omega,j,s⟩
def NoM (P:List Int):Prop:=∃c m,P=c::m/\c≠45
theorem NoM.ti (n:Nat) (X:List Int):NoM (Go.Ab.ti n++X):=by
 obtain ⟨c,m,e,h⟩:=Aeg n
 exact ⟨c,m++X,by rw [e]; rfl,by omega⟩
theorem NoM.pT (a v:Int) (X:List Int):NoM (Hz a++(G6 v++X)):=by
 unfold Hz
 split
 .obtain ⟨c,m,e,h⟩:=Aeh v
  exact ⟨c,m++X,by rw [e]; rfl,by omega⟩
 .rw [List.append_assoc]; exact NoM.ti _ _
theorem Aej {a b:Int} {f:Bool} {P Q:List Int} (i:NoM P) (g:NoM Q) (h:Gw a f++P=Gw b f++Q):(a<0↔b<0)/\P=Q:=by
 obtain ⟨c,m,rfl,hc⟩:=i
 obtain ⟨d,k,rfl,hd⟩:=g
 unfold Gw at h
 cases f with
 | true=>
  simp only [if_true] at h
  split at h <;> split at h
  .rename_i h1 h2; exact ⟨by simp [h1,h2],by simpa using h⟩
  .simp at h; exact (hd h.1.symm).elim
  .simp at h; exact (hc h.1).elim
  .rename_i h1 h2; exact ⟨by simp [h1,h2],by simpa using h⟩
 | false=>
  simp only [Bool.false_eq_true,if_false] at h
  split at h <;> split at h
  .rename_i h1 h2; exact ⟨by simp [h1,h2],by simpa using h⟩
  .simp at h
  .simp at h
  .rename_i h1 h2; exact ⟨by simp [h1,h2],by simpa using h⟩
theorem Aek {n:Int} {P X:List Int} (b:G7 X) (h:Gw n false++P=X):False:=by
 unfold Gw at h
 simp only [Bool.false_eq_true,if_false] at h
 split at h
 .have:=b _ _ h.symm; omega
 .have:=b _ _ h.symm; omega
theorem Amb {c d:Int} {f:Bool} {u:C1} {m:List C1} {X Y:List Int} (b:G7 X) (l:G7 Y) (h:F5 f [] c++X=F5 f (u::m) d++Y):False:=by
 simp only [F5,tT] at h
 split at h
 .simp only [List.append_assoc] at h
  obtain ⟨_,e⟩:=Aej (NoM.ti _ _) (NoM.pT _ _ _) h
  unfold Hz at e
  split at e
  .obtain ⟨s,m1,k,h1⟩:=Aeh u.Var
   obtain ⟨q,m2,g,h2⟩:=Aeg c.natAbs
   rw [k,g] at e
   simp only [List.nil_append,List.cons_append,List.cons.injEq] at e
   omega
  .simp only [List.append_assoc,List.cons_append,List.nil_append] at e
   obtain ⟨_,g⟩:=L9 _ _ _ _ (Gc _) (Gc _) b.nonum (Aei _) e
   have:=b _ _ g; omega
 .rename_i i
  have j:f=false:=by cases f with | true=>simp at i | false=>rfl
  subst j
  simp only [List.nil_append,List.append_assoc] at h
  exact Aek b h.symm
theorem Amc:∀(l m:List C1) (f:Bool) (c d:Int) (X Y:List Int),G7 X->G7 Y->F5 f l c++X=F5 f m d++Y->l=m/\c=d/\X=Y
 | [],[],f,c,d,X,Y,g,b,h=>by
  simp only [F5] at h
  split at h <;> split at h
  .simp only [List.append_assoc] at h
   obtain ⟨y,s⟩:=Aej (NoM.ti _ _) (NoM.ti _ _) h
   obtain ⟨q,i⟩:=L9 _ _ _ _ (Gc _) (Gc _) g.nonum b.nonum s
   have x:=Pn q
   exact ⟨rfl,by omega,i⟩
  .rename_i h1 h2
   have j:f=false:=by cases f with | true=>simp at h2 | false=>rfl
   subst j
   simp only [List.append_assoc,List.nil_append] at h
   exact (Aek b h).elim
  .rename_i h1 h2
   have j:f=false:=by cases f with | true=>simp at h1 | false=>rfl
   subst j
   simp only [List.append_assoc,List.nil_append] at h
   exact (Aek g h.symm).elim
  .rename_i h1 h2
   refine ⟨rfl,?_,by simpa using h⟩
   have a1:c=0:=by by_cases k:c=0; exact k; exact (h1 (.inl k)).elim
   have a2:d=0:=by by_cases k:d=0; exact k; exact (h2 (.inl k)).elim
   omega
 | [],u::m,f,c,d,X,Y,g,b,h=>(Amb g b h).elim
 | t::l,[],f,c,d,X,Y,g,b,h=>(Amb b g h.symm).elim
 | t::l,u::m,f,c,d,X,Y,g,b,h=>by
  simp only [F5,tT,List.append_assoc] at h
  obtain ⟨y,s⟩:=Aej (NoM.pT _ _ _) (NoM.pT _ _ _) h
  obtain ⟨q,i,x⟩:=Awx (Al9 _ _ g) (Al9 _ _ b) s
  obtain ⟨B,A,z⟩:=Amc l m false c d X Y g b x
  have:t=u:=by
   cases t; cases u
   simp only at y q i
   subst i
   congr 1; omega
  exact ⟨by rw [this,B],A,z⟩
def F1 (a:B8):List Int:=97::(ti a.Deg++58::Vx a.Lin)
def E8 (f:Cj):List Int:=Hy f.Var f.Index
def Vy (m:Ba):List Int:=m.Factors.flatMap E8++m.Atoms.flatMap F1
theorem Zx (l:List B8):G7 (l.flatMap F1):=by
 cases l with
 | nil=>exact G7.nil
 | cons a l=>simp only [List.flatMap_cons,F1,List.cons_append]; exact G7.cons _
theorem Zy (X:List Int):Jh (58::X):=by intro c m e; cases e; decide
theorem Amd:∀(l m:List B8),l.flatMap F1=m.flatMap F1->l=m
 | [],[],_=>rfl
 | [],b::m,h=>by simp [F1] at h
 | a::l,[],h=>by simp [F1] at h
 | a::l,b::m,h=>by
  simp only [List.flatMap_cons,F1,List.cons_append,List.append_assoc,List.cons.injEq,true_and] at h
  obtain ⟨s,q⟩:=L9 _ _ _ _ (Gc _) (Gc _) (Zy _) (Zy _) h
  have k:=(List.cons.inj q).2
  obtain ⟨g,f,j⟩:=Amc _ _ true _ _ _ _ (Zx l) (Zx m) k
  have i:=Amd l m j
  have c:=Pn s
  obtain ⟨⟨x,t1⟩,d1⟩:=a
  obtain ⟨⟨u,t2⟩,d2⟩:=b
  simp only at g f c
  rw [g,f,c,i]
theorem Ame (l:List Cj) {X:List Int} (b:G7 X):Nv (l.flatMap E8++X):=by
 cases l with
 | nil=>intro c m e; rw [b c m e]; exact ⟨by decide,by decide⟩
 | cons a l=>
  intro c m e
  simp only [List.flatMap_cons,E8,Hy,List.cons_append] at e
  cases e; exact ⟨by decide,by decide⟩
theorem Amf:∀(l m:List Cj) (X Y:List Int),G7 X->G7 Y->l.flatMap E8++X=m.flatMap E8++Y->l=m/\X=Y
 | [],[],X,Y,_,_,h=>⟨rfl,by simpa using h⟩
 | [],b::m,X,Y,f,_,h=>by
  simp only [List.flatMap_cons,List.flatMap_nil,E8,Hy,List.cons_append,List.nil_append] at h
  have:=f _ _ h; omega
 | a::l,[],X,Y,_,c,h=>by
  simp only [List.flatMap_cons,List.flatMap_nil,E8,Hy,List.cons_append,List.nil_append] at h
  have:=c _ _ h.symm; omega
 | a::l,b::m,X,Y,f,c,h=>by
  simp only [List.flatMap_cons,E8,Hy,List.cons_append,List.append_assoc,List.cons.injEq,true_and] at h
  obtain ⟨x,u⟩:=L9 _ _ _ _ (Gc _) (Gc _) (Zy _) (Zy _) h
  have s:=(List.cons.inj u).2
  obtain ⟨i,q⟩:=Ad3 _ _ _ _ (Ame l f) (Ame m c) s
  obtain ⟨k,j⟩:=Amf l m X Y f c q
  have g:=Pn x
  obtain ⟨y,i1⟩:=a
  obtain ⟨v2,i2⟩:=b
  simp only at i g
  exact ⟨by rw [i,g,k],j⟩
theorem Awy {m n:Ba} (h:Vy m=Vy n):m=n:=by
 obtain ⟨c,f⟩:=Amf _ _ _ _ (Zx _) (Zx _) h
 have b:=Amd _ _ f
 cases m; cases n
 simp only at c b
 rw [c,b]
def By (l:List Int):Prop:=∀c∈l,0<=c/\c<256
theorem By.app {l m:List Int} (h:By l) (h':By m):By (l++m):=by
 intro c hc
 rcases List.mem_append.1 hc with k | k
 .exact h c k
 .exact h' c k
theorem By.ti (n:Int):By (Go.Ab.ti n):=by
 intro c h
 have:=Gc n c h
 simp only [L8,Bool.or_eq_true,Cl,beq_iff_eq,decide_eq_true_eq] at this
 omega
theorem By.cons {c:Int} {l:List Int} (hc:0<=c/\c<256) (h:By l):By (c::l):=by
 intro d hd
 rcases List.mem_cons.1 hd with rfl | k
 .exact hc
 .exact h d k
theorem By.nil:By []:=fun c h=>by cases h
theorem By.sgn (n:Int) (f:Bool):By (Gw n f):=by
 unfold Gw
 split <;> split <;> intro c hc <;> simp at hc <;> omega
theorem By.mag (n:Int):By (Hz n):=by
 unfold Hz
 split
 .exact By.nil
 .exact (By.ti _).app (By.cons (by omega) By.nil)
theorem By.var (n:Int):By (G6 n):=by
 unfold G6
 split
 .intro c hc; simp at hc; omega
 .exact By.cons (by omega) (By.ti _)
theorem By.tT (f:Bool) (t:C1):By (tT f t):=(By.sgn _ _).app ((By.mag _).app (By.var _))
theorem By.lins:∀(l:List C1) (f:Bool) (c:Int),By (F5 f l c)
 | [],f,c=>by
  simp only [F5]
  split
  .exact (By.sgn _ _).app (By.ti _)
  .exact By.nil
 | t::l,f,c=>(By.tT f t).app (By.lins l false c)
theorem By.at (a:B8):By (F1 a):=By.cons (by omega) ((By.ti _).app (By.cons (by omega) (By.lins _ _ _)))
theorem By.flat {α:Type} {g:α->List Int} (h:∀a,By (g a)) (l:List α):By (l.flatMap g):=by
 intro c hc
 obtain ⟨a,_,k⟩:=List.mem_flatMap.1 hc
 exact h a c k
theorem By.fac (f:Cj):By (E8 f):=Zp f.Var f.Index
theorem By.mono (m:Ba):By (Vy m):=(By.flat By.fac _).app (By.flat By.at _)
def bs (l:List Int):ByteArray:=⟨(Eu l).toArray⟩
theorem Awz {l m:List Int} (c:By l) (b:By m) (h:bs l=bs m):l=m:=by
 unfold bs at h
 have h1:(Eu l).toArray=(Eu m).toArray:=by injection h
 have h2:Eu l=Eu m:=by simpa using congrArg Array.toList h1
 exact Ad6 _ _ c b h2
def I3 (m:Ba):ByteArray:=bs (Vy m)
theorem Amg {m n:Ba} (h:I3 m=I3 n):m=n:=Awy (Awz (By.mono m) (By.mono n) h)
theorem Zz (l:List Int):(bs l).size=l.length:=by unfold bs Eu; simp [ByteArray.size]
theorem Amh {l:List Int} (h:By l):Ki (bs l)=l:=by
 unfold Ki bs Eu
 simp only [List.map_map]
 conv=>rhs; rw [<-List.map_id l]
 refine List.map_congr_left fun c hc=>?_
 have:=h c hc
 simp only [Function.comp,UInt8.toNat_ofNat',id]
 omega
theorem Aw0 (l m:List Int):bs l++bs m=bs (l++m):=by
 apply ByteArray.ext
 rw [ByteArray.data_append]
 unfold bs Eu
 simp
theorem Py {l m:List Int} (h:l.length+m.length<=9223372036854775807):D4 (bs l) (bs m)=some (bs (l++m)):=by
 unfold D4
 rw [if_pos (by rw [Zz,Zz]; exact h),Aw0]
theorem Z0 {n:Int} (h:I64 n):Lq n=some (bs (ti n)):=by
 rw [Ad5 h]
 congr 2
 congr 1
 unfold Eu ti
 rw [List.map_map]
 conv=>lhs; rw [<-List.map_id (Lib.itoa n)]
 refine List.map_congr_left fun c _=>?_
 simp [Function.comp]
end Go.Ab
namespace Go.Ab
open Go
theorem Z1 {S E R α:Type} {step:S->Option (S⊕E)} {s0:S} {J:E->Option R} {r:R} (c:α) (xs:List α) (b:Nat->S) (h0:s0=b 0) (h:xs.length<2305843009213693952)
  (f:∀(j:Nat) (x:α),xs[j]? = some x->decide (((j+1:Nat):Int)<((c::xs).length:Int))=true->Af (c::xs) ((j+1:Nat):Int)=some x->Ac (((j+1:Nat):Int)+1)=((j+1+1:Nat):Int)->step (b j)=some (.inl (b (j+1))))
  (g:decide (((xs.length+1:Nat):Int)<((c::xs).length:Int))=false->∃e,step (b xs.length)=some (.inr e)/\J e=some r):(Aj step s0).bind J=some r:=by
 refine Nk xs.length b h0 (fun j hj=>?_) (g (by simp))
 have hx:xs[j]? = some xs[j]:=Bw hj
 exact f j _ hx (Ap (by simp only [List.length_cons]; omega)) (B1 rfl (by simp)) (C2 (n:=xs.length+1) (by omega) (by omega))
theorem bnd {α β:Type} {X:Option α} {a:α} {K:α->Option β} {r:Option β} (h:X=some a) (k:K a=r):X.bind K=r:=by rw [h]; exact k
theorem Ku {l b:List Int} (c:By l) (h:b.length+l.length<=140737488355328):Fi (bs l) b=some ((l.length:Int),b++l):=by
 simp only [Fi,Rn,Ad,Amh c,Zz]
 rw [D2 (by omega)]; rfl
theorem Se {l b:List Int} (c:By l) (h:b.length+l.length<=140737488355328):H9 (bs l) b=some ((l.length:Int),b++l):=by
 simp only [H9,Ue,Ad,Amh c,Zz]
 rw [D2 (by omega)]; rfl
theorem Sf {b:List Int} (hb:By b):Jy b=some (bs b):=by
 exact if_pos hb
theorem Aw1 {b:List Int} (hb:By b):Yk b=some (bs b):=Sf hb
theorem Ael (n:Int) (h : -1048576<=n/\n<=1048576):(Hz n).length<=22:=by
 unfold Hz
 split
 .simp
 .have:=Kr (n:=(n.natAbs:Int)) (by unfold I64; omega)
  simp; omega
theorem Z2 (n:Int) (f:Bool):(Gw n f).length<=3:=by unfold Gw; split <;> split <;> simp
theorem Aw2 {v:Int} (h : -1<=v/\v<3000):(G6 v).length<=22:=by
 unfold G6
 split
 .simp
 .have:=Kr (n:=v) (by unfold I64; omega)
  simp; omega
structure Ami (a:Da):Prop where
 c : -1048576<=a.Const/\a.Const<=1048576
 n:a.Terms.length<=16
 t:∀t∈a.Terms,(-1<=t.Var/\t.Var<3000)/\(-1048576<=t.Coef/\t.Coef<=1048576)
theorem Aem {a:Da} (h:Ii a=true):Ami a:=by
 unfold Ii at h
 simp only [Cl,decide_eq_true_eq] at h
 refine ⟨⟨h.1.1,h.1.2.1⟩,h.1.2.2,fun t ht=>?_⟩
 obtain ⟨j,hj⟩:=List.getElem?_of_mem ht
 have:=Gu h.2 hj
 simp only [Vo,Cl,decide_eq_true_eq] at this
 omega
theorem Aen {t:C1} (f:Bool) (h:(-1<=t.Var/\t.Var<3000)/\(-1048576<=t.Coef/\t.Coef<=1048576)):(tT f t).length<=47:=by
 have:=Z2 t.Coef f
 have:=Ael t.Coef h.2
 have:=Aw2 h.1
 unfold tT
 simp only [List.length_append]; omega
theorem Amj {n:Int} (h : -1048576<=n/\n<=1048576):(if Ac (0-n)>n then Ac (0-n) else n)=(n.natAbs:Int):=by
 rw [Ac,B3 (by omega) (by omega)]; split <;> omega
theorem c45:ByteArray.mk #[45]=bs [45]:=rfl
theorem Aw3:ByteArray.mk #[32,45,32]=bs [32,45,32]:=rfl
theorem Aw4:ByteArray.mk #[32,43,32]=bs [32,43,32]:=rfl
theorem c42:ByteArray.mk #[42]=bs [42]:=rfl
theorem Amk:ByteArray.mk #[118]=bs [118]:=rfl
theorem c97:ByteArray.mk #[97]=bs [97]:=rfl
theorem c58:ByteArray.mk #[58]=bs [58]:=rfl
theorem Aml:ByteArray.mk #[114,101,115]=bs [114,101,115]:=rfl
theorem Amm:By [45]:=By.cons (by omega) By.nil
theorem by3 (a b c:Int) (ha:0<=a/\a<256) (hb:0<=b/\b<256) (hc:0<=c/\c<256):By [a,b,c]:=By.cons ha (By.cons hb (By.cons hc By.nil))
theorem Amn {n:Int} (f:Bool) {b:List Int} (c : -1048576<=n/\n<=1048576) (hb:b.length<=1099511627776):Ux n f b=some ((n.natAbs:Int),b++Gw n f):=by
 unfold Ux Gw
 rw [Amj c,c45,Aw3,Aw4]
 rw [Ku Amm (by simp; omega),Ku (by3 _ _ _ (by omega) (by omega) (by omega)) (by simp; omega),Ku (by3 _ _ _ (by omega) (by omega) (by omega)) (by simp; omega)]
 by_cases h:n<0
 .rw [Ap h,if_pos h,if_pos h]; cases f <;> rfl
 .rw [A1 h,if_neg h,if_neg h]; cases f <;> simp
theorem Aw5 {n:Int} {b:List Int} (c : -1048576<=n/\n<=1048576) (hb:b.length<=1099511627776):O3 n true b=some (if n<0 then .inl ((n.natAbs:Int),b++[45]) else .inr ((n.natAbs:Int),b)):=by
 unfold O3
 rw [Amj c,c45,Se Amm (by simp; omega)]
 by_cases h:n<0
 .rw [Ap h,if_pos h]; rfl
 .rw [A1 h,if_neg h]; rfl
theorem Aeo {n:Nat} (h:n<=1048576):Kn (n:Int) 10=some (bs (ti n)):=by
 unfold Kn Xb
 exact Z0 (by unfold I64; omega)
theorem Z3 {n:Nat} (h:n<=1048576):(ti (n:Int)).length<=21:=Kr (by unfold I64; omega)
theorem Amo {n:Int} {b:List Int} (c : -1048576<=n/\n<=1048576) (hb:b.length<=1099511627776) :
  (bif ((n.natAbs:Int) != (1:Int)) then (Kn (n.natAbs:Int) 10).bind fun v=>(D4 v (ByteArray.mk #[42])).bind fun u=>(Fi u b).bind fun w=>some w.2 else some b)=some (b++Hz n):=by
 have ht:=Z3 (n:=n.natAbs) (by omega)
 unfold Hz
 by_cases h:n.natAbs=1
 .rw [Fd (by omega),if_pos h]; simp
 .rw [Ec (by omega),if_neg h,Aeo (by omega),c42]
  simp only [cond_true,Ad]
  rw [Py (by simp; omega),Ad,Ku ((By.ti _).app (By.cons (by omega) By.nil)) (by simp; omega)]; rfl
theorem Aep {v:Int} {b:List Int} {R:Type} (K:List Int->Option R) (hv : -1<=v/\v<3000) (hb:b.length<=1099511627776) :
  (bif (v==(-1)) then (Fi (ByteArray.mk #[114,101,115]) b).bind fun w=>K w.2 else (Gs v).bind fun x=>(D4 (ByteArray.mk #[118]) x).bind fun y=>(Fi y b).bind fun w=>K w.2)=K (b++G6 v):=by
 have ht:=Kr (n:=v) (by unfold I64; omega)
 unfold G6
 by_cases h:v = -1
 .rw [Dw h,if_pos h,Aml,Ku (by3 _ _ _ (by omega) (by omega) (by omega)) (by simp; omega)]; rfl
 .rw [Co h,if_neg h,Amk]
  simp only [cond_false,Gs]
  rw [Z0 (by unfold I64; omega),Ad,Py (by simp; omega),Ad]
  rw [show [118]++ti v=118::ti v from rfl,Ku (By.cons (by omega) (By.ti _)) (by simp; omega)]; rfl
theorem Z4 {α:Type} {g:α->List Int} {l:List α} {j:Nat} {x:α} (h:l[j]? = some x):(l.take (j+1)).flatMap g=(l.take j).flatMap g++g x:=by
 rw [C7 h]; simp
theorem Amp {α:Type} {g:α->List Int} {n:Nat}:∀(l:List α),(∀a∈l,(g a).length<=n)->(l.flatMap g).length<=l.length*n
 | [],_=>by simp
 | a::l,h=>by
  have h1:=h a (by simp)
  have h2:=Amp l fun b hb=>h b (by simp [hb])
  simp only [List.flatMap_cons,List.length_append,List.length_cons,Nat.add_mul]; omega
theorem Aeq {α:Type} {g:α->List Int} {n:Nat} (l:List α) (j:Nat) (h:∀a∈l,(g a).length<=n):((l.take j).flatMap g).length<=l.length*n:=by
 refine Nat.le_trans (Amp _ fun a ha=>h a (List.mem_of_mem_take ha)) (Nat.mul_le_mul_right _ ?_)
 rw [List.length_take]; omega
theorem Amq:∀(ts:List C1) (c:Int),F5 false ts c=ts.flatMap (tT false)++F5 false [] c
 | [],c=>by simp
 | t::ts,c=>by
  have:=Amq ts c
  simp only [List.flatMap_cons,List.append_assoc,<-this]; rfl
theorem Aw6 {a:Da} (h:Ii a=true) (A:a.Terms≠[]):Lx a=some (bs (Vx a)):=by
 have y:=Aem h
 unfold Lx
 rw [Alh,h]
 obtain ⟨c,l⟩:=a
 cases l with
 | nil=>exact (A rfl).elim
 | cons t ts=>
  have hc : -1048576<=c/\c<=1048576:=y.c
  have L:ts.length<=15:=by have:=y.n; simp at this; omega
  have ht:(-1<=t.Var/\t.Var<3000)/\(-1048576<=t.Coef/\t.Coef<=1048576):=y.t t (by simp)
  have s:∀u∈ts,(-1<=u.Var/\u.Var<3000)/\(-1048576<=u.Coef/\u.Coef<=1048576):=fun u hu=>y.t u (by simp [hu])
  have x:=fun j=>Aeq (g:=tT false) (n:=47) ts j (fun u hu=>Aen false (s u hu))
  have I:=Aen true ht
  simp only [Ad,bnt,cond_false]
  rw [Ap (by simp only [List.length_cons]; omega),cond_true]
  refine bnd (a:=((t.Coef.natAbs:Int),tT true t)) ?_ ?_
  .rw [show Af (t::ts) 0=some t from rfl,Ad,Aw5 ht.2 (by simp),Ad]
   have E:=Kr (n:=t.Var) (by unfold I64; omega)
   have G:=Z3 (n:=t.Coef.natAbs) (by omega)
   have B:=Ael t.Coef ht.2
   by_cases q:t.Coef<0
   .rw [if_pos q]
    simp only
    rw [Amo ht.2 (by simp),Ad]
    refine (Aep (fun b=>some ((t.Coef.natAbs:Int),b)) ht.1 (by simp; omega)).trans ?_
    simp [tT,Gw,q]
   .rw [if_neg q]
    simp only
    by_cases h1:t.Coef.natAbs=1
    .rw [Fd (by omega)]
     simp only [cond_false]
     by_cases hv:t.Var = -1
     .rw [Dw hv,Aml,cond_true,Se (by3 _ _ _ (by omega) (by omega) (by omega)) (by simp)]
      simp [tT,Gw,q,Hz,h1,G6,hv]
     .rw [Co hv,cond_false,Amk,Gs,Z0 (by unfold I64; omega),Ad,Py (by simp; omega),Ad,show [118]++ti t.Var=118::ti t.Var from rfl,
       Se (By.cons (by omega) (By.ti _)) (by simp; omega)]
      simp [tT,Gw,q,Hz,h1,G6,hv]
    .rw [Ec (by omega)]
     simp only [cond_true]
     rw [Aeo (by omega),Ad,c42,Py (by simp; omega),Ad,Se ((By.ti _).app (By.cons (by omega) By.nil)) (by simp; omega),Ad]
     refine (Aep (fun b=>some ((t.Coef.natAbs:Int),b)) ht.1 (by simp; omega)).trans ?_
     simp [tT,Gw,q,Hz,h1]
  .simp only
   refine Z1 t ts (fun j=>(((j+1:Nat):Int),tT true t++(ts.take j).flatMap (tT false))) (by simp [Ac,B3]) (by omega) ?_ ?_
   .intro j u hu h1 h2 h3
    have f:=s u (Bs hu)
    have:=x j
    have B:=Ael u.Coef f.2
    have z:=Z2 u.Coef false
    simp only [h1,h2,h3,cond_true,Ad]
    rw [Co (by omega),Amn false f.2 (by simp only [List.length_append]; omega),Ad,Amo f.2 (by simp only [List.length_append]; omega),Ad]
    refine (Aep (R:=(Int×List Int)⊕List Int) (fun b=>some (.inl (((j+1+1:Nat):Int),b))) f.1 (by simp only [List.length_append]; omega)).trans ?_
    rw [Z4 hu]
    simp [tT]
   .intro h1
    have h2:=x ts.length
    rw [List.take_length] at h2
    refine ⟨tT true t++ts.flatMap (tT false),by simp only [h1,cond_false,List.take_length],?_⟩
    have D:By (tT true t++ts.flatMap (tT false)):=(By.tT _ _).app (By.flat (By.tT _) _)
    have e:Vx ⟨c,t::ts⟩=tT true t++ts.flatMap (tT false)++F5 false [] c:=by
     have:=Amq ts c
     rw [List.append_assoc,<-this]; rfl
    rw [e]
    have k:((((t::ts).length:Nat):Int)==(0:Int))=false:=Co (by simp only [List.length_cons]; omega)
    by_cases i:c=0
    .simp only [Fd i,cond_false,k,Ad]
     rw [Sf D]
     simp [F5,i]
    .have J:=Z3 (n:=c.natAbs) (by omega)
     have z:=Z2 c false
     simp only [Ec i,cond_true,Ad,k]
     rw [Amn false hc (by simp only [List.length_append]; omega),Ad,Aeo (by omega),Ad,Ku (By.ti _) (by simp only [List.length_append]; omega),Ad,
      Sf ((D.app (By.sgn _ _)).app (By.ti _))]
     simp [F5,i]
theorem Amr {a:Da} (h:Ami a):(Vx a).length<=1024:=by
 have key:∀(l:List C1) (f:Bool),(∀t∈l,(-1<=t.Var/\t.Var<3000)/\(-1048576<=t.Coef/\t.Coef<=1048576))->(F5 f l a.Const).length<=47*l.length+24:=by
  intro l
  induction l with
  | nil=>
   intro f _
   have h1:=Z3 (n:=a.Const.natAbs) (by have:=h.c; omega)
   have h2:=Z2 a.Const f
   simp only [F5]
   split <;> simp <;> omega
  | cons t l ih=>
   intro f b
   have h1:=Aen f (b t (by simp))
   have h2:=ih false fun u hu=>b u (by simp [hu])
   simp only [F5,List.length_append,List.length_cons]; omega
 have:=key a.Terms true h.t
 have:=h.n
 unfold Vx; omega
structure CMo (m:Ba):Prop where
 sz:MSz m
 nf:m.Factors.length<=6
 na:m.Atoms.length<=6
 al:∀a∈m.Atoms,Ii a.Lin=true/\a.Lin.Terms≠[]/\1<=a.Deg/\a.Deg<=6
theorem Z5 {R:Type} {a:B8} (K:ByteArray->Option R) (h:Ii a.Lin=true/\a.Lin.Terms≠[]/\1<=a.Deg/\a.Deg<=6) :
  ((Gs a.Deg).bind fun u=>(D4 (ByteArray.mk #[97]) u).bind fun v=>(D4 v (ByteArray.mk #[58])).bind fun w=>(Lx a.Lin).bind fun x=>(D4 w x).bind fun y=>K y)=K (bs (F1 a)):=by
 have h1:=Kr (n:=a.Deg) (by unfold I64; omega)
 have h2:=Amr (Aem h.1)
 rw [Gs,Z0 (by unfold I64; omega),Ad,c97,Py (by simp; omega),Ad,c58,Py (by simp; omega),Ad,Aw6 h.1 h.2.1,Ad,Py (by simp; omega),Ad]
 simp [F1]
theorem Vz {a:B8} (h:Ii a.Lin=true/\a.Lin.Terms≠[]/\1<=a.Deg/\a.Deg<=6):(F1 a).length<=1100:=by
 have h1:=Kr (n:=a.Deg) (by unfold I64; omega)
 have h2:=Amr (Aem h.1)
 simp [F1]; omega
theorem Aer {f:Cj} (h:Cr f.Index<=1048576) (b:iR f.Index/\I64 f.Var):(E8 f).length<=33554432:=by
 have h1:=Kr b.2
 have h2:=Ad4 f.Index b.1
 simp [E8,Hy]; omega
theorem Aw7 {m:Ba} (h:CMo m):Tp m=some (I3 m):=by
 obtain ⟨fs,c⟩:=m
 have q:∀f∈fs,Cr f.Index<=1048576/\iR f.Index/\I64 f.Var:=fun f i=>⟨h.sz.fi f i,h.sz.fr f i⟩
 have u:∀a∈c,Ii a.Lin=true/\a.Lin.Terms≠[]/\1<=a.Deg/\a.Deg<=6:=h.al
 have nf:fs.length<=6:=h.nf
 have na:c.length<=6:=h.na
 have A:=fun (l:List Cj) (x:∀f∈l,f∈fs) (j:Nat)=>Aeq (g:=E8) (n:=33554432) l j (fun f i=>Aer (q f (x f i)).1 (q f (x f i)).2)
 have D:=fun (l:List B8) (x:∀a∈l,a∈c) (j:Nat)=>Aeq (g:=F1) (n:=1100) l j (fun a ha=>Vz (u a (x a ha)))
 have N:∀l:List Cj,By (l.flatMap E8):=fun l=>By.flat By.fac l
 have G:∀l:List B8,By (l.flatMap F1):=fun l=>By.flat By.at l
 have key:∀f:Cj,f∈fs->M5 f.Var f.Index=some (bs (E8 f)):=fun f i=>Ak8 f.Var f.Index (q f i).2.2 (q f i).2.1 (q f i).1
 unfold Tp I3 Vy
 cases fs with
 | nil=>
  rw [A1 (by simp),cond_false]
  cases c with
  | nil=>
   rw [A1 (by simp),cond_false]
   rw [Aw1 By.nil]; rfl
  | cons a c=>
   have ha:=u a (by simp)
   have y:=Vz ha
   rw [Ap (by simp only [List.length_cons]; omega),cond_true,show Af (a::c) 0=some a from rfl,Ad]
   refine (Z5 _ ha).trans ?_
   rw [Se (By.at a) (by simp; omega),Ad]
   refine Z1 a c (fun j=>(((j+1:Nat):Int),[]++F1 a++(c.take j).flatMap F1)) (by simp [Ac,B3]) (by simp at na; omega) ?_ ?_
   .intro j b hb h1 h2 h3
    have k:=u b (by simp [Bs hb])
    have:=Vz k
    have:=D c (fun b hb=>by simp [hb]) j
    simp at na
    simp only [h1,h2,h3,cond_true,Ad]
    refine (Z5 _ k).trans ?_
    rw [Ku (By.at b) (by simp only [List.length_append,List.length_nil]; omega),Ad,Z4 hb]
    simp
   .intro h1
    refine ⟨[]++F1 a++c.flatMap F1,by simp only [h1,cond_false,List.take_length],?_⟩
    dsimp only
    rw [Sf ((By.nil.app (By.at a)).app (G c))]
    simp
 | cons f fs=>
  have i:=q f (by simp)
  have L:=Aer i.1 i.2
  rw [Ap (by simp only [List.length_cons]; omega),cond_true,show Af (f::fs) 0=some f from rfl,Ad,key f (by simp),Ad,Se (By.fac f) (by simp; omega),Ad]
  refine Z1 f fs (fun j=>(((j+1:Nat):Int),[]++E8 f++(fs.take j).flatMap E8)) (by simp [Ac,B3]) (by simp at nf; omega) ?_ ?_
  .intro j g E h1 h2 h3
   have s:g∈f::fs:=by simp [Bs E]
   have:=Aer (q g s).1 (q g s).2
   have:=A fs (fun b hb=>by simp [hb]) j
   simp at nf
   simp only [h1,h2,h3,cond_true,Ad]
   rw [key g s,Ad,Ku (By.fac g) (by simp only [List.length_append,List.length_nil]; omega),Ad,Z4 E]
   simp
  .intro h1
   have I:=A fs (fun b hb=>by simp [hb]) fs.length
   rw [List.take_length] at I
   simp at nf
   refine ⟨[]++E8 f++fs.flatMap E8,by simp only [h1,cond_false,List.take_length],?_⟩
   have z:By ([]++E8 f++fs.flatMap E8):=(By.nil.app (By.fac f)).app (N fs)
   have J:([]++E8 f++fs.flatMap E8).length<=234881024:=by simp only [List.length_append,List.length_nil]; omega
   have M:(f::fs).flatMap E8 = []++E8 f++fs.flatMap E8:=by simp
   rw [M]
   generalize []++E8 f++fs.flatMap E8=B at z J
   cases c with
   | nil=>
    rw [A1 (by simp),cond_false,Sf z]; simp
   | cons a c=>
    have ha:=u a (by simp)
    have y:=Vz ha
    rw [Ap (by simp only [List.length_cons]; omega),cond_true,show Af (a::c) 0=some a from rfl,Ad]
    refine (Z5 _ ha).trans ?_
    rw [Ku (By.at a) (by omega),Ad]
    refine Z1 a c (fun j=>(((j+1:Nat):Int),B++F1 a++(c.take j).flatMap F1)) (by simp [Ac,B3]) (by simp at na; omega) ?_ ?_
    .intro j b hb h1 h2 h3
     have k:=u b (by simp [Bs hb])
     have:=Vz k
     have:=D c (fun b hb=>by simp [hb]) j
     simp at na
     simp only [h1,h2,h3,cond_true,Ad]
     refine (Z5 _ k).trans ?_
     rw [Ku (By.at b) (by simp only [List.length_append]; omega),Ad,Z4 hb]
     simp
    .intro h1
     refine ⟨B++F1 a++c.flatMap F1,by simp only [h1,cond_false,List.take_length],?_⟩
     dsimp only
     rw [Sf ((z.app (By.at a)).app (G c))]
     simp
end Go.Ab
namespace Go.Ab
open Go
def plc (ts:List Aq):List (ByteArray×Int):=ts.zipIdx.map fun q=>(I3 q.1.Mono,(q.2:Int))
def Dst (ts:List Aq):Prop:=ts.Pairwise fun t u=>t.Mono≠u.Mono
theorem Aw8 (ts:List Aq) (t:Aq):plc (ts++[t])=plc ts++[(I3 t.Mono,(ts.length:Int))]:=by
 unfold plc; simp [List.zipIdx_append]
theorem V1 (ts:List Aq) (j:Nat):(plc ts)[j]? = (ts[j]?).map fun t=>(I3 t.Mono,(j:Int)):=by
 unfold plc; simp [List.getElem?_map,List.getElem?_zipIdx]
 cases ts[j]? <;> rfl
theorem Aw9 {ts:List Aq} {j:Nat} {t u:Aq} (h:ts[j]? = some t) (b:u.Mono=t.Mono):plc (ts.set j u)=plc ts:=by
 apply List.ext_getElem?
 intro i
 rw [V1,V1,List.getElem?_set]
 by_cases e:j=i
 .subst e
  rw [if_pos rfl,if_pos (Es h),h]; simp [b]
 .rw [if_neg e]
theorem Ams {α:Type}:∀(o:List (ByteArray×α)) (s:ByteArray) (v:α),Ea o s=false->Ep o s v=o++[(s,v)]
 | [],_,_,_=>rfl
 | p::o,s,v,h=>by
  simp only [Ea,List.any_cons,Bool.or_eq_false_iff] at h
  simp only [Ep,h.1,cond_false,List.cons_append,List.cons.injEq,true_and]
  exact Ams o s v h.2
theorem Axa {ts:List Aq} {m:Ba} (h:∀t∈ts,t.Mono≠m):Ea (plc ts) (I3 m)=false:=by
 unfold Ea
 rw [List.any_eq_false]
 intro p hp
 obtain ⟨j,hj⟩:=List.getElem?_of_mem hp
 rw [V1] at hj
 cases ht:ts[j]? with
 | none=>rw [ht] at hj; cases hj
 | some t=>
  rw [ht] at hj
  simp only [Option.map_some,Option.some.injEq] at hj
  subst hj
  intro e
  have e:=(Pm _ _).1 e
  exact h t (Bs ht) (Amg e).symm
theorem Axb {ts:List Aq} (hd:Dst ts) {j:Nat} {t:Aq} (h:ts[j]? = some t):Ea (plc ts) (I3 t.Mono)=true/\Hf (plc ts) (I3 t.Mono) 0=(j:Int):=by
 have hp:(plc ts)[j]? = some (I3 t.Mono,(j:Int)):=by rw [V1,h]; rfl
 refine ⟨List.any_eq_true.2 ⟨_,Bs hp,(Pm _ _).2 rfl⟩,?_⟩
 unfold Hf
 have b:(plc ts).find? (fun p=>I3 t.Mono==p.1)=some (I3 t.Mono,(j:Int)):=by
  cases b:(plc ts).find? (fun p=>I3 t.Mono==p.1) with
  | none=>
   have:=List.find?_eq_none.1 b _ (Bs hp)
   exact (this ((Pm _ _).2 rfl)).elim
  | some q=>
   have h1:=List.find?_some b
   obtain ⟨i,hi⟩:=List.getElem?_of_mem (List.mem_of_find?_eq_some b)
   rw [V1] at hi
   cases hu:ts[i]? with
   | none=>rw [hu] at hi; cases hi
   | some u=>
    rw [hu] at hi
    simp only [Option.map_some,Option.some.injEq] at hi
    subst hi
    have e:=Amg ((Pm _ _).1 h1)
    have g:i=j:=by
     have f:=Es hu
     have c:=Es h
     rw [Bw f] at hu
     rw [Bw c] at h
     rcases Nat.lt_trichotomy i j with k | k | k
     .have:=List.pairwise_iff_getElem.1 hd i j f c k
      rw [Option.some.inj hu,Option.some.inj h] at this
      exact (this e.symm).elim
     .exact k
     .have:=List.pairwise_iff_getElem.1 hd j i c f k
      rw [Option.some.inj hu,Option.some.inj h] at this
      exact (this e).elim
    subst g
    rw [e]
 rw [b]; rfl
open Classical in
theorem Mc (t:Aq) (p:List Aq) (m:Ba):cf (t::p) m=(if t.Mono=m then rq t.Coef else 0)+cf p m:=by
 simp only [cf]
 by_cases e:t.Mono=m
 .rw [if_pos (Ny.2 e),if_pos e]
 .rw [if_neg (fun h=>e (Ny.1 h)),if_neg e]
open Classical in
theorem Amt:∀{ts:List Aq} {j:Nat} {t u:Aq},ts[j]? = some t->u.Mono=t.Mono->∀m,cf (ts.set j u) m=cf ts m+(if t.Mono=m then rq u.Coef-rq t.Coef else 0)
 | [],j,t,u,h,_,m=>by simp at h
 | s::ts,0,t,u,h,hm,m=>by
  simp only [List.getElem?_cons_zero,Option.some.injEq] at h
  subst h
  rw [List.set_cons_zero,Mc,Mc,hm]
  split <;> grind
 | s::ts,j+1,t,u,h,hm,m=>by
  simp only [List.getElem?_cons_succ] at h
  rw [List.set_cons_succ,Mc,Mc,Amt h hm m]
  grind
theorem Dst.set {ts:List Aq} (h:Dst ts) {j:Nat} {t u:Aq} (ht:ts[j]? = some t) (b:u.Mono=t.Mono):Dst (ts.set j u):=by
 have e:(ts.set j u).map (·.Mono)=ts.map (·.Mono):=by
  apply List.ext_getElem?
  intro i
  rw [List.getElem?_map,List.getElem?_map,List.getElem?_set]
  by_cases e:j=i
  .subst e; rw [if_pos rfl,if_pos (Es ht),ht]; simp [b]
  .rw [if_neg e]
 have k:∀l:List Aq,Dst l↔(l.map (·.Mono)).Pairwise (·≠·):=fun l=>by rw [List.pairwise_map]; exact Iff.rfl
 rw [k,e,<-k]; exact h
structure Col (k:Nat) (P:Ba->Prop) (ts:List Aq):Prop where
 dst:Dst ts
 tb:∀t∈ts,RB k t.Coef
 mo:∀t∈ts,P t.Mono
theorem Col.nil (k:Nat) (P:Ba->Prop):Col k P []:=⟨List.Pairwise.nil,fun _ h=>(by cases h),fun _ h=>(by cases h)⟩
theorem Amu {k0 k:Nat} {P:Ba->Prop} (J:∀m,P m->CMo m) (l ts:List Aq) (y:Col k0 P ts) (I:∀t∈l,RB k t.Coef/\P t.Mono) (hk:k<=k0) (S:k0+l.length*(k+3)<34359738000) (R:ts.length+l.length<=1099511627776) :
  ∃f,Lr l (plc ts) ts=some (plc f,f)/\Col (k0+l.length*(k+3)) P f/\f.length<=ts.length+l.length/\∀m,cf f m=cf ts m+cf l m:=by
 unfold Lr
 refine Ys (A:=List Aq) (fun f=>(plc f,f)) ?_
 refine Db (fun s=>∃(j:Nat) (u:List Aq),s=((j:Int),plc u,u)/\j<=l.length/\Col (k0+j*(k+3)) P u/\u.length<=ts.length+j/\∀m,cf u m=cf ts m+cf (l.take j) m) (fun s=>l.length-s.1.toNat)
  (fun z=>∃u,z=(plc u,u)/\Col (k0+l.length*(k+3)) P u/\u.length<=ts.length+l.length/\∀m,cf u m=cf ts m+cf l m) ⟨0,ts,rfl,by omega,by simpa using y,by omega,fun m=>by simp only [List.take_zero,cf]; grind⟩ ?_ ?_
 .rintro _ ⟨j,u,rfl,hj,hu,q,hv⟩
  rcases Nat.lt_or_ge j l.length with h | h
  .have hx:l[j]? = some l[j]:=Bw h
   generalize l[j]=x at hx
   obtain ⟨hb,E⟩:=I x (Bs hx)
   have D:j*(k+3)+(k+3)<=l.length*(k+3):=by rw [<-Nat.succ_mul]; exact Nat.mul_le_mul_right _ h
   have B:(j+1)*(k+3)=j*(k+3)+(k+3):=by rw [Nat.succ_mul]
   simp only [Ap (by omega:(j:Int)<(l.length:Int)),cond_true,B1 rfl hx,Ad,Aw7 (J _ E),C2 h (by omega)]
   left
   by_cases hex:∃t∈u,t.Mono=x.Mono
   .obtain ⟨t,ht,G⟩:=hex
    obtain ⟨i,hi⟩:=List.getElem?_of_mem ht
    obtain ⟨g1,g2⟩:=Axb hu.dst hi
    rw [G] at g1 g2
    obtain ⟨c,N,_,M,U,L⟩:=Zv (hu.tb t ht) hb (by omega) (by omega)
    refine ⟨((j+1:Nat),plc (u.set i ⟨c,t.Mono⟩),u.set i ⟨c,t.Mono⟩),?_,⟨j+1,u.set i ⟨c,t.Mono⟩,rfl,by omega,⟨hu.dst.set hi rfl,?_,?_⟩,by rw [List.length_set]; omega,fun m=>?_⟩,by simp; omega⟩
    .simp only [g1,g2,cond_true,Ad,B1 rfl hi,N,Gt rfl,Aw9 (u:=⟨c,t.Mono⟩) hi rfl]
    .intro w hw
     rcases List.mem_or_eq_of_mem_set hw with hw | rfl
     .exact (hu.tb w hw).mono (by omega)
     .exact M.mono (by omega)
    .intro w hw
     rcases List.mem_or_eq_of_mem_set hw with hw | rfl
     .exact hu.mo w hw
     .exact hu.mo t ht
    .rw [Amt (u:=⟨c,t.Mono⟩) hi rfl m,hv m,C7 hx,Sd,Mc]
     simp only [L,G,cf]
     split <;> grind
   .have g:=Axa (m:=x.Mono) (ts:=u) fun t ht e=>hex ⟨t,ht,e⟩
    refine ⟨((j+1:Nat),plc (u++[x]),u++[x]),?_,⟨j+1,u++[x],rfl,by omega,⟨?_,?_,?_⟩,by simp; omega,fun m=>?_⟩,by simp; omega⟩
    .simp only [g,cond_false,Ad]
     rw [D2 (by simp; omega),Ad,Ams _ _ _ g,Aw8]
    .refine List.pairwise_append.2 ⟨hu.dst,List.pairwise_singleton _ _,fun a ha b hb=>?_⟩
     simp only [List.mem_singleton] at hb
     subst hb
     exact fun e=>hex ⟨a,ha,e⟩
    .intro w hw
     rcases List.mem_append.1 hw with hw | hw
     .exact (hu.tb w hw).mono (by omega)
     .simp only [List.mem_singleton] at hw
      subst hw
      exact hb.mono (by omega)
    .intro w hw
     rcases List.mem_append.1 hw with hw | hw
     .exact hu.mo w hw
     .simp only [List.mem_singleton] at hw
      subst hw
      exact E
    .rw [Sd,hv m,C7 hx,Sd]; grind
  .have:j=l.length:=by omega
   subst this
   rw [List.take_length] at hv
   simp only [A1 (by omega:¬(l.length:Int)<(l.length:Int)),cond_false]
   exact .inr ⟨_,rfl,u,rfl,hu,q,hv⟩
 .rintro _ ⟨u,rfl,h1,h2,h3⟩
  exact ⟨_,rfl,u,rfl,h1,h2,h3⟩
end Go.Ab
namespace Go.Ab
open Go
end Go.Ab
namespace Go.Ab
open Go
theorem Aes (x:Cf) (g:CSz x) (ps:List (List Aq)) (B:∀p∈ps,∀t∈p,TSz t) (R:ps.length<=1048576) :
  ∃r,Ju x ps=some r/\(((Ft x/\∀p∈ps,Gd x.Data x.Vars x.Res p=true)/\∃A,r = .inl (true,x,A,[],x.Data,x.Vars,x.Res.Kind,x.Res.Num,x.Res.Args)/\E7 x.Data x.Vars x.Res A) \/
   ((¬(Ft x/\∀p∈ps,Gd x.Data x.Vars x.Res p=true))/\r = .inr false)):=by
 obtain ⟨b,b1,b2⟩:=Adv g.ds
 have L:=g.nv
 have J:=g.rs
 unfold Ju
 rw [b1,Vb x.Data x.Res 0 (by omega)]
 by_cases l:x.Vars.length<=3000
 .rw [A1 (by omega)]
  simp only [cond_false,Ad]
  cases b with
  | false=>exact ⟨_,rfl,.inr ⟨fun h=>(by have:=b2.2 h.1.2.1; cases this),rfl⟩⟩
  | true=>
   have hv:=b2.1 rfl
   simp only [bnt,cond_false]
   cases D:(Dc x.Data 0 x.Res&&decide (Bg x.Res<=200)) with
   | false=>exact ⟨_,rfl,.inr ⟨fun h=>(by have:=h.1.2.2.1; rw [show G5 x.Data x.Res=false from D] at this; cases this),rfl⟩⟩
   | true=>
    simp only [bnt,cond_false,Ad]
    refine Db (fun i=>∃j:Nat,i=j/\j<=x.Vars.length/\(x.Vars.take j).all (G5 x.Data)=true) (fun i=>x.Vars.length-i.toNat)
     (fun z=>match z with | .inl r=>r=false/\¬Ft x | .inr _=>Ft x) ⟨0,rfl,by omega,by simp⟩ ?_ ?_
    .rintro i ⟨j,rfl,hj,c⟩
     rcases Nat.lt_or_ge j x.Vars.length with h | h
     .have ht:x.Vars[j]? = some x.Vars[j]:=Bw h
      generalize x.Vars[j]=t at ht
      have:=g.vs t (Bs ht)
      simp only [Ap (by omega:(j:Int)<(x.Vars.length:Int)),cond_true,B1 rfl ht,Ad,Vb x.Data t 0 (by omega),C2 h (by omega)]
      rw [show (Dc x.Data 0 t&&decide (Bg t<=200))=G5 x.Data t from rfl]
      cases G:G5 x.Data t with
      | true=>exact .inl ⟨_,rfl,⟨j+1,rfl,by omega,by rw [C7 ht,List.all_append,c]; simp [G]⟩,by simp; omega⟩
      | false=>
       refine .inr ⟨.inl false,rfl,rfl,fun hh=>?_⟩
       have:=List.all_eq_true.1 hh.2.2.2 t (Bs ht)
       rw [G] at this; cases this
     .have:j=x.Vars.length:=by omega
      subst this
      rw [List.take_length] at c
      exact .inr ⟨.inr (),by simp,l,hv,D,c⟩
    .rintro (r | u) f
     .obtain ⟨rfl,f⟩:=f
      exact ⟨_,rfl,.inr ⟨fun h=>f h.1,rfl⟩⟩
     .have I:Ft x:=f
      simp only
      refine Db (fun s=>∃(j:Nat) (o:List (ByteArray×Int)),s=((j:Int),o)/\j<=ps.length/\E7 x.Data x.Vars x.Res o/\∀p∈ps.take j,Gd x.Data x.Vars x.Res p=true) (fun s=>ps.length-s.1.toNat)
       (fun z=>match z with | .inl r=>r=false/\¬(∀p∈ps,Gd x.Data x.Vars x.Res p=true) | .inr o=>E7 x.Data x.Vars x.Res o/\∀p∈ps,Gd x.Data x.Vars x.Res p=true)
       ⟨0,[],rfl,by omega,(fun q h=>by cases h),(fun q h=>by simp at h)⟩ ?_ ?_
      .rintro _ ⟨j,o,rfl,hj,E,c⟩
       rcases Nat.lt_or_ge j ps.length with h | h
       .have ht:ps[j]? = some ps[j]:=Bw h
        generalize ps[j]=p at ht
        have k:=Bs ht
        obtain ⟨A,N,M⟩:=Av3 (I.ctx g) [] E p (B p k)
        simp only [Ap (by omega:(j:Int)<(ps.length:Int)),cond_true,B1 rfl ht,Ad,N,C2 h (by omega)]
        cases y:Gd x.Data x.Vars x.Res p with
        | true=>
         refine .inl ⟨_,rfl,⟨j+1,A,rfl,by omega,M,fun q hq=>?_⟩,by simp; omega⟩
         rw [C7 ht] at hq
         rcases List.mem_append.1 hq with hq | hq
         .exact c q hq
         .simp only [List.mem_singleton] at hq
          subst hq; exact y
        | false=>
         refine .inr ⟨.inl false,rfl,rfl,fun hh=>?_⟩
         have:=hh p k
         rw [y] at this; cases this
       .have:j=ps.length:=by omega
        subst this
        rw [List.take_length] at c
        exact .inr ⟨.inr o,by simp,E,c⟩
      .rintro (r | o) hw
       .obtain ⟨rfl,hw⟩:=hw
        exact ⟨_,rfl,.inr ⟨fun h=>hw h.2,rfl⟩⟩
       .exact ⟨_,rfl,.inl ⟨⟨I,hw.2⟩,o,rfl,hw.1⟩⟩
 .rw [Ap (by omega)]
  exact ⟨_,rfl,.inr ⟨fun h=>l h.1.1,rfl⟩⟩
theorem Aet {data:List Al} {vars:List Ag} {res:Ag} {m:Ba} (h:Ij data vars res m=true) (q:MSz m):CMo m:=by
 have c:=(Zu h).2
 unfold Ij at h
 simp only [Cl,decide_eq_true_eq] at h
 obtain ⟨⟨h1,h2⟩,h3⟩:=h
 have b:∀f∈m.Factors,0<=Fg data vars res f:=by
  intro f c
  obtain ⟨j,hj⟩:=List.getElem?_of_mem c
  have:=Gu h1 hj
  simp only [Vq,Cl,decide_eq_true_eq] at this
  omega
 have ha:∀a∈m.Atoms,1<=a.Deg/\Ii a.Lin=true/\a.Lin.Terms≠[]:=by
  intro a ha
  obtain ⟨j,hj⟩:=List.getElem?_of_mem ha
  have:=Gu h2 hj
  simp only [Pq,Cl,decide_eq_true_eq] at this
  refine ⟨this.1.1.1.1,this.1.1.1.2,fun e=>?_⟩
  have k:=this.1.1.2
  rw [e] at k; simp at k
 obtain ⟨a1,a2,a3⟩:=Alj m.Atoms fun a h=>by have:=(ha a h).1; omega
 have f1:=Avy m.Factors b
 have al:(m.Atoms.length:Int)<=F0 m.Atoms:=by
  have key:∀l:List B8,(∀a∈l,1<=a.Deg)->(l.length:Int)<=F0 l:=by
   intro l
   induction l with
   | nil=>intro _; simp [F0]
   | cons f fs ih=>
    intro i
    have h1:=i f (by simp)
    have h2:=ih (fun g s=>i g (by simp [s]))
    unfold F0 at *
    simp only [List.map_cons,List.sum_cons,List.length_cons]; omega
  exact key _ fun a h=>(ha a h).1
 exact ⟨q,c,by omega,fun a h=>⟨(ha a h).2.1,(ha a h).2.2,(ha a h).1,by have:=a3 a h; omega⟩⟩
def J6 (x:Cf) (m:Ba):Prop:=Ij x.Data x.Vars x.Res m=true/\MSz m
theorem J6.cmo {x:Cf} {m:Ba} (h:J6 x m):CMo m:=Aet h.1 h.2
structure G8 (x:Cf) (p:List Aq):Prop where
 can:Gd x.Data x.Vars x.Res p=true
 sz:∀t∈p,TSz t
theorem G8.cp {x:Cf} {p:List Aq} (h:G8 x p):CP p:=(Pw.1 h.can).2.1
theorem G8.mo {x:Cf} {p:List Aq} (h:G8 x p):∀t∈p,J6 x t.Mono:=fun t ht=>⟨(Pw.1 h.can).2.2 t ht,(h.sz t ht).mo⟩
theorem G8.of {x:Cf} {p:List Aq} (hc:CP p) (b:∀t∈p,J6 x t.Mono) (c:∀t∈p,RB 1048576 t.Coef) (f:p.length<=1000):G8 x p :=
 ⟨Pw.2 ⟨f,hc,fun t ht=>(b t ht).1⟩,fun t ht=>⟨c t ht,(b t ht).2⟩⟩
theorem G8.tb {x:Cf} {p:List Aq} (h:G8 x p):∀t∈p,RB 1048576 t.Coef/\J6 x t.Mono:=fun t ht=>⟨(h.sz t ht).co,h.mo t ht⟩
theorem Axc {x:Cf} (i:CSz x) (k:Ft x) {p q:List Aq} (hp:G8 x p) (hq:G8 x q):∃f,Ju x [p,q]=some (.inl (true,x,f,[],x.Data,x.Vars,x.Res.Kind,x.Res.Num,x.Res.Args)):=by
 have b:∀r∈[p,q],G8 x r:=by
  intro r c
  simp only [List.mem_cons,List.not_mem_nil,or_false] at c
  rcases c with rfl | rfl <;> assumption
 obtain ⟨r,h,g⟩:=Aes x i [p,q] (fun r c=>(b r c).sz) (by simp)
 rcases g with ⟨_,f,e,_⟩ | ⟨j,_⟩
 .exact ⟨f,by rw [h,e]⟩
 .exact (j ⟨k,fun r c=>(b r c).can⟩).elim
theorem Axd {r:Ao} {j k:Nat} (q:List Aq) (y:RB j r) (hq:∀t∈q,RB k t.Coef) (hj:j<34359738000) (hk:k<34359738000) (D:q.length<=1048576) :
  ∃x,Tf q r=some x/\x.length=q.length/\(∀m,cf x m=cf q m*rq r)/\∀t∈x,RB (k+j+2) t.Coef/\∃u∈q,u.Mono=t.Mono:=by
 unfold Tf
 refine Db (fun s=>∃(i:Nat) (o:List Aq),s=((i:Int),o)/\i<=q.length/\o.length=i/\(∀m,cf o m=cf (q.take i) m*rq r)/\∀t∈o,RB (k+j+2) t.Coef/\∃u∈q,u.Mono=t.Mono) (fun s=>q.length-s.1.toNat)
  (fun o=>o.length=q.length/\(∀m,cf o m=cf q m*rq r)/\∀t∈o,RB (k+j+2) t.Coef/\∃u∈q,u.Mono=t.Mono) ⟨0,[],rfl,by omega,rfl,(fun m=>by simp only [List.take_zero,cf]; grind),fun _ h=>by cases h⟩ ?_ ?_
 .rintro _ ⟨i,o,rfl,hi,l,b,g⟩
  rcases Nat.lt_or_ge i q.length with h | h
  .have hx:q[i]? = some q[i]:=Bw h
   generalize q[i]=t at hx
   have f:=Bs hx
   obtain ⟨c,B,_,A,E,z⟩:=Sb (hq t f) y hk hj
   simp only [Ap (by omega:(i:Int)<(q.length:Int)),cond_true,B1 rfl hx,Ad,B,C2 h (by omega)]
   rw [D2 (by simp; omega)]
   refine .inl ⟨_,rfl,⟨i+1,o++[⟨c,t.Mono⟩],rfl,by omega,by simp [l],fun m=>?_,fun w hw=>?_⟩,by simp; omega⟩
   .rw [Sd,b,C7 hx,Sd]
    simp only [cf,z]
    split <;> grind
   .rcases List.mem_append.1 hw with hw | hw
    .exact g w hw
    .simp only [List.mem_singleton] at hw
     subst hw
     exact ⟨A,t,f,rfl⟩
  .have:i=q.length:=by omega
   subst this
   rw [List.take_length] at b
   simp only [A1 (by omega:¬(q.length:Int)<(q.length:Int)),cond_false]
   exact .inr ⟨_,rfl,l,b,g⟩
 .rintro o ⟨h1,h2,h3⟩
  exact ⟨_,rfl,h1,h2,h3⟩
theorem Amv {k:Nat} (ts:List Aq) (h:∀t∈ts,RB k t.Coef) (hk:k<34359738000) (f:ts.length<=1048576):Oj ts=some (ts.all fun t=>decide (0<=rq t.Coef)):=by
 have b:∀x:Rat,decide (I2 x<(0:Int)) = !decide (0<=x):=by
  intro x
  unfold I2
  by_cases h1:x<0
  .rw [if_pos h1,A1 (Rat.not_le.2 h1)]; rfl
  .rw [if_neg h1,Ap (Rat.not_lt.1 h1)]
   split <;> rfl
 have key:=Yy ts (fun t=>!decide (0<=rq t.Coef)) (by omega) (J:=fun z=>match z with | .inl c=>some c | .inr _=>some (-1)) (step:=fun v3=>bif (decide (v3<(ts.length:Int))) then ((Af ts v3).bind fun v4=>(Th v4).bind fun v5=>bif v5 then some (.inr (.inl v3)) else some (.inl (Ac (v3+1)))) else some (.inr (.inr ()))) (by
  intro j t ht h1 h2 h3
  simp only [h1,h2,h3,cond_true,Ad,Th,(Zw (h t ht) hk).1,b]) (fun h=>by simp only [h]; rfl) (fun _=>rfl) rfl
 obtain ⟨i,i1,i2⟩:=key
 have e:Xt ts=some i:=i1
 unfold Oj Xo
 rw [e,Ad,Ad,i2,List.not_any_eq_all_not]
 simp
open Classical in
theorem Axe {ts:List Aq} (hd:Dst ts) {t:Aq} (ht:t∈ts):cf ts t.Mono=rq t.Coef:=by
 induction ts with
 | nil=>cases ht
 | cons u ts ih=>
  obtain ⟨h1,h2⟩:=List.pairwise_cons.1 hd
  rw [Mc]
  have none:∀(l:List Aq) (m:Ba),(∀w∈l,w.Mono≠m)->cf l m=0:=fun l m h=>Al5 fun w hw e=>h w hw (Ny.1 e)
  rcases List.mem_cons.1 ht with rfl | ht
  .rw [if_pos rfl,none ts t.Mono (fun w hw e=>h1 w hw e.symm)]; grind
  .rw [if_neg (h1 t ht),ih h2 ht]; grind
open Classical in
theorem Amw {ts:List Aq} (hd:Dst ts):(ts.all fun t=>decide (0<=rq t.Coef))=true↔∀m,0<=cf ts m:=by
 rw [List.all_eq_true]
 constructor
 .intro h m
  clear hd
  induction ts with
  | nil=>exact Rat.le_refl
  | cons t ts ih=>
   have h1:=h t (by simp)
   have h2:=ih fun u hu=>h u (by simp [hu])
   simp only [decide_eq_true_eq] at h1
   rw [Mc]
   split <;> grind
 .intro h t ht
  have:=h t.Mono
  rw [Axe hd ht] at this
  simpa using this
theorem Axf:∃r,De (-1)=some r/\RB 1 r/\rq r = -1:=by
 refine ⟨_,Rs (-1) (by decide) (by decide),?_,?_⟩
 .exact J5 _ _ _ 1 (Iy (by decide)) (Iy (by decide)) (by omega)
 .rw [Lm _ _ _ (by decide)]; decide
theorem Axg {x:Cf} (G:CSz x) (I:Ft x) {p q:List Aq} (hp:G8 x p) (hq:G8 x q) :
  ∃b,S8 x p q=some b/\(b=true↔∀m,cf q m<=cf p m):=by
 obtain ⟨M,hb⟩:=Axc G I hp hq
 have L:=(Pw.1 hp.can).1
 have J:=(Pw.1 hq.can).1
 unfold S8
 rw [hb]
 simp only [Ad,bnt,cond_false,Qt]
 obtain ⟨u,s,l,c,j⟩:=Amu (k0:=1048579) (k:=1048576) (P:=J6 x) (fun m h=>h.cmo) p [] (Col.nil _ _) hp.tb (by omega) (by omega) (by simp; omega)
 obtain ⟨r,A,z,y⟩:=Axf
 obtain ⟨E,D,g,B,f⟩:=Axd (k:=1048576) q z (fun t ht=>(hq.tb t ht).1) (by omega) (by omega) (by omega)
 obtain ⟨v,i,v2,v3,v4⟩:=Amu (k:=1048579) (P:=J6 x) (fun m h=>h.cmo) E u l (fun t ht=>⟨(f t ht).1,by obtain ⟨w,hw,e⟩:=(f t ht).2; rw [<-e]; exact (hq.tb w hw).2⟩) (by omega) (by rw [g]; omega) (by simp at c; omega)
 simp at c
 rw [show Lr p [] []=some (plc u,u) from s,Ad,A,Ad,D,Ad,i,Ad]
 rw [Amv v v2.tb (by rw [g]; omega) (by omega),Ad]
 refine ⟨_,rfl,(Amw v2.dst).trans ?_⟩
 have e:∀m,cf v m=cf p m-cf q m:=by
  intro m; rw [v4,j,B,y]; simp only [cf]; grind
 constructor
 .intro h m; have:=h m; rw [e] at this; grind
 .intro h m; have:=h m; rw [e]; grind
end Go.Ab
namespace Go.Ab
open Go
end Go.Ab
namespace Go.Ab
open Go
def bc:Nat->Nat->Nat
 | _,0=>1
 | 0,_+1=>0
 | n+1,k+1=>bc n k+bc n (k+1)
theorem Aeu (n:Nat):bc n 0=1:=by cases n <;> rfl
theorem V2:∀{n k:Nat},n<k->E6 n k=0
 | n,0,h=>absurd h (by omega)
 | n,k+1,h=>by
  rw [E6]
  by_cases e:n<k
  .rw [V2 e,Nat.zero_mul]
  .rw [show n-k=0 by omega,Nat.mul_zero]
theorem Amx (n:Nat):∀k,E6 (n+1) (k+1)=(n+1)*E6 n k
 | 0=>by simp [E6]
 | k+1=>by
  rw [E6,Amx n k,E6,show n+1-(k+1)=n-k by omega,Nat.mul_assoc]
theorem V3:∀n k,E6 n k=fct k*bc n k
 | n,0=>by rw [Aeu]; rfl
 | 0,k+1=>by rw [V2 (by omega)]; simp [bc]
 | n+1,k+1=>by
  have h1:=V3 n (k+1)
  have h2:=V3 n k
  rw [Amx,bc,Nat.mul_add,<-h1,fct,E6,Nat.mul_right_comm,<-h2]
  by_cases e:k<=n
  .rw [<-Nat.mul_add,Nat.mul_comm,show k+1+(n-k)=n+1 by omega]
  .rw [V2 (by omega)]; simp
def cR (n:Nat):Ao:=Bf false n 1
theorem V4 (n:Nat):sv (cR n)=false/\nv (cR n)=n/\dv (cR n)=1:=by
 obtain ⟨g,f,c,b⟩:=Y5 false n 1 (by decide)
 refine ⟨?_,?_,?_⟩
 .by_cases h:n=0
  .exact b h
  .exact c h
 .unfold cR; rw [g]; simp
 .unfold cR; rw [f]; simp
theorem Md {n k:Nat} (h:A9 n<=k) (hk:1<=k):RB k (cR n):=J5 _ _ _ _ h (by rw [L2]; exact hk) hk
theorem Axh {a b K:Nat} (ha:A9 a<=K) (hb:A9 b<=K) (c:1<=K) (h:K<60000000000):Gr (cR a) (cR b)=some (cR (a+b)):=by
 obtain ⟨a1,a2,a3⟩:=V4 a
 obtain ⟨b1,b2,f⟩:=V4 b
 rw [Adj _ _ K K (Md ha c) (Md hb c) (by omega) (by omega),a1,a2,a3,b1,b2,f]
 simp [Iz,Hj,cR]
theorem Axi {a K:Nat} (ha:A9 a<=K) (b:1<=K) (h:K<60000000000):Hg (cR a)=some (if a=0 then 0 else 1):=by
 obtain ⟨a1,a2,a3⟩:=V4 a
 rw [Adh _ K (Md ha b) (by omega),a1,a2]
 simp [Hi]
theorem Aev:De 0=some (cR 0):=Rs 0 (by decide) (by decide)
theorem Aew:De 1=some (cR 1):=Rs 1 (by decide) (by decide)
theorem Amy (n k:Nat) (b:n<1000000000) (hk:k<=64):Ua (n:Int) (k:Int)=some (cR (bc n k),true):=by
 unfold Ua
 have e:(if (n:Int)>0 then (n:Int) else 0)=(n:Int):=by split <;> omega
 simp only [A1 (by omega:¬(k:Int)<0),cond_false,A1 (by omega:¬(k:Int)>64),Ad,e,Aub n k b hk]
 rw [V3,show Bf false (fct k*bc n k) (fct k)=Bf false (fct k*bc n k) (fct k*1) by rw [Nat.mul_one],Pk _ _ _ _ (U9 k)]
 rfl
theorem Axj (n k:Nat) (b:n<1000000000) (hk:k<=64):Ac1 (n:Int) (k:Int)=some (cR (bc n k),true):=Amy n k b hk
theorem Aex:∀(l:List Ag) (r:List Bool) (s:Nat) (n:Nat) (p:Int) (L:Nat->Option Ag),l.length=r.length->(∀j,L (s+j)=l[j]?) ->
  (((r.zipIdx s).filter fun q=>!q.1).map fun q=>(q.2:Int))[n]? = some p->∃(m:Nat) (a:Ag),p=m/\L m=some a/\(Ew l r)[n]? = some a
 | [],[],s,n,p,L,_,_,h=>by simp at h
 | a::l,b::r,s,n,p,L,i,g,h=>by
  have c:l.length=r.length:=by simpa using i
  have f:∀j,L (s+1+j)=l[j]?:=fun j=>by rw [show s+1+j=s+(j+1) by omega,g]; rfl
  cases b with
  | true=>
   simp only [List.zipIdx_cons,List.filter_cons,bnt] at h
   obtain ⟨m,x,h1,h2,h3⟩:=Aex l r (s+1) n p L c f (by simpa using h)
   exact ⟨m,x,h1,h2,by simpa [Ew] using h3⟩
  | false=>
   simp only [List.zipIdx_cons,List.filter_cons,Bool.not_false,if_true,List.map_cons] at h
   cases n with
   | zero=>
    simp only [List.getElem?_cons_zero,Option.some.injEq] at h
    exact ⟨s,a,h.symm,by have:=g 0; simpa using this,by simp [Ew]⟩
   | succ n=>
    simp only [List.getElem?_cons_succ] at h
    obtain ⟨m,x,h1,h2,h3⟩:=Aex l r (s+1) n p L c f h
    exact ⟨m,x,h1,h2,by simpa [Ew] using h3⟩
 | [],_::_,_,_,_,_,h,_,_=>by simp at h
 | _::_,[],_,_,_,_,h,_,_=>by simp at h
theorem Axk {l:List Ag} {r:List Bool} (b:l.length=r.length) {n:Nat} {p:Int} (h:(F3 r)[n]? = some p):∃(m:Nat) (a:Ag),p=m/\l[m]? = some a/\(Ew l r)[n]? = some a :=
 Aex l r 0 n p (fun j=>l[j]?) b (fun j=>by simp) (by unfold F3 at h; exact h)
theorem Axl (l:List Ag) (r:List Bool) (c:l.length=r.length):(F3 r).length=(Ew l r).length:=by
 unfold F3 Ew
 rw [List.length_map,List.length_map]
 have key:∀(l:List Ag) (r:List Bool) (s:Nat),l.length=r.length->((r.zipIdx s).filter fun q=>!q.1).length=((l.zip r).filter fun p=>!p.2).length:=by
  intro l
  induction l with
  | nil=>intro r s h; have:r = []:=List.length_eq_zero_iff.1 h.symm; subst this; rfl
  | cons a l ih=>
   intro r s h
   cases r with
   | nil=>simp at h
   | cons b r=>
    have:=ih r (s+1) (by simpa using h)
    cases b <;> simp [this]
 exact key l r 0 c
theorem Axm {data:List Al} {t:Ag} (hk:t.Kind=5):∀(n:Nat) (v:Ay),Ce v<=n->E3 data v t=true->∀x∈Ge data t.Num v,E3 data x t=true/\Ce x<=Ce v:=by
 intro n
 induction n with
 | zero=>intro v h; have:=R8 v; omega
 | succ n ih=>
  intro v h q x hx
  have s:=I1 v
  obtain ⟨y,_,_,_,k,f⟩:=Zt hk q
  rw [Alu] at hx
  rcases List.mem_cons.1 hx with rfl | hx
  .exact ⟨q,Nat.le_refl _⟩
  .have key:∀(l:List Ay) (r:List Bool),(∀(j:Nat) (w:Ay),l[j]? = some w->r[j]? = some true->E3 data w t=true)->C8 l<=n->x∈Fu data t.Num l r->E3 data x t=true/\Ce x<=C8 l:=by
    intro l
    induction l with
    | nil=>intro r _ _ hx; simp [Fu] at hx
    | cons w l c=>
     intro r i u hx
     cases r with
     | nil=>simp [Fu] at hx
     | cons b r=>
      have hw:C8 (w::l)=Ce w+C8 l:=by simp [C8]
      have g:∀(j:Nat) (w':Ay),l[j]? = some w'->r[j]? = some true->E3 data w' t=true:=fun j w' h1 h2=>i (j+1) w' h1 h2
      cases b with
      | true=>
       simp only [Fu,cond_true,List.mem_append] at hx
       rcases hx with hx | hx
       .have:=ih w (by omega) (i 0 w rfl rfl) x hx
        exact ⟨this.1,by omega⟩
       .have:=c r g (by omega) hx
        exact ⟨this.1,by omega⟩
      | false=>
       simp only [Fu,cond_false,List.nil_append] at hx
       have:=c r g (by omega) hx
       exact ⟨this.1,by omega⟩
   have:=key v.Kids _ f (by omega) hx
   exact ⟨this.1,by omega⟩
theorem Aey (data:List Al):∀(c:List A5) (ts:List Ag) (d:Nat),Cx data c ts=some d->c.length=ts.length/\∀(j:Nat) (i:A5) (t:Ag),c[j]? = some i->ts[j]? = some t->∃e,Et data i t=some e/\e<=d
 | [],[],d,_=>⟨rfl,fun j i t h=>by simp at h⟩
 | i::c,t::ts,d,h=>by
  rw [Nt] at h
  cases h1:Et data i t with
  | none=>rw [h1] at h; cases h
  | some a=>
   rw [h1,Ad] at h
   cases h2:Cx data c ts with
   | none=>rw [h2] at h; cases h
   | some b=>
    rw [h2] at h
    have h:a+b=d:=Option.some.inj h
    obtain ⟨g1,g2⟩:=Aey data c ts b h2
    refine ⟨by simp [g1],fun j i' f hi ht=>?_⟩
    cases j with
    | zero=>cases hi; cases ht; exact ⟨a,h1,by omega⟩
    | succ j=>
     obtain ⟨e,g,k⟩:=g2 j i' f hi ht
     exact ⟨e,g,by omega⟩
 | [],_::_,_,h=>by simp only [Cx] at h; cases h
 | _::_,[],_,h=>by simp only [Cx] at h; cases h
end Go.Ab
namespace Go.Ab
open Go
def Jj (data:List Al) (t:Ag) (e:A5):Uv:=⟨e.Num,e.Kids,F3 (C3 data t.Num e.Num),match G4 data t e.Num with | some l=>Ew l (C3 data t.Num e.Num) | none=>[]⟩
def Gf (n:Nat) (f:Nat->Nat):List Ao:=(List.range (n+1)).map fun q=>cR (f q)
theorem Pz (n:Nat) (f:Nat->Nat):(Gf n f).length=n+1:=by simp [Gf]
theorem Nz {n q:Nat} (f:Nat->Nat) (h:q<=n):(Gf n f)[q]? = some (cR (f q)):=by
 unfold Gf
 rw [List.getElem?_map,List.getElem?_range (by omega)]; rfl
theorem Amz {n q x:Nat} {f g:Nat->Nat} (h:q<=n) (h1:g q=x) (h2:∀p,p<=n->p≠q->g p=f p):Cp (Gf n f) (q:Int) (cR x)=Gf n g:=by
 rw [Gt (n:=q) rfl]
 apply List.ext_getElem?
 intro i
 rw [List.getElem?_set]
 rcases Nat.lt_or_ge i (n+1) with hi | hi
 .rw [Nz f (by omega),Nz g (by omega),Pz]
  by_cases e:q=i
  .subst e; rw [if_pos rfl,if_pos (by omega),h1]
  .rw [if_neg e,h2 i (by omega) (Ne.symm e)]
 .rw [List.getElem?_eq_none (by rw [Pz]; exact hi),List.getElem?_eq_none (by rw [Pz]; exact hi)]
  split
  .rw [if_neg (by rw [Pz]; omega)]
  .rfl
theorem Aez {n:Nat} {f g:Nat->Nat} (h:∀p,p<=n->f p=g p):Gf n f=Gf n g:=by
 apply List.ext_getElem?
 intro i
 rcases Nat.lt_or_ge i (n+1) with hi | hi
 .rw [Nz f (by omega),Nz g (by omega),h i (by omega)]
 .rw [List.getElem?_eq_none (by rw [Pz]; exact hi),List.getElem?_eq_none (by rw [Pz]; exact hi)]
theorem Axn (c:List Ag) (Q:List Bool) (y:Q.length=c.length) (z:c.length<=6) {R:Type} {J:Int×List Int×List Ag->Option R} {r:R} (x:J ((Q.length:Int),F3 Q,Ew c Q)=some r) :
  (Aj (S:=(Int×(List Int)×(List Ag))) (E:=(Int×(List Int)×(List Ag))) (fun (v85,g,f)=>
   bif (decide (v85<(Q.length:Int))) then (
   (Af Q v85).bind fun i=>
   bif (!i) then (
   (B6 8 g [v85]).bind fun l=>
   (Af c v85).bind fun h=>
   (B6 40 f [h]).bind fun k=>
   some (.inl ((Ac (v85+1)),l,k)))
   else some (.inl ((Ac (v85+1)),g,f)))
   else some (.inr (v85,g,f))) (0,[],[])).bind J=some r:=by
 have s:∀j,(F3 (Q.take j)).length<=Q.length:=fun j=>by
  unfold F3
  rw [List.length_map]
  refine Nat.le_trans (List.length_filter_le _ _) ?_
  simp; omega
 refine Fe Q (fun j=>((j:Int),F3 (Q.take j),Ew (c.take j) (Q.take j))) (by simp [F3,Ew]) (by omega) ?_ ?_
 .intro j b hj hb h1 h2 h3
  have ha:c[j]? = some c[j]:=Bw (by omega)
  generalize c[j]=a at ha
  have u:=Zi (c.take j) (Q.take j)
  have:(c.take j).length<=6:=by simp; omega
  have hp:=s j
  have q:F3 (Q.take (j+1))=F3 (Q.take j)++bif b then [] else [(j:Int)]:=by
   unfold F3
   rw [Au5 hb,List.filter_append,List.map_append]
   cases b <;> rfl
  simp only [h1,h2,h3,cond_true,Ad,q,Adx ha hb]
  cases b with
  | true=>simp
  | false=>
   simp only [Bool.not_false,cond_true,cond_false]
   rw [D2 (by simp; omega),Ad,B1 rfl ha,Ad,D2 (by simp; omega)]; rfl
 .intro h1
  exact ⟨_,by simp only [h1]; rfl,by rw [List.take_length,List.take_of_length_le (by omega)]; exact x⟩
theorem Axo (n:Nat) (k:n<=100) {R:Type} {J:List Ao->Option R} {r:R} (h:J (List.replicate n (cR 0))=some r) :
  (Aj (S:=(Int×(List Ao))) (E:=(List Ao)) (fun (b,c)=>
   bif (decide (b<(((List.replicate n (Ao.mk false [] [])).length:Nat):Int))) then (
   (De 0).bind fun f=>
   (Af c b).bind fun g=>
   some (.inl ((Ac (b+1)),(Cp c b f))))
   else some (.inr c)) (0,List.replicate n (Ao.mk false [] []))).bind J=some r:=by
 refine Fe (List.replicate n (Ao.mk false [] [])) (fun j=>((j:Int),List.replicate j (cR 0)++List.replicate (n-j) (Ao.mk false [] []))) (by simp) (by simp; omega) ?_ ?_
 .intro j x hj hx h1 h2 h3
  have hj':j<n:=by simpa using hj
  have i:List.replicate (n-j) (Ao.mk false [] [])=Ao.mk false [] []::List.replicate (n-(j+1)) (Ao.mk false [] []):=by rw [show n-j=(n-(j+1))+1 by omega]; rfl
  simp only [h1,h3,cond_true,Aev,Ad,i]
  rw [Ve (List.replicate j (cR 0)) _ _ _ j rfl (by simp),Ad,Vd _ _ _ _ _ j rfl (by simp)]
  rw [List.replicate_succ']; simp
 .intro h1
  exact ⟨List.replicate n (cR 0),by simp only [h1]; simp,h⟩
end Go.Ab
namespace Go.Ab
open Go
end Go.Ab
namespace Go.Ab
open Go
theorem Axp:Ti []=some []:=by kernel_rfl
theorem Axq (l:List Int):Ti l=some (l.mergeSort fun x y=>decide (x<=y)):=by
 cases l with
 | nil=>rw [Axp]; simp
 | cons a l=>rfl
theorem Axr (l:List Int):(l.mergeSort fun x y=>decide (x<=y)).Pairwise (·<=·):=by
 have:=List.pairwise_mergeSort (le:=fun x y:Int=>decide (x<=y)) (fun a b c h1 h2=>by simp only [decide_eq_true_eq] at *; omega) (fun a b=>by simp only [Bool.or_eq_true,decide_eq_true_eq]; omega) l
 exact this.imp (fun h=>by simpa using h)
structure Asc (b:List Int) (n:Nat) (l:List Int):Prop where
 up:l.Pairwise (· < ·)
 mem:∀y,y∈l↔y∈b.take n
theorem Axs {b:List Int} (c:b.Pairwise (·<=·)) {q:Nat} {p:Int} (hp:b[q]? = some p):∀y∈b.take (q+1),y<=p:=by
 intro y hy
 obtain ⟨i,hi⟩:=List.getElem?_of_mem hy
 rw [List.getElem?_take] at hi
 split at hi
 .rename_i f
  by_cases e:i=q
  .subst e; rw [hi] at hp; cases hp; exact Int.le_refl _
  .have h1:=Es hi
   have h2:=Es hp
   have:=(List.pairwise_iff_getElem.1 c) i q h1 h2 (by omega)
   rw [Bw h1] at hi
   rw [Bw h2] at hp
   cases hi; cases hp; exact this
 .cases hi
theorem Asc.step {b:List Int} (g:b.Pairwise (·<=·)) {q:Nat} {l:List Int} {p x:Int} (h:Asc b (q+1) l) (hp:b[q]? = some p) (hx:b[q+1]? = some x) (j:x≠p):Asc b (q+2) (l++[x]):=by
 have f:=Axs g hp
 have i:p<x:=by
  have h1:=Es hp
  have h2:=Es hx
  have:=(List.pairwise_iff_getElem.1 g) q (q+1) h1 h2 (by omega)
  rw [Bw h1] at hp
  rw [Bw h2] at hx
  cases hp; cases hx; omega
 refine ⟨?_,fun y=>?_⟩
 .rw [List.pairwise_append]
  refine ⟨h.up,by simp,fun a ha c hc=>?_⟩
  rw [List.mem_singleton] at hc
  subst hc
  have:=f a ((h.mem a).1 ha)
  omega
 .rw [C7 hx,List.mem_append,List.mem_append,h.mem y]
theorem Asc.same {b:List Int} {q:Nat} {l:List Int} {x:Int} (h:Asc b (q+1) l) (hp:b[q]? = some x) (hx:b[q+1]? = some x):Asc b (q+2) l:=by
 refine ⟨h.up,fun y=>?_⟩
 rw [C7 hx,List.mem_append,h.mem y]
 constructor
 .exact .inl
 .rintro (h1 | h1)
  .exact h1
  .rw [List.mem_singleton] at h1
   subst h1
   rw [C7 hp]; simp
theorem V5 {α:Type} {l:List α} {off n:Nat} {i:Int} {j:Nat} {x:α} (hi:i=j) (hj:j<n) (h:l[off+j]? = some x):Fa l off n i=some x:=by
 subst hi
 unfold Fa
 rw [if_pos (by omega)]; simpa using h
theorem Axt {X:Option (Nat×List Int)} {Q:Nat×List Int->Prop} (h:∃r,X=some r/\Q r):∃(m:Nat) (o:List Int),X=some (m,o)/\Q (m,o):=by
 obtain ⟨⟨m,o⟩,h1,h2⟩:=h
 exact ⟨m,o,h1,h2⟩
theorem Axu {X:Option (Int⊕((Nat×List Int)⊕Unit))} {P:Nat->List Int->Prop} {b:Prop} (h:∃r,X=some r/\∃(m:Nat) (o:List Int),r = .inr (.inl (m,o))/\P m o) :
  ∃e,X=some (.inr e)/\((∃(m:Nat) (o:List Int),e = .inl (m,o)/\P m o)\/(e = .inr ()/\b)):=by
 obtain ⟨_,h1,m,o,rfl,h2⟩:=h
 exact ⟨_,h1,.inl ⟨m,o,rfl,h2⟩⟩
theorem Axv (b:List Int) (R:b.Pairwise (·<=·)) (hl:b.length<=1099511627776):∃(m:Nat) (o:List Int),Qw b.length b=some (m,o)/\m<=o.length/\Asc b b.length (o.take m):=by
 unfold Qw
 by_cases h2:b.length<2
 .rw [Ap (by omega),cond_true]
  refine ⟨b.length,b,rfl,Nat.le_refl _,?_,fun y=>Iff.rfl⟩
  rw [List.take_length]
  match b,h2 with
  | [],_=>simp
  | [_],_=>simp
 .rw [A1 (by omega),cond_false]
  refine Axt (Q:=fun r:Nat×List Int=>r.1<=r.2.length/\Asc b b.length (r.2.take r.1)) ?_
  .refine Db (Q:=fun r:Nat×List Int=>r.1<=r.2.length/\Asc b b.length (r.2.take r.1)) (fun v=>∃j:Nat,v=((j+1:Nat):Int)/\j+1<=b.length/\Asc b (j+1) (b.take (j+1))) (fun v=>b.length-v.toNat) (fun e:((Nat×List Int)⊕Unit)=>(∃(m:Nat) (o:List Int),e = .inl (m,o)/\m<=o.length/\Asc b b.length (o.take m))\/(e = .inr ()/\Asc b b.length (b.take b.length))) ?_ ?_ ?_ (J:=fun z:((Nat×List Int)⊕Unit)=>match z with | .inl (G,E)=>some (G,E) | .inr _=>some (b.length,b))
   .exact ⟨0,rfl,by omega,by
     refine ⟨?_,fun y=>Iff.rfl⟩
     match b,h2 with
     | a::_,_=>simp
     | [],h=>simp at h⟩
   .rintro v ⟨j,rfl,hj,N⟩
    rcases Nat.lt_or_ge (j+1) b.length with h | h
    .have hx:b[j+1]? = some b[j+1]:=Bw h
     have hp:b[j]? = some b[j]:=Bw (by omega)
     generalize b[j+1]=x at hx
     generalize b[j]=p at hp
     have X:Ac (((j+1:Nat):Int)-1)=((j:Nat):Int):=by rw [show (((j+1:Nat):Int)-1)=(j:Int) by omega,Ac,B3] <;> omega
     simp only [Ap (by omega:((j+1:Nat):Int)<(b.length:Int)),cond_true,V5 (l:=b) (off:=0) (n:=b.length) (i:=((j+1:Nat):Int)) rfl h (by rw [Nat.zero_add]; exact hx),X,
      V5 (l:=b) (off:=0) (n:=b.length) (i:=((j:Nat):Int)) rfl (by omega) (by rw [Nat.zero_add]; exact hp),Ad,C2 h (by omega)]
     by_cases e:x=p
     .subst e
      rw [Dw rfl,cond_true]
      have A:Mt b.length ((j+1:Nat):Int) ((b.length:Nat):Int)=some (j+1,b.length):=by
       unfold Mt
       rw [if_pos (by omega)]; simp
      rw [A,Ad]
      dsimp only
      refine .inr ?_
      refine Axu (Db (Q:=fun z:(Int⊕((Nat×List Int)⊕Unit))=>∃(m:Nat) (o:List Int),z = .inr (.inl (m,o))/\m<=o.length/\Asc b b.length (o.take m)) (fun z=>∃(w k:Nat) (o:List Int),z=((w:Int),(k:Int),o)/\o.length=b.length/\w<=j+k/\1<=k/\j+1+k<=b.length/\Asc b (j+1+k) (o.take w)/\∀i,w<=i->o[i]? = b[i]?)
       (fun z=>b.length-(j+1)-z.2.1.toNat) (fun z=>∃(w k:Nat) (o:List Int),z=((w:Int),(k:Int),o)/\o.length=b.length/\w<=b.length/\Asc b b.length (o.take w)) ?_ ?_ ?_)
      .refine ⟨j+1,1,b,rfl,rfl,by omega,by omega,by omega,?_,fun _ _=>rfl⟩
       exact N.same hp hx
      .rintro z ⟨w,k,o,rfl,D,hw,hk,Z,f,c⟩
       rcases Nat.lt_or_ge (j+1+k) b.length with h' | h'
       .have hy:b[j+1+k]? = some b[j+1+k]:=Bw h'
        have hq:b[j+k]? = some b[j+k]:=Bw (by omega)
        generalize b[j+1+k]=y at hy
        generalize b[j+k]=q at hq
        have V:Ac ((k:Int)-1)=((k-1:Nat):Int):=by rw [show ((k:Int)-1)=((k-1:Nat):Int) by omega,Ac,B3] <;> omega
        have U:Ac ((k:Int)+1)=((k+1:Nat):Int):=C2 (n:=b.length) (by omega) (by omega)
        have S:Ac ((w:Int)+1)=((w+1:Nat):Int):=C2 (n:=b.length) (by omega) (by omega)
        have i1:Fa o (0+(j+1)) (b.length-(j+1)) (k:Int)=some y:=V5 rfl (by omega) (by rw [Nat.zero_add,c _ (by omega)]; exact hy)
        have i2:Fa o (0+(j+1)) (b.length-(j+1)) ((k-1:Nat):Int)=some q:=V5 rfl (by omega) (by rw [Nat.zero_add,c _ (by omega),show j+1+(k-1)=j+k by omega]; exact hq)
        have I:o[w]? = some (o[w]'(by omega)):=Bw _
        have i3:Fa o 0 b.length (w:Int)=some (o[w]'(by omega)):=V5 rfl (by omega) (by rw [Nat.zero_add]; exact I)
        simp only [Ap (by omega:(k:Int)<((b.length-(j+1):Nat):Int)),cond_true,i1,i2,i3,V,U,S,Ad]
        by_cases e:y=q
        .subst e
         rw [Fd rfl,cond_false]
         refine .inl ⟨_,rfl,⟨w,k+1,o,rfl,D,by omega,by omega,by omega,?_,c⟩,by simp only [Int.toNat_natCast]; omega⟩
         have:=Asc.same (q:=j+k) (x:=y) (by rw [show j+k+1=j+1+k by omega]; exact f) hq (by rw [show j+k+1=j+1+k by omega]; exact hy)
         rw [show j+1+(k+1)=j+k+2 by omega]; exact this
        .rw [Ec e,cond_true]
         have B:Cp o (((0:Nat):Int)+(w:Int)) y=o.set w y:=Gt (n:=w) (by omega) y
         have s:(o.set w y).take (w+1)=o.take w++[y]:=by
          rw [C7 (x:=y) (by rw [List.getElem?_set,if_pos rfl,if_pos (by omega)]),List.take_set_of_le (Nat.le_refl _)]
         rw [B]
         refine .inl ⟨_,rfl,⟨w+1,k+1,o.set w y,rfl,by simpa using D,by omega,by omega,by omega,?_,?_⟩,by simp only [Int.toNat_natCast]; omega⟩
         .rw [s]
          have:=Asc.step R (q:=j+k) (x:=y) (p:=q) (by rw [show j+k+1=j+1+k by omega]; exact f) hq (by rw [show j+k+1=j+1+k by omega]; exact hy) e
          rw [show j+1+(k+1)=j+k+2 by omega]; exact this
         .intro i hi
          rw [List.getElem?_set,if_neg (by omega)]
          exact c i (by omega)
       .have L:j+1+k=b.length:=by omega
        refine .inr ⟨((w:Int),(k:Int),o),?_,w,k,o,rfl,D,by omega,by rw [<-L]; exact f⟩
        simp only [A1 (by omega:¬(k:Int)<((b.length-(j+1):Nat):Int)),cond_false]
      .rintro z ⟨w,k,o,rfl,D,hw,f⟩
       dsimp only
       have g:Qp b.length (w:Int)=some w:=by
        unfold Qp
        rw [if_pos (by omega)]; simp
       by_cases Y:w=0\/w<b.length
       .have u:Oh b.length (w:Int) ((b.length:Nat):Int)=some (.inl (w,b.length)):=by
         unfold Oh
         rw [if_pos (by omega),if_pos (by omega)]; simp
        have M:Mu o (0+w) (b.length-w) (0:Int)=some (Dk o (0+w) (List.replicate (b.length-w) 0)):=by
         unfold Mu
         rw [if_pos (by omega)]
        rw [u,Ad]
        dsimp only
        rw [M,Ad,g,Ad]
        have s:(Dk o (0+w) (List.replicate (b.length-w) (0:Int))).take w=o.take w:=by
         unfold Dk
         rw [Nat.zero_add,List.append_assoc,List.take_append_of_le_length (by simp; omega),List.take_take,Nat.min_self]
        refine ⟨_,rfl,w,_,rfl,?_,?_⟩
        .unfold Dk; simp; omega
        .rw [s]; exact f
       .have u:Oh b.length (w:Int) ((b.length:Nat):Int)=some (.inr ()):=by
         unfold Oh
         rw [if_pos (by omega),if_neg (by omega)]
        rw [u,Ad]
        dsimp only
        rw [g,Ad]
        exact ⟨_,rfl,w,o,rfl,by omega,f⟩
     .rw [Co e,cond_false]
      refine .inl ⟨_,rfl,⟨j+1,rfl,by omega,?_⟩,by simp only [Int.toNat_natCast]; omega⟩
      have:=Asc.step R N hp hx e
      rw [<-C7 hx] at this
      exact this
    .have:j+1=b.length:=by omega
     refine .inr ⟨.inr (),?_,.inr ⟨rfl,by rw [<-this]; exact N⟩⟩
     rw [A1 (by omega)]; rfl
   .rintro e (⟨m,o,rfl,h1,h2⟩ | ⟨rfl,h1⟩)
    .exact ⟨(m,o),rfl,h1,h2⟩
    .exact ⟨(b.length,b),rfl,Nat.le_refl _,h1⟩
end Go.Ab
namespace Go.Ab
open Go
end Go.Ab
namespace Go.Ab
open Go
def D9 (b:List Ay) (res:Ay) (v:Int):Ay:=match Af b v with | some w=>w | none=>res
theorem Ae0 {x:Cf} {b:List Ay} (c:b.length=x.Vars.length) (res:Ay) {v:Int} {t:Ag} (ht:tyX x.Vars x.Res v=some t):Ja v res b=some (D9 b res v):=by
 unfold Ja D9
 unfold tyX at ht
 by_cases h:v = -1
 .subst h
  rw [As3 (by omega)]; rfl
 .rw [if_neg h] at ht
  obtain ⟨a1,a2,_⟩:=Ff ht
  have hi:Af b v=some (b[v.toNat]'(by omega)):=B1 (n:=v.toNat) (by omega) (Bw _)
  rw [Co h,hi]; rfl
theorem Axw {b:List Ay} {res:Ay} {N:Nat} (h:∀v∈b,Ce v<=N) (h':Ce res<=N) (v:Int):Ce (D9 b res v)<=N:=by
 unfold D9
 cases hi:Af b v with
 | none=>exact h'
 | some w=>exact h w (Ff hi).2.2.2
end Go.Ab
namespace Go.Ab
open Go
def Il (x:Cf) (b:List Ay) (res:Ay) (v:Int):Bool:=match tyX x.Vars x.Res v with | some t=>Kt x.Data (D9 b res v) t | none=>false
end Go.Ab
namespace Go.Ab
open Go
end Go.Ab
namespace Go.Ab
open Go
theorem Axx:Oi=some true:=by kernel_rfl
end Go.Ab
namespace Go.Ab
open Go
def J7 (l:List B8):List Int:=l.flatMap fun a=>a.Lin.Terms.map (·.Var)
def Jk (m:Ba):List Int:=m.Factors.map (·.Var)++J7 m.Atoms
def Fk (p:List Aq):List Int:=p.flatMap fun t=>Jk t.Mono
theorem Am0 {α:Type} (F:List α) (g:α->Int) (o:List Int) (h:o.length+F.length<=1000000) {R:Type} {J:Int×List Int->Option R} {r:R} (l:J ((F.length:Int),o++F.map g)=some r) :
  (Aj (S:=(Int×(List Int))) (E:=(Int×(List Int))) (fun (v164,b)=>
   bif (decide (v164<(F.length:Int))) then (
   (Af F v164).bind fun c=>
   (B6 8 b [g c]).bind fun i=>
   some (.inl ((Ac (v164+1)),i)))
   else some (.inr (v164,b))) (0,o)).bind J=some r:=by
 refine Fe F (fun j=>((j:Int),o++(F.take j).map g)) (by simp) (by omega) ?_ ?_
 .intro j f hj k h1 h2 h3
  simp only [h1,h2,h3,cond_true,Ad]
  rw [D2 (by simp; omega),C7 k]; simp
 .intro h1
  exact ⟨_,by simp only [h1]; rfl,by rw [List.take_length]; exact l⟩
theorem Axy {α:Type} (f:α->List Int) (l:List α) (j:Nat):((l.take j).flatMap f).length<=(l.flatMap f).length:=by
 have:l.flatMap f=(l.take j).flatMap f++(l.drop j).flatMap f:=by rw [<-List.flatMap_append,List.take_append_drop]
 rw [this,List.length_append]; omega
theorem Am1 {α:Type} (f:α->List Int) {l:List α} {j:Nat} {x:α} (h:l[j]? = some x):((l.take j).flatMap f).length+(f x).length<=(l.flatMap f).length:=by
 have:=Axy f l (j+1)
 rw [C7 h,List.flatMap_append] at this
 simpa using this
theorem Axz (p:List Aq) (J:p.length<=1000000) (ha:∀t∈p,t.Mono.Atoms.length<=1000000) (hb:(Fk p).length<=1000000) :
  ∃V,Qs p=some V/\V.Pairwise (· < ·)/\V.length<=1000000/\∀y,y∈V↔y∈Fk p:=by
 obtain ⟨m,o,G,E,k⟩:=Axv ((Fk p).mergeSort fun x y=>decide (x<=y)) (Axr _) (by rw [List.length_mergeSort]; omega)
 refine ⟨o.take m,?_,k.up,?_,?_⟩
 .unfold Qs
  refine Fe p (fun j=>((j:Int),Fk (p.take j))) rfl (by omega) ?_ ?_
  .intro j t hj ht h1 h2 h3
   have s:=Bs ht
   have D:=ha t s
   have c:(Fk (p.take j)).length+(Jk t.Mono).length<=1000000:=Nat.le_trans (Am1 (fun t:Aq=>Jk t.Mono) ht) hb
   unfold Jk at c
   rw [List.length_append,List.length_map] at c
   simp only [h1,h2,h3,cond_true,Ad]
   refine Am0 t.Mono.Factors (fun f=>f.Var) (Fk (p.take j)) (by omega) ?_
   dsimp only
   refine Fe t.Mono.Atoms (fun i=>((i:Int),Fk (p.take j)++t.Mono.Factors.map (fun f=>f.Var)++J7 (t.Mono.Atoms.take i))) (by simp [J7]) (by omega) ?_ ?_
   .intro i a hi g q A z
    have B:(J7 (t.Mono.Atoms.take i)).length+(a.Lin.Terms.map (·.Var)).length<=(J7 t.Mono.Atoms).length:=Am1 (fun a:B8=>a.Lin.Terms.map (fun l:C1=>l.Var)) g
    rw [List.length_map] at B
    simp only [q,A,z,cond_true,Ad]
    refine Am0 a.Lin.Terms (fun l=>l.Var) _ (by simp only [List.length_append,List.length_map]; omega) ?_
    show some (Sum.inl (_,_))=_
    rw [C7 g]
    unfold J7
    rw [List.flatMap_append]
    simp
   .intro q
    refine ⟨_,by simp only [q]; rw [List.take_length]; rfl,?_⟩
    show some (Sum.inl (_,_))=_
    rw [C7 ht]
    unfold Fk
    rw [List.flatMap_append]
    simp [Jk]
  .intro h1
   refine ⟨Fk p,by simp only [h1]; rw [List.take_length]; rfl,?_⟩
   rw [Axq,Ad]
   unfold Jt
   rw [if_pos (by rw [List.length_mergeSort]),Ad]
   have:Qw (Fk p).length ((Fk p).mergeSort fun x y=>decide (x<=y))=some (m,o):=by
    rw [<-G,List.length_mergeSort]
   rw [this,Ad]
   unfold Xa
   rw [if_pos E]; rfl
 .have I:((o.take m).length:Nat)<=(Fk p).length:=by
   have u:(o.take m).Nodup:=k.up.imp (fun h=>by omega)
   have b:∀y∈o.take m,y∈Fk p:=fun y hy=>by
    have:=(k.mem y).1 hy
    rw [List.take_length] at this
    exact List.mem_mergeSort.1 this
   exact List.Nodup.length_le_of_subset u b
  omega
 .intro y
  rw [k.mem y,List.take_length,List.mem_mergeSort]
end Go.Ab
namespace Go.Ab
open Go
theorem Am2 (l:List Int) (b:l.length<=1099511627776):Qv l l=some true:=by
 unfold Qv
 rw [Fd rfl,cond_false]
 refine Fe l (fun j=>(j:Int)) rfl (by omega) ?_ ?_
 .intro j x hj hx h1 h2 h3
  simp only [h1,h2,h3,cond_true,Ad,bne_self_eq_false,cond_false]
 .intro h
  exact ⟨.inr (),by simp only [h]; rfl,rfl⟩
theorem Ax0 (a:Ao) (h1:a.Num.length<=1099511627776) (h2:a.Den.length<=1099511627776):Qq a a=some true:=by
 unfold Qq
 rw [beq_self_eq_true,cond_true,Am2 _ h1,Ad,cond_true,Am2 _ h2,Ad]
theorem Ax1:∀(k:Nat) (i:A5) (a:Int),Cr i<=k->k<1099511627776->∃r,Ou k i a=some r/\True:=by
 intro k
 induction k with
 | zero=>intro i a h; have:=E2 i; omega
 | succ k ih=>
  intro i a h hk
  have f:=E2 i
  have g:=L7 i.Kids
  rw [Ou]
  refine Lj ⟨_,rfl,trivial⟩ ?_
  refine Db (fun (v,_)=>∃j:Nat,v=j/\j<=i.Kids.length) (fun (v,_)=>i.Kids.length-v.toNat) (fun _=>True) ⟨0,rfl,by omega⟩ ?_ ?_
  .rintro ⟨v,b⟩ ⟨j,rfl,hj⟩
   rcases Nat.lt_or_ge j i.Kids.length with h' | h'
   .have hx:i.Kids[j]? = some i.Kids[j]:=Bw h'
    generalize i.Kids[j]=x at hx
    have l:=Jg (Bs hx)
    obtain ⟨⟨y,z⟩,c,_⟩:=ih x b (by omega) (by omega)
    simp only [Ap (by omega:(j:Int)<(i.Kids.length:Int)),cond_true,B1 rfl hx,Ad,c,C2 h' (by omega)]
    cases y with
    | false=>exact .inr ⟨_,rfl,trivial⟩
    | true=>exact .inl ⟨_,rfl,⟨j+1,rfl,by omega⟩,by simp only [Int.toNat_natCast]; omega⟩
   .have:j=i.Kids.length:=by omega
    subst this
    exact .inr ⟨.inr b,by simp,trivial⟩
  .rintro (⟨x,y⟩ | e) _
   .exact ⟨_,rfl,trivial⟩
   .exact ⟨_,rfl,trivial⟩
theorem Ax2 (i:A5) (h:Cr i<=1048576):∃b,Tg i=some b:=by
 unfold Tg
 obtain ⟨r,h1,_⟩:=Ax1 4000000 i 40 (by omega) (by omega)
 exact ⟨_,by rw [h1]; rfl⟩
def P0 (m:Ba):Prop:=m.Factors.length<=8/\m.Atoms.length<=8/\∀a∈m.Atoms,a.Lin.Terms.length<=70
theorem Ax3 (m:Ba) (i:MSz m):∃b,Tb m=some b/\(b=true->P0 m):=by
 unfold Tb
 by_cases h1:(m.Factors.length:Int)>8
 .rw [Ap h1]
  exact ⟨false,rfl,fun h=>by cases h⟩
 .rw [A1 h1]
  by_cases h2:(m.Atoms.length:Int)>8
  .rw [Ap h2]
   exact ⟨false,rfl,fun h=>by cases h⟩
  .rw [A1 h2]
   simp only [cond_false,Ad]
   refine Db (fun v=>∃j:Nat,v=j/\j<=m.Factors.length) (fun v=>m.Factors.length-v.toNat) (fun z=>z = .inl false\/z = .inr ()) ⟨0,rfl,by omega⟩ ?_ ?_
   .rintro v ⟨j,rfl,hj⟩
    rcases Nat.lt_or_ge j m.Factors.length with h' | h'
    .have hx:m.Factors[j]? = some m.Factors[j]:=Bw h'
     generalize m.Factors[j]=x at hx
     obtain ⟨b,hb⟩:=Ax2 x.Index (i.fi x (Bs hx))
     simp only [Ap (by omega:(j:Int)<(m.Factors.length:Int)),cond_true,B1 rfl hx,Ad,hb,C2 h' (by omega)]
     cases b with
     | false=>exact .inr ⟨_,rfl,.inl rfl⟩
     | true=>exact .inl ⟨_,rfl,⟨j+1,rfl,by omega⟩,by simp only [Int.toNat_natCast]; omega⟩
    .have:j=m.Factors.length:=by omega
     subst this
     exact .inr ⟨.inr (),by simp,.inr rfl⟩
   .rintro z (rfl | rfl)
    .exact ⟨false,rfl,fun h=>by cases h⟩
    .dsimp only
     refine Db (fun v=>∃j:Nat,v=j/\j<=m.Atoms.length/\∀a∈m.Atoms.take j,a.Lin.Terms.length<=70) (fun v=>m.Atoms.length-v.toNat) (fun z=>z = .inl false\/(z = .inr ()/\∀a∈m.Atoms,a.Lin.Terms.length<=70)) ⟨0,rfl,by omega,by simp⟩ ?_ ?_
     .rintro v ⟨j,rfl,hj,c⟩
      rcases Nat.lt_or_ge j m.Atoms.length with h' | h'
      .have hx:m.Atoms[j]? = some m.Atoms[j]:=Bw h'
       generalize m.Atoms[j]=x at hx
       simp only [Ap (by omega:(j:Int)<(m.Atoms.length:Int)),cond_true,B1 rfl hx,Ad,Xn,C2 h' (by omega)]
       by_cases f:(x.Lin.Terms.length:Int)<=70
       .rw [Ap f]
        refine .inl ⟨_,rfl,⟨j+1,rfl,by omega,fun a ha=>?_⟩,by simp only [Int.toNat_natCast]; omega⟩
        rw [C7 hx] at ha
        rcases List.mem_append.1 ha with ha | ha
        .exact c a ha
        .rw [List.mem_singleton] at ha
         subst ha; omega
       .rw [A1 f]
        exact .inr ⟨_,rfl,.inl rfl⟩
      .have:j=m.Atoms.length:=by omega
       subst this
       rw [List.take_length] at c
       exact .inr ⟨.inr (),by simp,.inr ⟨rfl,c⟩⟩
     .rintro z (rfl | ⟨rfl,g⟩)
      .exact ⟨false,rfl,fun h=>by cases h⟩
      .exact ⟨true,rfl,fun _=>⟨by omega,by omega,g⟩⟩
theorem Ax4 (p:List Aq) (q:p.length<=1048576) (hp:∀t∈p,TSz t):∃b,Ta p 10=some b/\(b=true->p.length<=10/\∀t∈p,P0 t.Mono):=by
 unfold Ta
 refine Db (fun v=>∃j:Nat,v=j/\j<=p.length/\j<=11/\∀t∈p.take j,P0 t.Mono) (fun v=>p.length-v.toNat) (fun z=>z = .inl false\/(z = .inr ()/\(p.length<=10->∀t∈p,P0 t.Mono))) ⟨0,rfl,by omega,by omega,by simp⟩ ?_ ?_
 .rintro v ⟨j,rfl,hj,g,f⟩
  rcases Nat.lt_or_ge j p.length with h' | h'
  .by_cases l:j<=10
   .have hx:p[j]? = some p[j]:=Bw h'
    generalize p[j]=x at hx
    obtain ⟨b,hb,k⟩:=Ax3 x.Mono (hp x (Bs hx)).mo
    simp only [Ap (by omega:(j:Int)<(p.length:Int)),Ap (by omega:(j:Int)<=10),cond_true,B1 rfl hx,Ad,hb,C2 h' (by omega)]
    cases b with
    | false=>exact .inr ⟨_,rfl,.inl rfl⟩
    | true=>
     simp only [bnt,cond_false]
     have:∃c,S9 x.Coef=some c:=by
      unfold S9
      cases decide ((x.Coef.Num.length:Int)<=8) with
      | true=>exact ⟨_,rfl⟩
      | false=>exact ⟨_,rfl⟩
     obtain ⟨c,hc⟩:=this
     rw [hc,Ad]
     cases c with
     | false=>exact .inr ⟨_,rfl,.inl rfl⟩
     | true=>
      refine .inl ⟨_,rfl,⟨j+1,rfl,by omega,by omega,fun t ht=>?_⟩,by simp only [Int.toNat_natCast]; omega⟩
      rw [C7 hx] at ht
      rcases List.mem_append.1 ht with ht | ht
      .exact f t ht
      .rw [List.mem_singleton] at ht
       subst ht; exact k rfl
   .refine .inr ⟨.inr (),?_,.inr ⟨rfl,fun h=>by omega⟩⟩
    simp only [Ap (by omega:(j:Int)<(p.length:Int)),A1 (by omega:¬(j:Int)<=10),cond_true,cond_false,Ad]
  .have:j=p.length:=by omega
   subst this
   rw [List.take_length] at f
   exact .inr ⟨.inr (),by simp,.inr ⟨rfl,fun _=>f⟩⟩
 .rintro z (rfl | ⟨rfl,i⟩)
  .exact ⟨false,rfl,fun h=>by cases h⟩
  .refine ⟨decide ((p.length:Int)<=10),rfl,fun h=>?_⟩
   rw [decide_eq_true_eq] at h
   exact ⟨by omega,i (by omega)⟩
end Go.Ab
namespace Go.Ab
open Go
end Go.Ab
namespace Go.Ab
open Go
end Go.Ab
namespace Go.Ab
open Go
end Go.Ab
namespace Go.Ab
open Go
end Go.Ab
namespace Go.Ab
open Go
end Go.Ab
namespace Go.Ab
open Go
end Go.Ab
namespace Go.Ab
open Go
structure PSt (K:Nat) (n:Nat) (b:List Aq):Prop where
 le:n<=b.length
 cp:CP (b.take n)
 tm:∀t∈b.take n,RB K t.Coef/\MSz t.Mono
end Go.Ab
namespace Go.Ab
open Go
theorem PSt.mono {K c n:Nat} {b:List Aq} (h:PSt K n b) (f:K<=c):PSt c n b:=⟨h.le,h.cp,fun t ht=>⟨((h.tm t ht).1).mono f,(h.tm t ht).2⟩⟩
end Go.Ab
namespace Go.Ab
open Go
theorem Am3:∀(k:Nat) (t:Ag) (a:Int),Bg t<=k->k<1099511627776->∃r,M4 k t a=some r/\True:=by
 intro k
 induction k with
 | zero=>intro i a h; have:=Hk i; omega
 | succ k ih=>
  intro i a h hk
  have f:=Hk i
  have g:=Jf i.Args
  rw [M4]
  refine Lj ⟨_,rfl,trivial⟩ ?_
  refine Db (fun (v,_)=>∃j:Nat,v=j/\j<=i.Args.length) (fun (v,_)=>i.Args.length-v.toNat) (fun _=>True) ⟨0,rfl,by omega⟩ ?_ ?_
  .rintro ⟨v,b⟩ ⟨j,rfl,hj⟩
   rcases Nat.lt_or_ge j i.Args.length with h' | h'
   .have hx:i.Args[j]? = some i.Args[j]:=Bw h'
    generalize i.Args[j]=x at hx
    have l:=Hu (Bs hx)
    obtain ⟨⟨y,z⟩,c,_⟩:=ih x b (by omega) (by omega)
    simp only [Ap (by omega:(j:Int)<(i.Args.length:Int)),cond_true,B1 rfl hx,Ad,c,C2 h' (by omega)]
    cases y with
    | false=>exact .inr ⟨_,rfl,trivial⟩
    | true=>exact .inl ⟨_,rfl,⟨j+1,rfl,by omega⟩,by simp only [Int.toNat_natCast]; omega⟩
   .have:j=i.Args.length:=by omega
    subst this
    exact .inr ⟨.inr b,by simp,trivial⟩
  .rintro (⟨x,y⟩ | e) _
   .exact ⟨_,rfl,trivial⟩
   .exact ⟨_,rfl,trivial⟩
theorem Am4 (t:Ag) (h:Bg t<=1048576):∃b,Qx t=some b:=by
 unfold Qx
 obtain ⟨r,h1,_⟩:=Am3 4000000 t 250 (by omega) (by omega)
 exact ⟨_,by rw [h1]; rfl⟩
theorem Ax5 (l:List Ag) (n:Int) (c:l.length<=1048576) (h:∀t∈l,Bg t<=1048576):∃b,Tn l n=some b/\True:=by
 unfold Tn
 refine Db (fun v=>∃j:Nat,v=j/\j<=l.length) (fun v=>l.length-v.toNat) (fun _=>True) ⟨0,rfl,by omega⟩ ?_ ?_
 .rintro v ⟨j,rfl,hj⟩
  rcases Nat.lt_or_ge j l.length with h' | h'
  .have hx:l[j]? = some l[j]:=Bw h'
   generalize l[j]=x at hx
   obtain ⟨b,hb⟩:=Am4 x (h x (Bs hx))
   simp only [Ap (by omega:(j:Int)<(l.length:Int)),cond_true,B1 rfl hx,Ad,hb,C2 h' (by omega)]
   cases decide ((j:Int)<=n) with
   | false=>exact .inr ⟨_,rfl,trivial⟩
   | true=>
    cases b with
    | false=>exact .inr ⟨_,rfl,trivial⟩
    | true=>exact .inl ⟨_,rfl,⟨j+1,rfl,by omega⟩,by simp only [Int.toNat_natCast]; omega⟩
  .simp only [A1 (by omega:¬(j:Int)<(l.length:Int)),cond_false]
   exact .inr ⟨_,rfl,trivial⟩
 .rintro (r | r) _
  .exact ⟨_,rfl,trivial⟩
  .exact ⟨_,rfl,trivial⟩
theorem Ax6 (l:List Al) (f:DSz l):∃b,Tm l=some b/\True:=by
 unfold Tm
 have B:=f.len
 refine Lj ⟨_,rfl,trivial⟩ ?_
 refine Db (fun v=>∃j:Nat,v=j/\j<=l.length) (fun v=>l.length-v.toNat) (fun _=>True) ⟨0,rfl,by omega⟩ ?_ ?_
 .rintro v ⟨j,rfl,hj⟩
  rcases Nat.lt_or_ge j l.length with h' | h'
  .have hx:l[j]? = some l[j]:=Bw h'
   generalize l[j]=x at hx
   obtain ⟨D,k⟩:=f.sz x (Bs hx)
   simp only [Ap (by omega:(j:Int)<(l.length:Int)),cond_true,B1 rfl hx,Ad,C2 h' (by omega)]
   have hq:∃q,(bif decide ((x.Name.size:Int)>40) then some true else some (decide ((x.Cons.length:Int)>10)))=some q:=by
    cases decide ((x.Name.size:Int)>40) <;> exact ⟨_,rfl⟩
   obtain ⟨q,hq⟩:=hq
   erw [hq]
   simp only [Ad]
   cases q with
   | true=>exact .inr ⟨_,rfl,trivial⟩
   | false=>
    simp only [cond_false]
    have key:∀(W:Option (Int⊕(Bool⊕Unit))),(∃r,W=some r/\(r = .inl ((j+1:Nat):Int)\/∃e,r = .inr e))->(∃s',W=some (Sum.inl s')/\(∃j:Nat,s'=(j:Int)/\j<=l.length)/\l.length-s'.toNat<l.length-((j:Int)).toNat)\/∃e,W=some (Sum.inr e)/\True:=by
     rintro W ⟨r,rfl,rfl | ⟨e,rfl⟩⟩
     .exact .inl ⟨_,rfl,⟨j+1,rfl,by omega⟩,by simp only [Int.toNat_natCast]; omega⟩
     .exact .inr ⟨_,rfl,trivial⟩
    refine key _ ?_
    refine Db (fun v=>∃j:Nat,v=j/\j<=x.Cons.length) (fun v=>x.Cons.length-v.toNat) (fun _=>True) ⟨0,rfl,by omega⟩ ?_ ?_
    .rintro v ⟨i,rfl,hi⟩
     rcases Nat.lt_or_ge i x.Cons.length with h'' | h''
     .have hy:x.Cons[i]? = some x.Cons[i]:=Bw h''
      generalize x.Cons[i]=y at hy
      have d1:=k y (Bs hy)
      have d2:=Jf y.Args
      simp only [Ap (by omega:(i:Int)<(x.Cons.length:Int)),cond_true,B1 rfl hy,Ad,C2 h'' (by omega)]
      have hq:∃q,(bif decide ((y.Name.size:Int)>40) then some true else some (decide ((y.Args.length:Int)>8)))=some q:=by
       cases decide ((y.Name.size:Int)>40) <;> exact ⟨_,rfl⟩
      obtain ⟨q,hq⟩:=hq
      erw [hq]
      simp only [Ad]
      cases q with
      | true=>exact .inr ⟨_,rfl,trivial⟩
      | false=>
       simp only [cond_false]
       have key:∀(W:Option (Int⊕(Bool⊕Int))),(∃r,W=some r/\(r = .inl ((i+1:Nat):Int)\/∃e,r = .inr e))->(∃s',W=some (Sum.inl s')/\(∃j:Nat,s'=(j:Int)/\j<=x.Cons.length)/\x.Cons.length-s'.toNat<x.Cons.length-((i:Int)).toNat)\/∃e,W=some (Sum.inr e)/\True:=by
        rintro W ⟨r,rfl,rfl | ⟨e,rfl⟩⟩
        .exact .inl ⟨_,rfl,⟨i+1,rfl,by omega⟩,by simp only [Int.toNat_natCast]; omega⟩
        .exact .inr ⟨_,rfl,trivial⟩
       refine key _ ?_
       refine Db (fun s=>∃j:Nat,s.1=j/\j<=y.Args.length) (fun s=>y.Args.length-s.1.toNat) (fun _=>True) ⟨0,rfl,by omega⟩ ?_ ?_
       .rintro ⟨_,w⟩ ⟨u,rfl,hu⟩
        rcases Nat.lt_or_ge u y.Args.length with h3 | h3
        .have c:y.Args[u]? = some y.Args[u]:=Bw h3
         generalize y.Args[u]=t at c
         have A:=Hu (Bs c)
         obtain ⟨⟨g,z⟩,h,_⟩:=Am3 4000000 t w (by omega) (by omega)
         simp only [Ap (by omega:(u:Int)<(y.Args.length:Int)),cond_true,B1 rfl c,Ad,h,C2 h3 (by omega)]
         cases g with
         | false=>exact .inr ⟨_,rfl,trivial⟩
         | true=>exact .inl ⟨_,rfl,⟨u+1,rfl,by omega⟩,by simp only [Int.toNat_natCast]; omega⟩
        .simp only [A1 (by omega:¬(u:Int)<(y.Args.length:Int)),cond_false]
         exact .inr ⟨_,rfl,trivial⟩
       .rintro (r | r) _
        .exact ⟨_,rfl,.inr ⟨_,rfl⟩⟩
        .exact ⟨_,rfl,.inl rfl⟩
     .simp only [A1 (by omega:¬(i:Int)<(x.Cons.length:Int)),cond_false]
      exact .inr ⟨_,rfl,trivial⟩
    .rintro (r | r) _
     .exact ⟨_,rfl,.inr ⟨_,rfl⟩⟩
     .exact ⟨_,rfl,.inl rfl⟩
  .simp only [A1 (by omega:¬(j:Int)<(l.length:Int)),cond_false]
   exact .inr ⟨_,rfl,trivial⟩
 .rintro (r | r) _
  .exact ⟨_,rfl,trivial⟩
  .exact ⟨_,rfl,trivial⟩
theorem Ax7 (x:Cf) (f:CSz x):∃b,Te x=some b:=by
 unfold Te
 obtain ⟨a,ha,_⟩:=Ax6 x.Data f.ds
 obtain ⟨b,hb,_⟩:=Ax5 x.Vars 40 f.nv f.vs
 obtain ⟨c,hc⟩:=Am4 x.Res f.rs
 rw [ha,hb,hc]
 cases a <;> cases b <;> exact ⟨_,rfl⟩
theorem Ax8 (x:Cf) (k:CSz x) (ps:List (List Aq)) (s:ps.length<=1048576) (hp:∀p∈ps,p.length<=1048576/\∀t∈p,TSz t) :
  ∃b,S7 x ps=some b/\(b=true->∀p∈ps,p.length<=10/\∀t∈p,P0 t.Mono):=by
 unfold S7
 refine Db (fun v=>∃j:Nat,v=j/\j<=ps.length/\∀p∈ps.take j,p.length<=10/\∀t∈p,P0 t.Mono) (fun v=>ps.length-v.toNat) (fun z=>z = .inl false\/(z = .inr ()/\∀p∈ps,p.length<=10/\∀t∈p,P0 t.Mono)) ⟨0,rfl,by omega,by simp⟩ ?_ ?_
 .rintro v ⟨j,rfl,hj,c⟩
  rcases Nat.lt_or_ge j ps.length with h' | h'
  .have hx:ps[j]? = some ps[j]:=Bw h'
   generalize ps[j]=p at hx
   obtain ⟨i,g⟩:=hp p (Bs hx)
   obtain ⟨b,hb,l⟩:=Ax4 p i g
   simp only [Ap (by omega:(j:Int)<(ps.length:Int)),cond_true,B1 rfl hx,Ad,hb,C2 h' (by omega)]
   cases b with
   | false=>exact .inr ⟨_,rfl,.inl rfl⟩
   | true=>
    refine .inl ⟨_,rfl,⟨j+1,rfl,by omega,fun q hq=>?_⟩,by simp only [Int.toNat_natCast]; omega⟩
    rw [C7 hx] at hq
    rcases List.mem_append.1 hq with hq | hq
    .exact c q hq
    .rw [List.mem_singleton] at hq
     subst hq; exact l rfl
  .have:j=ps.length:=by omega
   subst this
   rw [List.take_length] at c
   exact .inr ⟨.inr (),by simp,.inr ⟨rfl,c⟩⟩
 .rintro z (rfl | ⟨rfl,f⟩)
  .exact ⟨false,rfl,fun h=>by cases h⟩
  .obtain ⟨b,hb⟩:=Ax7 x k
   exact ⟨b,by dsimp only; rw [hb]; rfl,fun _=>f⟩
end Go.Ab
namespace Go.Ab
open Go
theorem CP.dst {p:List Aq} (h:CP p):Dst p:=h.srt.imp fun {a b} hab e=>by
 unfold ltT at hab
 rw [Ny.2 e] at hab; omega
end Go.Ab
namespace Go.Ab
open Go
theorem Ax9:∀(k:Nat),k<1099511627776->(∀i:A5,2*Cr i<=k->Tt k i i=some true)/\(∀l:List A5,2*Ed l+1<=k->Xz k l l=some true):=by
 intro k
 induction k with
 | zero=>exact fun _=>⟨fun i h=>(by have:=E2 i; omega),fun l h=>by omega⟩
 | succ k ih=>
  intro hk
  have ih:=ih (by omega)
  refine ⟨fun i h=>?_,fun l h=>?_⟩
  .have:=E2 i
   rw [Tt,beq_self_eq_true,cond_true,ih.2 i.Kids (by omega)]; rfl
  .have b:=L7 l
   rw [Xz,bne_self_eq_false,cond_false]
   refine Fe l (fun j=>(j:Int)) rfl (by omega) ?_ ?_
   .intro j x hj hx h1 h2 h3
    have:=Jg (Bs hx)
    simp only [h1,h2,h3,cond_true,Ad,ih.1 x (by omega),bnt,cond_false]
   .intro h
    exact ⟨.inr (),by simp only [h]; rfl,rfl⟩
theorem Aya (l:Da) (h:l.Terms.length<=1048576):Xq l l=some true:=by
 unfold Xq
 rw [bne_self_eq_false,bne_self_eq_false]
 simp only [cond_false,Ad]
 refine Fe l.Terms (fun j=>(j:Int)) rfl (by omega) ?_ ?_
 .intro j x hj hx h1 h2 h3
  simp only [h1,h2,h3,cond_true,Ad,beq_self_eq_true,Bool.and_true,bnt,cond_false]
 .intro h
  exact ⟨.inr (),by simp only [h]; rfl,rfl⟩
theorem Ayb (m:Ba) (h:MSz m):Xm m m=some true:=by
 have c:=h.nf
 have b:=h.na
 unfold Xm
 rw [bne_self_eq_false,bne_self_eq_false]
 simp only [cond_false,Ad]
 refine Fe m.Factors (fun j=>(j:Int)) rfl (by omega) ?_ ?_
 .intro j x hj hx h1 h2 h3
  have:=h.fi x (Bs hx)
  simp only [h1,h2,h3,cond_true,Ad,bne_self_eq_false,(Ax9 4000000 (by omega)).1 x.Index (by omega),bnt,cond_false]
 .intro h1
  refine ⟨.inr (),by simp only [h1]; rfl,?_⟩
  dsimp only
  refine Fe m.Atoms (fun j=>(j:Int)) rfl (by omega) ?_ ?_
  .intro j x hj hx h1 h2 h3
   have:=h.al x (Bs hx)
   simp only [h1,h2,h3,cond_true,Ad,bne_self_eq_false,Aya x.Lin (by omega),bnt,cond_false]
  .intro h1
   exact ⟨.inr (),by simp only [h1]; rfl,rfl⟩
theorem Ayc (p:List Aq) (b:p.length<=1048576) (h:∀t∈p,MSz t.Mono/\RB 34359738000 t.Coef):Xk p p=some true:=by
 unfold Xk
 rw [bne_self_eq_false]
 simp only [cond_false]
 refine Fe p (fun j=>(j:Int)) rfl (by omega) ?_ ?_
 .intro j x hj hx h1 h2 h3
  obtain ⟨a1,a2⟩:=h x (Bs hx)
  simp only [h1,h2,h3,cond_true,Ad,Ax0 x.Coef (by have:=a2.nl; omega) (by have:=a2.dl; omega),Ayb x.Mono a1,bnt,cond_false]
 .intro h1
  exact ⟨.inr (),by simp only [h1]; rfl,rfl⟩
end Go.Ab
namespace Go.Ab
open Go
theorem Ayd {x:Cf} (g:CSz x) {ps:List (List Aq)} (b:∀p∈ps,∀t∈p,TSz t) (i:ps.length<=1048576) (h:¬(Ft x/\∀p∈ps,Gd x.Data x.Vars x.Res p=true)):Ju x ps=some (.inr false):=by
 obtain ⟨r,f,c⟩:=Aes x g ps b i
 rcases c with ⟨h2,_⟩ | ⟨_,rfl⟩
 .exact (h h2).elim
 .exact f
theorem Aye {x:Cf} (i:CSz x) {ps:List (List Aq)} (c:∀p∈ps,∀t∈p,TSz t) (k:ps.length<=1048576) (h:Ft x/\∀p∈ps,Gd x.Data x.Vars x.Res p=true):∃b,Ju x ps=some (.inl (true,x,b,[],x.Data,x.Vars,x.Res.Kind,x.Res.Num,x.Res.Args))/\E7 x.Data x.Vars x.Res b:=by
 obtain ⟨r,g,f⟩:=Aes x i ps c k
 rcases f with ⟨_,b,e,j⟩ | ⟨h2,_⟩
 .exact ⟨b,by rw [g,e],j⟩
 .exact (h2 h).elim
structure PR (x:Cf) (n:Nat) (f:Ba->Rat) (R:List Aq):Prop where
 cp:CP R
 val:∀m,cf R m=f m
 tb:∀t∈R,J6 x t.Mono/\RB 8589934592 t.Coef
 len:R.length<=n
theorem PR.of {x:Cf} {n m:Nat} {f g:Ba->Rat} {R:List Aq} (h:PR x n f R) (b:n<=m) (c:∀a,f a=g a):PR x m g R :=
 ⟨h.cp,fun a=>by rw [h.val,c],h.tb,Nat.le_trans h.len b⟩
theorem G8.nil (x:Cf):G8 x []:=⟨Pw.2 ⟨by simp,CP.nil,fun t ht=>by cases ht⟩,fun t ht=>by cases ht⟩
theorem PR.same {x:Cf} {n:Nat} {f:Ba->Rat} {R S:List Aq} (h:PR x n f R) (c:n<=1000) (b:CP S) (e:∀m,cf S m=f m):R=S/\Xk R S=some true:=by
 have:R=S:=CP.ext h.cp b fun m=>by rw [h.val,e]
 subst this
 refine ⟨rfl,Ayc R (by have:=h.len; omega) fun t ht=>⟨(h.tb t ht).1.2,(h.tb t ht).2.mono (by omega)⟩⟩
end Go.Ab
namespace Go.Ab
open Go
def Jl {α:Type} (l:List α) (r:List Bool):List α:=((l.zip r).filter fun p=>!p.2).map (·.1)
def Me (data:List Al) (t:Ag) (c:Int):List Ag:=match F2 data t c with | some ts=>ts | none=>[]
def Ln {α:Type} (b:List (α->Nat)) (x:α) (f:Nat->Nat):Nat->Nat
 | 0=>f 0
 | q+1=>f (q+1)+f q*(match b[q]? with | some w=>w x | none=>0)
def dpS {α:Type} (b:List (α->Nat)) (l:List α):Nat->Nat:=l.foldl (fun f x=>Ln b x f) (fun q=>if q=0 then 1 else 0)
theorem Ayf {α:Type} (b:List (α->Nat)) (l:List α) (x:α):dpS b (l++[x])=Ln b x (dpS b l):=by unfold dpS; rw [List.foldl_append]; rfl
mutual
def bv (data:List Al):A5->Ag->Ay->Nat
 | ⟨n,ks⟩,t,w=>if t.Kind=6 then bvs data ks t.Args w.Kids else if t.Kind=7 then bc w.Kids.length n.toNat else if t.Kind=5 then dpS (bws data ks t) (Ge data t.Num w) ks.length else 1
def bvs (data:List Al):List A5->List Ag->List Ay->Nat
 | i::is,t::ts,w::ws=>bv data i t w*bvs data is ts ws
 | [],_,_=>1
 | _::_,[],_=>1
 | _::_,_::_,[]=>1
def bws (data:List Al):List A5->Ag->List (Ay->Nat)
 | [],_=>[]
 | ⟨n,ks⟩::es,t=>(fun x=>if x.Num=n then bvs data ks (Me data t n) (Jl x.Kids (C3 data t.Num n)) else 0)::bws data es t
end
theorem Am5 (data:List Al) (i:A5) (t:Ag) (w:Ay):bv data i t w=if t.Kind=6 then bvs data i.Kids t.Args w.Kids else if t.Kind=7 then bc w.Kids.length i.Num.toNat else if t.Kind=5 then dpS (bws data i.Kids t) (Ge data t.Num w) i.Kids.length else 1:=by
 cases i; simp only [bv]
theorem Z6 (data:List Al) (i:A5) (c:List A5) (t:Ag) (ts:List Ag) (w:Ay) (b:List Ay):bvs data (i::c) (t::ts) (w::b)=bv data i t w*bvs data c ts b:=by simp only [bvs]
theorem V6 (data:List Al) (ts:List Ag) (b:List Ay):bvs data [] ts b=1:=by simp only [bvs]
def wOf (data:List Al) (t:Ag) (e:A5) (x:Ay):Nat:=if x.Num=e.Num then bvs data e.Kids (Me data t e.Num) (Jl x.Kids (C3 data t.Num e.Num)) else 0
theorem Z7 (data:List Al) (t:Ag):∀(es:List A5) (q:Nat),(bws data es t)[q]? = (es[q]?).map (wOf data t)
 | [],q=>by simp [bws]
 | ⟨n,b⟩::es,0=>by simp only [bws,List.getElem?_cons_zero,Option.map_some]; rfl
 | ⟨n,b⟩::es,q+1=>by simp only [bws,List.getElem?_cons_succ]; exact Z7 data t es q
theorem Ae1 (data:List Al):∀(c:List A5) (ts:List Ag) (b:List Ay) (j:Nat) (i:A5) (t:Ag) (w:Ay),c[j]? = some i->ts[j]? = some t->b[j]? = some w ->
  bvs data (c.take (j+1)) (ts.take (j+1)) (b.take (j+1))=bvs data (c.take j) (ts.take j) (b.take j)*bv data i t w
 | i' :: c,f::ts,w' :: b,0,i,t,w,h1,h2,h3=>by
  cases h1; cases h2; cases h3
  simp only [List.take_succ_cons,List.take_zero,Z6,V6,Nat.mul_one,Nat.one_mul]
 | i' :: c,f::ts,w' :: b,j+1,i,t,w,h1,h2,h3=>by
  have:=Ae1 data c ts b j i t w h1 h2 h3
  rw [List.take_succ_cons,List.take_succ_cons,List.take_succ_cons,List.take_succ_cons,List.take_succ_cons,List.take_succ_cons,Z6,Z6,this,Nat.mul_assoc]
 | [],_,_,_,_,_,_,h,_,_=>by simp at h
 | _::_,[],_,_,_,_,_,_,h,_=>by simp at h
 | _::_,_::_,[],_,_,_,_,_,_,h=>by simp at h
theorem Ae2:∀n k,bc n k<=n ^ k
 | n,0=>by rw [Aeu]; exact Nat.le_refl _
 | 0,k+1=>by simp [bc]
 | n+1,k+1=>by
  have h1:=Ae2 n k
  have h2:=Ae2 n (k+1)
  have h3:n ^ k<=(n+1) ^ k:=Nat.pow_le_pow_left (by omega) k
  have b:n ^ (k+1)<=n*(n+1) ^ k:=by rw [Nat.pow_succ,Nat.mul_comm]; exact Nat.mul_le_mul_left _ h3
  rw [bc,Nat.pow_succ,Nat.mul_add,Nat.mul_one,Nat.mul_comm]; omega
theorem Am6 {α:Type} (b:List (α->Nat)) (B:Nat) (E:Nat->Nat):∀(l:List α) (n:Nat) (f:Nat->Nat),(∀q,f q<=n ^ q*B ^ E q)->(∀x∈l,∀q w,b[q]? = some w->B ^ E q*w x<=B ^ E (q+1))->∀q,(l.foldl (fun f x=>Ln b x f) f) q<=(n+l.length) ^ q*B ^ E q
 | [],n,f,c,_,q=>c q
 | x::l,n,f,c,hw,q=>by
  rw [List.foldl_cons]
  have:=Am6 b B E l (n+1) (Ln b x f) (fun q=>?_) (fun y hy=>hw y (by simp [hy])) q
  .rw [List.length_cons,show n+(l.length+1)=n+1+l.length by omega]; exact this
  .cases q with
   | zero=>have:=c 0; simpa [Ln] using this
   | succ q=>
    have h1:=c (q+1)
    have h2:=c q
    have h3:f q*(match b[q]? with | some w=>w x | none=>0)<=n ^ q*B ^ E (q+1):=by
     cases h:b[q]? with
     | none=>simp
     | some w=>
      have k:=hw x (by simp) q w h
      refine Nat.le_trans (Nat.mul_le_mul_right _ h2) ?_
      rw [Nat.mul_assoc]
      exact Nat.mul_le_mul_left _ k
    have g:n ^ q<=(n+1) ^ q:=Nat.pow_le_pow_left (by omega) q
    have j:n ^ (q+1)+n ^ q<=(n+1) ^ (q+1):=by
     rw [Nat.pow_succ,Nat.pow_succ,Nat.mul_add,Nat.mul_one]
     exact Nat.add_le_add (Nat.mul_le_mul_right _ g) g
    have i:=Nat.mul_le_mul_right (B ^ E (q+1)) j
    rw [Nat.add_mul] at i
    show f (q+1)+_<=_
    omega
theorem Am7 {α:Type} (b:List (α->Nat)) (B:Nat) (f:1<=B) (E:Nat->Nat) (l:List α) (hw:∀x∈l,∀q w,b[q]? = some w->B ^ E q*w x<=B ^ E (q+1)) (c:l.length<=B) (q:Nat):dpS b l q<=B ^ (q+E q):=by
 have h:=Am6 b B E l 0 (fun q=>if q=0 then 1 else 0) (fun q=>by
  cases q with
  | zero=>
   have:0<B ^ E 0:=Nat.pow_pos (by omega)
   simp; omega
  | succ q=>simp) hw q
 refine Nat.le_trans h ?_
 rw [Nat.zero_add,Nat.pow_add]
 exact Nat.mul_le_mul_right _ (Nat.pow_le_pow_left c q)
mutual
theorem Ae3 (data:List Al) (d:Int):∀v,∀x∈Ge data d v,Ce x<=Ce v
 | ⟨k,n,kids⟩=>fun x hx=>by
  have h:=Am8 data d kids (C3 data d n)
  simp only [Ge,List.mem_cons] at hx
  rcases hx with rfl | hx
  .exact Nat.le_refl _
  .have:=h x hx
   simp only [Ce]; omega
theorem Am8 (data:List Al) (d:Int):∀l r,∀x∈Fu data d l r,Ce x<=C8 l
 | y::ys,b::bs=>fun x hx=>by
  have h1:=Ae3 data d y
  have h2:=Am8 data d ys bs
  simp only [Fu,List.mem_append] at hx
  simp only [C8]
  rcases hx with hx | hx
  .cases b with
   | false=>simp at hx
   | true=>have:=h1 x (by simpa using hx); omega
  .have:=h2 x hx; omega
 | [],_=>fun x hx=>by simp [Fu] at hx
 | _::_,[]=>fun x hx=>by simp [Fu] at hx
end
def pdg (data:List Al) (t:Ag) (e:A5):Nat:=match Cx data e.Kids (Me data t e.Num) with | some a=>a | none=>0
def pds (data:List Al) (t:Ag) (es:List A5):Nat:=(es.map (pdg data t)).sum
theorem Ae4 (data:List Al):∀(es:List A5) (t:Ag) (d:Nat),Fz data es t=some d->d=es.length+pds data t es/\∀e∈es,∃ts,F2 data t e.Num=some ts/\Cx data e.Kids ts=some (pdg data t e)
 | [],t,d,h=>by
  simp only [Fz,Option.some.injEq] at h
  subst h
  exact ⟨rfl,fun e c=>by cases c⟩
 | e::es,t,d,h=>by
  rw [Zk] at h
  cases h1:F2 data t e.Num with
  | none=>rw [h1] at h; cases h
  | some ts=>
   rw [h1,Ad] at h
   cases h2:Cx data e.Kids ts with
   | none=>rw [h2] at h; cases h
   | some a=>
    rw [h2,Ad] at h
    cases h3:Fz data es t with
    | none=>rw [h3] at h; cases h
    | some b=>
     rw [h3] at h
     have h:1+a+b=d:=Option.some.inj h
     obtain ⟨g1,g2⟩:=Ae4 data es t b h3
     have hp:pdg data t e=a:=by unfold pdg Me; rw [h1]; simp only [h2]
     refine ⟨by unfold pds at *; simp only [List.map_cons,List.sum_cons,List.length_cons,hp]; omega,fun x hx=>?_⟩
     rcases List.mem_cons.1 hx with rfl | hx
     .exact ⟨ts,h1,by rw [hp]; exact h2⟩
     .exact g2 x hx
theorem Ae5 {data:List Al} {t:Ag} {es:List A5} {q:Nat} {e:A5} (h:es[q]? = some e):pds data t (es.take (q+1))=pds data t (es.take q)+pdg data t e:=by
 unfold pds; rw [C7 h]; simp
theorem Ayg (data:List Al) (t:Ag) (es:List A5) (q:Nat):pds data t (es.take q)<=pds data t es:=by
 have:pds data t es=pds data t (es.take q)+pds data t (es.drop q):=by
  unfold pds
  rw [<-List.sum_append,<-List.map_append,List.take_append_drop]
 omega
theorem Ae6 {α:Type} {l:List α} {r:List Bool} {x:α} (h:x∈Jl l r):x∈l:=by
 unfold Jl at h
 obtain ⟨p,hp,rfl⟩:=List.mem_map.1 h
 exact (List.of_mem_zip (a:=p.1) (b:=p.2) (List.mem_filter.1 hp).1).1
theorem Sg (data:List Al) (B:Nat) (U:1<=B):∀n:Nat,(∀(i:A5) (t:Ag) (w:Ay) (d:Nat),Cr i<=n->Et data i t=some d->Ce w<=B->bv data i t w<=B ^ d) /\
  (∀(f:List A5) (ts:List Ag) (g:List Ay) (d:Nat),Ed f<=n->Cx data f ts=some d->(∀w∈g,Ce w<=B)->bvs data f ts g<=B ^ d):=by
 intro n
 induction n with
 | zero=>
  refine ⟨fun i t w d h=>by have:=E2 i; omega,fun f ts g d h _ _=>?_⟩
  have:=L7 f
  have:f = []:=List.length_eq_zero_iff.1 (by omega)
  subst this
  rw [V6]; exact Nat.pow_pos (by omega)
 | succ n ih=>
  have c:∀d,1<=B ^ d:=fun d=>Nat.pow_pos (by omega)
  have key:∀(i:A5) (t:Ag) (w:Ay) (d:Nat),Cr i<=n+1->Et data i t=some d->Ce w<=B->bv data i t w<=B ^ d:=by
   intro i t w d hi hd hw
   have N:=E2 i
   have J:=I1 w
   have L:=Pt w.Kids
   rw [Am5]
   rw [Vk] at hd
   by_cases A:t.Kind=6
   .rw [if_pos A] at hd ⊢
    by_cases e:i.Num=0
    .rw [if_pos e] at hd
     exact ih.2 i.Kids t.Args w.Kids d (by omega) hd fun x hx=>by have:=Ji hx; omega
    .rw [if_neg e] at hd; cases hd
   .rw [if_neg A] at hd ⊢
    by_cases z:t.Kind=7
    .rw [if_pos z] at hd ⊢
     by_cases e:0<=i.Num/\i.Num<=6/\i.Kids.length=0
     .rw [if_pos e] at hd
      have hd:=Option.some.inj hd
      rw [hd]
      exact Nat.le_trans (Ae2 _ _) (Nat.pow_le_pow_left (by omega) d)
     .rw [if_neg e] at hd; cases hd
    .rw [if_neg z] at hd ⊢
     by_cases D:t.Kind=5
     .rw [if_pos D] at hd ⊢
      have hd:Fz data i.Kids t=some d:=by
       by_cases e:i.Num=0
       .rw [if_pos e] at hd; exact hd
       .rw [if_neg e] at hd; cases hd
      obtain ⟨h1,h2⟩:=Ae4 data _ _ _ hd
      have M:=Aeb data t.Num w
      have:=Am7 (bws data i.Kids t) B U (fun q=>pds data t (i.Kids.take q)) (Ge data t.Num w) (fun x hx q wt hq=>by
       rw [Z7] at hq
       obtain ⟨e,E,rfl⟩:=Option.map_eq_some_iff.1 hq
       have j:=Bs E
       obtain ⟨ts,s,l⟩:=h2 e j
       have I:=Ae3 data t.Num w x hx
       have R:=Jg j
       have S:=E2 e
       rw [Ae5 E,Nat.pow_add]
       refine Nat.mul_le_mul_left _ ?_
       unfold wOf
       split
       .have u:Me data t e.Num=ts:=by unfold Me; rw [s]
        rw [u]
        refine ih.2 e.Kids ts _ _ (by omega) l fun y hy=>?_
        have hy:=Ae6 hy
        have G:=Ji hy
        have:=I1 x
        omega
       .omega) (by omega) i.Kids.length
      rw [List.take_length] at this
      rw [h1]; exact this
     .rw [if_neg D]; exact c d
  refine ⟨key,?_⟩
  intro f
  induction f with
  | nil=>intro ts g d _ _ _; rw [V6]; exact c d
  | cons i f k=>
   intro ts g d hi hd hw
   cases ts with
   | nil=>rw [show bvs data (i::f) [] g=1 by simp only [bvs]]; exact c d
   | cons t ts=>
    cases g with
    | nil=>rw [show bvs data (i::f) (t::ts) []=1 by simp only [bvs]]; exact c d
    | cons w g=>
     simp only [Ed] at hi
     rw [Nt] at hd
     cases h1:Et data i t with
     | none=>rw [h1] at hd; cases hd
     | some a=>
      rw [h1,Ad] at hd
      cases h2:Cx data f ts with
      | none=>rw [h2] at hd; cases hd
      | some b=>
       rw [h2] at hd
       have hd:a+b=d:=Option.some.inj hd
       rw [Z6,<-hd,Nat.pow_add]
       exact Nat.mul_le_mul (key i t w a (by omega) h1 (hw w (by simp))) (k ts g b (by omega) h2 fun y hy=>hw y (by simp [hy]))
end Go.Ab
namespace Go.Ab
open Go
theorem Ae7 {α:Type}:∀(l:List α) (r:List Bool) (s:Nat) (n:Nat) (p:Int) (L:Nat->Option α),l.length=r.length->(∀j,L (s+j)=l[j]?) ->
  (((r.zipIdx s).filter fun q=>!q.1).map fun q=>(q.2:Int))[n]? = some p->∃(m:Nat) (a:α),p=m/\L m=some a/\(Jl l r)[n]? = some a
 | [],[],s,n,p,L,_,_,h=>by simp at h
 | a::l,b::r,s,n,p,L,i,g,h=>by
  have c:l.length=r.length:=by simpa using i
  have f:∀j,L (s+1+j)=l[j]?:=fun j=>by rw [show s+1+j=s+(j+1) by omega,g]; rfl
  cases b with
  | true=>
   simp only [List.zipIdx_cons,List.filter_cons,bnt] at h
   obtain ⟨m,x,h1,h2,h3⟩:=Ae7 l r (s+1) n p L c f (by simpa using h)
   exact ⟨m,x,h1,h2,by simpa [Jl] using h3⟩
  | false=>
   simp only [List.zipIdx_cons,List.filter_cons,Bool.not_false,if_true,List.map_cons] at h
   cases n with
   | zero=>
    simp only [List.getElem?_cons_zero,Option.some.injEq] at h
    exact ⟨s,a,h.symm,by have:=g 0; simpa using this,by simp [Jl]⟩
   | succ n=>
    simp only [List.getElem?_cons_succ] at h
    obtain ⟨m,x,h1,h2,h3⟩:=Ae7 l r (s+1) n p L c f h
    exact ⟨m,x,h1,h2,by simpa [Jl] using h3⟩
 | [],_::_,_,_,_,_,h,_,_=>by simp at h
 | _::_,[],_,_,_,_,h,_,_=>by simp at h
theorem Ayh {α:Type} {l:List α} {r:List Bool} (b:l.length=r.length) {n:Nat} {p:Int} (h:(F3 r)[n]? = some p):∃(m:Nat) (a:α),p=m/\l[m]? = some a/\(Jl l r)[n]? = some a :=
 Ae7 l r 0 n p (fun j=>l[j]?) b (fun j=>by simp) (by unfold F3 at h; exact h)
theorem Am9 {a b K:Nat} (ha:A9 a<=K) (hb:A9 b<=K) (c:1<=K) (h:K<60000000000):Eh (cR a) (cR b)=some (cR (a*b)):=by
 obtain ⟨a1,a2,a3⟩:=V4 a
 obtain ⟨b1,b2,f⟩:=V4 b
 rw [Y4 _ _ K K (Md ha c) (Md hb c) (by omega) (by omega),a1,a2,a3,b1,b2,f]
 simp [cR]
def Sm (a:Nat):Prop:=a<=5000 ^ 6
theorem Sm.lg {a:Nat} (h:Sm a):A9 a<=3:=Iy (Nat.lt_of_le_of_lt h (by decide))
theorem Sm.of {a d:Nat} (h:a<=5000 ^ d) (hd:d<=6):Sm a:=Nat.le_trans h (Nat.pow_le_pow_right (by decide) hd)
theorem Ae8 (data:List Al):∀(c:List A5) (ts:List Ag) (d j:Nat),Cx data c ts=some d->∃e,Cx data (c.take j) (ts.take j)=some e/\e<=d
 | [],[],d,j,_=>⟨0,by simp [Cx],by omega⟩
 | i::c,t::ts,d,0,_=>⟨0,by simp [Cx],by omega⟩
 | i::c,t::ts,d,j+1,h=>by
  rw [Nt] at h
  cases h1:Et data i t with
  | none=>rw [h1] at h; cases h
  | some a=>
   rw [h1,Ad] at h
   cases h2:Cx data c ts with
   | none=>rw [h2] at h; cases h
   | some b=>
    rw [h2] at h
    have h:a+b=d:=Option.some.inj h
    obtain ⟨e,f,g⟩:=Ae8 data c ts b j h2
    refine ⟨a+e,?_,by omega⟩
    rw [List.take_succ_cons,List.take_succ_cons,Nt,h1,Ad,f]; rfl
 | [],_::_,_,_,h=>by simp only [Cx] at h; cases h
 | _::_,[],_,_,h=>by simp only [Cx] at h; cases h
theorem Ayi {data:List Al} {b:List A5} {ts:List Ag} {c:List Ay} {d:Nat} (h:Cx data b ts=some d) (hd:d<=6) (hw:∀w∈c,Ce w<=5000) (j:Nat):Sm (bvs data (b.take j) (ts.take j) (c.take j)):=by
 obtain ⟨e,f,g⟩:=Ae8 data b ts d j h
 exact Sm.of ((Sg data 5000 (by decide) _).2 _ _ _ e (Nat.le_refl _) f fun w hx=>hw w (List.mem_of_mem_take hx)) (by omega)
theorem Ayj {data:List Al} {t:Ag} (S:Szv data) (hk:t.Kind=5) {e:A5} {x:Ay} {ts:List Ag} (hx:E3 data x t=true) (A:x.Num=e.Num) (b:F2 data t e.Num=some ts) :
  (Jj data t e).types=ts/\(F3 (C3 data t.Num e.Num)).length=ts.length/\ts.length<=6/\(∀a∈ts,Bg a<=200) /\
   ∀(j:Nat) (u:Int),(F3 (C3 data t.Num e.Num))[j]? = some u->∃(m:Nat) (a:Ag) (w:Ay),u=m/\ts[j]? = some a/\x.Kids[m]? = some w/\(Jl x.Kids (C3 data t.Num e.Num))[j]? = some w/\E3 data w a=true/\Ce w<=Ce x:=by
 have E:=b
 unfold F2 at b
 cases g:G4 data t e.Num with
 | none=>rw [g] at b; cases b
 | some fl=>
  rw [g] at b
  have b:Ew fl (C3 data t.Num e.Num)=ts:=Option.some.inj b
  have h:=Vj g
  have c:Ik data x.Kids fl=true:=by
   rw [R9,if_neg (by omega),if_neg (by omega),if_neg (by omega),if_neg (by omega),if_pos hk] at hx
   rw [A,g] at hx
   simp only [Cl] at hx
   exact hx.2
  have z:x.Kids.length=fl.length:=by
   by_cases J:x.Kids.length=fl.length
   .exact J
   .rw [Vt data _ _ J] at c; cases c
  have L:fl.length<=6:=by
   obtain ⟨N,y,_,B,_,hy,G,_⟩:=Ns g
   obtain ⟨M,_⟩:=S N (Ff B).2.2.2 y (Ff hy).2.2.2
   rw [G]; simpa using M
  have V:=Zi fl (C3 data t.Num e.Num)
  have k:=Axl fl (C3 data t.Num e.Num) h.symm
  have U:=I1 x
  refine ⟨by unfold Jj; simp only [g,b],by rw [k,b],by rw [<-b]; omega,(Ady E).1,fun j u q=>?_⟩
  obtain ⟨m,a,rfl,I,s⟩:=Axk h.symm q
  obtain ⟨R,w,X,f,D⟩:=Ayh (l:=x.Kids) (by omega) q
  obtain rfl:m=R:=by omega
  rw [b] at s
  refine ⟨m,a,w,rfl,s,f,D,?_,?_⟩
  .rw [Vu data _ _ z] at c
   exact List.all_eq_true.1 c (w,a) (Bs (i:=m) (by rw [List.getElem?_zip_eq_some]; exact ⟨f,I⟩))
  .have:=Ji (Bs f)
   omega
theorem Ayk {data:List Al} {t:Ag} (hz:Szv data) (hk:t.Kind=5) (l:List A5) (hp:∀e∈l,∃ts,F2 data t e.Num=some ts/\Cx data e.Kids ts=some (pdg data t e)) (bg:l.length+pds data t l<=6) (k:Nat)
  (b6:∀e∈l,∀(i':A5) (t':Ag) (w:Ay) (d:Nat),i'∈e.Kids->Et data i' t'=some d->d<=6->Bg t'<=200->E3 data w t'=true->Ce w<=5000->Kl k data t' i' w=some (cR (bv data i' t' w)))
  (x:Ay) (hx:E3 data x t=true) (ba:Ce x<=5000) (f:Nat->Nat) (hf:∀q,q<=l.length->f q<=5000 ^ (q+pds data t (l.take q))) (b4:∀q,q<=l.length->Ln (bws data l t) x f q<=5000 ^ (q+pds data t (l.take q))) {R:Type} {J:Int×List Ao->Option R} {r:R}
  (hJ:J (0,Gf l.length (Ln (bws data l t) x f))=some r) :
  (Aj (S:=(Int×(List Ao))) (E:=(Int×(List Ao))) (fun (c,u)=>
   bif (decide (c>(0:Int))) then (
   (Af (l.map (Jj data t)) (Ac (c-1))).bind fun z=>
   (show Option Bool from
   bif (z.con != x.Num) then some true
   else (
   (Af u (Ac (c-1))).bind fun ae=>
   (Hg ae).bind fun ad=>
   some (ad==(0:Int)))).bind fun ac=>
   bif ac then some (.inl ((Ac (c-1)),u))
   else (
   (Af u (Ac (c-1))).bind fun I=>
   (Aj (S:=(Int×Bool×(List Int)×(List Int))) (E:=(Int×Bool×(List Int)×(List Int))) (fun (y,V,v226,v227)=>
   bif (decide (y<(z.places.length:Int))) then (
   (Af z.places y).bind fun v228=>
   (Af z.types y).bind fun v229=>
   (Af z.kids y).bind fun ab=>
   (Af x.Kids v228).bind fun aa=>
   (Kl k data v229 ab aa).bind fun v232=>
   (Eh (Ao.mk V v226 v227) v232).bind fun v233=>
   some (.inl ((Ac (y+1)),v233.Neg,v233.Num,v233.Den)))
   else some (.inr (y,V,v226,v227))) (0,I.Neg,I.Num,I.Den)).bind fun (v234,a8,v236,a7)=>
   (Af u c).bind fun G=>
   (Gr G (Ao.mk a8 v236 a7)).bind fun a6=>
   (Af u c).bind fun b8=>
   some (.inl ((Ac (c-1)),(Cp u c a6)))))
   else some (.inr (c,u))) ((l.length:Int),Gf l.length f)).bind J=some r:=by
 generalize hg:Ln (bws data l t) x f=g at hJ b4
 have sm:∀q,q<=l.length->q+pds data t (l.take q)<=6:=fun q hq=>by have:=Ayg data t l q; omega
 refine Nk l.length (fun i=>(((l.length-i:Nat):Int),Gf l.length (fun p=>if l.length-i<p then g p else f p))) ?_ ?_ ?_
 .simp only [Nat.sub_zero,Int.ofNat_eq_natCast]
  congr 1
  exact Aez (fun p hp=>by rw [if_neg (by omega)])
 .intro i hi
  obtain ⟨q,hq⟩:∃q:Nat,l.length-i=q+1:=⟨l.length-i-1,by omega⟩
  have hq':l.length-(i+1)=q:=by omega
  have N:q+1<=l.length:=by omega
  have he:l[q]? = some l[q]:=Bw (by omega)
  generalize l[q]=e at he
  have ao:=Bs he
  have w1:Ac (((q+1:Nat):Int)-1)=((q:Nat):Int):=by rw [show (((q+1:Nat):Int)-1)=(q:Int) by omega,Ac,B3] <;> omega
  have b5:Af (l.map (Jj data t)) (q:Int)=some (Jj data t e):=B1 rfl (by rw [List.getElem?_map,he]; rfl)
  have Z:g (q+1)=f (q+1)+f q*wOf data t e x:=by
   rw [<-hg]
   simp only [Ln,Z7,he,Option.map_some]
  simp only [hq,hq',Ap (by omega:((q+1:Nat):Int)>0),cond_true,w1,b5,Ad]
  have am:Af (Gf l.length (fun p=>if q+1<p then g p else f p)) (q:Int)=some (cR (f q)):=by
   rw [B1 rfl (Nz _ (by omega)),if_neg (by omega)]
  have b3:Af (Gf l.length (fun p=>if q+1<p then g p else f p)) ((q+1:Nat):Int)=some (cR (f (q+1))):=by
   rw [B1 rfl (Nz _ (by omega)),if_neg (by omega)]
  have same:g (q+1)=f (q+1)->Gf l.length (fun p=>if q+1<p then g p else f p)=Gf l.length (fun p=>if q<p then g p else f p):=fun X=>Aez (fun p hp=>by
   by_cases e2:q+1<p
   .rw [if_pos e2,if_pos (by omega)]
   .rw [if_neg e2]
    by_cases e3:q<p
    .rw [if_pos e3,show p=q+1 by omega,X]
    .rw [if_neg e3])
  show ((bif (e.Num != x.Num) then some true else _).bind _)=_
  by_cases B:x.Num=e.Num
  .rw [Fd B.symm]
   have sq:=Sm.of (hf q (by omega)) (sm q (by omega))
   have ap:=Sm.of (hf (q+1) N) (sm (q+1) N)
   simp only [cond_false,am,Ad,Axi sq.lg (by decide) (by decide)]
   by_cases a1:f q=0
   .rw [if_pos a1]
    simp only [beq_self_eq_true,cond_true]
    rw [same (by rw [Z,a1,Nat.zero_mul,Nat.add_zero])]
   .rw [if_neg a1]
    have b7:((1:Int)==0)=false:=rfl
    simp only [b7,cond_false,am,Ad]
    obtain ⟨ts,ag,af⟩:=hp e ao
    obtain ⟨ax,ah,b9,ay,aj⟩:=Ayj hz hk hx B ag
    have az:(Jj data t e).places=F3 (C3 data t.Num e.Num):=rfl
    have b0:(Jj data t e).kids=e.Kids:=rfl
    rw [ax,az,b0]
    obtain ⟨i1,i2⟩:=Aey data _ _ _ af
    have bf:q+1+pds data t (l.take q)+pdg data t e<=6:=by
     have:=sm (q+1) N
     rw [Ae5 he] at this; omega
    generalize Y:Jl x.Kids (C3 data t.Num e.Num)=D at aj
    have aq:∀w∈D,Ce w<=5000:=fun w hw=>by
     rw [<-Y] at hw
     have:=Ji (Ae6 hw)
     have:=I1 x
     omega
    have L:∀j,Sm (f q*bvs data (e.Kids.take j) (ts.take j) (D.take j)):=fun j=>by
     obtain ⟨e',X,e2⟩:=Ae8 data e.Kids ts _ j af
     have h1:=(Sg data 5000 (by decide) _).2 _ _ (D.take j) e' (Nat.le_refl _) X fun w hx=>aq w (List.mem_of_mem_take hx)
     have h2:=Nat.mul_le_mul (hf q (by omega)) h1
     rw [<-Nat.pow_add] at h2
     exact Sm.of h2 (by omega)
    have au:wOf data t e x=bvs data e.Kids ts D:=by
     unfold wOf
     rw [if_pos B,Y]
     unfold Me
     rw [ag]
    refine Fe (F3 (C3 data t.Num e.Num)) (fun j=>((j:Int),(cR (f q*bvs data (e.Kids.take j) (ts.take j) (D.take j))).Neg,(cR (f q*bvs data (e.Kids.take j) (ts.take j) (D.take j))).Num,(cR (f q*bvs data (e.Kids.take j) (ts.take j) (D.take j))).Den)) ?_ (by omega) ?_ ?_
    .simp only [List.take_zero,V6,Nat.mul_one]; rfl
    .intro j pl hj ai h1 h2 h3
     obtain ⟨mm,a,w,rfl,U,hw,ar,av,bb⟩:=aj j pl ai
     have M:e.Kids[j]? = some (e.Kids[j]'(by omega)):=Bw _
     generalize e.Kids[j]'_=i' at M
     obtain ⟨d,d1,d2⟩:=i2 j i' a M U
     have hb:=Sm.of ((Sg data 5000 (by decide) _).1 i' a w d (Nat.le_refl _) d1 (by omega)) (by omega)
     simp only [h1,h2,h3,cond_true,Ad,B1 rfl U,B1 rfl M,B1 rfl hw]
     rw [b6 e ao i' a w d (Bs M) d1 (by omega) (ay a (Bs U)) av (by omega),Ad]
     show (Eh (cR (f q*bvs data (e.Kids.take j) (ts.take j) (D.take j))) (cR (bv data i' a w))).bind _=_
     rw [Am9 (L j).lg hb.lg (by decide) (by decide),Ae1 data _ _ _ j i' a w M U ar,Nat.mul_assoc]; rfl
    .intro h1
     refine ⟨_,by simp only [h1]; rfl,?_⟩
     have A:=L (F3 (C3 data t.Num e.Num)).length
     have bd:D.length=ts.length:=by
      have:∀(l:List Ay) (r:List Bool),l.length=r.length->(Jl l r).length=(F3 r).length:=by
       intro l r hl
       unfold Jl F3
       rw [List.length_map,List.length_map]
       have key:∀(l:List Ay) (r:List Bool) (s:Nat),l.length=r.length->((r.zipIdx s).filter fun q=>!q.1).length=((l.zip r).filter fun p=>!p.2).length:=by
        intro l
        induction l with
        | nil=>intro r s h; have:r = []:=List.length_eq_zero_iff.1 h.symm; subst this; rfl
        | cons a l ih=>
         intro r s h
         cases r with
         | nil=>simp at h
         | cons b r=>
          have:=ih r (s+1) (by simpa using h)
          cases b <;> simp [this]
       exact (key l r 0 hl).symm
      obtain ⟨_,_,_,_,ak,_⟩:=Zt hk hx
      rw [<-Y,this _ _ (by rw [<-ak,B]),ah]
     rw [ah] at A ⊢
     have X:e.Kids.take ts.length=e.Kids:=List.take_of_length_le (by omega)
     have e2:D.take ts.length=D:=List.take_of_length_le (by omega)
     rw [X,e2,List.take_length] at A ⊢
     show ((Af _ _).bind fun G=>(Gr G (cR (f q*bvs data e.Kids ts D))).bind _)=_
     rw [b3]
     simp only [Ad]
     rw [Axh (ap.lg) A.lg (by decide) (by decide)]
     simp only [Ad,w1]
     congr 3
     refine Amz N ?_ ?_
     .rw [if_pos (by omega),Z,au]
     .intro p hp be
      by_cases X:q+1<p
      .rw [if_pos (by omega),if_pos X]
      .rw [if_neg (by omega),if_neg X]
  .rw [Ec (fun e=>B e.symm)]
   simp only [Ad,cond_true]
   rw [same (by rw [Z,show wOf data t e x=0 by unfold wOf; rw [if_neg B],Nat.mul_zero,Nat.add_zero])]
 .refine ⟨(0,Gf l.length g),?_,hJ⟩
  simp only [Nat.sub_self]
  have:Gf l.length (fun p=>if 0<p then g p else f p)=Gf l.length g:=Aez (fun p hp=>by
   by_cases e:0<p
   .rw [if_pos e]
   .have:p=0:=by omega
    subst this; rw [if_neg e,<-hg]; rfl)
  rw [this]; rfl
theorem Ayl {data:List Al} (B:Szv data) (N:Li data) (Z:∀x∈data,x.Cons.length<=8) {t:Ag} (hk:t.Kind=5) (ht:Bg t<=200) (l:List A5)
  (hp:∀e∈l,∃ts,F2 data t e.Num=some ts/\Cx data e.Kids ts=some (pdg data t e)) (I:l.length+pds data t l<=6) (v:Ay) (hv:Ce v<=5000) (R:E3 data v t=true) (k:Nat)
  (M:∀e∈l,∀(i':A5) (g:Ag) (w:Ay) (d:Nat),i'∈e.Kids->Et data i' g=some d->d<=6->Bg g<=200->E3 data w g=true->Ce w<=5000->Kl k data g i' w=some (cR (bv data i' g w))) :
  Q8 (k+1) data t l v=some (cR (dpS (bws data l t) (Ge data t.Num v) l.length)):=by
 have Y:=Aeb data t.Num v
 rw [Q8]
 refine Fe l (fun j=>((j:Int),(l.take j).map (Jj data t))) (by simp) (by omega) ?_ ?_
 .intro j e hj z h1 h2 h3
  obtain ⟨ts,b,_⟩:=hp e (Bs z)
  unfold F2 at b
  cases u:G4 data t e.Num with
  | none=>rw [u] at b; cases b
  | some fl=>
   have G:=Vj u
   have s:fl.length<=6:=by
    obtain ⟨U,y,_,D,_,hy,J,_⟩:=Ns u
    obtain ⟨S,_⟩:=B U (Ff D).2.2.2 y (Ff hy).2.2.2
    rw [J]; simpa using S
   simp only [h1,h2,h3,cond_true,Ad,Zh B t ht,Vf data t.Num e.Num N,u,okL]
   refine Axn fl (C3 data t.Num e.Num) G s ?_
   show (B6 80 _ [_]).bind _=_
   rw [D2 (by simp; omega),Ad,C7 z,List.map_append]
   congr 4
   show [_] = [Jj data t e]
   unfold Jj
   rw [u]
 .intro h1
  refine ⟨l.map (Jj data t),by simp only [h1]; rw [List.take_length]; rfl,?_⟩
  have e1:Ac ((((l.map (Jj data t)).length:Nat):Int)+1)=((l.length+1:Nat):Int):=by
   rw [List.length_map,Ac,B3] <;> omega
  rw [e1,J2 (n:=l.length+1) (c:=l.length+1) rfl rfl (by omega) (by omega) (by omega),Ad]
  refine Axo (l.length+1) (by omega) ?_
  have L:Af (List.replicate (l.length+1) (cR 0)) 0=some (cR 0):=B1 (n:=0) rfl (by rw [List.getElem?_replicate,if_pos (by omega)])
  rw [Aew,Ad,L,Ad,Awd N Z hk v hv R,Ad]
  have e2:Cp (List.replicate (l.length+1) (cR 0)) 0 (cR 1)=Gf l.length (dpS (bws data l t) []):=by
   have:List.replicate (l.length+1) (cR 0)=Gf l.length (fun _=>0):=by
    apply List.ext_getElem?
    intro i
    rcases Nat.lt_or_ge i (l.length+1) with hi | hi
    .rw [Nz _ (by omega),List.getElem?_replicate,if_pos hi]
    .rw [List.getElem?_eq_none (by simpa using hi),List.getElem?_eq_none (by rw [Pz]; exact hi)]
   rw [this]
   refine Amz (q:=0) (by omega) rfl ?_
   intro p _ hp
   show (if p=0 then 1 else 0)=0
   rw [if_neg hp]
  rw [e2]
  have f:∀x∈Ge data t.Num v,∀q w,(bws data l t)[q]? = some w->5000 ^ pds data t (l.take q)*w x<=5000 ^ pds data t (l.take (q+1)):=by
   intro x hx q wt hq
   rw [Z7] at hq
   obtain ⟨e,z,rfl⟩:=Option.map_eq_some_iff.1 hq
   obtain ⟨ts,b,E⟩:=hp e (Bs z)
   have X:=Ae3 data t.Num v x hx
   rw [Ae5 z,Nat.pow_add]
   refine Nat.mul_le_mul_left _ ?_
   unfold wOf
   split
   .rw [show Me data t e.Num=ts by unfold Me; rw [b]]
    refine (Sg data 5000 (by decide) _).2 e.Kids ts _ _ (Nat.le_refl _) E fun y hy=>?_
    have V:=Ji (Ae6 hy)
    have:=I1 x
    omega
   .exact Nat.zero_le _
  have A:∀j q,dpS (bws data l t) ((Ge data t.Num v).take j) q<=5000 ^ (q+pds data t (l.take q)):=fun j q=>
   Am7 _ 5000 (by decide) (fun q=>pds data t (l.take q)) _ (fun x hx=>f x (List.mem_of_mem_take hx)) (by rw [List.length_take]; omega) q
  refine Fe (Ge data t.Num v) (fun j=>((j:Int),Gf l.length (dpS (bws data l t) ((Ge data t.Num v).take j)))) rfl (by omega) ?_ ?_
  .intro j x hj hx h1 h2 h3
   have hxm:=Axm hk _ v (Nat.le_refl _) R x (Bs hx)
   have h:Ln (bws data l t) x (dpS (bws data l t) ((Ge data t.Num v).take j))=dpS (bws data l t) ((Ge data t.Num v).take (j+1)):=by rw [C7 hx,Ayf]
   simp only [h1,h2,h3,cond_true,Ad]
   rw [show (((l.map (Jj data t)).length:Nat):Int)=(l.length:Int) by rw [List.length_map]]
   refine Ayk B hk l hp I k M x hxm.1 (by omega) _ (fun q _=>A j q) (fun q _=>by rw [h]; exact A (j+1) q) ?_
   rw [h]
  .intro h1
   refine ⟨_,by simp only [h1]; rw [List.take_length]; rfl,?_⟩
   rw [B1 (n:=l.length) (by simp) (Nz _ (Nat.le_refl _))]; rfl
theorem Aym {data:List Al} (M:Szv data) (V:Li data) (h8:∀x∈data,x.Cons.length<=8):∀(n:Nat) (i:A5) (t:Ag) (w:Ay) (k d:Nat),Cr i<=n->2*n<=k->n<1099511627776->Et data i t=some d->d<=6->Bg t<=200->E3 data w t=true->Ce w<=5000->Kl k data t i w=some (cR (bv data i t w)):=by
 intro n
 induction n with
 | zero=>intro i t w k d h; have:=E2 i; omega
 | succ n ih=>
  intro i t w k d hi hk hn hd E ht l hw
  obtain ⟨k,rfl⟩:∃L,k=L+2:=⟨k-2,by omega⟩
  have Z:=E2 i
  have N:=I1 w
  rw [Kl,Aew,Am5]
  simp only [Ad]
  rw [Vk] at hd
  rw [R9] at l
  by_cases f:t.Kind=6
  .rw [Dw f,if_pos f]
   rw [if_pos f] at hd
   rw [if_neg (by omega),if_neg (by omega),if_neg (by omega),if_pos f] at l
   simp only [Cl] at l
   have c:=l.2
   have hd:Cx data i.Kids t.Args=some d:=by
    by_cases e:i.Num=0
    .rw [if_pos e] at hd; exact hd
    .rw [if_neg e] at hd; cases hd
   obtain ⟨i1,i2⟩:=Aey data _ _ _ hd
   have z:w.Kids.length=t.Args.length:=by
    by_cases I:w.Kids.length=t.Args.length
    .exact I
    .rw [Vt data _ _ I] at c; cases c
   have S:=Hk t
   have U:=Jf t.Args
   have y:∀x∈w.Kids,Ce x<=5000:=fun x hx=>by have:=Ji hx; omega
   have hS:=Ayi hd E y
   rw [cond_true]
   refine Fe t.Args (fun j=>((j:Int),(cR (bvs data (i.Kids.take j) (t.Args.take j) (w.Kids.take j))).Neg,(cR (bvs data (i.Kids.take j) (t.Args.take j) (w.Kids.take j))).Num,(cR (bvs data (i.Kids.take j) (t.Args.take j) (w.Kids.take j))).Den)) (by simp only [List.take_zero,V6]; rfl) (by omega) ?_ ?_
   .intro j a hj ha h1 h2 h3
    have b:i.Kids[j]? = some (i.Kids[j]'(by omega)):=Bw _
    generalize i.Kids[j]'_=i' at b
    have hu:w.Kids[j]? = some (w.Kids[j]'(by omega)):=Bw _
    generalize w.Kids[j]'_=u at hu
    obtain ⟨e,d1,d2⟩:=i2 j i' a b ha
    have R:=Ji (Bs hu)
    have a1:=Jg (Bs b)
    have a6:=Hu (Bs ha)
    have B:E3 data u a=true:=by
     rw [Vu data _ _ z] at c
     exact List.all_eq_true.1 c (u,a) (Bs (i:=j) (by rw [List.getElem?_zip_eq_some]; exact ⟨hu,ha⟩))
    have hb:=Sm.of ((Sg data 5000 (by decide) _).1 i' a u e (Nat.le_refl _) d1 (by omega)) (by omega)
    simp only [h1,h2,h3,cond_true,Ad,B1 rfl b,B1 rfl hu]
    rw [ih i' a u (k+1) e (by omega) (by omega) (by omega) d1 (by omega) (by omega) B (by omega),Ad]
    show (Eh (cR (bvs data (i.Kids.take j) (t.Args.take j) (w.Kids.take j))) (cR (bv data i' a u))).bind _=_
    rw [Am9 (hS j).lg hb.lg (by decide) (by decide),Ae1 data _ _ _ j i' a u b ha hu]; rfl
   .intro h1
    refine ⟨_,by simp only [h1]; rfl,?_⟩
    have e1:i.Kids.take t.Args.length=i.Kids:=List.take_of_length_le (by omega)
    have e2:w.Kids.take t.Args.length=w.Kids:=List.take_of_length_le (by omega)
    rw [e1,e2,List.take_length]
  .rw [if_neg f] at hd ⊢
   rw [Co f,cond_false]
   by_cases q:t.Kind=7
   .rw [Dw q,cond_true,if_pos q]
    rw [if_pos q] at hd
    have Y:=Pt w.Kids
    by_cases e:0<=i.Num/\i.Num<=6/\i.Kids.length=0
    .obtain ⟨m,X⟩:∃m:Nat,i.Num=m:=⟨i.Num.toNat,by omega⟩
     rw [X]
     first | rw [Axj _ _ (by omega) (by omega),Ad] | rw [Amy _ _ (by omega) (by omega),Ad]
     rw [Int.toNat_natCast]
    .rw [if_neg e] at hd; cases hd
   .rw [if_neg q] at hd ⊢
    rw [Co q,cond_false]
    by_cases g:t.Kind=5
    .rw [Dw g,cond_true,if_pos g]
     rw [if_pos g] at hd
     have hd:Fz data i.Kids t=some d:=by
      by_cases e:i.Num=0
      .rw [if_pos e] at hd; exact hd
      .rw [if_neg e] at hd; cases hd
     obtain ⟨h1,h2⟩:=Ae4 data _ _ _ hd
     rw [<-R9] at l
     rw [Ayl M V h8 g ht i.Kids h2 (by omega) w hw l k (fun e he i' J u d' b G s D hu A=>by
      have h3:=Jg b
      have h4:=E2 e
      have h5:=Jg he
      exact ih i' J u k d' (by omega) (by omega) (by omega) G s D hu A),Ad]
    .rw [Co g,cond_false,if_neg g]
end Go.Ab
