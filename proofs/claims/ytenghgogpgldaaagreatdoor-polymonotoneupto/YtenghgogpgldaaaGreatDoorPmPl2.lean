/- Plain laws: what the plain functions answer. -/
import Derived.Test.YtenghgogpgldaaaGreatDoorPmPl1
import Derived.Lib.ItoaLen
import Derived.KernelRfl
namespace Go.Ab
open Go
def I64 (n:Int):Prop:= -9223372036854775808<=n/\n<=9223372036854775807
def ti (n:Int):List Int:=(Lib.itoa n).map fun c=>(c.toNat:Int)
def L8 (c:Int):Bool:=c==45||(decide (48<=c)&&decide (c<=57))
theorem Ry {d:Nat} (h:d<10):(UInt8.ofNat (48+d)).toNat=48+d:=by
 rw [UInt8.toNat_ofNat']; omega
theorem Zm:∀(n u:Nat),u<=n->∀c∈Lib.decDigits u,48<=c.toNat/\c.toNat<=57:=by
 intro n
 induction n with
 | zero=>
  intro u hu c hc
  rw [Lib.decDigits,dif_pos (by omega)] at hc
  simp only [List.mem_singleton] at hc
  subst hc; rw [Ry (by omega)]; omega
 | succ n ih=>
  intro u hu c hc
  rw [Lib.decDigits] at hc
  split at hc
  .simp only [List.mem_singleton] at hc
   subst hc; rw [Ry (by omega)]; omega
  .rcases List.mem_append.1 hc with h | h
   .exact ih (u / 10) (by omega) c h
   .simp only [List.mem_singleton] at h
    subst h; rw [Ry (by omega)]; omega
def Zn (l:List UInt8):Nat:=l.foldl (fun a c=>10*a+(c.toNat-48)) 0
theorem Aky:∀(n u:Nat),u<=n->Zn (Lib.decDigits u)=u:=by
 intro n
 induction n with
 | zero=>
  intro u hu
  rw [Lib.decDigits,dif_pos (by omega)]
  simp only [Zn,List.foldl_cons,List.foldl_nil]
  rw [Ry (by omega)]; omega
 | succ n ih=>
  intro u hu
  rw [Lib.decDigits]
  split
  .simp only [Zn,List.foldl_cons,List.foldl_nil]
   rw [Ry (by omega)]; omega
  .have:=ih (u / 10) (by omega)
   unfold Zn at *
   rw [List.foldl_append,this]
   simp only [List.foldl_cons,List.foldl_nil]
   rw [Ry (by omega)]; omega
theorem Akz {u v:Nat} (h:Lib.decDigits u=Lib.decDigits v):u=v:=by
 rw [<-Aky u u (Nat.le_refl _),h,Aky v v (Nat.le_refl _)]
theorem Au7 (u:Nat):Lib.decDigits u≠[]:=by
 rw [Lib.decDigits]; split <;> simp
theorem Au8 {m n:Int} (h:Lib.itoa m=Lib.itoa n):m=n:=by
 have b:∀u v:Nat,45::Lib.decDigits u≠Lib.decDigits v:=by
  intro u v e
  have:=Zm v v (Nat.le_refl _) 45 (by rw [<-e]; simp)
  exact absurd this (by decide)
 unfold Lib.itoa at h
 split at h <;> split at h
 .have:=Akz (List.cons.inj h).2; omega
 .exact absurd h (b _ _)
 .exact absurd h.symm (b _ _)
 .have:=Akz h; omega
theorem Gc (n:Int):∀c∈ti n,L8 c=true:=by
 intro c hc
 unfold ti at hc
 obtain ⟨b,hb,rfl⟩:=List.mem_map.1 hc
 have key:b=45\/(48<=b.toNat/\b.toNat<=57):=by
  unfold Lib.itoa at hb
  split at hb
  .rcases List.mem_cons.1 hb with h | h
   .exact .inl h
   .exact .inr (Zm _ _ (Nat.le_refl _) b h)
  .exact .inr (Zm _ _ (Nat.le_refl _) b hb)
 unfold L8
 rcases key with rfl | ⟨h1,h2⟩
 .decide
 .rw [Bool.or_eq_true,Cl,decide_eq_true_eq,decide_eq_true_eq]; right; omega
theorem Ad1 (n:Int):ti n≠[]:=by
 unfold ti Lib.itoa
 split
 .simp
 .simpa using Au7 _
theorem Pn {m n:Int} (h:ti m=ti n):m=n:=by
 unfold ti at h
 have:∀l m:List UInt8,l.map (fun c=>(c.toNat:Int))=m.map (fun c=>(c.toNat:Int))->l=m:=by
  intro l
  induction l with
  | nil=>intro m h; cases m with | nil=>rfl | cons=>simp at h
  | cons x xs ih=>
   intro m h
   cases m with
   | nil=>simp at h
   | cons y ys=>
    simp only [List.map_cons,List.cons.injEq] at h
    rw [ih ys h.2,UInt8.toNat.inj (by omega:x.toNat=y.toNat)]
 exact Au8 (this _ _ h)
theorem Kr {n:Int} (h:I64 n):(ti n).length<=21:=by
 unfold ti; rw [List.length_map]; exact Lib.itoa_length_le n h.1 h.2
def Nv (X:List Int):Prop:=∀c m,X=c::m->L8 c=false/\c≠40
def Jh (X:List Int):Prop:=∀c m,X=c::m->L8 c=false
theorem L9:∀(a b X Y:List Int),(∀c∈a,L8 c=true)->(∀c∈b,L8 c=true)->Jh X->Jh Y->a++X=b++Y->a=b/\X=Y
 | [],[],_,_,_,_,_,_,h=>⟨rfl,h⟩
 | [],y::b,X,Y,_,hb,g,_,h=>by
  have:=g y (b++Y) h
  rw [hb y (by simp)] at this; cases this
 | x::a,[],X,Y,ha,_,_,f,h=>by
  have:=f x (a++X) h.symm
  rw [ha x (by simp)] at this; cases this
 | x::a,y::b,X,Y,ha,hb,g,f,h=>by
  simp only [List.cons_append,List.cons.injEq] at h
  obtain ⟨j,i⟩:=L9 a b X Y (fun c hc=>ha c (by simp [hc])) (fun c hc=>hb c (by simp [hc])) g f h.2
  exact ⟨by rw [h.1,j],i⟩
mutual
def wx:A5->List Int
 | ⟨n,kids⟩=>ti n++(if kids.length=0 then [] else 40::(wxs kids++[41]))
def wxs:List A5->List Int
 | []=>[]
 | x::xs=>wx x++44::wxs xs
end
theorem Ad2 (i:A5):wx i=ti i.Num++(if i.Kids.length=0 then [] else 40::(wxs i.Kids++[41])):=by cases i; simp only [wx]
theorem Ak0 (l m:List A5):wxs (l++m)=wxs l++wxs m:=by
 induction l with
 | nil=>simp [wxs]
 | cons x xs ih=>simp only [List.cons_append,wxs,ih,List.append_assoc]
theorem Ak1 (b:List A5) (X:List Int) (f:Nv X):Jh ((if b.length=0 then [] else 40::(wxs b++[41]))++X):=by
 intro c m h
 by_cases hk:b.length=0
 .rw [if_pos hk,List.nil_append] at h
  exact (f c m h).1
 .rw [if_neg hk,List.cons_append] at h
  cases h; decide
theorem Ak2 (X:List Int):Nv (44::X):=by intro c m h; cases h; exact ⟨by decide,by decide⟩
theorem Ak3:Nv []:=by intro c m h; cases h
mutual
theorem Ad3:∀(i j:A5) (X Y:List Int),Nv X->Nv Y->wx i++X=wx j++Y->i=j/\X=Y
 | ⟨n,k⟩,⟨n',k'⟩,X,Y,hX,hY,h=>by
  simp only [wx,List.append_assoc] at h
  obtain ⟨e1,e2⟩:=L9 _ _ _ _ (Gc n) (Gc n') (Ak1 k X hX) (Ak1 k' Y hY) h
  have e1:=Pn e1
  subst e1
  by_cases hk:k.length=0
  .by_cases hk':k'.length=0
   .rw [if_pos hk,if_pos hk'] at e2
    rw [List.length_eq_zero_iff.1 hk,List.length_eq_zero_iff.1 hk']
    exact ⟨rfl,e2⟩
   .rw [if_pos hk,if_neg hk',List.nil_append,List.cons_append] at e2
    exact absurd rfl (hX _ _ e2).2
  .by_cases hk':k'.length=0
   .rw [if_neg hk,if_pos hk',List.nil_append,List.cons_append] at e2
    exact absurd rfl (hY _ _ e2.symm).2
   .rw [if_neg hk,if_neg hk',List.cons_append,List.cons_append,List.append_assoc,List.append_assoc] at e2
    obtain ⟨e3,e4⟩:=Ak4 k k' X Y hX hY (List.cons.inj e2).2
    rw [e3]; exact ⟨rfl,e4⟩
theorem Ak4:∀(l m:List A5) (X Y:List Int),Nv X->Nv Y->wxs l++([41]++X)=wxs m++([41]++Y)->l=m/\X=Y
 | [],[],X,Y,_,_,h=>by
  simp only [wxs,List.nil_append,List.cons_append,List.cons.injEq,true_and] at h
  exact ⟨rfl,h⟩
 | [],y::ys,X,Y,_,_,h=>by
  exfalso
  cases ht:ti y.Num with
  | nil=>exact Ad1 _ ht
  | cons c r=>
   have hc:=Gc y.Num c (by rw [ht]; simp)
   simp only [wxs,Ad2 y,ht,List.nil_append,List.cons_append,List.cons.injEq] at h
   rw [<-h.1] at hc; exact absurd hc (by decide)
 | x::xs,[],X,Y,_,_,h=>by
  exfalso
  cases ht:ti x.Num with
  | nil=>exact Ad1 _ ht
  | cons c r=>
   have hc:=Gc x.Num c (by rw [ht]; simp)
   simp only [wxs,Ad2 x,ht,List.nil_append,List.cons_append,List.cons.injEq] at h
   rw [h.1] at hc; exact absurd hc (by decide)
 | x::xs,y::ys,X,Y,hX,hY,h=>by
  simp only [wxs,List.append_assoc,List.cons_append] at h
  obtain ⟨e1,e2⟩:=Ad3 x y _ _ (Ak2 _) (Ak2 _) h
  obtain ⟨e3,e4⟩:=Ak4 xs ys X Y hX hY (by simpa using e2)
  exact ⟨by rw [e1,e3],e4⟩
end
mutual
def iR:A5->Prop
 | ⟨n,l⟩=>I64 n/\iRs l
def iRs:List A5->Prop
 | []=>True
 | x::xs=>iR x/\iRs xs
end
theorem Au9 (i:A5):iR i↔I64 i.Num/\iRs i.Kids:=by cases i; simp only [iR]
theorem Ava {l:List A5} (h:iRs l) {a:A5} (ha:a∈l):iR a:=by
 induction l with
 | nil=>cases ha
 | cons x xs ih=>
  simp only [iRs] at h
  rcases List.mem_cons.1 ha with rfl | ha
  .exact h.1
  .exact ih h.2 ha
mutual
theorem Ad4:∀i:A5,iR i->(wx i).length+1<=24*Cr i
 | ⟨n,l⟩,h=>by
  simp only [iR] at h
  have h1:=Zo l h.2
  have h2:=Kr h.1
  simp only [wx,Cr,List.length_append]
  by_cases hl:l.length=0
  .rw [if_pos hl]; simp; omega
  .rw [if_neg hl]; simp; omega
theorem Zo:∀l:List A5,iRs l->(wxs l).length<=24*Ed l
 | [],_=>by simp [wxs,Ed]
 | x::xs,h=>by
  simp only [iRs] at h
  have h1:=Ad4 x h.1
  have h2:=Zo xs h.2
  have h3:=E2 x
  simp only [wxs,Ed,List.length_append,List.length_cons]; omega
end
theorem Ak5 (l m:List A5):Ed (l++m)=Ed l+Ed m:=by
 induction l with
 | nil=>simp [Ed]
 | cons x xs ih=>simp only [List.cons_append,Ed,ih]; omega
theorem Avb (l m:List A5):iRs (l++m)↔iRs l/\iRs m:=by
 induction l with
 | nil=>simp [iRs]
 | cons x xs ih=>simp only [List.cons_append,iRs,ih,and_assoc]
theorem Ad5 {n:Int} (h:I64 n):Lq n=some ⟨(Lib.itoa n).toArray⟩:=by unfold Lq; rw [if_pos (show _/\_ from h)]
theorem Avc (n:Int):Ki ⟨(Lib.itoa n).toArray⟩=ti n:=by unfold Ki ti; simp
theorem Avd:∀(k:Nat) (i:A5) (b:List Int),Cr i<=k->iR i->b.length+24*Cr i<=1099511627776->O2 k i b=some (b++wx i):=by
 intro k
 induction k with
 | zero=>intro i b h; have:=E2 i; omega
 | succ k ih=>
  intro i b h c hb
  have hi:=E2 i
  have z:=L7 i.Kids
  have c:=(Au9 i).1 c
  have B:=Kr c.1
  rw [O2,Ad2]
  simp only [Gs,Ad5 c.1,Ad,Fi,Rn,Avc]
  rw [D2 (by omega)]
  simp only [Ad]
  by_cases h0:i.Kids.length=0
  .rw [A1 (by omega),if_pos h0]; simp
  .rw [Ap (by omega),if_neg h0]
   simp only [cond_true,Rf,Rn,Ad]
   rw [D2 (by simp; omega),Ad]
   have g:=Zo i.Kids c.2
   have l:∀j,(wxs (i.Kids.take j)).length<=24*Ed i.Kids:=fun j=>by
    have:=Ak0 (i.Kids.take j) (i.Kids.drop j)
    rw [List.take_append_drop] at this
    rw [this,List.length_append] at g; omega
   refine Fe i.Kids (fun j=>((j:Int),b++ti i.Num++[40]++wxs (i.Kids.take j))) (by simp [wxs]) (by omega) ?_ ?_
   .intro j x hj hx h1 h2 h3
    have A:=Jg (Bs hx)
    have f:=Ava c.2 (Bs hx)
    have y:=Ad4 x f
    have hh:=l (j+1)
    have e:wxs (i.Kids.take (j+1))=wxs (i.Kids.take j)++(wx x++[44]):=by rw [C7 hx,Ak0]; simp [wxs]
    rw [e] at hh
    simp only [List.length_append,List.length_cons,List.length_nil] at hh
    simp only [h1,h2,h3,cond_true,Ad]
    have u:Ed (i.Kids.take j)+Cr x<=Ed i.Kids:=by
     have q:=Ak5 (i.Kids.take (j+1)) (i.Kids.drop (j+1))
     rw [List.take_append_drop,C7 hx,Ak5] at q
     simp only [Ed] at q; omega
    have s:(wxs (i.Kids.take j)).length<=24*Ed (i.Kids.take j):=Zo _ (by
     have:=(Avb (i.Kids.take j) (i.Kids.drop j)).1 (by rw [List.take_append_drop]; exact c.2)
     exact this.1)
    rw [ih x _ (by omega) f (by simp; omega)]
    simp only [Ad]
    rw [D2 (by simp; omega),e]
    simp
   .intro h1
    refine ⟨b++ti i.Num++[40]++wxs i.Kids,by simp,?_⟩
    rw [D2 (by simp; omega)]
    simp
def Hy (v:Int) (i:A5):List Int:=118::(ti v++58::wx i)
def Lk (v:Int) (i:A5):ByteArray:=⟨(Eu (Hy v i)).toArray⟩
mutual
theorem Ak6:∀i:A5,∀c∈wx i,0<=c/\c<256
 | ⟨n,l⟩,c,h=>by
  simp only [wx,List.mem_append] at h
  rcases h with h | h
  .have:=Gc n c h
   simp only [L8,Bool.or_eq_true,Cl,beq_iff_eq,decide_eq_true_eq] at this
   omega
  .by_cases hl:l.length=0
   .rw [if_pos hl] at h; cases h
   .rw [if_neg hl] at h
    simp only [List.mem_cons,List.mem_append,List.not_mem_nil,or_false] at h
    rcases h with h | h | h
    .omega
    .exact Ak7 l c h
    .omega
theorem Ak7:∀l:List A5,∀c∈wxs l,0<=c/\c<256
 | [],c,h=>by simp [wxs] at h
 | x::xs,c,h=>by
  simp only [wxs,List.mem_append,List.mem_cons] at h
  rcases h with h | h | h
  .exact Ak6 x c h
  .omega
  .exact Ak7 xs c h
end
theorem Zp (v:Int) (i:A5):∀c∈Hy v i,0<=c/\c<256:=by
 intro c h
 simp only [Hy,List.mem_cons,List.mem_append] at h
 rcases h with h | h | h | h
 .omega
 .have:=Gc v c h
  simp only [L8,Bool.or_eq_true,Cl,beq_iff_eq,decide_eq_true_eq] at this
  omega
 .omega
 .exact Ak6 i c h
theorem Ad6:∀l m:List Int,(∀c∈l,0<=c/\c<256)->(∀c∈m,0<=c/\c<256)->Eu l=Eu m->l=m
 | [],[],_,_,_=>rfl
 | [],_::_,_,_,h=>by simp [Eu] at h
 | _::_,[],_,_,h=>by simp [Eu] at h
 | x::xs,y::ys,h1,h2,h=>by
  simp only [Eu,List.map_cons,List.cons.injEq] at h
  have hx:=h1 x (by simp)
  have hy:=h2 y (by simp)
  have e:x.toNat=y.toNat:=by
   have:=congrArg UInt8.toNat h.1
   rw [UInt8.toNat_ofNat',UInt8.toNat_ofNat'] at this
   omega
  rw [Ad6 xs ys (fun c hc=>h1 c (by simp [hc])) (fun c hc=>h2 c (by simp [hc])) h.2,show x=y by omega]
theorem Ave {v w:Int} {i j:A5} (h:Lk v i=Lk w j):v=w/\i=j:=by
 unfold Lk at h
 have h1:(Eu (Hy v i)).toArray=(Eu (Hy w j)).toArray:=by injection h
 have h2:Eu (Hy v i)=Eu (Hy w j):=by simpa using congrArg Array.toList h1
 have h3:=Ad6 _ _ (Zp v i) (Zp w j) h2
 simp only [Hy,List.cons.injEq,true_and] at h3
 have b:∀X:List Int,Jh (58::X):=fun X c m e=>by cases e; decide
 obtain ⟨k,g⟩:=L9 _ _ _ _ (Gc v) (Gc w) (b _) (b _) h3
 obtain ⟨f,_⟩:=Ad3 i j [] [] Ak3 Ak3 (by simpa using (List.cons.inj g).2)
 exact ⟨Pn k,f⟩
theorem Avf (l:List UInt8):Ki ⟨l.toArray⟩=l.map fun b=>(b.toNat:Int):=by unfold Ki; simp
theorem Ak8 (v:Int) (i:A5) (hv:I64 v) (f:iR i) (hi:Cr i<=1048576):M5 v i=some (Lk v i):=by
 have k:=Kr hv
 have c:(Lib.itoa v).length=(ti v).length:=by unfold ti; simp
 unfold M5
 have j:D4 (ByteArray.mk #[118]) ⟨(Lib.itoa v).toArray⟩=some ⟨(118::Lib.itoa v).toArray⟩:=by
  unfold D4
  rw [if_pos]
  .congr 1
  .show 1+(Lib.itoa v).toArray.size<=9223372036854775807
   rw [List.size_toArray]; omega
 have h:D4 ⟨(118::Lib.itoa v).toArray⟩ (ByteArray.mk #[58])=some ⟨(118::(Lib.itoa v++[58])).toArray⟩:=by
  unfold D4
  rw [if_pos]
  .congr 1
  .show (118::Lib.itoa v).toArray.size+1<=9223372036854775807
   rw [List.size_toArray,List.length_cons]; omega
 simp only [Gs,Ad5 hv,Ad,j,h,H9,Ue,Avf]
 rw [D2 (by simp; omega)]
 simp only [Ad]
 rw [Avd 4000000 i _ (by omega) f (by simp; omega)]
 simp only [Ad,Jy]
 have g:([]++(118::(Lib.itoa v++[58])).map fun b=>(b.toNat:Int))++wx i=Hy v i:=by
  unfold Hy ti; simp
 rw [g]
 unfold Sz Lk
 rw [if_pos (Zp v i)]; rfl
end Go.Ab
namespace Go.Ab
open Go
mutual
theorem Ak9 (data:List Al):∀(i:A5) (t:Ag) (d:Nat),Et data i t=some d->d<=6*Cr i
 | ⟨n,kids⟩,t,d,h=>by
  rw [Vk] at h
  simp only [Cr]
  simp only at h
  split at h
  .split at h
   .have:=Vl data kids _ d h; omega
   .cases h
  .split at h
   .split at h
    .cases h; omega
    .cases h
   .split at h
    .split at h
     .have:=Ala data kids _ d h; omega
     .cases h
    .split at h
     .cases h; omega
     .cases h
theorem Vl (data:List Al):∀(is:List A5) (ts:List Ag) (d:Nat),Cx data is ts=some d->d<=6*Ed is
 | [],[],d,h=>by simp only [Cx] at h; cases h; omega
 | i::is,t::ts,d,h=>by
  rw [Nt] at h
  cases h1:Et data i t with
  | none=>rw [h1] at h; cases h
  | some a=>
   rw [h1,Ad] at h
   cases h2:Cx data is ts with
   | none=>rw [h2] at h; cases h
   | some b=>
    rw [h2] at h
    cases h
    have:=Ak9 data i t a h1
    have:=Vl data is ts b h2
    simp only [Ed]; omega
 | [],_::_,d,h=>by simp only [Cx] at h; cases h
 | _::_,[],d,h=>by simp only [Cx] at h; cases h
theorem Ala (data:List Al):∀(es:List A5) (t:Ag) (d:Nat),Fz data es t=some d->d<=6*Ed es
 | [],t,d,h=>by simp only [Fz] at h; cases h; omega
 | ⟨n,kids⟩::es,t,d,h=>by
  rw [Zk] at h
  simp only at h
  cases h1:F2 data t n with
  | none=>rw [h1] at h; cases h
  | some ts=>
   rw [h1,Ad] at h
   cases h2:Cx data kids ts with
   | none=>rw [h2] at h; cases h
   | some a=>
    rw [h2,Ad] at h
    cases h3:Fz data es t with
    | none=>rw [h3] at h; cases h
    | some b=>
     rw [h3] at h
     cases h
     have:=Vl data kids ts a h2
     have:=Ala data es t b h3
     simp only [Ed,Cr]; omega
end
def Rz (data:List Al) (e:A5) (t:Ag):Option Nat:=(F2 data t e.Num).bind fun ts=>(Cx data e.Kids ts).map (1 + ·)
theorem Avg (data:List Al) (e:A5) (es:List A5) (t:Ag):Fz data (e::es) t=(Rz data e t).bind fun a=>(Fz data es t).map (a + ·):=by
 rw [Zk]; unfold Rz
 cases F2 data t e.Num with
 | none=>rfl
 | some ts=>simp only [Ad]; cases Cx data e.Kids ts <;> rfl
theorem Avh (data:List Al) (e:A5) (t:Ag) (d:Nat) (h:Rz data e t=some d):d<=6*Cr e:=by
 unfold Rz at h
 cases h1:F2 data t e.Num with
 | none=>rw [h1] at h; cases h
 | some ts=>
  rw [h1,Ad] at h
  cases h2:Cx data e.Kids ts with
  | none=>rw [h2] at h; cases h
  | some a=>
   rw [h2] at h
   cases h
   have:=Vl data _ ts a h2
   have:=E2 e
   show 1+a<=_
   omega
def Dg (v:Int) (o:Option Nat):Prop:=(v = -1/\∀d,o=some d->6<d)\/∃d:Nat,o=some d/\v=d
theorem Dg.clip {v:Int} {o:Option Nat} (h:Dg v o):(if v>6 then -1 else v)=Hx o:=by
 rcases h with ⟨rfl,h⟩ | ⟨d,rfl,rfl⟩
 .rw [if_neg (by omega),Akx h]
 .by_cases hd:6<d
  .rw [if_pos (by omega),Ad0 hd]
  .rw [if_neg (by omega),Zl (by omega)]
theorem Zq {o p:Option Nat} {acc:Nat} {d:Nat} (h:(o.bind fun a=>p.map (a + ·)).map (acc + ·)=some d):∃a b,o=some a/\p=some b/\d=acc+(a+b):=by
 cases o with
 | none=>cases h
 | some a=>
  cases p with
  | none=>cases h
  | some b=>exact ⟨a,b,rfl,rfl,by simp at h; omega⟩
theorem Avi {data:List Al} (hz:Szv data) (hs:Li data) (b1:List (ByteArray×Int)) (b2:List (ByteArray×List Df)) (vars:List Ag) (M L:Int) (J:List Ag):∀k:Nat,
  (∀(i:A5) (t:Ag),3*Cr i<=k->Cr i<=1048576->Bg t<=200->∃v,Nb k t i b1 b2 data vars M L J=some v/\Dg v (Et data i t)) /\
  (∀(f:List A5) (ts:List Ag),3*Ed f+1<=k->Ed f<=1048576->(∀t∈ts,Bg t<=200)->∃v,O9 k ts f b1 b2 data vars M L J=some v/\Dg v (Cx data f ts)) /\
  (∀(e:A5) (t:Ag),3*Cr e<=k->Cr e<=1048576->Bg t<=200->∃v,Pa k t e b1 b2 data vars M L J=some v/\Dg v (Rz data e t)):=by
 intro k
 induction k with
 | zero=>exact ⟨fun i t h=>by have:=E2 i; omega,fun f ts h=>by omega,fun i t h=>by have:=E2 i; omega⟩
 | succ k ih=>
  obtain ⟨a6,N,a7⟩:=ih
  have D:∀o:Option Nat,o.map (0 + ·)=o:=by intro o; cases o <;> simp
  have c:∀d:Nat,(none:Option Nat)=some d->6<d:=fun d h=>by cases h
  refine ⟨?_,?_,?_⟩
  .intro i t hk hi ht
   have af:=E2 i
   have R:=L7 i.Kids
   rw [Nb,Vk]
   by_cases Y:t.Kind=6
   .simp only [Dw Y,cond_true,if_pos Y]
    by_cases h0:i.Num=0
    .simp only [Dw h0,cond_true,if_pos h0]
     obtain ⟨p,p1,p2⟩:=N i.Kids t.Args (by omega) (by omega) (fun a ha=>by have:=Hu ha; have:=Hk t; omega)
     rw [p1]
     exact ⟨p,rfl,p2⟩
    .simp only [Co h0,cond_false,if_neg h0]
     exact ⟨_,rfl,.inl ⟨rfl,c⟩⟩
   .simp only [Co Y,cond_false,if_neg Y]
    by_cases X:t.Kind=7
    .simp only [Dw X,cond_true,if_pos X]
     by_cases a1:0<=i.Num
     .by_cases a2:i.Num<=6
      .by_cases a3:i.Kids.length=0
       .rw [Ap (show i.Num>=0 from a1),Ap a2,if_pos ⟨a1,a2,a3⟩,Dw (by omega)]
        exact ⟨_,rfl,.inr ⟨i.Num.toNat,rfl,by omega⟩⟩
       .rw [Ap (show i.Num>=0 from a1),Ap a2,if_neg (fun h=>a3 h.2.2),Co (by omega)]
        exact ⟨_,rfl,.inl ⟨rfl,c⟩⟩
      .rw [Ap (show i.Num>=0 from a1),A1 a2,if_neg (fun h=>a2 h.2.1)]
       exact ⟨_,rfl,.inl ⟨rfl,c⟩⟩
     .rw [A1 (show ¬i.Num>=0 from a1),if_neg (fun h=>a1 h.1)]
      exact ⟨_,rfl,.inl ⟨rfl,c⟩⟩
    .simp only [Co X,cond_false,if_neg X]
     by_cases Z:t.Kind=5
     .simp only [Dw Z,cond_true,if_pos Z]
      by_cases h0:i.Num=0
      .simp only [Fd h0,cond_false,if_pos h0]
       have key:∀(m j acc:Nat),j+m=i.Kids.length->acc<=10000000->∃z,Aj (S:=(Int×Int)) (E:=(Int⊕Int)) (fun (G,v8)=>
         bif (decide (v8<(i.Kids.length:Int))) then (
         (Af i.Kids v8).bind fun v9=>
         (Pa k t v9 b1 b2 data vars M L J).bind fun v11=>
         bif (decide (v11<(0:Int))) then some (.inr (.inl (-1)))
         else (
         bif (decide (G>(6:Int))) then some (.inr (.inl (-1)))
         else some (.inl ((Ac (G+v11)),(Ac (v8+1))))))
         else some (.inr (.inr G))) ((acc:Int),(j:Int))=some z/\Dg (match z with | .inl v=>v | .inr v=>v) ((Fz data (i.Kids.drop j) t).map (acc + ·)):=by
        intro m
        induction m with
        | zero=>
         intro j acc hj A
         have:j=i.Kids.length:=by omega
         subst this
         exact ⟨.inr (acc:Int),Gg (by simp),.inr ⟨acc,by simp [Fz],rfl⟩⟩
        | succ m s=>
         intro j acc hj A
         have g:i.Kids[j]? = some i.Kids[j]:=Bw (by omega)
         generalize i.Kids[j]=e at g
         have ac:=Jg (Bs g)
         rw [Nu g,Avg]
         obtain ⟨v,B,v2⟩:=a7 e t (by omega) (by omega) ht
         rcases v2 with ⟨rfl,v2⟩ | ⟨a,a1,rfl⟩
         .refine ⟨.inl (-1),Gg ?_,.inl ⟨rfl,fun d h=>?_⟩⟩
          .simp only [Ap (by omega:(j:Int)<(i.Kids.length:Int)),cond_true,B1 rfl g,Ad,B]; rfl
          .obtain ⟨a,b,ha,hb,rfl⟩:=Zq h
           have:=v2 a ha; omega
         .have U:=Avh data e t a a1
          by_cases hb:acc>6
          .refine ⟨.inl (-1),Gg ?_,.inl ⟨rfl,fun d h=>?_⟩⟩
           .simp only [Ap (by omega:(j:Int)<(i.Kids.length:Int)),cond_true,B1 rfl g,Ad,B,A1 (by omega:¬(a:Int)<0),Ap (by omega:(acc:Int)>6),cond_false]
           .obtain ⟨a,b,ha,hb,rfl⟩:=Zq h
            omega
          .have ew:Ac ((acc:Int)+(a:Int))=((acc+a:Nat):Int):=by rw [Ac,B3] <;> omega
           obtain ⟨z,q,z2⟩:=s (j+1) (acc+a) (by omega) (by omega)
           refine ⟨z,?_,?_⟩
           .rw [Lp (s':=(((acc+a:Nat):Int),((j+1:Nat):Int)))]
            .exact q
            .simp only [Ap (by omega:(j:Int)<(i.Kids.length:Int)),cond_true,B1 rfl g,Ad,B,A1 (by omega:¬(a:Int)<0),A1 (by omega:¬(acc:Int)>6),cond_false,ew,C2 (show j<i.Kids.length by omega) (by omega)]
           .have D:∀o:Option Nat,(((some a:Option Nat).bind fun a=>o.map (a + ·)).map (acc + ·))=o.map (acc+a + ·):=by
             intro o; cases o <;> simp [Nat.add_assoc]
            rw [a1,D]
            exact z2
       obtain ⟨z,q,z2⟩:=key i.Kids.length 0 0 (by omega) (by omega)
       have q:Aj _ ((0:Int),(0:Int))=some z:=q
       rw [q,Ad]
       rw [List.drop_zero,D] at z2
       cases z with
       | inl v=>exact ⟨v,rfl,z2⟩
       | inr v=>exact ⟨v,rfl,z2⟩
      .simp only [Ec h0,cond_true,if_neg h0]
       exact ⟨_,rfl,.inl ⟨rfl,c⟩⟩
     .simp only [Co Z,cond_false,if_neg Z]
      by_cases h0:i.Num=0
      .simp only [Dw h0,cond_true]
       by_cases a3:i.Kids.length=0
       .rw [if_pos ⟨h0,a3⟩,Dw (by omega)]
        exact ⟨_,rfl,.inr ⟨0,rfl,rfl⟩⟩
       .rw [if_neg (fun h=>a3 h.2),Co (by omega)]
        exact ⟨_,rfl,.inl ⟨rfl,c⟩⟩
      .simp only [Co h0,cond_false]
       rw [if_neg (fun h=>h0 h.1)]
       exact ⟨_,rfl,.inl ⟨rfl,c⟩⟩
  .intro f ts hk hi ht
   have R:=L7 f
   rw [O9]
   by_cases hl:ts.length=f.length
   .rw [Fd (by omega)]
    simp only [cond_false]
    have key:∀(m j acc:Nat),j+m=f.length->acc<=10000000->∃z,Aj (S:=(Int×Int)) (E:=(Int⊕Int)) (fun (v5,V)=>
      bif (decide (V<(ts.length:Int))) then (
      (Af ts V).bind fun G=>
      (Af f V).bind fun v9=>
      (Nb k G v9 b1 b2 data vars M L J).bind fun I=>
      bif (decide (I<(0:Int))) then some (.inr (.inl (-1)))
      else (
      bif (decide (v5>(6:Int))) then some (.inr (.inl (-1)))
      else some (.inl ((Ac (v5+I)),(Ac (V+1))))))
      else some (.inr (.inr v5))) ((acc:Int),(j:Int))=some z/\Dg (match z with | .inl v=>v | .inr v=>v) ((Cx data (f.drop j) (ts.drop j)).map (acc + ·)):=by
     intro m
     induction m with
     | zero=>
      intro j acc hj A
      have:j=ts.length:=by omega
      subst this
      refine ⟨.inr (acc:Int),Gg (by simp),.inr ⟨acc,?_,rfl⟩⟩
      rw [List.drop_of_length_le (by omega),List.drop_of_length_le (by omega)]
      simp [Cx]
     | succ m s=>
      intro j acc hj A
      have g:f[j]? = some f[j]:=Bw (by omega)
      generalize f[j]=e at g
      have hu:ts[j]? = some ts[j]:=Bw (by omega)
      generalize ts[j]=u at hu
      have ac:=Jg (Bs g)
      rw [Nu g,Nu hu,Nt]
      obtain ⟨v,B,v2⟩:=a6 e u (by omega) (by omega) (ht u (Bs hu))
      rcases v2 with ⟨rfl,v2⟩ | ⟨a,a1,rfl⟩
      .refine ⟨.inl (-1),Gg ?_,.inl ⟨rfl,fun d h=>?_⟩⟩
       .simp only [Ap (by omega:(j:Int)<(ts.length:Int)),cond_true,B1 rfl g,B1 rfl hu,Ad,B]; rfl
       .obtain ⟨a,b,ha,hb,rfl⟩:=Zq h
        have:=v2 a ha; omega
      .have U:=Ak9 data e u a a1
       by_cases hb:acc>6
       .refine ⟨.inl (-1),Gg ?_,.inl ⟨rfl,fun d h=>?_⟩⟩
        .simp only [Ap (by omega:(j:Int)<(ts.length:Int)),cond_true,B1 rfl g,B1 rfl hu,Ad,B,A1 (by omega:¬(a:Int)<0),Ap (by omega:(acc:Int)>6),cond_false]
        .obtain ⟨a,b,ha,hb,rfl⟩:=Zq h
         omega
       .have ew:Ac ((acc:Int)+(a:Int))=((acc+a:Nat):Int):=by rw [Ac,B3] <;> omega
        obtain ⟨z,q,z2⟩:=s (j+1) (acc+a) (by omega) (by omega)
        refine ⟨z,?_,?_⟩
        .rw [Lp (s':=(((acc+a:Nat):Int),((j+1:Nat):Int)))]
         .exact q
         .simp only [Ap (by omega:(j:Int)<(ts.length:Int)),cond_true,B1 rfl g,B1 rfl hu,Ad,B,A1 (by omega:¬(a:Int)<0),A1 (by omega:¬(acc:Int)>6),cond_false,ew,C2 (show j<f.length by omega) (by omega)]
        .have D:∀o:Option Nat,(((some a:Option Nat).bind fun a=>o.map (a + ·)).map (acc + ·))=o.map (acc+a + ·):=by
          intro o; cases o <;> simp [Nat.add_assoc]
         rw [a1,D]
         exact z2
    obtain ⟨z,q,z2⟩:=key f.length 0 0 (by omega) (by omega)
    have q:Aj _ ((0:Int),(0:Int))=some z:=q
    rw [q,Ad]
    rw [List.drop_zero,List.drop_zero,D] at z2
    cases z with
    | inl v=>exact ⟨v,rfl,z2⟩
    | inr v=>exact ⟨v,rfl,z2⟩
   .rw [Ec (by omega),Adz data f ts hl]
    exact ⟨_,rfl,.inl ⟨rfl,c⟩⟩
  .intro e t hk g ht
   have ag:=E2 e
   rw [Pa]
   unfold Rz F2
   rw [Zh hz t ht e.Num,Ad]
   cases hf:G4 data t e.Num with
   | none=>exact ⟨-1,rfl,.inl ⟨rfl,c⟩⟩
   | some l=>
    have ad:=Vj hf
    obtain ⟨x,y,_,hx,_,hy,hl,ab⟩:=Ns hf
    obtain ⟨y6,_⟩:=hz x (Ff hx).2.2.2 y (Ff hy).2.2.2
    have ae:l.length<=6:=by rw [hl]; simpa using y6
    have aa:∀a∈Ew l (C3 data t.Num e.Num),Bg a<=200:=(Ady (show F2 data t e.Num=some _ by unfold F2; rw [hf]; rfl)).1
    obtain ⟨v,B,v2⟩:=N e.Kids (Ew l (C3 data t.Num e.Num)) (by omega) (by omega) aa
    have hd:Dg (if v<0 then -1 else 1+v) (((some l).map fun l=>Ew l (C3 data t.Num e.Num)).bind fun ts=>(Cx data e.Kids ts).map (1 + ·)):=by
     rw [Option.map_some,Ad]
     rcases v2 with ⟨rfl,v2⟩ | ⟨a,a1,rfl⟩
     .refine .inl ⟨rfl,fun d h=>?_⟩
      cases ha:Cx data e.Kids (Ew l (C3 data t.Num e.Num)) with
      | none=>rw [ha] at h; cases h
      | some a=>rw [ha] at h; have:=v2 a ha; simp at h; omega
     .rw [a1,if_neg (by omega)]
      exact .inr ⟨1+a,rfl,by omega⟩
    have a8:v = -1\/(0<=v/\v<=10000000):=by
     rcases v2 with ⟨rfl,v2⟩ | ⟨a,a1,rfl⟩
     .exact .inl rfl
     .have:=Vl data _ _ a a1; right; omega
    refine ⟨_,?_,hd⟩
    simp only [okL,bnt,cond_false,Vf data t.Num e.Num hs,Ad]
    refine Fe (C3 data t.Num e.Num) (fun j=>((j:Int),Ew (l.take j) ((C3 data t.Num e.Num).take j))) (by simp [Ew]) (by omega) ?_ ?_
    .intro j b hj hb h1 h2 h3
     have ha:l[j]? = some l[j]:=Bw (by omega)
     generalize l[j]=a at ha
     have R:=Zi (l.take j) ((C3 data t.Num e.Num).take j)
     have:(l.take j).length<=6:=by simp; omega
     simp only [h1,h2,h3,cond_true,Ad,B1 rfl ha,Adx ha hb]
     rw [D2 (by simp; omega)]
     cases b <;> simp
    .intro h1
     refine ⟨Ew l (C3 data t.Num e.Num),?_,?_⟩
     .simp only [h1]
      rw [List.take_of_length_le (by omega),List.take_of_length_le (Nat.le_refl _)]; rfl
     .rw [B,Ad]
      rcases a8 with h | h
      .subst h; rfl
      .rw [A1 (by omega),if_neg (by omega)]
       simp only [cond_false]
       rw [Ac,B3] <;> omega
def tyX (vars:List Ag) (res:Ag) (v:Int):Option Ag:=if v = -1 then some res else Af vars v
def E7 (data:List Al) (vars:List Ag) (res:Ag) (o:List (ByteArray×Int)):Prop:=∀p∈o,∀v i t,p.1=Lk v i->tyX vars res v=some t->p.2=Hx (Et data i t)
theorem Alb {α:Type}:∀(o:List (ByteArray×α)) (s:ByteArray) (v:α),∀p∈Ep o s v,p∈o\/p=(s,v)
 | [],s,v,p,h=>by simp only [Ep,List.mem_singleton] at h; exact .inr h
 | q::o,s,v,p,h=>by
  unfold Ep at h
  cases hq:(s==q.1) with
  | true=>
   rw [hq] at h
   simp only [cond_true,List.mem_cons] at h
   rcases h with h | h
   .exact .inr h
   .exact .inl (by simp [h])
  | false=>
   rw [hq] at h
   simp only [cond_false,List.mem_cons] at h
   rcases h with h | h
   .exact .inl (by simp [h])
   .rcases Alb o s v p h with h | h
    .exact .inl (by simp [h])
    .exact .inr h
theorem Avj {data:List Al} (D:Szv data) (E:Li data) (b1:List (ByteArray×Int)) (b2:List (ByteArray×List Df)) (vars:List Ag) (res:Ag) (f:E7 data vars res b1)
  (v:Int) (i:A5) (t:Ag) (ht:tyX vars res v=some t) (b:Bg t<=200) (hv:I64 v) (G:iR i) (hi:Cr i<=1048576) :
  ∃s,Lb v i b1 b2 data vars res.Kind res.Num res.Args=some (Hx (Et data i t),s)/\E7 data vars res s:=by
 unfold Lb
 rw [Ak8 v i hv G hi,Ad]
 cases hh:Ea b1 (Lk v i) with
 | true=>
  refine ⟨b1,?_,f⟩
  have:Hf b1 (Lk v i) 0=Hx (Et data i t):=by
   unfold Hf
   unfold Ea at hh
   rw [List.any_eq_true] at hh
   obtain ⟨p,B,A⟩:=hh
   cases g:b1.find? (fun p=>Lk v i==p.1) with
   | none=>exact absurd A (by have:=List.find?_eq_none.1 g p B; simpa using this)
   | some q=>
    have hq:=List.find?_some g
    exact f q (List.mem_of_find?_eq_some g) v i t ((Pm _ _).1 hq).symm ht
  simp only [cond_true,Ad,bnt,cond_false,this]
 | false=>
  obtain ⟨w,x,u⟩:=(Avi D E b1 b2 vars res.Kind res.Num res.Args 4000000).1 i t (by omega) hi b
  have c:Kj v b1 b2 data vars res.Kind res.Num res.Args=some t:=by
   unfold Kj
   unfold tyX at ht
   by_cases h:v = -1
   .rw [if_pos h] at ht; cases ht
    have I:(Ag.mk res.Kind res.Num res.Args)=res:=by cases res; rfl
    rw [Dw h,I]; rfl
   .rw [if_neg h] at ht
    rw [Co h,ht]; rfl
  have j:(bif decide (w>6) then some (-1) else some w:Option Int)=some (Hx (Et data i t)):=by
   rw [<-u.clip]
   by_cases h:w>6
   .rw [Ap h,if_pos h]; rfl
   .rw [A1 h,if_neg h]; rfl
  refine ⟨Ep b1 (Lk v i) (Hx (Et data i t)),?_,?_⟩
  .simp only [cond_false,Ad,Bool.not_false,cond_true,c,x,j]
  .intro p hp y i' z l k
   rcases Alb _ _ _ p hp with h | h
   .exact f p h y i' z l k
   .subst h
    obtain ⟨rfl,rfl⟩:=Ave l
    rw [ht] at k; cases k; rfl
end Go.Ab
namespace Go.Ab
open Go
def D7 (a b:Int):Int:=if a<b then -1 else if a>b then 1 else 0
def orI (a b:Int):Int:=if a=0 then b else a
theorem Hn {a b:Int}:D7 a b=0↔a=b:=by unfold D7; split <;> (try split) <;> omega
theorem Ma (a b:Int):Jv a b=some (D7 a b):=by
 unfold Jv Oz D7
 simp only [Ad,bne_self_eq_false,cond_false]
 by_cases h:a<b
 .rw [Ap h,if_pos h]; rfl
 .rw [A1 h,if_neg h]
  by_cases h':a>b
  .rw [Ap h',if_pos h']; rfl
  .rw [A1 h',if_neg h']; rfl
theorem Alc (a b:Int):T5 a b=some (D7 a b):=Ma a b
theorem R0 (a b:Int):K8 [a,b]=some (orI a b):=by
 unfold K8 orI
 by_cases ha:a=0
 .rw [if_pos ha]
  by_cases hb:b=0
  .refine Nk 2 (fun j=>(j:Int)) rfl ?_ ⟨.inr (),rfl,by rw [hb]⟩
   intro j hj
   match j,hj with
   | 0,_=>subst ha; rfl
   | 1,_=>subst hb; rfl
  .refine Nk 1 (fun j=>(j:Int)) rfl ?_ ⟨.inl b,?_,rfl⟩
   .intro j hj
    match j,hj with
    | 0,_=>subst ha; rfl
   .show (bif (b != 0) then _ else _)=_
    rw [Ec hb]; rfl
 .rw [if_neg ha]
  refine Nk 0 (fun j=>(j:Int)) rfl (fun j hj=>by omega) ⟨.inl a,?_,rfl⟩
  show (bif (a != 0) then _ else _)=_
  rw [Ec ha]; rfl
def D8 {α:Type} (g:α->α->Int):List α->List α->Int
 | x::xs,y::ys=>orI (g x y) (D8 g xs ys)
 | _,_=>0
theorem Avk {α:Type} (g:α->α->Int) (l m:List α) {step:Int->Option (Int⊕(Int⊕Unit))} (k:l.length=m.length) (hb:l.length<4611686018427387904)
  (f:∀(j:Nat) (x y:α),l[j]? = some x->m[j]? = some y->decide ((j:Int)<(l.length:Int))=true->Af l (j:Int)=some x->Af m (j:Int)=some y->decide ((j:Int)>=(m.length:Int))=false->Ac ((j:Int)+1)=((j+1:Nat):Int) ->
   step (j:Int)=if g x y=0 then some (.inl ((j+1:Nat):Int)) else some (.inr (.inl (g x y))))
  (i:decide ((l.length:Int)<(l.length:Int))=false->step (l.length:Int)=some (.inr (.inr ()))) :
  ∃z,Aj step 0=some z/\(match z with | .inl r=>r=D8 g l m/\r≠0 | .inr _=>D8 g l m=0):=by
 have key:∀(n j:Nat),j+n=l.length->∃z,Aj step (j:Int)=some z/\(match z with | .inl r=>r=D8 g (l.drop j) (m.drop j)/\r≠0 | .inr _=>D8 g (l.drop j) (m.drop j)=0):=by
  intro n
  induction n with
  | zero=>
   intro j hj
   have:j=l.length:=by omega
   subst this
   refine ⟨.inr (),Gg (i (by simp)),?_⟩
   rw [List.drop_of_length_le (by omega)]; simp [D8]
  | succ n ih=>
   intro j hj
   have hx:l[j]? = some l[j]:=Bw (by omega)
   have hy:m[j]? = some m[j]:=Bw (by omega)
   generalize l[j]=x at hx
   generalize m[j]=y at hy
   have h:=f j x y hx hy (Ap (by omega)) (B1 rfl hx) (B1 rfl hy) (A1 (by omega)) (C2 (show j<l.length by omega) hb)
   rw [Nu hx,Nu hy]
   by_cases b:g x y=0
   .rw [if_pos b] at h
    obtain ⟨z,c,z2⟩:=ih (j+1) (by omega)
    refine ⟨z,by rw [Lp h]; exact c,?_⟩
    have e:D8 g (x::l.drop (j+1)) (y::m.drop (j+1))=D8 g (l.drop (j+1)) (m.drop (j+1)):=by simp only [D8,orI,b,if_true]
    cases z with
    | inl r=>simp only [e]; exact z2
    | inr u=>simp only [e]; exact z2
   .rw [if_neg b] at h
    refine ⟨.inl (g x y),Gg h,?_,b⟩
    simp only [D8,orI,b,if_false]
 exact key l.length 0 (by omega)
theorem Zr {α:Type} (f:α->α->Option Int) (g:α->α->Int) (l m:List α) (s:l.length=m.length) (hb:l.length<4611686018427387904) (A:∀(j:Nat) (x y:α),l[j]? = some x->m[j]? = some y->f x y=some (g x y)) :
  ((Aj (S:=Int) (E:=(Int⊕Unit)) (fun b=>
   bif (decide (b<(l.length:Int))) then (
   (Af l b).bind fun q=>
   bif (decide (b>=(m.length:Int))) then some (.inr (.inl 1))
   else (
   (Af m b).bind fun v9=>
   (f q v9).bind fun v11=>
   bif (v11 != (0:Int)) then some (.inr (.inl v11))
   else some (.inl (Ac (b+1)))))
   else some (.inr (.inr ()))) 0).bind fun z=>
   match z with
   | .inl i=>some i
   | .inr _=>bif (decide ((l.length:Int)<(m.length:Int))) then some (-1) else some 0)=some (D8 g l m):=by
 refine Ajw (Avk g l m s hb ?_ (fun h=>by simp only [h]; rfl)) ?_
 .intro j x y hx hy h1 h2 h3 D B
  simp only [h1,h2,h3,D,B,cond_true,cond_false,Ad,A j x y hx hy]
  by_cases c:g x y=0
  .rw [Fd c,if_pos c]; rfl
  .rw [Ec c,if_neg c]; rfl
 .rintro (r | u) k
  .rw [k.1]
  .simp only
   rw [A1 (by omega),show D8 g l m=0 from k]; rfl
def Vm (x y:C1):Int:=orI (D7 x.Var y.Var) (D7 x.Coef y.Coef)
def Nw (a b:Da):Int:=if a.Terms.length=b.Terms.length then orI (D8 Vm a.Terms b.Terms) (D7 a.Const b.Const) else D7 a.Terms.length b.Terms.length
theorem Ald (a b:Da) (ha:a.Terms.length<1099511627776):Kk a b=some (Nw a b):=by
 unfold Kk Nw
 rw [Ma,Ad]
 by_cases h:a.Terms.length=b.Terms.length
 .rw [Fd (Hn.2 (by omega)),if_pos h]
  simp only [cond_false]
  have:=Zr T3 Vm a.Terms b.Terms h (by omega) (fun j x y _ _=>by
   unfold T3 Vm
   rw [Ma,Alc]; simp only [Ad,R0])
  rw [show X0 a.Terms b.Terms=_ from this,Ad,Alc]
  simp only [Ad,R0]
 .rw [Ec (fun e=>h (by have:=Hn.1 e; omega)),if_neg h]; rfl
mutual
def Ks:A5->A5->Int
 | ⟨n,k⟩,j=>if n=j.Num then (if k.length=j.Kids.length then Po k j.Kids else D7 k.length j.Kids.length) else D7 n j.Num
def Po:List A5->List A5->Int
 | x::xs,y::ys=>orI (Ks x y) (Po xs ys)
 | [],_=>0
 | _::_,[]=>0
end
theorem Ale (i j:A5):Ks i j=if i.Num=j.Num then (if i.Kids.length=j.Kids.length then Po i.Kids j.Kids else D7 i.Kids.length j.Kids.length) else D7 i.Num j.Num:=by cases i; simp only [Ks]
theorem Ad7:∀l m:List A5,Po l m=D8 Ks l m
 | x::xs,y::ys=>by simp only [Po,D8,Ad7 xs ys]
 | [],_=>by simp [Po,D8]
 | _::_,[]=>by simp [Po,D8]
theorem Avl:∀(n k:Nat) (i j:A5),Cr i<=n->2*n<=k->n<1099511627776->My k i j=some (Ks i j):=by
 intro n
 induction n with
 | zero=>intro k i j h; have:=E2 i; omega
 | succ n ih=>
  intro k i j h hk c
  obtain ⟨k,rfl⟩:∃b,k=b+2:=⟨k-2,by omega⟩
  have hi:=E2 i
  have f:=L7 i.Kids
  rw [My,Ale,Ma,Ma]
  simp only [Ad,R0]
  by_cases h1:i.Num=j.Num
  .rw [if_pos h1]
   by_cases h2:i.Kids.length=j.Kids.length
   .rw [if_pos h2,Fd (by unfold orI; rw [Hn.2 h1,Hn.2 (by omega)]; rfl),Ad7]
    simp only [cond_false]
    have:=Zr (My k) Ks i.Kids j.Kids h2 (by omega) (fun q x y hx hy=>ih k x y (by have:=Jg (Bs hx); omega) (by omega) (by omega))
    rw [T2]
    refine Eq.trans (congrArg (fun q=>Option.bind q _) this) rfl
   .have e:orI (D7 i.Num j.Num) (D7 (i.Kids.length:Int) (j.Kids.length:Int))=D7 i.Kids.length j.Kids.length:=by unfold orI; rw [Hn.2 h1]; rfl
    rw [if_neg h2,e,Ec (fun e=>h2 (by have:=Hn.1 e; omega))]; rfl
  .have e:orI (D7 i.Num j.Num) (D7 (i.Kids.length:Int) (j.Kids.length:Int))=D7 i.Num j.Num:=by unfold orI; rw [if_neg (fun e=>h1 (Hn.1 e))]
   rw [if_neg h1,e,Ec (fun e=>h1 (Hn.1 e))]; rfl
def R3 (x y:Cj):Int:=orI (D7 x.Var y.Var) (Ks x.Index y.Index)
def Vn (x y:B8):Int:=orI (Nw x.Lin y.Lin) (D7 x.Deg y.Deg)
def D3 (a b:Ba):Int :=
 if a.Factors.length=b.Factors.length then
  orI (D8 R3 a.Factors b.Factors) (if a.Atoms.length=b.Atoms.length then D8 Vn a.Atoms b.Atoms else D7 a.Atoms.length b.Atoms.length)
 else D7 a.Factors.length b.Factors.length
structure MSz (m:Ba):Prop where
 nf:m.Factors.length<=1048576
 na:m.Atoms.length<=1048576
 fi:∀f∈m.Factors,Cr f.Index<=1048576
 fr:∀f∈m.Factors,iR f.Index/\I64 f.Var
 al:∀a∈m.Atoms,a.Lin.Terms.length<=1048576
theorem Avm (a b:Ba) (ha:MSz a):Mw a b=some (D3 a b):=by
 have h1:=ha.nf
 have h2:=ha.na
 unfold Mw D3
 rw [Ma,Ad]
 by_cases h:a.Factors.length=b.Factors.length
 .rw [Fd (Hn.2 (by omega)),if_pos h]
  simp only [cond_false]
  have:=Zr Tu R3 a.Factors b.Factors h (by omega) (fun j x y hx hy=>by
   unfold Tu R3
   rw [Ma,Avl 1048576 4000000 x.Index y.Index (ha.fi x (Bs hx)) (by omega) (by omega)]; simp only [Ad,R0])
  rw [show Xr a.Factors b.Factors=_ from this,Ad,Ma]
  simp only [Ad,R0]
  by_cases h0:D8 R3 a.Factors b.Factors=0
  .simp only [h0,orI,if_true]
   by_cases h':a.Atoms.length=b.Atoms.length
   .rw [Fd (Hn.2 (by omega)),if_pos h']
    simp only [cond_false]
    have:=Zr Tv Vn a.Atoms b.Atoms h' (by omega) (fun j x y hx hy=>by
     unfold Tv Vn
     rw [Ma,Ald x.Lin y.Lin (by have:=ha.al x (Bs hx); omega)]; simp only [Ad,R0])
    rw [show Xs a.Atoms b.Atoms=_ from this]; rfl
   .rw [Ec (fun e=>h' (by have:=Hn.1 e; omega)),if_neg h']; rfl
  .simp only [orI,if_neg h0]
   rw [Ec h0]; rfl
 .rw [Ec (fun e=>h (by have:=Hn.1 e; omega)),if_neg h]; rfl
def Pp {α:Type} (f:α->Int) (l:List α) (x:α) (j:Nat):Bool:=j==0||(match l[j-1]? with | some y=>decide (f y<f x) | none=>false)
def Vo (l:List C1) (x:C1) (j:Nat):Bool:=decide (-1<=x.Var/\x.Var<3000/\x.Coef≠0/\-1048576<=x.Coef/\x.Coef<=1048576)&&Pp (·.Var) l x j
def Ii (a:Da):Bool:=decide (-1048576<=a.Const/\a.Const<=1048576/\a.Terms.length<=16)&&a.Terms.zipIdx.all (fun q=>Vo a.Terms q.1 q.2)
theorem Alf (n:Int):Q3 n=some (decide (-1048576<=n/\n<=1048576)):=by
 unfold Q3
 by_cases h:(-1048576:Int)<=n <;> simp [h]
theorem Avn (n:Int):T1 n=some (decide (-1<=n/\n<3000)):=by
 unfold T1
 by_cases h:(-1:Int)<=n <;> simp [h]
theorem Alg {α S E:Type} (f:α->Int) (l:List α) {x:α} {j:Nat} (hx:l[j]? = some x) (i:l.length<4611686018427387904) (c b:Option (S⊕E)) :
  (bif decide ((j:Int)>0) then ((Af l (Ac ((j:Int)-1))).bind fun g=>bif decide (f g>=f x) then c else b) else b)=bif Pp f l x j then b else c:=by
 have hj:=Es hx
 unfold Pp
 by_cases h:j=0
 .subst h; rfl
 .rw [Ap (by omega)]
  have e:Ac ((j:Int)-1)=((j-1:Nat):Int):=by rw [Ac,B3] <;> omega
  have hy:l[j-1]? = some l[j-1]:=Bw (by omega)
  rw [e,B1 rfl hy,hy]
  have h0:(j==0)=false:=by simpa using h
  simp only [cond_true,Ad,h0,Bool.false_or]
  by_cases hc:f l[j-1]<f x
  .rw [A1 (by omega),Ap hc]; rfl
  .rw [Ap (by omega),A1 hc]; rfl
theorem Alh (a:Da):Lv a=some (Ii a):=by
 unfold Lv Ii
 rw [Alf]
 simp only [Ad]
 by_cases h1 : -1048576<=a.Const/\a.Const<=1048576
 .rw [Ap h1]
  by_cases h2:a.Terms.length<=16
  .rw [A1 (by omega:¬(a.Terms.length:Int)>16),Ap ⟨h1.1,h1.2,h2⟩]
   simp only [bnt,cond_false,Ad,Bool.true_and]
   refine (U3 a.Terms (fun q=>Vo a.Terms q.1 q.2) (fun j=>(j:Int)) rfl (by omega) (rt:=true) (rf:=false) ?_ ?_).trans (by rw [Yx])
   .intro j x hx _ h1 h2 h3
    simp only [h1,h2,h3,cond_true,Ad,Avn,Alf,Alg (·.Var) a.Terms hx (by omega),Vo]
    by_cases g1 : -1<=x.Var/\x.Var<3000
    .by_cases g2:x.Coef=0
     .rw [Ap g1,Dw g2,A1 (fun h=>h.2.2.1 g2)]
      exact ⟨(fun h=>by cases h),fun _=>⟨.inl false,rfl,rfl⟩⟩
     .by_cases g3 : -1048576<=x.Coef/\x.Coef<=1048576
      .rw [Ap g1,Co g2,Ap g3,Ap ⟨g1.1,g1.2,g2,g3.1,g3.2⟩]
       cases Pp (·.Var) a.Terms x j with
       | true=>exact ⟨fun _=>rfl,fun h=>by cases h⟩
       | false=>exact ⟨(fun h=>by cases h),fun _=>⟨.inl false,rfl,rfl⟩⟩
      .rw [Ap g1,Co g2,A1 g3,A1 (fun h=>g3 h.2.2.2)]
       exact ⟨(fun h=>by cases h),fun _=>⟨.inl false,rfl,rfl⟩⟩
    .rw [A1 g1,A1 (fun h=>g1 ⟨h.1,h.2.1⟩)]
     exact ⟨(fun h=>by cases h),fun _=>⟨.inl false,rfl,rfl⟩⟩
   .intro h _
    exact ⟨.inr (),by simp only [h]; rfl,rfl⟩
  .rw [Ap (by omega:(a.Terms.length:Int)>16),A1 (fun h=>h2 h.2.2)]; rfl
 .rw [A1 h1,A1 (fun h : -1048576<=a.Const/\a.Const<=1048576/\a.Terms.length<=16=>h1 ⟨h.1,h.2.1⟩)]; rfl
end Go.Ab
namespace Go.Ab
open Go
structure R4 (data:List Al) (vars:List Ag) (res:Ag):Prop where
 vd:Hw data
 sh:Li data
 sz:∀v t,tyX vars res v=some t->Bg t<=200
 nv:vars.length<=3000
theorem Avo (vars:List Ag) (res:Ag) (v:Int):(tyX vars res v).isSome=decide (-1<=v/\v<vars.length):=by
 unfold tyX
 by_cases h:v = -1
 .rw [if_pos h]; subst h; rw [Ap (by omega)]; rfl
 .rw [if_neg h]
  cases hx:Af vars v with
  | none=>rcases Vc hx with h' | h' <;> rw [A1 (by omega)] <;> rfl
  | some t=>have:=Ff hx; rw [Ap (by omega)]; rfl
section
variable (b1:List (ByteArray×Int)) (b2:List (ByteArray×List Df)) (data:List Al) (vars:List Ag) (res:Ag)
theorem Ali (v:Int) (f c:Int) (b:List Ag):Oy v b1 b2 data vars f c b=some (tyX vars res v).isSome:=by
 rw [Avo]
 unfold Oy
 by_cases h:v>=-1
 .rw [Ap h]
  by_cases h':v<(vars.length:Int)
  .rw [Ap h',Ap ⟨h,h'⟩]; rfl
  .rw [A1 h',A1 (fun g=>h' g.2)]; rfl
 .rw [A1 h,A1 (fun g : -1<=v/\v<(vars.length:Int)=>h g.1)]; rfl
theorem Ad8 {v:Int} {t:Ag} (ht:tyX vars res v=some t):Kj v b1 b2 data vars res.Kind res.Num res.Args=some t:=by
 unfold Kj
 unfold tyX at ht
 by_cases h:v = -1
 .rw [if_pos h] at ht; cases ht
  have b:(Ag.mk res.Kind res.Num res.Args)=res:=by cases res; rfl
  rw [Dw h,b]; rfl
 .rw [if_neg h] at ht
  rw [Co h,ht]; rfl
def R5 (t:C1):Bool:=match tyX vars res t.Var with | some u=>u.Kind==1 | none=>false
def Ll (l:Da):Bool:=l.Terms.all (R5 vars res)
theorem Avp (l:Da) (c:l.Terms.length<=1048576):Ot l b1 b2 data vars res.Kind res.Num res.Args=some (Ll vars res l):=by
 unfold Ot Xy X2
 have key:=Yy l.Terms (fun t=>!R5 vars res t) (by omega) (J:=fun z=>match z with | .inl b=>some b | .inr _=>some (-1)) (step:=fun v3=>bif (decide (v3<(l.Terms.length:Int))) then ((Af l.Terms v3).bind fun v4=>(Q4 v4 b1 b2 data vars res.Kind res.Num res.Args).bind fun v5=>bif v5 then some (.inr (.inl v3)) else some (.inl (Ac (v3+1)))) else some (.inr (.inr ()))) (by
  intro j x hx h1 h2 h3
  have e:Q4 x b1 b2 data vars res.Kind res.Num res.Args=some (!R5 vars res x):=by
   unfold Q4 R5
   rw [Ali b1 b2 data vars res,Ad]
   cases ht:tyX vars res x.Var with
   | none=>rfl
   | some t=>rw [Ad8 b1 b2 data vars res ht]; rfl
  simp only [h1,h2,h3,cond_true,Ad,e]) (fun h=>by simp only [h]; rfl) (fun _=>rfl) rfl
 obtain ⟨i,i1,i2⟩:=key
 erw [i1]
 simp only [Ad,i2]
 congr 1
 unfold Ll
 rw [List.any_eq_not_all_not]; simp
def Fg (f:Cj):Int:=match tyX vars res f.Var with | some t=>Hx (Et data f.Index t) | none => -1
theorem Avq (f:Cj) : -1<=Fg data vars res f/\Fg data vars res f<=6:=by
 unfold Fg
 cases tyX vars res f.Var with
 | none=>simp
 | some t=>rcases Akw (Et data f.Index t) with ⟨h,_⟩ | ⟨d,_,h2,h⟩ <;> simp only [h] <;> omega
def Mb (m:Ba):Bool:=m.Factors.all (fun f=>decide (0<=Fg data vars res f))&&m.Atoms.all (fun a=>decide (0<=a.Deg)&&Ll vars res a.Lin)
def F4 (l:List Cj):Int:=(l.map (Fg data vars res)).sum
def F0 (l:List B8):Int:=(l.map (·.Deg)).sum
def Vp (l:List B8) (x:B8) (j:Nat):Bool:=j==0||(match l[j-1]? with | some y=>decide (Nw y.Lin x.Lin<0) | none=>false)
def Vq (l:List Cj) (f:Cj) (j:Nat):Bool:=decide (1<=Fg data vars res f)&&Pp (·.Var) l f j
def Pq (l:List B8) (a:B8) (j:Nat):Bool:=decide (1<=a.Deg)&&Ii a.Lin && !(a.Lin.Terms.length==0)&&Ll vars res a.Lin&&Vp l a j
def Ij (m:Ba):Bool:=m.Factors.zipIdx.all (fun q=>Vq data vars res m.Factors q.1 q.2)&&m.Atoms.zipIdx.all (fun q=>Pq vars res m.Atoms q.1 q.2)&&decide (F4 data vars res m.Factors+F0 m.Atoms<=6)
variable {b1 data vars res}
theorem Ad9 (hc:R4 data vars res) (h:E7 data vars res b1) (f:Cj) (hv:I64 f.Var) (g:iR f.Index) (hi:Cr f.Index<=1048576) (b:(tyX vars res f.Var).isSome=true) :
  ∃c,Lb f.Var f.Index b1 b2 data vars res.Kind res.Num res.Args=some (Fg data vars res f,c)/\E7 data vars res c:=by
 cases ht:tyX vars res f.Var with
 | none=>rw [ht] at b; cases b
 | some t=>
  obtain ⟨c,h1,h2⟩:=Avj hc.vd.szv hc.sh b1 b2 vars res h f.Var f.Index t ht (hc.sz _ _ ht) hv g hi
  refine ⟨c,?_,h2⟩
  rw [h1]; unfold Fg; rw [ht]
theorem Avr (hc:R4 data vars res) (U:E7 data vars res b1) (m:Ba) (k:MSz m) :
  ∃l,Uc m b1 b2 data vars res.Kind res.Num res.Args=some (Mb data vars res m,l)/\E7 data vars res l:=by
 have V:=k.nf
 have ha:=k.na
 unfold Uc
 refine Ys (fun l=>(Mb data vars res m,l)) ?_
 obtain ⟨r,N,L⟩:=Adb (M:=List (ByteArray×Int)) (R:=Bool×List (ByteArray×Int)) m.Factors (fun q=>decide (0<=Fg data vars res q.1)) (fun j o=>((j:Int),o)) (E7 data vars res)
  (fun r=>E7 data vars res r.2/\r.1=m.Atoms.all (fun a=>decide (0<=a.Deg)&&Ll vars res a.Lin)) (fun r=>E7 data vars res r.2/\r.1=false) b1
  (s0:=((0:Int),b1))
  (step:=(fun (y,u)=>
   bif (decide (y<(m.Factors.length:Int))) then (
   (Af m.Factors y).bind fun v8=>
   (Oy v8.Var u b2 data vars res.Kind res.Num res.Args).bind fun A=>
   bif (!A) then some (.inr (.inl (false,u)))
   else (
   (Lb v8.Var v8.Index u b2 data vars res.Kind res.Num res.Args).bind fun v11=>
   bif (decide (v11.1<(0:Int))) then some (.inr (.inl (false,v11.2)))
   else some (.inl ((Ac (y+1)),v11.2))))
   else some (.inr (.inr u)):Int×List (ByteArray×Int)->Option ((Int×List (ByteArray×Int))⊕((Bool×List (ByteArray×Int))⊕List (ByteArray×Int)))))
  (J:=(fun z=>match z with
   | .inl (I,G)=>some (I,G)
   | .inr b=>(Aj (S:=Int) (E:=((Bool×(List (ByteArray×Int)))⊕Unit)) (fun c=>
     bif (decide (c<(m.Atoms.length:Int))) then (
     (Af m.Atoms c).bind fun s=>
     bif (decide (s.Deg<(0:Int))) then some (.inr (.inl (false,b)))
     else (
     (Ot s.Lin b b2 data vars res.Kind res.Num res.Args).bind fun v21=>
     bif (!v21) then some (.inr (.inl (false,b)))
     else some (.inl (Ac (c+1)))))
     else some (.inr (.inr ()))) 0).bind fun z=>match z with
      | .inl (D,B)=>some (D,B)
      | .inr _=>some (true,b)))
  rfl U (by omega) (by
   intro j f o x hx _ h1 h2 h3
   have i:=Bs hx
   simp only [h1,h2,h3,cond_true,Ad,Ali o b2 data vars res]
   cases g:(tyX vars res f.Var).isSome with
   | false=>
    have e:Fg data vars res f = -1:=by
     unfold Fg
     cases ht:tyX vars res f.Var with
     | none=>rfl
     | some t=>rw [ht] at g; cases g
    rw [e]
    exact ⟨(fun h=>by cases h),fun _=>⟨_,rfl,_,rfl,x,rfl⟩⟩
   | true=>
    obtain ⟨l,d1,d2⟩:=Ad9 b2 hc x f (k.fr f i).2 (k.fr f i).1 (k.fi f i) g
    simp only [bnt,cond_false,d1,Ad]
    by_cases h0:0<=Fg data vars res f
    .rw [Ap h0,A1 (by omega)]
     exact ⟨fun _=>⟨l,rfl,d2⟩,fun h=>by cases h⟩
    .rw [A1 h0,Ap (by omega)]
     exact ⟨(fun h=>by cases h),fun _=>⟨_,rfl,_,rfl,d2,rfl⟩⟩) (by
   intro o x h1 _
   refine ⟨.inr o,by simp only [h1]; rfl,?_⟩
   refine ⟨(m.Atoms.all (fun a=>decide (0<=a.Deg)&&Ll vars res a.Lin),o),?_,x,rfl⟩
   refine (U4 m.Atoms (fun a=>decide (0<=a.Deg)&&Ll vars res a.Lin) (fun j=>(j:Int)) rfl (by omega) (rt:=(true,o)) (rf:=(false,o)) ?_ ?_).trans (by cases m.Atoms.all (fun a=>decide (0<=a.Deg)&&Ll vars res a.Lin) <;> rfl)
   .intro j a hx h1 h2 h3
    simp only [h1,h2,h3,cond_true,Ad,Avp o b2 data vars res a.Lin (k.al a (Bs hx))]
    by_cases h0:0<=a.Deg
    .rw [Ap h0,A1 (by omega)]
     cases Ll vars res a.Lin with
     | true=>exact ⟨fun _=>rfl,fun h=>by cases h⟩
     | false=>exact ⟨(fun h=>by cases h),fun _=>⟨_,rfl,rfl⟩⟩
    .rw [A1 h0,Ap (by omega)]
     exact ⟨(fun h=>by cases h),fun _=>⟨_,rfl,rfl⟩⟩
   .intro h; exact ⟨.inr (),by simp only [h]; rfl,rfl⟩)
 refine ⟨r,N,r.2,?_,?_⟩
 .unfold Mb
  rw [<-Yw]
  rcases L with ⟨h1,h2,h3⟩ | ⟨h1,h2,h3⟩
  .rw [h1,Bool.true_and,<-h3]
  .rw [h1,Bool.false_and,<-h3]
 .rcases L with ⟨h1,h2,h3⟩ | ⟨h1,h2,h3⟩ <;> exact h2
theorem Avs (g:Cj->Int) {l:List Cj} {j:Nat} {x:Cj} (h:l[j]? = some x):((l.take (j+1)).map g).sum=((l.take j).map g).sum+g x:=by
 rw [C7 h]; simp
theorem Avt {l:List B8} {j:Nat} {x:B8} (h:l[j]? = some x):F0 (l.take (j+1))=F0 (l.take j)+x.Deg:=by
 unfold F0; rw [C7 h]; simp
theorem Avu (hc:R4 data vars res) (z:E7 data vars res b1) (m:Ba) (k:MSz m) (hp:Mb data vars res m=true) :
  ∃p:Int×List (ByteArray×Int),Ud m b1 b2 data vars res.Kind res.Num res.Args=some p/\(decide (p.1>6) = !decide (F4 data vars res m.Factors+F0 m.Atoms<=6))/\E7 data vars res p.2:=by
 have B:=k.nf
 have ha:=k.na
 unfold Mb at hp
 rw [Cl,List.all_eq_true,List.all_eq_true] at hp
 unfold Ud
 refine Db (fun (v5,s,g)=>∃j:Nat,s=j/\j<=m.Factors.length/\E7 data vars res g/\0<=v5/\v5<=12/\(v5=F4 data vars res (m.Factors.take j)\/(6<v5/\6<F4 data vars res (m.Factors.take j)))) (fun (_,s,_)=>m.Factors.length-s.toNat)
  (fun (v5,g)=>E7 data vars res g/\0<=v5/\v5<=12/\(v5=F4 data vars res m.Factors\/(6<v5/\6<F4 data vars res m.Factors))) ⟨0,rfl,by omega,z,by omega,by omega,.inl (by simp [F4])⟩ ?_ ?_
 .rintro ⟨v5,s,g⟩ ⟨j,rfl,hj,l,h0,h12,hv⟩
  rcases Nat.lt_or_ge j m.Factors.length with h | h
  .have hx:m.Factors[j]? = some m.Factors[j]:=Bw h
   generalize m.Factors[j]=f at hx
   have c:=Bs hx
   have hd:=hp.1 f c
   rw [decide_eq_true_eq] at hd
   have A:=(Avq data vars res f).2
   have es:F4 data vars res (m.Factors.take (j+1))=F4 data vars res (m.Factors.take j)+Fg data vars res f:=Avs _ hx
   simp only [Ap (by omega:(j:Int)<(m.Factors.length:Int)),cond_true,B1 rfl hx,Ad,C2 h (by omega)]
   by_cases q:v5<=6
   .have u:(tyX vars res f.Var).isSome=true:=by
     unfold Fg at hd
     cases ht:tyX vars res f.Var with
     | none=>rw [ht] at hd; have hd:(0:Int)<=-1:=hd; omega
     | some t=>rfl
    obtain ⟨D,d1,d2⟩:=Ad9 b2 hc l f (k.fr f c).2 (k.fr f c).1 (k.fi f c) u
    rw [Ap q]
    simp only [cond_true,d1,Ad]
    have b:Ac (v5+Fg data vars res f)=v5+Fg data vars res f:=by rw [Ac,B3] <;> omega
    exact .inl ⟨_,rfl,⟨j+1,rfl,by omega,d2,by simp only [b]; omega,by simp only [b]; omega,by simp only [b,es]; omega⟩,by simp; omega⟩
   .rw [A1 q]
    exact .inl ⟨_,rfl,⟨j+1,rfl,by omega,l,h0,h12,by simp only [es]; omega⟩,by simp; omega⟩
  .have:j=m.Factors.length:=by omega
   subst this
   rw [List.take_length] at hv
   exact .inr ⟨(v5,g),by simp,l,h0,h12,hv⟩
 .rintro ⟨v5,g⟩ ⟨l,h0,h12,hv⟩
  simp only
  refine Db (fun (v,i)=>∃j:Nat,i=j/\j<=m.Atoms.length/\0<=v/\v<=13/\(v=F4 data vars res m.Factors+F0 (m.Atoms.take j)\/(6<v/\6<F4 data vars res m.Factors+F0 (m.Atoms.take j)))) (fun (_,i)=>m.Atoms.length-i.toNat)
   (fun v=>(v=F4 data vars res m.Factors+F0 m.Atoms\/(6<v/\6<F4 data vars res m.Factors+F0 m.Atoms))) ⟨0,rfl,by omega,h0,by omega,by simpa [F0] using hv⟩ ?_ ?_
  .rintro ⟨v,i⟩ ⟨j,rfl,hj,g0,g13,y⟩
   rcases Nat.lt_or_ge j m.Atoms.length with h | h
   .have hx:m.Atoms[j]? = some m.Atoms[j]:=Bw h
    generalize m.Atoms[j]=a at hx
    have hd:=hp.2 a (Bs hx)
    rw [Cl,decide_eq_true_eq] at hd
    have es:=Avt hx
    simp only [Ap (by omega:(j:Int)<(m.Atoms.length:Int)),cond_true,B1 rfl hx,Ad,C2 h (by omega)]
    by_cases q:v<=6
    .rw [Ap q]
     simp only [cond_true]
     by_cases x:7<a.Deg
     .rw [if_pos x]
      have b:Ac (v+7)=v+7:=by rw [Ac,B3] <;> omega
      exact .inl ⟨_,rfl,⟨j+1,rfl,by omega,by simp only [b]; omega,by simp only [b]; omega,by simp only [b,es]; omega⟩,by simp; omega⟩
     .rw [if_neg x]
      have b:Ac (v+a.Deg)=v+a.Deg:=by rw [Ac,B3] <;> omega
      exact .inl ⟨_,rfl,⟨j+1,rfl,by omega,by simp only [b]; omega,by simp only [b]; omega,by simp only [b,es]; omega⟩,by simp; omega⟩
    .rw [A1 q]
     exact .inl ⟨_,rfl,⟨j+1,rfl,by omega,g0,g13,by simp only [es]; omega⟩,by simp; omega⟩
   .have:j=m.Atoms.length:=by omega
    subst this
    rw [List.take_length] at y
    exact .inr ⟨v,by simp,y⟩
  .intro v hv
   refine ⟨(v,g),rfl,?_,l⟩
   by_cases h:F4 data vars res m.Factors+F0 m.Atoms<=6
   .rw [Ap h,A1 (by simp only; omega)]; rfl
   .rw [A1 h,Ap (by simp only; omega)]; rfl
end
end Go.Ab
namespace Go.Ab
open Go
theorem Avv {S E:Type} (F:Da->Da->Option Int) (l:List B8) (g:∀y∈l,∀x,F y.Lin x=some (Nw y.Lin x)) {x:B8} {j:Nat} (hx:l[j]? = some x) (i:l.length<4611686018427387904) (c b:Option (S⊕E)) :
  (bif decide ((j:Int)>0) then ((Af l (Ac ((j:Int)-1))).bind fun f=>(F f.Lin x.Lin).bind fun v28=>bif decide (v28>=0) then c else b) else b)=bif Vp l x j then b else c:=by
 have hj:=Es hx
 unfold Vp
 by_cases h:j=0
 .subst h; rfl
 .rw [Ap (by omega)]
  have e:Ac ((j:Int)-1)=((j-1:Nat):Int):=by rw [Ac,B3] <;> omega
  have hy:l[j-1]? = some l[j-1]:=Bw (by omega)
  rw [e,B1 rfl hy,hy]
  have h0:(j==0)=false:=by simpa using h
  simp only [cond_true,Ad,h0,Bool.false_or,g _ (List.getElem_mem (by omega:j-1<l.length))]
  by_cases hc:Nw l[j-1].Lin x.Lin<0
  .rw [A1 (by omega),Ap hc]; rfl
  .rw [Ap (by omega),A1 hc]; rfl
section
variable {b1:List (ByteArray×Int)} (b2:List (ByteArray×List Df)) {data:List Al} {vars:List Ag} {res:Ag}
def Vr (data:List Al) (vars:List Ag) (res:Ag) (l:List Cj) (f:Cj) (j:Nat):Bool:=!(Fg data vars res f==0)&&Pp (·.Var) l f j
def Nx (l:List B8) (a:B8) (j:Nat):Bool:=!(a.Deg==0)&&Ii a.Lin && !(a.Lin.Terms.length==0)&&Vp l a j
theorem Avw (m:Ba):Ij data vars res m=(Mb data vars res m&&decide (F4 data vars res m.Factors+F0 m.Atoms<=6)&&m.Factors.zipIdx.all (fun q=>Vr data vars res m.Factors q.1 q.2)&&m.Atoms.zipIdx.all (fun q=>Nx m.Atoms q.1 q.2)):=by
 rw [Bool.eq_iff_iff]
 unfold Ij Mb
 rw [<-Yw m.Factors (fun f=>decide (0<=Fg data vars res f)),<-Yw m.Atoms (fun a=>decide (0<=a.Deg)&&Ll vars res a.Lin)]
 simp only [Cl,List.all_eq_true,Vq,Pq,Vr,Nx,decide_eq_true_eq,Bool.not_eq_true',beq_eq_false_iff_ne,ne_eq]
 constructor
 .rintro ⟨⟨h1,h2⟩,h3⟩
  refine ⟨⟨⟨⟨fun q hq=>?_,fun q hq=>?_⟩,h3⟩,fun q hq=>?_⟩,fun q hq=>?_⟩
  .have:=(h1 q hq).1; omega
  .have:=h2 q hq; exact ⟨by omega,this.1.2⟩
  .have:=h1 q hq; exact ⟨by omega,this.2⟩
  .have:=h2 q hq; exact ⟨⟨⟨by omega,this.1.1.1.2⟩,this.1.1.2⟩,this.2⟩
 .rintro ⟨⟨⟨⟨h1,h2⟩,h3⟩,c⟩,b⟩
  refine ⟨⟨fun q hq=>?_,fun q hq=>?_⟩,h3⟩
  .have:=h1 q hq; have g:=c q hq; exact ⟨by omega,g.2⟩
  .have:=h2 q hq; have g:=b q hq; exact ⟨⟨⟨⟨by omega,g.1.1.2⟩,g.1.2⟩,this.2⟩,g.2⟩
theorem Avx (hc:R4 data vars res) (hm:E7 data vars res b1) (m:Ba) (i:MSz m) :
  ∃u,Qz m b1 b2 data vars res.Kind res.Num res.Args=some (Ij data vars res m,u)/\E7 data vars res u:=by
 have hf:=i.nf
 have ha:=i.na
 rw [Avw]
 unfold Qz
 obtain ⟨b,p1,Y⟩:=Avr b2 hc hm m i
 rw [p1]
 cases hp:Mb data vars res m with
 | false=>exact ⟨b,rfl,Y⟩
 | true=>
  obtain ⟨q,q1,q2,X⟩:=Avu b2 hc Y m i hp
  simp only [Ad,bnt,cond_false,q1,q2]
  cases hs:decide (F4 data vars res m.Factors+F0 m.Atoms<=6) with
  | false=>exact ⟨q.2,rfl,X⟩
  | true=>
   simp only [bnt,cond_false,Bool.true_and]
   have N:∀f∈m.Factors,(tyX vars res f.Var).isSome=true:=by
    intro f c
    unfold Mb at hp
    rw [Cl,List.all_eq_true] at hp
    have hd:=hp.1 f c
    rw [decide_eq_true_eq] at hd
    unfold Fg at hd
    cases ht:tyX vars res f.Var with
    | none=>rw [ht] at hd; have hd:(0:Int)<=-1:=hd; omega
    | some t=>rfl
   obtain ⟨r,Z,V⟩:=Adb (M:=List (ByteArray×Int)) (R:=Bool×List (ByteArray×Int)) m.Factors (fun q=>Vr data vars res m.Factors q.1 q.2) (fun j o=>((j:Int),o)) (E7 data vars res)
    (fun r=>E7 data vars res r.2/\r.1=m.Atoms.zipIdx.all (fun q=>Nx m.Atoms q.1 q.2)) (fun r=>E7 data vars res r.2/\r.1=false) q.2
    (s0:=((0:Int),q.2))
    (step:=(fun (v9,l)=>
     bif (decide (v9<(m.Factors.length:Int))) then (
     (Af m.Factors v9).bind fun v11=>
     (Lb v11.Var v11.Index l b2 data vars res.Kind res.Num res.Args).bind fun g=>
     bif (g.1==(0:Int)) then some (.inr (.inl (false,g.2)))
     else (
     bif (decide (v9>(0:Int))) then (
     (Af m.Factors (Ac (v9-1))).bind fun B=>
     bif (decide (B.Var>=v11.Var)) then some (.inr (.inl (false,g.2)))
     else some (.inl ((Ac (v9+1)),g.2)))
     else some (.inl ((Ac (v9+1)),g.2))))
     else some (.inr (.inr l)):Int×List (ByteArray×Int)->Option ((Int×List (ByteArray×Int))⊕((Bool×List (ByteArray×Int))⊕List (ByteArray×Int)))))
    (J:=(fun z=>match z with
     | .inl (L,I)=>some (L,I)
     | .inr k=>(Aj (S:=Int) (E:=((Bool×(List (ByteArray×Int)))⊕Unit)) (fun v22=>
       bif (decide (v22<(m.Atoms.length:Int))) then (
       (Af m.Atoms v22).bind fun v23=>
       (show Option Bool from
       bif (v23.Deg==(0:Int)) then some true
       else (
       (Lv v23.Lin).bind fun v25=>
       bif (!v25) then some true
       else some ((v23.Lin.Terms.length:Int)==(0:Int)))).bind fun v26=>
       bif v26 then some (.inr (.inl (false,k)))
       else (
       bif (decide (v22>(0:Int))) then (
       (Af m.Atoms (Ac (v22-1))).bind fun A=>
       (Kk A.Lin v23.Lin).bind fun v28=>
       bif (decide (v28>=(0:Int))) then some (.inr (.inl (false,k)))
       else some (.inl (Ac (v22+1))))
       else some (.inl (Ac (v22+1)))))
       else some (.inr (.inr ()))) 0).bind fun z=>match z with
        | .inl (G,D)=>some (G,D)
        | .inr _=>some (true,k)))
    rfl X (by omega) (by
     intro j f o U hx _ h1 h2 h3
     have c:=Bs hx
     obtain ⟨u,d1,d2⟩:=Ad9 b2 hc U f (i.fr f c).2 (i.fr f c).1 (i.fi f c) (N f c)
     simp only [h1,h2,h3,cond_true,Ad,d1,Alg (·.Var) m.Factors hx (by omega),Vr]
     cases (Fg data vars res f==0) with
     | true=>exact ⟨(fun h=>by cases h),fun _=>⟨_,rfl,_,rfl,d2,rfl⟩⟩
     | false=>
      cases Pp (·.Var) m.Factors f j with
      | true=>exact ⟨fun _=>⟨u,rfl,d2⟩,fun h=>by cases h⟩
      | false=>exact ⟨(fun h=>by cases h),fun _=>⟨_,rfl,_,rfl,d2,rfl⟩⟩) (by
     intro o U h1 _
     refine ⟨.inr o,by simp only [h1]; rfl,?_⟩
     refine ⟨(m.Atoms.zipIdx.all (fun q=>Nx m.Atoms q.1 q.2),o),?_,U,rfl⟩
     refine (U3 m.Atoms (fun q=>Nx m.Atoms q.1 q.2) (fun j=>(j:Int)) rfl (by omega) (rt:=(true,o)) (rf:=(false,o)) ?_ ?_).trans (by cases m.Atoms.zipIdx.all (fun q=>Nx m.Atoms q.1 q.2) <;> rfl)
     .intro j a hx _ h1 h2 h3
      have s:((a.Lin.Terms.length:Int)==(0:Int))=(a.Lin.Terms.length==0):=Akb a.Lin.Terms 0
      simp only [h1,h2,h3,cond_true,Ad,Alh,Avv Kk m.Atoms (fun y hy x=>Ald y.Lin x (by have:=i.al y hy; omega)) hx (by omega),Nx,s]
      cases (a.Deg==0) with
      | true=>exact ⟨(fun h=>by cases h),fun _=>⟨_,rfl,rfl⟩⟩
      | false=>
       cases Ii a.Lin with
       | false=>exact ⟨(fun h=>by cases h),fun _=>⟨_,rfl,rfl⟩⟩
       | true=>
        cases (a.Lin.Terms.length==0) with
        | true=>exact ⟨(fun h=>by cases h),fun _=>⟨_,rfl,rfl⟩⟩
        | false=>
         cases Vp m.Atoms a j with
         | true=>exact ⟨fun _=>rfl,fun h=>by cases h⟩
         | false=>exact ⟨(fun h=>by cases h),fun _=>⟨_,rfl,rfl⟩⟩
     .intro h _; exact ⟨.inr (),by simp only [h]; rfl,rfl⟩)
   refine ⟨r.2,?_,?_⟩
   .have e:some r=some (m.Factors.zipIdx.all (fun q=>Vr data vars res m.Factors q.1 q.2)&&m.Atoms.zipIdx.all (fun q=>Nx m.Atoms q.1 q.2),r.2):=by
     rcases V with ⟨h1,h2,h3⟩ | ⟨h1,h2,h3⟩
     .rw [h1,Bool.true_and,<-h3]
     .rw [h1,Bool.false_and,<-h3]
    rw [<-e]
    exact Z
   .rcases V with ⟨h1,h2,h3⟩ | ⟨h1,h2,h3⟩ <;> exact h2
theorem Avy (l:List Cj) (h:∀f∈l,0<=Fg data vars res f):0<=F4 data vars res l:=by
 induction l with
 | nil=>simp [F4]
 | cons x xs ih=>
  have h1:=h x (by simp)
  have h2:=ih (fun f b=>h f (by simp [b]))
  unfold F4 at *
  simp only [List.map_cons,List.sum_cons]
  omega
theorem Alj (l:List B8) (h:∀a∈l,0<=a.Deg):0<=F0 l/\((∀a∈l,a.Deg<=6)->F0 l<=6*l.length)/\∀a∈l,a.Deg<=F0 l:=by
 induction l with
 | nil=>simp [F0]
 | cons x xs ih=>
  have h1:=h x (by simp)
  obtain ⟨i1,i2,i3⟩:=ih (fun f b=>h f (by simp [b]))
  unfold F0 at *
  simp only [List.map_cons,List.sum_cons,List.length_cons]
  refine ⟨by omega,fun g=>?_,fun a ha=>?_⟩
  .have:=g x (by simp)
   have:=i2 (fun a ha=>g a (by simp [ha]))
   omega
  .rcases List.mem_cons.1 ha with rfl | ha
   .omega
   .have:=i3 a ha; omega
end
end Go.Ab
namespace Go.Ab
open Go
theorem Avz {α:Type} [DecidableEq α] (l m:List α) (b:l.length=m.length):(decide (l=m))=l.zipIdx.all (fun q=>decide (m[q.2]? = some q.1)):=by
 rw [Bool.eq_iff_iff,decide_eq_true_eq]
 constructor
 .rintro rfl
  exact Ada fun j x hx=>by simpa using hx
 .intro h
  apply List.ext_getElem?
  intro j
  cases hx:l[j]? with
  | none=>rw [List.getElem?_eq_none_iff] at hx; rw [List.getElem?_eq_none (by omega)]
  | some x=>have:=Gu h hx; rw [decide_eq_true_eq] at this; rw [this]
theorem Av0 {R:Type} (l m:List Int) (b:l.length<1099511627776) (h:l.length=m.length) {J:Bool⊕Unit->Option R} {rt rf:R} (h1:J (.inl false)=some rf) (h2:J (.inr ())=some rt) :
  (Aj (S:=Int) (E:=(Bool⊕Unit)) (fun v3=>bif (decide (v3<(l.length:Int))) then ((Af l v3).bind fun v4=>(Af m v3).bind fun v5=>bif (v4 != v5) then some (.inr (.inl false)) else some (.inl (Ac (v3+1)))) else some (.inr (.inr ()))) 0).bind J=some (bif decide (l=m) then rt else rf):=by
 rw [Avz l m h]
 refine U3 l (fun q=>decide (m[q.2]? = some q.1)) (fun j=>(j:Int)) rfl (by omega) (rt:=rt) (rf:=rf) ?_ ?_
 .intro j x hx _ g1 g2 g3
  have hj:j<m.length:=by have:=Es hx; omega
  have hy:m[j]? = some m[j]:=Bw hj
  generalize m[j]=y at hy
  simp only [g1,g2,g3,cond_true,Ad,B1 rfl hy,hy,Option.some.injEq]
  by_cases e:x=y
  .rw [Fd e,Ap e.symm]
   exact ⟨fun _=>rfl,fun h=>by cases h⟩
  .rw [Ec e,A1 (fun h=>e h.symm)]
   exact ⟨(fun h=>by cases h),fun _=>⟨.inl false,rfl,h1⟩⟩
 .intro h _; exact ⟨.inr (),by simp only [h]; rfl,h2⟩
theorem Alk (l m:List Int) (b:l.length<1099511627776):La l m=some (decide (l=m)):=by
 unfold La
 by_cases h:l.length=m.length
 .rw [Fd (by omega)]
  simp only [cond_false]
  refine (Av0 l m b h (rt:=true) (rf:=false) ?_ ?_).trans (by rw [Yx]) <;> rfl
 .rw [Ec (by omega),A1 (fun e=>h (by rw [e]))]; rfl
def R6 (a b:Ao):Bool:=a.Neg==b.Neg&&decide (a.Num=b.Num)&&decide (a.Den=b.Den)
theorem All (a b:Ao):R6 a b=true↔a=b:=by
 unfold R6
 simp only [Cl,beq_iff_eq,decide_eq_true_eq]
 constructor
 .rintro ⟨⟨h1,h2⟩,h3⟩; cases a; cases b; simp_all
 .rintro rfl; simp
def Vs (c:Ao):Bool:=R6 (Bf (sv c) (nv c) (dv c)) c && !(nv c==0)
structure TSz (t:Aq):Prop where
 co:RB 1048576 t.Coef
 mo:MSz t.Mono
def Ps (l:List Aq) (x:Aq) (j:Nat):Bool:=j==0||(match l[j-1]? with | some y=>decide (D3 y.Mono x.Mono<0) | none=>false)
def R7 (data:List Al) (vars:List Ag) (res:Ag) (l:List Aq) (t:Aq) (j:Nat):Bool:=Vs t.Coef&&Ij data vars res t.Mono&&Ps l t j
def Gd (data:List Al) (vars:List Ag) (res:Ag) (p:List Aq):Bool:=decide (p.length<=1000)&&p.zipIdx.all (fun q=>R7 data vars res p q.1 q.2)
theorem Av1 {S E:Type} (F:Ba->Ba->Option Int) (l:List Aq) (g:∀y∈l,∀x,F y.Mono x=some (D3 y.Mono x)) {x:Aq} {j:Nat} (hx:l[j]? = some x) (i:l.length<4611686018427387904) (c b:Option (S⊕E)) :
  (bif decide ((j:Int)>0) then ((Af l (Ac ((j:Int)-1))).bind fun f=>(F f.Mono x.Mono).bind fun v28=>bif decide (v28>=0) then c else b) else b)=bif Ps l x j then b else c:=by
 have hj:=Es hx
 unfold Ps
 by_cases h:j=0
 .subst h; rfl
 .rw [Ap (by omega)]
  have e:Ac ((j:Int)-1)=((j-1:Nat):Int):=by rw [Ac,B3] <;> omega
  have hy:l[j-1]? = some l[j-1]:=Bw (by omega)
  rw [e,B1 rfl hy,hy]
  have h0:(j==0)=false:=by simpa using h
  simp only [cond_true,Ad,h0,Bool.false_or,g _ (List.getElem_mem (by omega:j-1<l.length))]
  by_cases hc:D3 l[j-1].Mono x.Mono<0
  .rw [A1 (by omega),Ap hc]; rfl
  .rw [Ap (by omega),A1 hc]; rfl
theorem Av2 (s:Bool) (n:Nat):(Hi s n==0)=(n==0):=by
 unfold Hi
 by_cases h:n=0
 .rw [if_pos h]; subst h; rfl
 .rw [if_neg h]
  have:(n==0)=false:=by simpa using h
  rw [this]; cases s <;> rfl
theorem Av3 {data:List Al} {vars:List Ag} {res:Ag} (hc:R4 data vars res) {b1:List (ByteArray×Int)} (b2:List (ByteArray×List Df)) (V:E7 data vars res b1) (p:List Aq) (U:∀t∈p,TSz t) :
  ∃B,To p b1 b2 data vars res.Kind res.Num res.Args=some (Gd data vars res p,B)/\E7 data vars res B:=by
 unfold To Gd
 by_cases A:p.length<=1000
 .rw [A1 (by omega),Ap A,Bool.true_and]
  simp only [cond_false]
  obtain ⟨r,X,S⟩:=Adb (M:=List (ByteArray×Int)) (R:=Bool×List (ByteArray×Int)) p (fun q=>R7 data vars res p q.1 q.2) (fun j o=>((j:Int),o)) (E7 data vars res)
   (fun r=>E7 data vars res r.2/\r.1=true) (fun r=>E7 data vars res r.2/\r.1=false) b1
   (s0:=((0:Int),b1))
   (step:=(fun (b,g)=>
    bif (decide (b<(p.length:Int))) then (
    (Af p b).bind fun v12=>
    (Ow v12.Coef).bind fun f=>
    (show Option Bool from
    bif (f.Neg==v12.Coef.Neg) then (
    (La f.Num v12.Coef.Num).bind fun i=>
    bif i then (
    (La f.Den v12.Coef.Den).bind fun v17=>
    some v17)
    else some false)
    else some false).bind fun E=>
    bif (!E) then some (.inr (.inl (false,g)))
    else (
    (Hg f).bind fun D=>
    bif (D==(0:Int)) then some (.inr (.inl (false,g)))
    else (
    (Qz v12.Mono g b2 data vars res.Kind res.Num res.Args).bind fun v20=>
    bif (!v20.1) then some (.inr (.inl (false,v20.2)))
    else (
    bif (decide (b>(0:Int))) then (
    (Af p (Ac (b-1))).bind fun v21=>
    (Mw v21.Mono v12.Mono).bind fun v22=>
    bif (decide (v22>=(0:Int))) then some (.inr (.inl (false,v20.2)))
    else some (.inl ((Ac (b+1)),v20.2)))
    else some (.inl ((Ac (b+1)),v20.2))))))
    else some (.inr (.inr g)):Int×List (ByteArray×Int)->Option ((Int×List (ByteArray×Int))⊕((Bool×List (ByteArray×Int))⊕List (ByteArray×Int)))))
   (J:=(fun z=>match z with
    | .inl (I,G)=>some (I,G)
    | .inr L=>some (true,L)))
   rfl V (by omega) (by
    intro j t o u hx _ h1 h2 h3
    have c:=U t (Bs hx)
    obtain ⟨B,d1,d2⟩:=Avx b2 hc u t.Mono c.mo
    have s:∀l:List Int,l=(Bf (sv t.Coef) (nv t.Coef) (dv t.Coef)).Num\/l=(Bf (sv t.Coef) (nv t.Coef) (dv t.Coef)).Den->l.length<1099511627776:=by
     intro l A
     have q:=J5 (sv t.Coef) (nv t.Coef) (dv t.Coef) 1048577 c.co.nv c.co.dv (by omega)
     have:=q.nl
     have:=q.dl
     rcases A with rfl | rfl <;> omega
    have k:(bif ((Bf (sv t.Coef) (nv t.Coef) (dv t.Coef)).Neg==t.Coef.Neg) then ((La (Bf (sv t.Coef) (nv t.Coef) (dv t.Coef)).Num t.Coef.Num).bind fun i=>bif i then ((La (Bf (sv t.Coef) (nv t.Coef) (dv t.Coef)).Den t.Coef.Den).bind fun v17=>some v17) else some false) else some false)=some (R6 (Bf (sv t.Coef) (nv t.Coef) (dv t.Coef)) t.Coef):=by
     unfold R6
     rw [Alk _ _ (s _ (.inl rfl)),Alk _ _ (s _ (.inr rfl))]
     cases ((Bf (sv t.Coef) (nv t.Coef) (dv t.Coef)).Neg==t.Coef.Neg) <;> cases decide ((Bf (sv t.Coef) (nv t.Coef) (dv t.Coef)).Num=t.Coef.Num) <;> rfl
    simp only [h1,h2,h3,cond_true,Ad,Ati t.Coef 1048576 c.co (by omega),k,Av1 Mw p (fun y hy x=>Avm y.Mono x (U y hy).mo) hx (by omega),R7,Vs]
    cases N:R6 (Bf (sv t.Coef) (nv t.Coef) (dv t.Coef)) t.Coef with
    | false=>exact ⟨(fun h=>by cases h),fun _=>⟨_,rfl,_,rfl,u,rfl⟩⟩
    | true=>
     have e:=(All _ _).1 N
     simp only [bnt,cond_false,Bool.true_and]
     rw [e,Adh t.Coef 1048576 c.co (by omega),Ad,Av2]
     cases (nv t.Coef==0) with
     | true=>exact ⟨(fun h=>by cases h),fun _=>⟨_,rfl,_,rfl,u,rfl⟩⟩
     | false=>
      simp only [cond_false,d1,Ad,Bool.not_false,Bool.true_and]
      cases Ij data vars res t.Mono with
      | false=>exact ⟨(fun h=>by cases h),fun _=>⟨_,rfl,_,rfl,d2,rfl⟩⟩
      | true=>
       cases Ps p t j with
       | true=>exact ⟨fun _=>⟨B,rfl,d2⟩,fun h=>by cases h⟩
       | false=>exact ⟨(fun h=>by cases h),fun _=>⟨_,rfl,_,rfl,d2,rfl⟩⟩) (by
    intro o u h1 _
    exact ⟨.inr o,by simp only [h1]; rfl,_,rfl,u,rfl⟩)
  refine ⟨r.2,?_,?_⟩
  .have e:some r=some (p.zipIdx.all (fun q=>R7 data vars res p q.1 q.2),r.2):=by
    rcases S with ⟨h1,h2,h3⟩ | ⟨h1,h2,h3⟩
    .rw [h1,<-h3]
    .rw [h1,<-h3]
   rw [<-e]
   exact X
  .rcases S with ⟨h1,h2,h3⟩ | ⟨h1,h2,h3⟩ <;> exact h2
 .rw [Ap (by omega),A1 A]
  exact ⟨b1,rfl,V⟩
structure CSz (x:Cf):Prop where
 ds:DSz x.Data
 nv:x.Vars.length<=1048576
 vs:∀t∈x.Vars,Bg t<=1048576
 rs:Bg x.Res<=1048576
def G5 (data:List Al) (t:Ag):Bool:=Dc data 0 t&&decide (Bg t<=200)
def Ft (x:Cf):Prop:=x.Vars.length<=3000/\Hw x.Data/\G5 x.Data x.Res=true/\x.Vars.all (G5 x.Data)=true
theorem Ft.ctx {x:Cf} (h:Ft x) (c:CSz x):R4 x.Data x.Vars x.Res:=by
 refine ⟨h.2.1,c.ds.sz.short,fun v t ht=>?_,h.1⟩
 have b:∀t,G5 x.Data t=true->Bg t<=200:=fun t h=>by
  simp only [G5,Cl,decide_eq_true_eq] at h; exact h.2
 unfold tyX at ht
 by_cases hv:v = -1
 .rw [if_pos hv] at ht; cases ht; exact b _ h.2.2.1
 .rw [if_neg hv] at ht
  exact b t (List.all_eq_true.1 h.2.2.2 t (Ff ht).2.2.2)
end Go.Ab
namespace Go.Ab
open Go
mutual
def Ce:Ay->Nat
 | ⟨_,_,l⟩=>1+C8 l
def C8:List Ay->Nat
 | []=>0
 | x::xs=>Ce x+C8 xs
end
theorem I1 (t:Ay):Ce t=1+C8 t.Kids:=by cases t; simp only [Ce]
theorem R8 (t:Ay):1<=Ce t:=by rw [I1]; omega
theorem Ji {l:List Ay} {a:Ay} (h:a∈l):Ce a<=C8 l:=by
 induction l with
 | nil=>cases h
 | cons x xs ih=>
  simp only [C8]
  rcases List.mem_cons.1 h with rfl | h
  .omega
  .have:=ih h; omega
theorem Pt (l:List Ay):l.length<=C8 l:=by
 induction l with
 | nil=>simp
 | cons x xs ih=>simp only [C8,List.length_cons]; have:=R8 x; omega
theorem Alm (l m:List Ay):C8 (l++m)=C8 l+C8 m:=by
 induction l with
 | nil=>simp [C8]
 | cons x xs ih=>simp only [List.cons_append,C8,ih]; omega
theorem Aln {l:List Ay} {j:Nat} {x:Ay} (h:l[j]? = some x):C8 (l.take (j+1))=C8 (l.take j)+Ce x:=by
 rw [C7 h,Alm]; simp [C8]
theorem Alo (l:List Ay) (j:Nat):C8 (l.take j)<=C8 l:=by
 have:=Alm (l.take j) (l.drop j)
 rw [List.take_append_drop] at this; omega
theorem Av4 (k:Nat) (l:List Ay) (c:Nat) (L:l.length<1099511627776) (B:c<=5000)
  (ih:∀(a:Ay),a∈l->∀f:Nat,f<=c->∃q:Int,K9 k a f=some (decide (Ce a<=f),q)/\(Ce a<=f->q=(f:Int)-Ce a)) :
  ∃p:Int×Int,Rb (k+2) l c=some p/\(C8 l<=c->p.1 = -1/\p.2=(c:Int)-C8 l)/\(¬C8 l<=c->0<=p.1):=by
 rw [Rb]
 refine Db
  (fun (v3,v4)=>∃j:Nat,v3=j/\j<=l.length/\C8 (l.take j)<=c/\v4=(c:Int)-C8 (l.take j))
  (fun (v3,_)=>l.length-v3.toNat)
  (fun z=>match z with | .inl (i,_)=>0<=i/\¬C8 l<=c | .inr v4=>C8 l<=c/\v4=(c:Int)-C8 l)
  ⟨0,rfl,by omega,by simp [C8],by simp [C8]⟩ ?_ ?_
 .rintro ⟨v3,v4⟩ ⟨j,rfl,hj,y,D⟩
  have D:v4=_:=D
  subst D
  rcases Nat.lt_or_ge j l.length with h | h
  .have hx:l[j]? = some l[j]:=Bw h
   generalize l[j]=x at hx
   obtain ⟨g,A,s⟩:∃g:Nat,(c:Int)-C8 (l.take j)=g/\g<=c:=⟨c-C8 (l.take j),by omega,by omega⟩
   obtain ⟨q,J,I⟩:=ih x (Bs hx) g s
   have E:=Aln hx
   have G:=Alo l (j+1)
   simp only [Ap (by omega:(j:Int)<(l.length:Int)),cond_true,B1 rfl hx,Ad,T8,A,J,C2 h (by omega)]
   by_cases hb:Ce x<=g
   .rw [Ap hb]
    have M:=I hb
    exact .inl ⟨_,rfl,⟨j+1,rfl,by omega,by omega,by show q=_; omega⟩,by simp; omega⟩
   .rw [A1 hb]
    exact .inr ⟨.inl ((j:Int),q),rfl,by omega,by omega⟩
  .have:j=l.length:=by omega
   subst this
   rw [List.take_length] at *
   exact .inr ⟨.inr ((c:Int)-C8 l),by simp,y,rfl⟩
 .rintro (⟨i,b⟩ | v4) u
  .exact ⟨(i,b),rfl,fun h=>absurd h u.2,fun _=>u.1⟩
  .exact ⟨(-1,v4),rfl,fun _=>⟨rfl,u.2⟩,fun h=>absurd u.1 h⟩
theorem Av5:∀(left:Nat) (t:Ay) (k:Nat),left<=5000->4*left+4<=k->Ce t<1099511627776->∃c:Int,K9 k t left=some (decide (Ce t<=left),c)/\(Ce t<=left->c=(left:Int)-Ce t):=by
 intro left
 induction left using Nat.strongRecOn with
 | _ left l=>
  intro t k y hk ht
  have hp:=R8 t
  have s:=I1 t
  have q:=Pt t.Kids
  obtain ⟨j,rfl⟩:∃j,k=j+1:=⟨k-1,by omega⟩
  cases left with
  | zero=>
   refine ⟨-1,?_,fun h=>by omega⟩
   rw [K9,A1 (by omega:¬Ce t<=0)]
   rfl
  | succ f=>
   have x:Ac (((f+1:Nat):Int)-1)=(f:Int):=by rw [Ac,B3] <;> omega
   obtain ⟨g,rfl⟩:∃g,j=g+3:=⟨j-3,by omega⟩
   obtain ⟨⟨i,c⟩,h1,h2,h3⟩:=Av4 g t.Kids f (by omega) (by omega) (fun a ha b u=>by
    have:=Ji ha
    exact l b (by omega) a g (by omega) (by omega) (by omega))
   rw [K9,x,A1 (by omega)]
   simp only [cond_false,T7,h1,Ad]
   by_cases hb:C8 t.Kids<=f
   .obtain ⟨a1,a2⟩:=h2 hb
    simp only at a1 a2
    refine ⟨c,?_,fun _=>by omega⟩
    rw [A1 (by omega),Ap (by omega)]; rfl
   .have a1:=h3 hb
    simp only at a1
    refine ⟨c,?_,fun h=>by omega⟩
    rw [Ap (by omega),A1 (by omega)]; rfl
mutual
def E3 (data:List Al):Ay->Ag->Bool
 | ⟨k,n,kids⟩,t=>
  if t.Kind=1 then k==3&&decide (-1099511627776<=n)&&decide (n<=1099511627776)&&kids.length==0
  else if t.Kind=2 then k==2&&(n==0||n==1)&&kids.length==0
  else if t.Kind=3 then k==1&&n==0&&kids.length==0
  else if t.Kind=6 then k==4&&n==0&&Ik data kids t.Args
  else if t.Kind=5 then k==5&&decide (0<=n)&&decide (n<8)&&(match G4 data t n with | some l=>Ik data kids l | none=>false)
  else if t.Kind=7 then k==6&&n==0&&decide (kids.length<=4096)&&(match t.Args with | u::_=>Pu data kids u | []=>false)
  else if t.Kind=8 then k==7&&n==0&&Ik data kids t.Args
  else k==8&&decide (0<=n)&&decide (n<64)&&kids.length==0
def Ik (data:List Al):List Ay->List Ag->Bool
 | [],[]=>true
 | x::xs,t::ts=>E3 data x t&&Ik data xs ts
 | [],_::_=>false
 | _::_,[]=>false
def Pu (data:List Al):List Ay->Ag->Bool
 | [],_=>true
 | x::xs,t=>E3 data x t&&Pu data xs t
end
theorem R9 (data:List Al) (v:Ay) (t:Ag):E3 data v t =
  if t.Kind=1 then v.Kind==3&&decide (-1099511627776<=v.Num)&&decide (v.Num<=1099511627776)&&v.Kids.length==0
  else if t.Kind=2 then v.Kind==2&&(v.Num==0||v.Num==1)&&v.Kids.length==0
  else if t.Kind=3 then v.Kind==1&&v.Num==0&&v.Kids.length==0
  else if t.Kind=6 then v.Kind==4&&v.Num==0&&Ik data v.Kids t.Args
  else if t.Kind=5 then v.Kind==5&&decide (0<=v.Num)&&decide (v.Num<8)&&(match G4 data t v.Num with | some l=>Ik data v.Kids l | none=>false)
  else if t.Kind=7 then v.Kind==6&&v.Num==0&&decide (v.Kids.length<=4096)&&(match t.Args with | u::_=>Pu data v.Kids u | []=>false)
  else if t.Kind=8 then v.Kind==7&&v.Num==0&&Ik data v.Kids t.Args
  else v.Kind==8&&decide (0<=v.Num)&&decide (v.Num<64)&&v.Kids.length==0:=by cases v; simp only [E3]
theorem Av6 (data:List Al) (l:List Ay) (t:Ag):Pu data l t=l.all (E3 data · t):=by
 induction l with
 | nil=>rfl
 | cons x xs ih=>simp only [Pu,ih,List.all_cons]
theorem Vt (data:List Al):∀(l:List Ay) (ts:List Ag),l.length≠ts.length->Ik data l ts=false
 | [],[],h=>absurd rfl h
 | x::xs,t::ts,h=>by simp only [Ik,Vt data xs ts (by simpa using h),Bool.and_false]
 | [],_::_,_=>by simp only [Ik]
 | _::_,[],_=>by simp only [Ik]
theorem Vu (data:List Al):∀(l:List Ay) (ts:List Ag),l.length=ts.length->Ik data l ts=(l.zip ts).all (fun q=>E3 data q.1 q.2)
 | [],[],_=>rfl
 | x::xs,t::ts,h=>by simp only [Ik,List.zip_cons_cons,List.all_cons,Vu data xs ts (by simpa using h)]
 | [],_::_,h=>by simp at h
 | _::_,[],h=>by simp at h
mutual
theorem Aea (data:List Al) (d:Nat) (v:Int):∀t,Dc (data.take d) v t=true->Dc data v t=true
 | ⟨k,n,l⟩,h=>by
  simp only [Dc,Cl] at h ⊢
  refine ⟨?_,Alp data d v l h.2⟩
  have h1:=h.1
  unfold Ih at h1 ⊢
  by_cases hk:k=5
  .subst hk
   simp only [List.getElem?_take] at h1 ⊢
   by_cases hd:n.toNat<d
   .simpa [hd] using h1
   .simp [hd] at h1
  .simp only [hk,if_false] at h1 ⊢
   exact h1
theorem Alp (data:List Al) (d:Nat) (v:Int):∀l,Dy (data.take d) v l=true->Dy data v l=true
 | [],_=>rfl
 | x::xs,h=>by
  simp only [Dy,Cl] at h ⊢
  exact ⟨Aea data d v x h.1,Alp data d v xs h.2⟩
end
mutual
theorem Alq (data:List Al) (v:Int) (σ:List Ag) (hσ:∀s∈σ,Dc data 0 s=true) (hv:(σ.length:Int)=v):∀t,Dc data v t=true->Dc data 0 (Cy σ t)=true
 | ⟨k,n,l⟩,h=>by
  simp only [Dc,Cl] at h
  cases hV:isV σ k n with
  | true=>
   obtain ⟨s,h1,_,h3⟩:=Zf hV
   rw [Vi (t:=⟨k,n,l⟩) hV h1]
   exact hσ s h3
  | false=>
   rw [Zg (t:=⟨k,n,l⟩) hV,<-Adw]
   simp only [Dc,Cl]
   refine ⟨?_,Alr data v σ hσ hv l h.2⟩
   rw [Adw,List.length_map]
   have h1:=h.1
   unfold Ih at h1 ⊢
   by_cases hk:k=4
   .exfalso
    subst hk
    simp at h1
    unfold isV at hV
    rw [Ap h1.1.1,Ap (by omega)] at hV
    cases hV
   .simp only [hk,if_false] at h1 ⊢
    exact h1
theorem Alr (data:List Al) (v:Int) (σ:List Ag) (hσ:∀s∈σ,Dc data 0 s=true) (hv:(σ.length:Int)=v):∀l,Dy data v l=true->Dy data 0 (Kq σ l)=true
 | [],_=>rfl
 | x::xs,h=>by
  simp only [Dy,Cl] at h
  simp only [Kq,Dy,Cl]
  exact ⟨Alq data v σ hσ hv x h.1,Alr data v σ hσ hv xs h.2⟩
end
theorem Als {data:List Al} {t:Ag} (h:Dc data 0 t=true):∀a∈t.Args,Dc data 0 a=true:=by
 rw [Va,Cl,Akf,List.all_eq_true] at h
 exact h.2
theorem Av7 {data:List Al} (hv:Hw data) {t:Ag} (ht:Dc data 0 t=true) {c:Int} {l:List Ag} (h:G4 data t c=some l):∀a∈l,Dc data 0 a=true/\Bg a<=200:=by
 obtain ⟨x,y,hk,hx,g,hy,rfl,f⟩:=Ns h
 intro a ha
 refine ⟨?_,f a ha⟩
 obtain ⟨b,hb,rfl⟩:=List.mem_map.1 ha
 obtain ⟨i0,_,j,_⟩:=Ff hx
 have h1:=hv.2.1 t.Num.toNat x j
 obtain ⟨_,_,k⟩:=h1.2.2.2.2.2 y (Ff hy).2.2.2
 have i:=List.all_eq_true.1 k b hb
 refine Alq data x.Vars t.Args (Als ht) g b ?_
 unfold Nr at i
 rw [Bool.or_eq_true] at i
 rcases i with h' | h'
 .exact Aea data _ _ b (Adr j h1.2.1 h').1
 .rw [Cl] at h'
  exact Aea data _ _ b h'.1
theorem Av8 {data:List Al} {t:Ag} (h:Dc data 0 t=true):(t.Kind=1\/t.Kind=2\/t.Kind=3\/t.Kind=5\/t.Kind=6\/t.Kind=7\/t.Kind=8\/t.Kind=9)/\(t.Kind=7->t.Args.length=1)/\(t.Kind=8->t.Args.length=1):=by
 rw [Va,Cl] at h
 have h1:=h.1
 unfold Ih at h1
 by_cases q:t.Kind=1
 .simp [q]
 by_cases l:t.Kind=2
 .simp [l]
 by_cases k:t.Kind=3
 .simp [k]
 by_cases j:t.Kind=4
 .exfalso; simp [j] at h1; omega
 by_cases i:t.Kind=5
 .simp [i]
 by_cases g:t.Kind=6
 .simp [g]
 by_cases f:t.Kind=7
 .simp [f] at h1 ⊢; exact h1.2
 by_cases c:t.Kind=8
 .simp [c] at h1 ⊢; exact h1.2
 by_cases b:t.Kind=9
 .simp [b]
 .simp [q,l,k,j,i,g,f,c,b] at h1
end Go.Ab
namespace Go.Ab
open Go
theorem Zs {α:Type} (l:List α):((l.length:Int)==(0:Int))=(l.length==0):=Akb l 0
def Vv {α β:Type} (m:List β) (p:α×β->Bool) (q:α×Nat):Bool:=match m[q.2]? with | some y=>p (q.1,y) | none=>false
theorem Av9 {α β:Type} (l:List α) (m:List β) (p:α×β->Bool) (h:l.length=m.length):(l.zip m).all p=l.zipIdx.all (Vv m p):=by
 rw [Bool.eq_iff_iff]
 constructor
 .intro ha
  refine Ada fun j x hx=>?_
  have hj:=Es hx
  have hy:m[j]? = some m[j]:=Bw (by omega)
  simp only [Vv,hy]
  refine List.all_eq_true.1 ha _ (Bs (i:=j) ?_)
  rw [List.getElem?_zip_eq_some]; exact ⟨hx,hy⟩
 .intro ha
  rw [List.all_eq_true]
  rintro ⟨x,y⟩ hq
  obtain ⟨j,hj⟩:=List.getElem?_of_mem hq
  rw [List.getElem?_zip_eq_some] at hj
  have:=Gu ha hj.1
  simp only [Vv,hj.2] at this
  exact this
theorem Awa {data:List Al} (hv:Hw data):∀(n:Nat) (v:Ay) (t:Ag) (k:Nat),Ce v<=n->4*n<=k->n<=5000->Dc data 0 t=true->Bg t<=200->M2 k data v t=some (E3 data v t):=by
 intro n
 induction n with
 | zero=>intro v t k h; have:=R8 v; omega
 | succ n ih=>
  intro v t k h hk hn ht D
  have a1:=I1 v
  have a6:=Pt v.Kids
  obtain ⟨k,rfl⟩:∃k',k=k' + 4:=⟨k-4,by omega⟩
  obtain ⟨kd,k7,k8⟩:=Av8 ht
  have f:∀ts:List Ag,(∀a∈ts,Dc data 0 a=true/\Bg a<=200)->M6 (k+3) data v.Kids ts=some (Ik data v.Kids ts):=by
   intro ts S
   rw [M6,Uj]
   by_cases V:v.Kids.length=ts.length
   .rw [Fd (by omega),Vu data _ _ V,Av9 _ _ _ V]
    simp only [cond_false]
    have key:=U3 v.Kids (Vv ts (fun q=>E3 data q.1 q.2)) (fun j=>(j:Int)) (s0:=(0:Int)) rfl (by omega) (rt:=true) (rf:=false) (J:=fun z:Bool⊕Unit=>match z with | .inl R=>some R | .inr _=>some true)
     (step:=fun E=>bif (decide (E<(v.Kids.length:Int))) then ((Af v.Kids E).bind fun X=>(Af ts E).bind fun v9=>(Rc (k+1) X v9 data).bind fun v11=>bif (!v11) then some (.inr (.inl false)) else some (.inl (Ac (E+1)))) else some (.inr (.inr ()))) (by
      intro j x hx _ h1 h2 h3
      have hy:ts[j]? = some (ts[j]'(by have:=Es hx; omega)):=Bw (by have:=Es hx; omega)
      generalize ts[j]'(by have:=Es hx; omega)=y at hy
      have s:=S y (Bs hy)
      have hxm:=Ji (Bs hx)
      simp only [h1,h2,h3,cond_true,Ad,B1 rfl hy,Vv,hy,Rc,ih x y k (by omega) (by omega) (by omega) s.1 s.2]
      cases E3 data x y with
      | true=>exact ⟨fun _=>rfl,fun h=>by cases h⟩
      | false=>exact ⟨(fun h=>by cases h),fun _=>⟨.inl false,rfl,rfl⟩⟩) (by intro h _; exact ⟨.inr (),by simp only [h]; rfl,rfl⟩)
    rw [Yx] at key
    exact congrArg (fun q=>Option.bind q some) key
   .rw [Ec (by omega),Vt data _ _ V]; rfl
  have b:∀a∈t.Args,Dc data 0 a=true/\Bg a<=200:=fun a ha=>⟨Als ht a ha,by have:=Hu ha; have:=Hk t; omega⟩
  rw [M2,R9]
  by_cases N:t.Kind=1
  .rw [Dw N,if_pos N,Zs]
   cases (v.Kind==3) <;> cases decide (-1099511627776<=v.Num) <;> cases decide (v.Num<=1099511627776) <;> rfl
  rw [Co N,if_neg N]
  by_cases M:t.Kind=2
  .rw [Dw M,if_pos M,Zs]
   cases (v.Kind==2) <;> cases (v.Num==0) <;> cases (v.Num==1) <;> rfl
  rw [Co M,if_neg M]
  by_cases L:t.Kind=3
  .rw [Dw L,if_pos L,Zs]
   cases (v.Kind==1) <;> cases (v.Num==0) <;> rfl
  rw [Co L,if_neg L]
  by_cases G:t.Kind=6
  .rw [Dw G,if_pos G,f t.Args b]
   cases (v.Kind==4) <;> cases (v.Num==0) <;> rfl
  rw [Co G,if_neg G]
  by_cases I:t.Kind=5
  .rw [Dw I,if_pos I,Au4 hv.szv t D]
   simp only [cond_false,cond_true]
   by_cases g1:v.Kind=5
   .rw [Fd g1,Dw g1]
    by_cases g2:v.Num<0
    .rw [Ap g2,A1 (by omega:¬0<=v.Num)]; rfl
    .by_cases g3:v.Num>=8
     .rw [A1 g2,Ap g3,A1 (by omega:¬v.Num<8)]
      simp
     .rw [A1 g2,A1 g3,Ap (by omega:0<=v.Num),Ap (by omega:v.Num<8)]
      simp only [cond_false,Ad,Bool.true_and]
      cases hf:G4 data t v.Num with
      | none=>rfl
      | some l=>
       simp only [okL,cond_true]
       rw [f l (Av7 hv ht hf)]; rfl
   .rw [Ec g1,Co g1]; rfl
  rw [Co I,if_neg I]
  by_cases c:t.Kind=7
  .rw [Dw c,if_pos c,show decide ((v.Kids.length:Int)<=4096)=decide (v.Kids.length<=4096) by congr 1; simp only [eq_iff_iff]; omega]
   have U:=k7 c
   match A:t.Args,U with
   | [u],_=>
    have hu:=b u (by rw [A]; simp)
    have B:Uy (k+3) v.Kids data t=some (!Pu data v.Kids u):=by
     rw [Uy,Yl,Av6]
     have key:=Yy v.Kids (fun x=>!E3 data x u) (by omega) (J:=fun z=>match z with | .inl Y=>some Y | .inr _=>some (-1)) (step:=fun v3=>bif (decide (v3<(v.Kids.length:Int))) then ((Af v.Kids v3).bind fun v4=>(Q7 (k+1) v4 data t).bind fun v5=>bif v5 then some (.inr (.inl v3)) else some (.inl (Ac (v3+1)))) else some (.inr (.inr ()))) (by
      intro j x hx h1 h2 h3
      have hxm:=Ji hx
      have hi:Af t.Args 0=some u:=by rw [A]; rfl
      simp only [h1,h2,h3,cond_true,Ad,Q7,hi,ih x u k (by omega) (by omega) (by omega) hu.1 hu.2]) (fun h=>by simp only [h]; rfl) (fun _=>rfl) rfl
     obtain ⟨i,i1,i2⟩:=key
     erw [i1]
     simp only [Ad,i2]
     rw [List.any_eq_not_all_not]; simp
    simp only [cond_false,cond_true,B,Ad]
    cases (v.Kind==6) <;> cases (v.Num==0) <;> cases decide (v.Kids.length<=4096) <;> cases Pu data v.Kids u <;> rfl
  rw [Co c,if_neg c]
  by_cases g:t.Kind=8
  .rw [Dw g,if_pos g,f t.Args b]
   cases (v.Kind==7) <;> cases (v.Num==0) <;> rfl
  rw [Co g,if_neg g]
  have Z:t.Kind=9:=by omega
  rw [Dw Z,Zs]
  cases (v.Kind==8) <;> cases decide (0<=v.Num) <;> cases decide (v.Num<64) <;> rfl
def Kt (data:List Al) (v:Ay) (t:Ag):Bool:=G5 data t&&decide (Ce v<=5000)&&E3 data v t
theorem Alt {data:List Al} (j:DSz data) (v:Ay) (t:Ag) (f:Ce v<1099511627776) (ht:Bg t<=1048576):∃b,Ls data v t=some b/\(b=true↔Hw data/\Kt data v t=true):=by
 obtain ⟨b,b1,b2⟩:=Adv j
 unfold Ls Xv Kt
 rw [b1,Vb data t 0 (by omega)]
 simp only [Ad]
 rw [show (Dc data 0 t&&decide (Bg t<=200))=G5 data t from rfl]
 cases b with
 | false=>exact ⟨false,rfl,by simp; intro h; have:=b2.2 h; cases this⟩
 | true=>
  have hv:=b2.1 rfl
  cases k:G5 data t with
  | false=>exact ⟨false,rfl,by simp⟩
  | true=>
   obtain ⟨l,i,_⟩:=Av5 5000 v 4000000 (by omega) (by omega) f
   have i:K9 4000000 v 5000=_:=i
   simp only [cond_true,Ad,i]
   by_cases g:Ce v<=5000
   .have c:=k
    simp only [G5,Cl,decide_eq_true_eq] at c
    rw [Ap g]
    simp only [cond_true,Awa hv 5000 v t 4000000 g (by omega) (by omega) c.1 c.2,Ad]
    exact ⟨_,rfl,by simp [hv]⟩
   .rw [A1 g]
    exact ⟨false,rfl,by simp⟩
end Go.Ab
namespace Go.Ab
open Go
mutual
def Ge (data:List Al) (d:Int):Ay->List Ay
 | ⟨k,n,kids⟩=>⟨k,n,kids⟩::Fu data d kids (C3 data d n)
def Fu (data:List Al) (d:Int):List Ay->List Bool->List Ay
 | x::xs,b::bs=>(bif b then Ge data d x else [])++Fu data d xs bs
 | [],_=>[]
 | _::_,[]=>[]
end
theorem Alu (data:List Al) (d:Int) (v:Ay):Ge data d v=v::Fu data d v.Kids (C3 data d v.Num):=by cases v; simp only [Ge]
mutual
theorem Aeb (data:List Al) (d:Int):∀v,(Ge data d v).length<=Ce v
 | ⟨k,n,kids⟩=>by
  have:=Aec data d kids (C3 data d n)
  simp only [Ge,Ce,List.length_cons]; omega
theorem Aec (data:List Al) (d:Int):∀l r,(Fu data d l r).length<=C8 l
 | x::xs,b::bs=>by
  have h1:=Aeb data d x
  have h2:=Aec data d xs bs
  cases b <;> simp only [Fu,C8,List.length_append,cond_true,cond_false,List.length_nil] <;> omega
 | [],_=>by simp [Fu]
 | _::_,[]=>by simp [Fu]
end
theorem Alv (data:List Al) (d:Int):∀(l:List Ay) (r:List Bool) (x:Ay) (b:Bool),l.length=r.length->Fu data d (l++[x]) (r++[b])=Fu data d l r++(bif b then Ge data d x else [])
 | [],[],x,b,_=>by simp [Fu]
 | y::ys,c::cs,x,b,h=>by
  simp only [List.cons_append,Fu,Alv data d ys cs x b (by simpa using h),List.append_assoc]
 | [],_::_,_,_,h=>by simp at h
 | _::_,[],_,_,h=>by simp at h
theorem Awb {a:Ag} {d vars:Int} {σ:List Ag} (h:Hm a d vars=true) (g:(σ.length:Int)=vars):Cy σ a=⟨5,d,σ⟩:=by
 unfold Hm at h
 simp only [Cl,beq_iff_eq] at h
 obtain ⟨⟨⟨h1,h2⟩,h3⟩,f⟩:=h
 have hv:isV σ a.Kind a.Num=false:=by unfold isV; rw [h1]; rfl
 rw [Zg hv,h1,h2]
 congr 1
 apply List.ext_getElem?
 intro j
 rw [List.getElem?_map]
 cases hx:a.Args[j]? with
 | none=>
  rw [List.getElem?_eq_none_iff] at hx
  rw [List.getElem?_eq_none (by omega)]; rfl
 | some x=>
  have hj:=Es hx
  have:=Gu f hx
  simp only [Nq,Cl,beq_iff_eq] at this
  have c:σ[j]? = some (σ[j]'(by omega)):=Bw (by omega)
  generalize σ[j]'(by omega)=s at c
  have b:isV σ x.Kind x.Num=true:=by
   unfold isV
   rw [this.1.1,this.1.2,Ap (by omega),Ap (by omega)]; rfl
  rw [c,Option.map_some,Vi b (by rw [this.1.2]; exact c)]
theorem Zt {data:List Al} {v:Ay} {t:Ag} (hk:t.Kind=5) (h:E3 data v t=true) :
  ∃x,Af data t.Num=some x/\0<=v.Num/\v.Num<x.Cons.length/\(C3 data t.Num v.Num).length=v.Kids.length/\∀(j:Nat) (w:Ay),v.Kids[j]? = some w->(C3 data t.Num v.Num)[j]? = some true->E3 data w t=true:=by
 rw [R9,if_neg (by omega),if_neg (by omega),if_neg (by omega),if_neg (by omega),if_pos hk] at h
 cases s:G4 data t v.Num with
 | none=>rw [s] at h; simp at h
 | some l=>
  rw [s] at h
  simp only [Cl] at h
  have b:=h.2
  have c:v.Kids.length=l.length:=by
   by_cases q:v.Kids.length=l.length
   .exact q
   .rw [Vt data _ _ q] at b; cases b
  have E:=Vj s
  obtain ⟨x,y,_,hx,u,hy,q,_⟩:=Ns s
  obtain ⟨D,B,_,_⟩:=Ff hy
  refine ⟨x,hx,D,B,by omega,fun j w hw A=>?_⟩
  rw [Vu data _ _ c] at b
  have hj:=Es hw
  have g:l[j]? = some (l[j]'(by omega)):=Bw (by omega)
  have hh:=List.all_eq_true.1 b (w,l[j]'(by omega)) (Bs (i:=j) (by rw [List.getElem?_zip_eq_some]; exact ⟨hw,g⟩))
  simp only at hh
  have ha:y.Args[j]? = some (y.Args[j]'(by rw [q] at c; simp at c; omega)):=Bw _
  generalize y.Args[j]'_=a at ha
  have z:(C3 data t.Num v.Num)[j]? = some (Hm a t.Num x.Vars):=by
   unfold C3; simp only [hx,hy,List.getElem?_map,ha,Option.map_some]
  rw [z] at A
  have f:=Option.some.inj A
  have k:l[j]? = some (Cy t.Args a):=by rw [q,List.getElem?_map,ha]; rfl
  rw [k] at g
  rw [<-Option.some.inj g,Awb f u] at hh
  have:(Ag.mk 5 t.Num t.Args)=t:=by cases t; simp only at hk; rw [hk]
  rw [this] at hh; exact hh
theorem Awc {data:List Al} {t:Ag} (hk:t.Kind=5) (B:List (List Bool)) (I:∀(x:Al),Af data t.Num=some x->∀n:Int,0<=n->n<x.Cons.length->Af B n=some (C3 data t.Num n)):∀(n:Nat) (v:Ay) (k:Nat) (b:List Ay),Ce v<=n->n<=k->n<=1048576->b.length+Ce v<=1048576->E3 data v t=true->O8 k v b B=some (b++Ge data t.Num v):=by
 intro n
 induction n with
 | zero=>intro v k b h; have:=R8 v; omega
 | succ n ih=>
  intro v k b h E J hb G
  obtain ⟨k,rfl⟩:∃s,k=s+1:=⟨k-1,by omega⟩
  have y:=I1 v
  have z:=Pt v.Kids
  obtain ⟨x,hx,q,l,i,f⟩:=Zt hk G
  rw [O8,D2 (by simp; omega),Ad,Ve b [] _ _ b.length rfl rfl,Ad,Vd b [] _ _ _ b.length rfl rfl,I x hx v.Num q l,Ad,Alu]
  generalize L:C3 data t.Num v.Num=R at *
  have g:∀j,(Fu data t.Num (v.Kids.take j) (R.take j)).length<=C8 (v.Kids.take j):=fun j=>Aec _ _ _ _
  refine Fe R (fun j=>((j:Int),b++[v]++Fu data t.Num (v.Kids.take j) (R.take j))) (by simp [Fu]) (by omega) ?_ ?_
  .intro j c hj hc h1 h2 h3
   have hw:v.Kids[j]? = some (v.Kids[j]'(by omega)):=Bw (by omega)
   generalize v.Kids[j]'_=w at hw
   have u:=Ji (Bs hw)
   have A:=Aln hw
   have D:=Alo v.Kids (j+1)
   have hp:=g j
   simp only [h1,h2,h3,cond_true,Ad,B1 rfl hw,C7 hw,C7 hc]
   rw [Alv _ _ _ _ _ _ (by simp; omega)]
   cases c with
   | false=>simp
   | true=>
    rw [ih w k _ (by omega) (by omega) (by omega) (by simp; omega) (f j w hw hc)]
    simp
  .intro h1
   refine ⟨b++(v::Fu data t.Num v.Kids R),?_,rfl⟩
   simp only [h1]
   rw [List.take_of_length_le (by omega:v.Kids.length<=R.length),List.take_length]; simp
theorem Awd {data:List Al} (k:Li data) (l:∀x∈data,x.Cons.length<=8) {t:Ag} (hk:t.Kind=5) (v:Ay) (hv:Ce v<=5000) (h:E3 data v t=true):Uk data t v=some (Ge data t.Num v):=by
 obtain ⟨x,hx,u,s,g,f⟩:=Zt hk h
 have i:=l x (Ff hx).2.2.2
 unfold Uk
 rw [hx,Ad]
 refine Fe x.Cons (fun j=>((j:Int),(List.range j).map fun c:Nat=>C3 data t.Num (c:Int))) rfl (by omega) ?_ ?_
 .intro j y hj hy h1 h2 h3
  simp only [h1,h3,cond_true,Vf data t.Num (j:Int) k,Ad]
  rw [D2 (by simp; omega),Ad,List.range_succ]; simp
 .intro h1
  refine ⟨(List.range x.Cons.length).map fun c:Nat=>C3 data t.Num (c:Int),by simp,?_⟩
  rw [Awc hk _ (fun q b n a1 a2=>?_) 5000 v 4000000 [] hv (by omega) (by omega) (by simp; omega) h]
  .rfl
  .rw [hx] at b; cases b
   rw [B1 (n:=n.toNat) (by omega)]
   rw [List.getElem?_map,List.getElem?_range (by omega)]
   simp only [Option.map_some]
   rw [show ((n.toNat:Nat):Int)=n by omega]
end Go.Ab
namespace Go.Ab
open Go
theorem Awe {data:List Al} (c:DSz data) (hv:Hw data) (t:Ag) (f:G5 data t=true) (i:A5) (hi:Cr i<=1048576):T9 data t i=some (Hx (Et data i t)):=by
 have b:=f
 simp only [G5,Cl,decide_eq_true_eq] at b
 obtain ⟨q,h,g⟩:=Adv c
 have hq:q=true:=g.2 hv
 subst hq
 unfold T9 Yb
 rw [h,Vb data t 0 (by omega)]
 simp only [Ad,cond_true]
 rw [show (Dc data 0 t&&decide (Bg t<=200))=G5 data t from rfl,f]
 obtain ⟨p,k,j⟩:=(Au6 hv.szv c.sz.short 4000000).1 i t (by omega) hi b.2
 simp only [bnt,cond_false,k,Ad]
 rcases j with ⟨a1,d,a2,a3,a4⟩ | ⟨a1,a2⟩
 .rw [a1,a2,Zl a3,a4]; rfl
 .rw [a1,Akx a2]; rfl
end Go.Ab
namespace Go.Ab
open Go
theorem Zu {data:List Al} {vars:List Ag} {res:Ag} {m:Ba} (h:Ij data vars res m=true):(∀f∈m.Factors,∃t,tyX vars res f.Var=some t)/\m.Factors.length<=6:=by
 unfold Ij at h
 simp only [Cl,decide_eq_true_eq] at h
 obtain ⟨⟨h1,h2⟩,h3⟩:=h
 have b:∀f∈m.Factors,1<=Fg data vars res f:=by
  intro f b
  obtain ⟨j,hj⟩:=List.getElem?_of_mem b
  have:=Gu h1 hj
  simp only [Vq,Cl,decide_eq_true_eq] at this
  exact this.1
 have ha:0<=F0 m.Atoms:=(Alj m.Atoms (fun a ha=>by
  obtain ⟨j,hj⟩:=List.getElem?_of_mem ha
  have:=Gu h2 hj
  simp only [Pq,Cl,decide_eq_true_eq] at this
  omega)).1
 refine ⟨fun f c=>?_,?_⟩
 .have:=b f c
  unfold Fg at this
  cases ht:tyX vars res f.Var with
  | none=>rw [ht] at this; have:(1:Int)<=-1:=this; omega
  | some t=>exact ⟨t,rfl⟩
 .have key:∀l:List Cj,(∀f∈l,1<=Fg data vars res f)->(l.length:Int)<=F4 data vars res l:=by
   intro l
   induction l with
   | nil=>intro _; simp [F4]
   | cons f fs ih=>
    intro i
    have h1:=i f (by simp)
    have h2:=ih (fun g k=>i g (by simp [k]))
    unfold F4 at *
    simp only [List.map_cons,List.sum_cons,List.length_cons]; omega
  have:=key m.Factors b
  omega
theorem Awf (a b:Ao) (j k:Nat) (ha:RB j a) (hb:RB k b) (hj:j<34359738000) (hk:k<34359738000):∃c,Eh a b=some c/\Tq a b=some c/\RB (j+k+2) c:=by
 refine ⟨_,Y4 a b j k ha hb (by omega) (by omega),At0 a b j k ha hb (by omega) (by omega),?_⟩
 have h1:=ha.nv
 have h2:=ha.dv
 have h3:=hb.nv
 have h:=hb.dv
 have g:=Fs (nv a) (nv b)
 have f:=Fs (dv a) (dv b)
 exact J5 _ _ _ _ (by omega) (by omega) (by omega)
theorem Awg (a b:Ao) (j k:Nat) (ha:RB j a) (hb:RB k b) (hj:j<34359738000) (hk:k<34359738000):∃c,Gr a b=some c/\Ol a b=some c/\RB (j+k+3) c:=by
 refine ⟨_,Adj a b j k ha hb (by omega) (by omega),At2 a b j k ha hb (by omega) (by omega),?_⟩
 have h1:=ha.nv
 have h2:=ha.dv
 have h3:=hb.nv
 have s:=hb.dv
 have q:=Fs (nv a) (dv b)
 have l:=Fs (nv b) (dv a)
 have i:=Fs (dv a) (dv b)
 have f:Hj (sv a) (nv a) (dv a) (sv b) (nv b) (dv b)<=nv a*dv b+nv b*dv a:=by
  unfold Hj
  split
  .omega
  .split <;> omega
 have h:=Gb f
 have g:=U2 (nv a*dv b) (nv b*dv a)
 exact J5 _ _ _ _ (by omega) (by omega) (by omega)
end Go.Ab
namespace Go.Ab
open Go
end Go.Ab
namespace Go.Ab
open Go
end Go.Ab
namespace Go.Ab
open Go
end Go.Ab
namespace Go.Ab
open Go
def sg (s:Bool) (n:Nat):Int:=if s then -(n:Int) else n
def rq (a:Ao):Rat:=mkRat (sg (sv a) (nv a)) (dv a)
def Fh (a:Ao):Prop:=a=Bf (sv a) (nv a) (dv a)
theorem Lm (s:Bool) (n d:Nat) (hd:d≠0):rq (Bf s n d)=mkRat (sg s n) d:=by
 obtain ⟨g,f,h1,h2,h3,i⟩:=Zb s n d hd
 unfold rq
 rw [Rat.mkRat_eq_iff (D6 _) hd]
 generalize nv (Bf s n d)=b at *
 generalize dv (Bf s n d)=j at *
 generalize sv (Bf s n d)=s' at *
 by_cases c:n=0
 .have:b=0:=by
   rcases Nat.eq_zero_or_pos b with h | h
   .exact h
   .have:=Nat.mul_pos (Nat.pos_of_ne_zero f) h; omega
  subst this; subst c
  cases s <;> cases s' <;> simp [sg]
 .rw [h3 c,h1,h2]
  cases s <;> simp only [sg,if_true,if_false,Bool.false_eq_true,Int.natCast_mul] <;> grind
theorem Sa (s:Bool) (n d:Nat) (hd:d≠0):Fh (Bf s n d):=by
 obtain ⟨g,b,h1,h2,h3,i⟩:=Zb s n d hd
 unfold Fh
 generalize hc:Bf s n d=c at h1 h2 h3 i
 have e:=Pk s (nv c) (dv c) g b
 rw [<-h1,<-h2,hc] at e
 by_cases f:n=0
 .have h0:nv c=0:=by
   rcases Nat.eq_zero_or_pos (nv c) with h | h
   .exact h
   .have:=Nat.mul_pos (Nat.pos_of_ne_zero b) h; omega
  rw [h0,U5] at e ⊢
  exact e
 .rw [h3 f]; exact e
theorem Alw (n m:Int) {d e:Nat} (hd:d≠0) (g:e≠0):mkRat n d<mkRat m e↔n*e<m*d:=by
 have c:(0:Rat)<(d:Rat):=Rat.natCast_pos.2 (by omega)
 have b:(0:Rat)<(e:Rat):=Rat.natCast_pos.2 (by omega)
 rw [Rat.mkRat_eq_div,Rat.mkRat_eq_div,Rat.div_lt_iff c]
 rw [<-Rat.mul_lt_mul_right b]
 have f:(m:Rat) / (e:Rat)*(d:Rat)*(e:Rat)=(m:Rat)*(d:Rat):=by grind
 rw [f]
 have a1:(n:Rat)*(e:Rat)=((n*(e:Int):Int):Rat):=by rw [Rat.intCast_mul]; rfl
 have a2:(m:Rat)*(d:Rat)=((m*(d:Int):Int):Rat):=by rw [Rat.intCast_mul]; rfl
 rw [a1,a2,Rat.intCast_lt_intCast]
theorem Awh {a b:Ao} (ha:Fh a) (hb:Fh b) (h:rq a=rq b):a=b:=by
 unfold rq at h
 rw [Rat.mkRat_eq_iff (D6 _) (D6 _)] at h
 rw [ha,hb]
 have l:=D6 a
 have k:=D6 b
 generalize nv a=n at *
 generalize dv a=d at *
 generalize sv a=s at *
 generalize nv b=m at *
 generalize dv b=e at *
 generalize sv b=t at *
 have hh:n*e=m*d/\(n≠0->s=t):=by
  have c:n≠0->0<n*e:=fun h=>Nat.mul_pos (by omega) (by omega)
  have f:m≠0->0<m*d:=fun h=>Nat.mul_pos (by omega) (by omega)
  have u:((n*e:Nat):Int)=(n:Int)*e:=by simp
  have q:((m*d:Nat):Int)=(m:Int)*d:=by simp
  cases s <;> cases t <;> simp only [sg,if_true,if_false,Bool.false_eq_true,Int.neg_mul] at h
  .exact ⟨by omega,fun _=>rfl⟩
  .have:n*e=0/\m*d=0:=by omega
   refine ⟨by omega,fun g=>?_⟩
   have:=c g; omega
  .have:n*e=0/\m*d=0:=by omega
   refine ⟨by omega,fun g=>?_⟩
   have:=c g; omega
  .exact ⟨by omega,fun _=>rfl⟩
 have j:=Pk s n d e k
 have i:=Pk t m e d l
 rw [<-j,<-i,Nat.mul_comm e n,hh.1,Nat.mul_comm e d,Nat.mul_comm m d]
 refine Aj6 fun h0=>hh.2 ?_
 rintro rfl
 rw [Nat.zero_mul] at hh
 have:=hh.1
 rw [Nat.mul_comm d m] at h0
 omega
theorem Alx (j:Bool) (c g:Nat) (i:Bool) (b f:Nat):sg (Iz j c g i b f) (Hj j c g i b f)=sg j c*f+sg i b*g:=by
 unfold Iz Hj sg
 have l:((c*f:Nat):Int)=(c:Int)*f:=by simp
 have k:((b*g:Nat):Int)=(b:Int)*g:=by simp
 cases j <;> cases i <;> simp only [if_true,if_false,Bool.false_eq_true,Bool.true_eq_false,Int.neg_mul]
 .omega
 .by_cases h:b*g<=c*f
  .simp only [if_pos h]; simp only [if_false,Bool.false_eq_true]; omega
  .simp only [if_neg h]; simp only [if_true]; omega
 .by_cases h:b*g<=c*f
  .simp only [if_pos h]; simp only [if_true]; omega
  .simp only [if_neg h]; simp only [if_false,Bool.false_eq_true]; omega
 .omega
theorem Zv {a b:Ao} {j k:Nat} (ha:RB j a) (hb:RB k b) (hj:j<34359738000) (hk:k<34359738000):∃c,Gr a b=some c/\Ol a b=some c/\RB (j+k+3) c/\Fh c/\rq c=rq a+rq b:=by
 obtain ⟨c,h1,h2,h3⟩:=Awg a b j k ha hb hj hk
 have e:=Adj a b j k ha hb (by omega) (by omega)
 rw [h1] at e
 have e:=Option.some.inj e
 have hd:dv a*dv b≠0:=Nat.mul_ne_zero (D6 a) (D6 b)
 refine ⟨c,h1,h2,h3,?_,?_⟩
 .rw [e]; exact Sa _ _ _ hd
 .rw [e,Lm _ _ _ hd,Alx,rq,rq,Rat.mkRat_add_mkRat _ _ (D6 a) (D6 b)]
theorem Awi (s t:Bool) (n m:Nat):sg (s != t) (n*m)=sg s n*sg t m:=by
 unfold sg
 cases s <;> cases t <;> simp [Int.neg_mul,Int.mul_neg]
theorem Sb {a b:Ao} {j k:Nat} (ha:RB j a) (hb:RB k b) (hj:j<34359738000) (hk:k<34359738000):∃c,Eh a b=some c/\Tq a b=some c/\RB (j+k+2) c/\Fh c/\rq c=rq a*rq b:=by
 obtain ⟨c,h1,h2,h3⟩:=Awf a b j k ha hb hj hk
 have e:=Y4 a b j k ha hb (by omega) (by omega)
 rw [h1] at e
 have e:=Option.some.inj e
 have hd:dv a*dv b≠0:=Nat.mul_ne_zero (D6 a) (D6 b)
 refine ⟨c,h1,h2,h3,?_,?_⟩
 .rw [e]; exact Sa _ _ _ hd
 .rw [e,Lm _ _ _ hd,Awi,rq,rq,Rat.mkRat_mul_mkRat]
def I2 (x:Rat):Int:=if x<0 then -1 else if 0<x then 1 else 0
theorem Awj (a:Ao):rq a<0↔Hi (sv a) (nv a) = -1:=by
 have e:(0:Rat)=mkRat 0 1:=by simp
 rw [rq,e,Alw _ _ (D6 a) (by decide)]
 unfold sg Hi
 split <;> split <;> simp <;> omega
theorem Awk (a:Ao):0<rq a↔Hi (sv a) (nv a)=1:=by
 have e:(0:Rat)=mkRat 0 1:=by simp
 rw [rq,e,Alw _ _ (by decide) (D6 a)]
 unfold sg Hi
 split <;> split <;> simp <;> omega
theorem Awl (a:Ao):Hi (sv a) (nv a)=I2 (rq a):=by
 have h1:=Awj a
 have h2:=Awk a
 have h3:Hi (sv a) (nv a) = -1\/Hi (sv a) (nv a)=0\/Hi (sv a) (nv a)=1:=by unfold Hi; split <;> (try split) <;> simp
 unfold I2
 split
 .rename_i h; exact h1.1 h
 .rename_i h
  split
  .rename_i h'; exact h2.1 h'
  .rename_i h'
   rcases h3 with h3 | h3 | h3
   .exact (h (h1.2 h3)).elim
   .exact h3
   .exact (h' (h2.2 h3)).elim
theorem Zw {a:Ao} {k:Nat} (h:RB k a) (hk:k<34359738000):Hg a=some (I2 (rq a))/\Mv a=some (I2 (rq a)):=by
 rw [<-Awl]
 exact ⟨Adh a k h (by omega),At3 a k h (by omega)⟩
end Go.Ab
namespace Go.Ab
open Go
structure Ds {α:Type} (S:α->Prop) (g:α->α->Int):Prop where
 zero:∀a b,S a->S b->(g a b=0↔a=b)
 anti:∀a b,S a->S b->g b a = - g a b
 trans:∀a b c,S a->S b->S c->g a b<0->g b c<0->g a c<0
theorem Ds.cmpI:Ds (fun _:Int=>True) D7:=by
 refine ⟨fun a b _ _=>Hn,fun a b _ _=>?_,fun a b c _ _ _=>?_⟩
 .unfold Go.Ab.D7; split <;> split <;> (try split) <;> (try split) <;> omega
 .unfold Go.Ab.D7; intro h1 h2; split at h1 <;> (try split at h1) <;> split at h2 <;> (try split at h2) <;> first | omega | (rw [if_pos (by omega)]; decide)
theorem Aly {x y:Int}:orI x y<0↔x<0\/(x=0/\y<0):=by unfold orI; split <;> omega
theorem Alz {x y:Int}:orI x y=0↔x=0/\y=0:=by unfold orI; split <;> omega
theorem Ds.or {α β γ:Type} {S:α->Prop} {s:β->Prop} {l:γ->Prop} {j:β->β->Int} {i:γ->γ->Int} (p:α->β) (q:α->γ) (g:∀a b,p a=p b->q a=q b->a=b) (h1:Ds s j) (h2:Ds l i) (f:∀a,S a->s (p a)/\l (q a)) :
  Ds S (fun a b=>orI (j (p a) (p b)) (i (q a) (q b))):=by
 refine ⟨fun a b ha hb=>?_,fun a b ha hb=>?_,fun a b c ha hb hc=>?_⟩
 .rw [Alz,h1.zero _ _ (f a ha).1 (f b hb).1,h2.zero _ _ (f a ha).2 (f b hb).2]
  exact ⟨fun h=>g a b h.1 h.2,fun h=>by subst h; exact ⟨rfl,rfl⟩⟩
 .show orI (j (p b) (p a)) (i (q b) (q a)) = - orI (j (p a) (p b)) (i (q a) (q b))
  have z:=h1.anti _ _ (f a ha).1 (f b hb).1
  have y:=h2.anti _ _ (f a ha).2 (f b hb).2
  rw [z,y]; unfold orI; split <;> split <;> omega
 .show orI _ _<0->orI _ _<0->orI _ _<0
  simp only [Aly]
  have u:=h1.zero _ _ (f a ha).1 (f b hb).1
  have z2:=h1.zero _ _ (f b hb).1 (f c hc).1
  have t1:=h1.trans _ _ _ (f a ha).1 (f b hb).1 (f c hc).1
  have t2:=h2.trans _ _ _ (f a ha).2 (f b hb).2 (f c hc).2
  rintro (h | ⟨h,h'⟩) (k | ⟨k,x⟩)
  .exact .inl (t1 h k)
  .rw [<-z2.1 k]; exact .inl h
  .rw [u.1 h]; exact .inl k
  .rw [<-z2.1 k,h]; exact .inr ⟨rfl,t2 h' x⟩
theorem Ds.mono {α:Type} {S i:α->Prop} {g:α->α->Int} (h:Ds S g) (f:∀a,i a->S a):Ds i g :=
 ⟨fun a b ha hb=>h.zero a b (f a ha) (f b hb),fun a b ha hb=>h.anti a b (f a ha) (f b hb),fun a b c ha hb hc=>h.trans a b c (f a ha) (f b hb) (f c hc)⟩
theorem Ds.congr {α:Type} {S:α->Prop} {g c:α->α->Int} (h:Ds S g) (e:∀a b,c a b=g a b):Ds S c:=by
 have:c=g:=funext fun a=>funext fun b=>e a b
 rw [this]; exact h
def LL {α:Type} (g:α->α->Int) (l m:List α):Int:=if l.length=m.length then D8 g l m else Go.Ab.D7 l.length m.length
theorem Al0 {α:Type} {S:α->Prop} {g:α->α->Int} (h:Ds S g):∀l m:List α,l.length=m.length->(∀x∈l,S x)->(∀x∈m,S x)->(D8 g l m=0↔l=m)
 | [],[],_,_,_=>by simp [D8]
 | x::xs,y::ys,b,h1,h2=>by
  simp only [D8,Alz,h.zero x y (h1 x (by simp)) (h2 y (by simp)),Al0 h xs ys (by simpa using b) (fun z c=>h1 z (by simp [c])) (fun z c=>h2 z (by simp [c])),List.cons.injEq]
 | [],_::_,b,_,_=>by simp at b
 | _::_,[],b,_,_=>by simp at b
theorem Al1 {α:Type} {S:α->Prop} {g:α->α->Int} (h:Ds S g):∀l m:List α,l.length=m.length->(∀x∈l,S x)->(∀x∈m,S x)->D8 g m l = - D8 g l m
 | [],[],_,_,_=>by simp [D8]
 | x::xs,y::ys,b,h1,h2=>by
  simp only [D8,h.anti x y (h1 x (by simp)) (h2 y (by simp)),Al1 h xs ys (by simpa using b) (fun z c=>h1 z (by simp [c])) (fun z c=>h2 z (by simp [c]))]
  unfold orI; split <;> split <;> omega
 | [],_::_,b,_,_=>by simp at b
 | _::_,[],b,_,_=>by simp at b
theorem Al2 {α:Type} {S:α->Prop} {g:α->α->Int} (h:Ds S g):∀l m n:List α,l.length=m.length->m.length=n.length->(∀x∈l,S x)->(∀x∈m,S x)->(∀x∈n,S x)->D8 g l m<0->D8 g m n<0->D8 g l n<0
 | [],[],_,_,_,_,_,_=>by intro h; simp [D8] at h
 | x::xs,y::ys,z::j,f,i,h1,h2,h3=>by
  simp only [D8,Aly]
  have k:=h.zero x y (h1 x (by simp)) (h2 y (by simp))
  have z2:=h.zero y z (h2 y (by simp)) (h3 z (by simp))
  have t1:=h.trans x y z (h1 x (by simp)) (h2 y (by simp)) (h3 z (by simp))
  have t2:=Al2 h xs ys j (by simpa using f) (by simpa using i) (fun z c=>h1 z (by simp [c])) (fun z c=>h2 z (by simp [c])) (fun z c=>h3 z (by simp [c]))
  rintro (a | ⟨a,s⟩) (b | ⟨b,q⟩)
  .exact .inl (t1 a b)
  .rw [<-z2.1 b]; exact .inl a
  .rw [k.1 a]; exact .inl b
  .rw [<-z2.1 b,a]; exact .inr ⟨rfl,t2 s q⟩
 | _::_,_::_,[],_,i,_,_,_=>by simp at i
 | [],_::_,_,f,_,_,_,_=>by simp at f
 | _::_,[],_,f,_,_,_,_=>by simp at f
theorem Ds.ll {α:Type} {S:α->Prop} {g:α->α->Int} (h:Ds S g):Ds (fun l=>∀x∈l,S x) (LL g):=by
 have c:=Ds.cmpI
 refine ⟨fun a b ha hb=>?_,fun a b ha hb=>?_,fun x y z hx hy q=>?_⟩
 .unfold LL
  split
  .rename_i i; exact Al0 h a b i ha hb
  .rename_i i
   rw [Hn]
   exact ⟨fun e=>(i (by omega)).elim,fun e=>(i (by rw [e])).elim⟩
 .unfold LL
  by_cases i:a.length=b.length
  .rw [if_pos i,if_pos i.symm]; exact Al1 h a b i ha hb
  .rw [if_neg i,if_neg (fun e=>i e.symm)]; exact c.anti _ _ trivial trivial
 .unfold LL
  intro h1 h2
  have neg:∀a b:Int,Go.Ab.D7 a b<0->a<b:=by intro a b h; unfold Go.Ab.D7 at h; split at h <;> (try split at h) <;> omega
  have f:∀a b:Int,a<b->Go.Ab.D7 a b<0:=by intro a b h; unfold Go.Ab.D7; rw [if_pos h]; decide
  by_cases k:x.length=y.length
  .rw [if_pos k] at h1
   by_cases j:y.length=z.length
   .rw [if_pos j] at h2; rw [if_pos (by omega)]; exact Al2 h x y z k j hx hy q h1 h2
   .rw [if_neg j] at h2; rw [if_neg (by omega)]
    have:=neg _ _ h2; exact f _ _ (by omega)
  .rw [if_neg k] at h1
   have:=neg _ _ h1
   by_cases j:y.length=z.length
   .rw [if_neg (by omega)]; exact f _ _ (by omega)
   .rw [if_neg j] at h2
    have:=neg _ _ h2
    rw [if_neg (by omega)]; exact f _ _ (by omega)
theorem Al3 {α:Type} (g:α->α->Int) (l m:List α) (y:Int):orI (LL g l m) y=if l.length=m.length then orI (D8 g l m) y else Go.Ab.D7 l.length m.length:=by
 unfold LL
 by_cases h:l.length=m.length
 .rw [if_pos h,if_pos h]
 .rw [if_neg h,if_neg h]
  unfold orI
  rw [if_neg (fun e=>h (by have:=Hn.1 e; omega))]
theorem Awm:Ds (fun _=>True) Vm :=
 (Ds.or (S:=fun _=>True) (fun t:C1=>t.Var) (fun t=>t.Coef) (fun a b h1 h2=>by cases a; cases b; cases h1; cases h2; rfl) Ds.cmpI Ds.cmpI (fun _ _=>⟨trivial,trivial⟩)).congr fun _ _=>rfl
theorem Awn:Ds (fun _=>True) Nw :=
 (Ds.or (S:=fun _=>True) (fun t:Da=>t.Terms) (fun t=>t.Const) (fun a b h1 h2=>by cases a; cases b; cases h1; cases h2; rfl) Awm.ll Ds.cmpI (fun _ _=>⟨fun _ _=>trivial,trivial⟩)).congr fun a b=>by
  show Nw a b=orI (LL Vm a.Terms b.Terms) (Go.Ab.D7 a.Const b.Const)
  rw [Al3]; rfl
theorem Awo (i j:A5):Ks i j=orI (Go.Ab.D7 i.Num j.Num) (LL Ks i.Kids j.Kids):=by
 rw [Ale,Ad7]
 unfold orI LL
 by_cases h:i.Num=j.Num
 .rw [if_pos h,if_pos (Hn.2 h)]
 .rw [if_neg h,if_neg (fun e=>h (Hn.1 e))]
theorem Aed:∀n:Nat,Ds (fun i=>Cr i<=n) Ks:=by
 intro n
 induction n with
 | zero=>exact ⟨fun a _ ha=>by have:=E2 a; omega,fun a _ ha=>by have:=E2 a; omega,fun a _ _ ha=>by have:=E2 a; omega⟩
 | succ n ih=>
  refine (Ds.or (S:=fun i=>Cr i<=n+1) (fun i:A5=>i.Num) (fun i=>i.Kids) (fun a b h1 h2=>by cases a; cases b; cases h1; cases h2; rfl) Ds.cmpI ih.ll ?_).congr Awo
  intro i hi
  refine ⟨trivial,fun x hx=>?_⟩
  have h1:=Jg hx
  have h2:=E2 i
  show Cr x<=n
  omega
theorem Awp:Ds (fun _=>True) Ks :=
 ⟨fun a b _ _=>(Aed (max (Cr a) (Cr b))).zero a b (by show Cr a<=_; omega) (by show Cr b<=_; omega),fun a b _ _=>(Aed (max (Cr a) (Cr b))).anti a b (by show Cr a<=_; omega) (by show Cr b<=_; omega),
  fun a b c _ _ _=>(Aed (max (Cr a) (max (Cr b) (Cr c)))).trans a b c (by show Cr a<=_; omega) (by show Cr b<=_; omega) (by show Cr c<=_; omega)⟩
theorem Awq:Ds (fun _=>True) R3 :=
 (Ds.or (S:=fun _=>True) (fun t:Cj=>t.Var) (fun t=>t.Index) (fun a b h1 h2=>by cases a; cases b; cases h1; cases h2; rfl) Ds.cmpI Awp (fun _ _=>⟨trivial,trivial⟩)).congr fun _ _=>rfl
theorem Awr:Ds (fun _=>True) Vn :=
 (Ds.or (S:=fun _=>True) (fun t:B8=>t.Lin) (fun t=>t.Deg) (fun a b h1 h2=>by cases a; cases b; cases h1; cases h2; rfl) Awn Ds.cmpI (fun _ _=>⟨trivial,trivial⟩)).congr fun _ _=>rfl
theorem Aee:Ds (fun _=>True) D3 :=
 (Ds.or (S:=fun _=>True) (fun t:Ba=>t.Factors) (fun t=>t.Atoms) (fun a b h1 h2=>by cases a; cases b; cases h1; cases h2; rfl) Awq.ll Awr.ll (fun _ _=>⟨fun _ _=>trivial,fun _ _=>trivial⟩)).congr fun a b=>by
  show D3 a b=orI (LL R3 a.Factors b.Factors) (LL Vn a.Atoms b.Atoms)
  rw [Al3]; rfl
theorem Ny {a b:Ba}:D3 a b=0↔a=b:=Aee.zero a b trivial trivial
theorem Al4 (a b:Ba):D3 b a = - D3 a b:=Aee.anti a b trivial trivial
theorem Aef {a b c:Ba} (h:D3 a b<0) (h':D3 b c<0):D3 a c<0:=Aee.trans a b c trivial trivial trivial h h'
end Go.Ab
namespace Go.Ab
open Go
theorem Aws (m:Ba):D3 m m=0:=Ny.2 rfl
theorem Awt {a b:Ba}:0<D3 a b↔D3 b a<0:=by rw [Al4 a b]; omega
def cf:List Aq->Ba->Rat
 | [],_=>0
 | t::p,m=>(if D3 t.Mono m=0 then rq t.Coef else 0)+cf p m
def ltT (t u:Aq):Prop:=D3 t.Mono u.Mono<0
structure CP (p:List Aq):Prop where
 srt:p.Pairwise ltT
 coe:∀t∈p,Fh t.Coef/\rq t.Coef≠0
theorem CP.tail {t:Aq} {p:List Aq} (h:CP (t::p)):CP p:=⟨(List.pairwise_cons.1 h.srt).2,fun u hu=>h.coe u (by simp [hu])⟩
theorem CP.head {t:Aq} {p:List Aq} (h:CP (t::p)):∀u∈p,D3 t.Mono u.Mono<0:=(List.pairwise_cons.1 h.srt).1
theorem CP.nil:CP []:=⟨List.Pairwise.nil,fun _ h=>by cases h⟩
theorem CP.cons {t:Aq} {p:List Aq} (h:CP p) (h1:∀u∈p,D3 t.Mono u.Mono<0) (h2:Fh t.Coef) (h3:rq t.Coef≠0):CP (t::p) :=
 ⟨List.pairwise_cons.2 ⟨h1,h.srt⟩,fun u hu=>by
  rcases List.mem_cons.1 hu with rfl | hu
  .exact ⟨h2,h3⟩
  .exact h.coe u hu⟩
theorem Al5 {p:List Aq} {m:Ba} (h:∀t∈p,D3 t.Mono m≠0):cf p m=0:=by
 induction p with
 | nil=>rfl
 | cons t p ih=>
  simp only [cf]
  rw [if_neg (h t (by simp)),ih (fun u hu=>h u (by simp [hu]))]; grind
theorem Pv {p:List Aq} {m:Ba} (h:∀t∈p,D3 m t.Mono<0):cf p m=0 :=
 Al5 fun t ht e=>by have:=h t ht; rw [Al4,e] at this; omega
theorem Sc {t:Aq} {p:List Aq} (h:CP (t::p)):cf (t::p) t.Mono=rq t.Coef:=by
 simp only [cf]
 rw [if_pos (Aws _),Pv h.head]; grind
theorem Al6 {t:Aq} {p:List Aq} {m:Ba} (h:D3 t.Mono m≠0):cf (t::p) m=cf p m:=by
 simp only [cf]; rw [if_neg h]; grind
theorem Sd (p q:List Aq) (m:Ba):cf (p++q) m=cf p m+cf q m:=by
 induction p with
 | nil=>simp only [List.nil_append,cf]; grind
 | cons t p ih=>simp only [List.cons_append,cf,ih]; grind
theorem CP.ext:∀{p q:List Aq},CP p->CP q->(∀m,cf p m=cf q m)->p=q
 | [],[],_,_,_=>rfl
 | [],u::q,_,h2,h=>by
  have:=h u.Mono
  rw [Sc h2] at this
  exact ((h2.coe u (by simp)).2 this.symm).elim
 | t::p,[],h1,_,h=>by
  have:=h t.Mono
  rw [Sc h1] at this
  exact ((h1.coe t (by simp)).2 this).elim
 | t::p,u::q,h1,h2,h=>by
  have b:D3 t.Mono u.Mono=0:=by
   rcases Int.lt_trichotomy (D3 t.Mono u.Mono) 0 with k | k | k
   .have e:=h t.Mono
    rw [Sc h1,Pv (p:=u::q)] at e
    .exact ((h1.coe t (by simp)).2 e).elim
    .intro w hw
     rcases List.mem_cons.1 hw with rfl | hw
     .exact k
     .exact Aef k (h2.head w hw)
   .exact k
   .have k:=Awt.1 k
    have e:=h u.Mono
    rw [Sc h2,Pv (p:=t::p)] at e
    .exact ((h2.coe u (by simp)).2 e.symm).elim
    .intro w hw
     rcases List.mem_cons.1 hw with rfl | hw
     .exact k
     .exact Aef k (h1.head w hw)
  have c:=Ny.1 b
  have hc:t.Coef=u.Coef:=by
   refine Awh (h1.coe t (by simp)).1 (h2.coe u (by simp)).1 ?_
   have e:=h t.Mono
   rw [Sc h1,c,Sc h2] at e
   exact e
  have ht:t=u:=by cases t; cases u; simp_all
  subst ht
  congr 1
  refine CP.ext h1.tail h2.tail fun m=>?_
  by_cases e:D3 t.Mono m=0
  .rw [<-Ny.1 e,Pv h1.head,Pv h2.head]
  .have:=h m
   rwa [Al6 e,Al6 e] at this
theorem Al7 (c:Ao):Vs c=true↔Fh c/\rq c≠0:=by
 unfold Vs Fh
 rw [Cl,All]
 have h:(!(nv c==0))=true↔rq c≠0:=by
  have e:rq c=0↔nv c=0:=by
   unfold rq
   rw [Rat.mkRat_eq_zero (D6 c)]
   unfold sg; split <;> omega
  rw [Ne,e]; simp
 rw [h]
 exact ⟨fun ⟨a,b⟩=>⟨a.symm,b⟩,fun ⟨a,b⟩=>⟨a.symm,b⟩⟩
theorem Awu {l:List Aq} (h:∀(j:Nat) (x y:Aq),l[j]? = some x->l[j+1]? = some y->D3 x.Mono y.Mono<0):l.Pairwise ltT:=by
 induction l with
 | nil=>exact List.Pairwise.nil
 | cons t l ih=>
  have ih:=ih fun j x y hx hy=>h (j+1) x y (by simpa using hx) (by simpa using hy)
  refine List.pairwise_cons.2 ⟨?_,ih⟩
  cases l with
  | nil=>intro u hu; cases hu
  | cons v l=>
   have h0:=h 0 t v rfl rfl
   intro u hu
   rcases List.mem_cons.1 hu with rfl | hu
   .exact h0
   .exact Aef h0 ((List.pairwise_cons.1 ih).1 u hu)
theorem Pw {data:List Al} {vars:List Ag} {res:Ag} {p:List Aq}:Gd data vars res p=true↔p.length<=1000/\CP p/\∀t∈p,Ij data vars res t.Mono=true:=by
 unfold Gd
 rw [Cl,decide_eq_true_eq]
 constructor
 .rintro ⟨h1,h2⟩
  have g:∀(j:Nat) (t:Aq),p[j]? = some t->Vs t.Coef=true/\Ij data vars res t.Mono=true/\Ps p t j=true:=by
   intro j t hj
   have:=Gu h2 hj
   simp only [R7,Cl] at this
   exact ⟨this.1.1,this.1.2,this.2⟩
  refine ⟨h1,⟨Awu fun j x y hx hy=>?_,fun t ht=>?_⟩,fun t ht=>?_⟩
  .have:=(g _ _ hy).2.2
   unfold Ps at this
   rw [show j+1-1=j by omega,hx] at this
   simpa using this
  .obtain ⟨j,hj⟩:=List.getElem?_of_mem ht
   exact (Al7 _).1 (g j t hj).1
  .obtain ⟨j,hj⟩:=List.getElem?_of_mem ht
   exact (g j t hj).2.1
 .rintro ⟨h1,h2,h3⟩
  refine ⟨h1,List.all_eq_true.2 fun q hq=>?_⟩
  have hq:=List.mem_zipIdx' hq
  have hj:p[q.2]? = some q.1:=(Bw hq.1).trans (congrArg some hq.2.symm)
  have c:q.1∈p:=Bs hj
  simp only [R7,Cl]
  refine ⟨⟨(Al7 _).2 (h2.coe _ c),h3 _ c⟩,?_⟩
  unfold Ps
  by_cases h0:q.2=0
  .rw [h0]; rfl
  .have b:q.2-1<p.length:=by omega
   rw [Bw b]
   have:=List.pairwise_iff_getElem.1 h2.srt (q.2-1) q.2 b hq.1 (by omega)
   rw [<-hq.2] at this
   simp only [Bool.or_eq_true,decide_eq_true_eq]
   exact .inr this
end Go.Ab
namespace Go.Ab
open Go
end Go.Ab
namespace Go.Ab
open Go
structure TB (k:Nat) (t:Aq):Prop where
 co:RB k t.Coef
 mo:MSz t.Mono
theorem TSz.tb {t:Aq} (h:TSz t):TB 1048576 t:=⟨h.co,h.mo⟩
theorem TB.mono {j k:Nat} {t:Aq} (h:TB j t) (hk:j<=k):TB k t:=⟨h.co.mono hk,h.mo⟩
def Px (c:Ao) (m:Ba):List Aq:=if nv c=0 then [] else [⟨Bf (sv c) (nv c) (dv c),m⟩]
theorem Al8 (c:Ao):rq c=0↔nv c=0:=by
 unfold rq
 rw [Rat.mkRat_eq_zero (D6 c)]
 unfold sg; split <;> omega
theorem Awv (c:Ao) (m n:Ba):cf (Px c m) n=if D3 m n=0 then rq c else 0:=by
 unfold Px
 split
 .rename_i h
  rw [(Al8 c).2 h]; simp [cf]
 .simp only [cf,Lm _ _ _ (D6 c)]
  show (if D3 m n=0 then rq c else 0)+0=_
  grind
structure Mg (F:Rat->Rat->Rat) (k:Nat) (p q R:List Aq):Prop where
 cp:CP R
 val:∀m,cf R m=F (cf p m) (cf q m)
 mon:∀t∈R,(∃u∈p,u.Mono=t.Mono)\/(∃u∈q,u.Mono=t.Mono)
 len:R.length<=p.length+q.length
 rb:∀t∈R,RB (k+1) t.Coef
theorem Aww {k:Nat} {c:Ao} {m:Ba} (hc:RB k c):(∀t∈Px c m,t.Mono=m/\Fh t.Coef/\rq t.Coef≠0/\RB (k+1) t.Coef)/\(Px c m).length<=1:=by
 unfold Px
 split
 .exact ⟨fun _ h=>(by cases h),by simp⟩
 .rename_i h
  refine ⟨fun t ht=>?_,by simp⟩
  simp only [List.mem_singleton] at ht
  subst ht
  exact ⟨rfl,Sa _ _ _ (D6 c),by rw [Lm _ _ _ (D6 c)]; exact fun e=>h ((Al8 c).1 e),Atz hc⟩
theorem Mg.step {F:Rat->Rat->Rat} {k:Nat} {p q g f R:List Aq} {c:Ao} {m:Ba} (h:Mg F k g f R) (y:F 0 0=0) (hc:RB k c)
  (hv:∀n,D3 m n≠0->cf p n=cf g n/\cf q n=cf f n) (h0:rq c=F (cf p m) (cf q m)) (l:∀u∈g,D3 m u.Mono<0) (j:∀u∈f,D3 m u.Mono<0)
  (s:(∃u∈p,u.Mono=m)\/(∃u∈q,u.Mono=m)) (hp:∀u∈g,u∈p) (hq:∀u∈f,u∈q) (A:g.length+f.length+1<=p.length+q.length):Mg F k p q (Px c m++R):=by
 obtain ⟨i,z⟩:=Aww (m:=m) hc
 have x:∀t∈R,D3 m t.Mono<0:=by
  intro t ht
  rcases h.mon t ht with ⟨u,hu,e⟩ | ⟨u,hu,e⟩
  .rw [<-e]; exact l u hu
  .rw [<-e]; exact j u hu
 refine ⟨?_,?_,?_,?_,?_⟩
 .refine ⟨List.pairwise_append.2 ⟨?_,h.cp.srt,?_⟩,?_⟩
  .unfold Px; split
   .exact List.Pairwise.nil
   .exact List.pairwise_singleton _ _
  .intro a ha b hb
   show D3 a.Mono b.Mono<0
   rw [(i a ha).1]; exact x b hb
  .intro t ht
   rcases List.mem_append.1 ht with ht | ht
   .exact ⟨(i t ht).2.1,(i t ht).2.2.1⟩
   .exact h.cp.coe t ht
 .intro n
  rw [Sd,Awv,h.val n]
  by_cases e:D3 m n=0
  .rw [if_pos e]
   have e':=Ny.1 e
   subst e'
   rw [Pv l,Pv j,y,h0]; grind
  .rw [if_neg e,(hv n e).1,(hv n e).2]; grind
 .intro t ht
  rcases List.mem_append.1 ht with ht | ht
  .rw [(i t ht).1]; exact s
  .rcases h.mon t ht with ⟨u,hu,e⟩ | ⟨u,hu,e⟩
   .exact .inl ⟨u,hp u hu,e⟩
   .exact .inr ⟨u,hq u hu,e⟩
 .rw [List.length_append]; have:=h.len; omega
 .intro t ht
  rcases List.mem_append.1 ht with ht | ht
  .exact (i t ht).2.2.2
  .exact h.rb t ht
end Go.Ab
