/- Plain laws: what the plain functions answer. -/
import Derived.Test.YtidkdnlhdbbbjaaGreatDoorAtPl1
import Derived.Lib.ItoaLen
import Derived.KernelRfl
namespace Go.Ab
open Go
def I64 (n:Int):Prop:= -9223372036854775808<=n/\n<=9223372036854775807
def ti (n:Int):List Int:=(Lib.itoa n).map fun c=>(c.toNat:Int)
def Ns (c:Int):Bool:=c==45||(decide (48<=c)&&decide (c<=57))
theorem Ug {d:Nat} (h:d<10):(UInt8.ofNat (48+d)).toNat=48+d:=by
 rw [UInt8.toNat_ofNat']; omega
theorem Ab5:∀(n u:Nat),u<=n->∀c∈Lib.decDigits u,48<=c.toNat/\c.toNat<=57:=by
 intro n
 induction n with
 | zero=>
  intro u hu c hc
  rw [Lib.decDigits,dif_pos (by omega)] at hc
  simp only [List.mem_singleton] at hc
  subst hc; rw [Ug (by omega)]; omega
 | succ n ih=>
  intro u hu c hc
  rw [Lib.decDigits] at hc
  split at hc
  .simp only [List.mem_singleton] at hc
   subst hc; rw [Ug (by omega)]; omega
  .rcases List.mem_append.1 hc with h | h
   .exact ih (u / 10) (by omega) c h
   .simp only [List.mem_singleton] at h
    subst h; rw [Ug (by omega)]; omega
def Ab6 (l:List UInt8):Nat:=l.foldl (fun a c=>10*a+(c.toNat-48)) 0
theorem An9:∀(n u:Nat),u<=n->Ab6 (Lib.decDigits u)=u:=by
 intro n
 induction n with
 | zero=>
  intro u hu
  rw [Lib.decDigits,dif_pos (by omega)]
  simp only [Ab6,List.foldl_cons,List.foldl_nil]
  rw [Ug (by omega)]; omega
 | succ n ih=>
  intro u hu
  rw [Lib.decDigits]
  split
  .simp only [Ab6,List.foldl_cons,List.foldl_nil]
   rw [Ug (by omega)]; omega
  .have:=ih (u / 10) (by omega)
   unfold Ab6 at *
   rw [List.foldl_append,this]
   simp only [List.foldl_cons,List.foldl_nil]
   rw [Ug (by omega)]; omega
theorem Aoa {u v:Nat} (h:Lib.decDigits u=Lib.decDigits v):u=v:=by
 rw [<-An9 u u (Nat.le_refl _),h,An9 v v (Nat.le_refl _)]
theorem Azm (u:Nat):Lib.decDigits u≠[]:=by
 rw [Lib.decDigits]; split <;> simp
theorem Azn {m n:Int} (h:Lib.itoa m=Lib.itoa n):m=n:=by
 have b:∀u v:Nat,45::Lib.decDigits u≠Lib.decDigits v:=by
  intro u v e
  have:=Ab5 v v (Nat.le_refl _) 45 (by rw [<-e]; simp)
  exact absurd this (by decide)
 unfold Lib.itoa at h
 split at h <;> split at h
 .have:=Aoa (List.cons.inj h).2; omega
 .exact absurd h (b _ _)
 .exact absurd h.symm (b _ _)
 .have:=Aoa h; omega
theorem Hg (n:Int):∀c∈ti n,Ns c=true:=by
 intro c hc
 unfold ti at hc
 obtain ⟨b,hb,rfl⟩:=List.mem_map.1 hc
 have key:b=45\/(48<=b.toNat/\b.toNat<=57):=by
  unfold Lib.itoa at hb
  split at hb
  .rcases List.mem_cons.1 hb with h | h
   .exact .inl h
   .exact .inr (Ab5 _ _ (Nat.le_refl _) b h)
  .exact .inr (Ab5 _ _ (Nat.le_refl _) b hb)
 unfold Ns
 rcases key with rfl | ⟨h1,h2⟩
 .decide
 .rw [Bool.or_eq_true,Cu,decide_eq_true_eq,decide_eq_true_eq]; right; omega
theorem Agm (n:Int):ti n≠[]:=by
 unfold ti Lib.itoa
 split
 .simp
 .simpa using Azm _
theorem Rs {m n:Int} (h:ti m=ti n):m=n:=by
 unfold ti at h
 have:∀l m:List UInt8,l.map (fun c=>(c.toNat:Int))=m.map (fun c=>(c.toNat:Int))->l=m:=by
  intro l
  induction l with
  | nil=>intro m h; cases m with | nil=>rfl | cons=>simp at h
  | cons x xs ih=>
   intro m h
   cases m with
   | nil=>simp at h
   | cons y ys=>
    simp only [List.map_cons,List.cons.injEq] at h
    rw [ih ys h.2,UInt8.toNat.inj (by omega:x.toNat=y.toNat)]
 exact Azn (this _ _ h)
theorem L5 {n:Int} (h:I64 n):(ti n).length<=21:=by
 unfold ti; rw [List.length_map]; exact Lib.itoa_length_le n h.1 h.2
def Pf (X:List Int):Prop:=∀c m,X=c::m->Ns c=false/\c≠40
def Kk (X:List Int):Prop:=∀c m,X=c::m->Ns c=false
theorem Nt:∀(a b X Y:List Int),(∀c∈a,Ns c=true)->(∀c∈b,Ns c=true)->Kk X->Kk Y->a++X=b++Y->a=b/\X=Y
 | [],[],_,_,_,_,_,_,h=>⟨rfl,h⟩
 | [],y::b,X,Y,_,hb,g,_,h=>by
  have:=g y (b++Y) h
  rw [hb y (by simp)] at this; cases this
 | x::a,[],X,Y,ha,_,_,f,h=>by
  have:=f x (a++X) h.symm
  rw [ha x (by simp)] at this; cases this
 | x::a,y::b,X,Y,ha,hb,g,f,h=>by
  simp only [List.cons_append,List.cons.injEq] at h
  obtain ⟨j,i⟩:=Nt a b X Y (fun c hc=>ha c (by simp [hc])) (fun c hc=>hb c (by simp [hc])) g f h.2
  exact ⟨by rw [h.1,j],i⟩
mutual
def wx:Bc->List Int
 | ⟨n,kids⟩=>ti n++(if kids.length=0 then [] else 40::(wxs kids++[41]))
def wxs:List Bc->List Int
 | []=>[]
 | x::xs=>wx x++44::wxs xs
end
theorem Agn (i:Bc):wx i=ti i.Num++(if i.Kids.length=0 then [] else 40::(wxs i.Kids++[41])):=by cases i; simp only [wx]
theorem Aob (l m:List Bc):wxs (l++m)=wxs l++wxs m:=by
 induction l with
 | nil=>simp [wxs]
 | cons x xs ih=>simp only [List.cons_append,wxs,ih,List.append_assoc]
theorem Aoc (b:List Bc) (X:List Int) (f:Pf X):Kk ((if b.length=0 then [] else 40::(wxs b++[41]))++X):=by
 intro c m h
 by_cases hk:b.length=0
 .rw [if_pos hk,List.nil_append] at h
  exact (f c m h).1
 .rw [if_neg hk,List.cons_append] at h
  cases h; decide
theorem Aod (X:List Int):Pf (44::X):=by intro c m h; cases h; exact ⟨by decide,by decide⟩
theorem Aoe:Pf []:=by intro c m h; cases h
mutual
theorem Ago:∀(i j:Bc) (X Y:List Int),Pf X->Pf Y->wx i++X=wx j++Y->i=j/\X=Y
 | ⟨n,k⟩,⟨n',k'⟩,X,Y,hX,hY,h=>by
  simp only [wx,List.append_assoc] at h
  obtain ⟨e1,e2⟩:=Nt _ _ _ _ (Hg n) (Hg n') (Aoc k X hX) (Aoc k' Y hY) h
  have e1:=Rs e1
  subst e1
  by_cases hk:k.length=0
  .by_cases hk':k'.length=0
   .rw [if_pos hk,if_pos hk'] at e2
    rw [List.length_eq_zero_iff.1 hk,List.length_eq_zero_iff.1 hk']
    exact ⟨rfl,e2⟩
   .rw [if_pos hk,if_neg hk',List.nil_append,List.cons_append] at e2
    exact absurd rfl (hX _ _ e2).2
  .by_cases hk':k'.length=0
   .rw [if_neg hk,if_pos hk',List.nil_append,List.cons_append] at e2
    exact absurd rfl (hY _ _ e2.symm).2
   .rw [if_neg hk,if_neg hk',List.cons_append,List.cons_append,List.append_assoc,List.append_assoc] at e2
    obtain ⟨e3,e4⟩:=Aof k k' X Y hX hY (List.cons.inj e2).2
    rw [e3]; exact ⟨rfl,e4⟩
theorem Aof:∀(l m:List Bc) (X Y:List Int),Pf X->Pf Y->wxs l++([41]++X)=wxs m++([41]++Y)->l=m/\X=Y
 | [],[],X,Y,_,_,h=>by
  simp only [wxs,List.nil_append,List.cons_append,List.cons.injEq,true_and] at h
  exact ⟨rfl,h⟩
 | [],y::ys,X,Y,_,_,h=>by
  exfalso
  cases ht:ti y.Num with
  | nil=>exact Agm _ ht
  | cons c r=>
   have hc:=Hg y.Num c (by rw [ht]; simp)
   simp only [wxs,Agn y,ht,List.nil_append,List.cons_append,List.cons.injEq] at h
   rw [<-h.1] at hc; exact absurd hc (by decide)
 | x::xs,[],X,Y,_,_,h=>by
  exfalso
  cases ht:ti x.Num with
  | nil=>exact Agm _ ht
  | cons c r=>
   have hc:=Hg x.Num c (by rw [ht]; simp)
   simp only [wxs,Agn x,ht,List.nil_append,List.cons_append,List.cons.injEq] at h
   rw [h.1] at hc; exact absurd hc (by decide)
 | x::xs,y::ys,X,Y,hX,hY,h=>by
  simp only [wxs,List.append_assoc,List.cons_append] at h
  obtain ⟨e1,e2⟩:=Ago x y _ _ (Aod _) (Aod _) h
  obtain ⟨e3,e4⟩:=Aof xs ys X Y hX hY (by simpa using e2)
  exact ⟨by rw [e1,e3],e4⟩
end
mutual
def iR:Bc->Prop
 | ⟨n,l⟩=>I64 n/\iRs l
def iRs:List Bc->Prop
 | []=>True
 | x::xs=>iR x/\iRs xs
end
theorem Azo (i:Bc):iR i↔I64 i.Num/\iRs i.Kids:=by cases i; simp only [iR]
theorem Azp {l:List Bc} (h:iRs l) {a:Bc} (ha:a∈l):iR a:=by
 induction l with
 | nil=>cases ha
 | cons x xs ih=>
  simp only [iRs] at h
  rcases List.mem_cons.1 ha with rfl | ha
  .exact h.1
  .exact ih h.2 ha
mutual
theorem Agp:∀i:Bc,iR i->(wx i).length+1<=24*Di i
 | ⟨n,l⟩,h=>by
  simp only [iR] at h
  have h1:=Ab7 l h.2
  have h2:=L5 h.1
  simp only [wx,Di,List.length_append]
  by_cases hl:l.length=0
  .rw [if_pos hl]; simp; omega
  .rw [if_neg hl]; simp; omega
theorem Ab7:∀l:List Bc,iRs l->(wxs l).length<=24*Fg l
 | [],_=>by simp [wxs,Fg]
 | x::xs,h=>by
  simp only [iRs] at h
  have h1:=Agp x h.1
  have h2:=Ab7 xs h.2
  have h3:=F6 x
  simp only [wxs,Fg,List.length_append,List.length_cons]; omega
end
theorem Aog (l m:List Bc):Fg (l++m)=Fg l+Fg m:=by
 induction l with
 | nil=>simp [Fg]
 | cons x xs ih=>simp only [List.cons_append,Fg,ih]; omega
theorem Azq (l m:List Bc):iRs (l++m)↔iRs l/\iRs m:=by
 induction l with
 | nil=>simp [iRs]
 | cons x xs ih=>simp only [List.cons_append,iRs,ih,and_assoc]
theorem Agq {n:Int} (h:I64 n):M6 n=some ⟨(Lib.itoa n).toArray⟩:=by unfold M6; rw [if_pos (show _/\_ from h)]
theorem Azr (n:Int):Lo ⟨(Lib.itoa n).toArray⟩=ti n:=by unfold Lo ti; simp
theorem Azs:∀(k:Nat) (i:Bc) (b:List Int),Di i<=k->iR i->b.length+24*Di i<=1099511627776->Qv k i b=some (b++wx i):=by
 intro k
 induction k with
 | zero=>intro i b h; have:=F6 i; omega
 | succ k ih=>
  intro i b h c hb
  have hi:=F6 i
  have z:=Pd i.Kids
  have c:=(Azo i).1 c
  have B:=L5 c.1
  rw [Qv,Agn]
  simp only [Hv,Agq c.1,Ad,Gd,T1,Azr]
  rw [Dh (by omega)]
  simp only [Ad]
  by_cases h0:i.Kids.length=0
  .rw [Ar (by omega),if_pos h0]; simp
  .rw [Am (by omega),if_neg h0]
   simp only [cond_true,Ts,T1,Ad]
   rw [Dh (by simp; omega),Ad]
   have g:=Ab7 i.Kids c.2
   have l:∀j,(wxs (i.Kids.take j)).length<=24*Fg i.Kids:=fun j=>by
    have:=Aob (i.Kids.take j) (i.Kids.drop j)
    rw [List.take_append_drop] at this
    rw [this,List.length_append] at g; omega
   refine Gf i.Kids (fun j=>((j:Int),b++ti i.Num++[40]++wxs (i.Kids.take j))) (by simp [wxs]) (by omega) ?_ ?_
   .intro j x hj hx h1 h2 h3
    have A:=La (B7 hx)
    have f:=Azp c.2 (B7 hx)
    have y:=Agp x f
    have hh:=l (j+1)
    have e:wxs (i.Kids.take (j+1))=wxs (i.Kids.take j)++(wx x++[44]):=by rw [C5 hx,Aob]; simp [wxs]
    rw [e] at hh
    simp only [List.length_append,List.length_cons,List.length_nil] at hh
    simp only [h1,h2,h3,cond_true,Ad]
    have u:Fg (i.Kids.take j)+Di x<=Fg i.Kids:=by
     have q:=Aog (i.Kids.take (j+1)) (i.Kids.drop (j+1))
     rw [List.take_append_drop,C5 hx,Aog] at q
     simp only [Fg] at q; omega
    have s:(wxs (i.Kids.take j)).length<=24*Fg (i.Kids.take j):=Ab7 _ (by
     have:=(Azq (i.Kids.take j) (i.Kids.drop j)).1 (by rw [List.take_append_drop]; exact c.2)
     exact this.1)
    rw [ih x _ (by omega) f (by simp; omega)]
    simp only [Ad]
    rw [Dh (by simp; omega),e]
    simp
   .intro h1
    refine ⟨b++ti i.Num++[40]++wxs i.Kids,by simp,?_⟩
    rw [Dh (by simp; omega)]
    simp
def I7 (v:Int) (i:Bc):List Int:=118::(ti v++58::wx i)
def My (v:Int) (i:Bc):ByteArray:=⟨(Fm (I7 v i)).toArray⟩
mutual
theorem Aoh:∀i:Bc,∀c∈wx i,0<=c/\c<256
 | ⟨n,l⟩,c,h=>by
  simp only [wx,List.mem_append] at h
  rcases h with h | h
  .have:=Hg n c h
   simp only [Ns,Bool.or_eq_true,Cu,beq_iff_eq,decide_eq_true_eq] at this
   omega
  .by_cases hl:l.length=0
   .rw [if_pos hl] at h; cases h
   .rw [if_neg hl] at h
    simp only [List.mem_cons,List.mem_append,List.not_mem_nil,or_false] at h
    rcases h with h | h | h
    .omega
    .exact Aoi l c h
    .omega
theorem Aoi:∀l:List Bc,∀c∈wxs l,0<=c/\c<256
 | [],c,h=>by simp [wxs] at h
 | x::xs,c,h=>by
  simp only [wxs,List.mem_append,List.mem_cons] at h
  rcases h with h | h | h
  .exact Aoh x c h
  .omega
  .exact Aoi xs c h
end
theorem Ab8 (v:Int) (i:Bc):∀c∈I7 v i,0<=c/\c<256:=by
 intro c h
 simp only [I7,List.mem_cons,List.mem_append] at h
 rcases h with h | h | h | h
 .omega
 .have:=Hg v c h
  simp only [Ns,Bool.or_eq_true,Cu,beq_iff_eq,decide_eq_true_eq] at this
  omega
 .omega
 .exact Aoh i c h
theorem Agr:∀l m:List Int,(∀c∈l,0<=c/\c<256)->(∀c∈m,0<=c/\c<256)->Fm l=Fm m->l=m
 | [],[],_,_,_=>rfl
 | [],_::_,_,_,h=>by simp [Fm] at h
 | _::_,[],_,_,h=>by simp [Fm] at h
 | x::xs,y::ys,h1,h2,h=>by
  simp only [Fm,List.map_cons,List.cons.injEq] at h
  have hx:=h1 x (by simp)
  have hy:=h2 y (by simp)
  have e:x.toNat=y.toNat:=by
   have:=congrArg UInt8.toNat h.1
   rw [UInt8.toNat_ofNat',UInt8.toNat_ofNat'] at this
   omega
  rw [Agr xs ys (fun c hc=>h1 c (by simp [hc])) (fun c hc=>h2 c (by simp [hc])) h.2,show x=y by omega]
theorem Azt {v w:Int} {i j:Bc} (h:My v i=My w j):v=w/\i=j:=by
 unfold My at h
 have h1:(Fm (I7 v i)).toArray=(Fm (I7 w j)).toArray:=by injection h
 have h2:Fm (I7 v i)=Fm (I7 w j):=by simpa using congrArg Array.toList h1
 have h3:=Agr _ _ (Ab8 v i) (Ab8 w j) h2
 simp only [I7,List.cons.injEq,true_and] at h3
 have b:∀X:List Int,Kk (58::X):=fun X c m e=>by cases e; decide
 obtain ⟨k,g⟩:=Nt _ _ _ _ (Hg v) (Hg w) (b _) (b _) h3
 obtain ⟨f,_⟩:=Ago i j [] [] Aoe Aoe (by simpa using (List.cons.inj g).2)
 exact ⟨Rs k,f⟩
theorem Azu (l:List UInt8):Lo ⟨l.toArray⟩=l.map fun b=>(b.toNat:Int):=by unfold Lo; simp
theorem Aoj (v:Int) (i:Bc) (hv:I64 v) (f:iR i) (hi:Di i<=1048576):Ni v i=some (My v i):=by
 have k:=L5 hv
 have c:(Lib.itoa v).length=(ti v).length:=by unfold ti; simp
 unfold Ni
 have j:Ey (ByteArray.mk #[118]) ⟨(Lib.itoa v).toArray⟩=some ⟨(118::Lib.itoa v).toArray⟩:=by
  unfold Ey
  rw [if_pos]
  .congr 1
  .show 1+(Lib.itoa v).toArray.size<=9223372036854775807
   rw [List.size_toArray]; omega
 have h:Ey ⟨(118::Lib.itoa v).toArray⟩ (ByteArray.mk #[58])=some ⟨(118::(Lib.itoa v++[58])).toArray⟩:=by
  unfold Ey
  rw [if_pos]
  .congr 1
  .show (118::Lib.itoa v).toArray.size+1<=9223372036854775807
   rw [List.size_toArray,List.length_cons]; omega
 simp only [Hv,Agq hv,Ad,j,h,Jf,Wf,Azu]
 rw [Dh (by simp; omega)]
 simp only [Ad]
 rw [Azs 4000000 i _ (by omega) f (by simp; omega)]
 simp only [Ad,K5]
 have g:([]++(118::(Lib.itoa v++[58])).map fun b=>(b.toNat:Int))++wx i=I7 v i:=by
  unfold I7 ti; simp
 rw [g]
 unfold Vh My
 rw [if_pos (Ab8 v i)]; rfl
end Go.Ab
namespace Go.Ab
open Go
mutual
theorem Aok (data:List Ap):∀(i:Bc) (t:Ah) (d:Nat),Fh data i t=some d->d<=6*Di i
 | ⟨n,kids⟩,t,d,h=>by
  rw [Xo] at h
  simp only [Di]
  simp only at h
  split at h
  .split at h
   .have:=Xp data kids _ d h; omega
   .cases h
  .split at h
   .split at h
    .cases h; omega
    .cases h
   .split at h
    .split at h
     .have:=Aol data kids _ d h; omega
     .cases h
    .split at h
     .cases h; omega
     .cases h
theorem Xp (data:List Ap):∀(is:List Bc) (ts:List Ah) (d:Nat),Df data is ts=some d->d<=6*Fg is
 | [],[],d,h=>by simp only [Df] at h; cases h; omega
 | i::is,t::ts,d,h=>by
  rw [Pe] at h
  cases h1:Fh data i t with
  | none=>rw [h1] at h; cases h
  | some a=>
   rw [h1,Ad] at h
   cases h2:Df data is ts with
   | none=>rw [h2] at h; cases h
   | some b=>
    rw [h2] at h
    cases h
    have:=Aok data i t a h1
    have:=Xp data is ts b h2
    simp only [Fg]; omega
 | [],_::_,d,h=>by simp only [Df] at h; cases h
 | _::_,[],d,h=>by simp only [Df] at h; cases h
theorem Aol (data:List Ap):∀(es:List Bc) (t:Ah) (d:Nat),G0 data es t=some d->d<=6*Fg es
 | [],t,d,h=>by simp only [G0] at h; cases h; omega
 | ⟨n,kids⟩::es,t,d,h=>by
  rw [Ab3] at h
  simp only at h
  cases h1:G5 data t n with
  | none=>rw [h1] at h; cases h
  | some ts=>
   rw [h1,Ad] at h
   cases h2:Df data kids ts with
   | none=>rw [h2] at h; cases h
   | some a=>
    rw [h2,Ad] at h
    cases h3:G0 data es t with
    | none=>rw [h3] at h; cases h
    | some b=>
     rw [h3] at h
     cases h
     have:=Xp data kids ts a h2
     have:=Aol data es t b h3
     simp only [Fg,Di]; omega
end
def Uh (data:List Ap) (e:Bc) (t:Ah):Option Nat:=(G5 data t e.Num).bind fun ts=>(Df data e.Kids ts).map (1 + ·)
theorem Azv (data:List Ap) (e:Bc) (es:List Bc) (t:Ah):G0 data (e::es) t=(Uh data e t).bind fun a=>(G0 data es t).map (a + ·):=by
 rw [Ab3]; unfold Uh
 cases G5 data t e.Num with
 | none=>rfl
 | some ts=>simp only [Ad]; cases Df data e.Kids ts <;> rfl
theorem Azw (data:List Ap) (e:Bc) (t:Ah) (d:Nat) (h:Uh data e t=some d):d<=6*Di e:=by
 unfold Uh at h
 cases h1:G5 data t e.Num with
 | none=>rw [h1] at h; cases h
 | some ts=>
  rw [h1,Ad] at h
  cases h2:Df data e.Kids ts with
  | none=>rw [h2] at h; cases h
  | some a=>
   rw [h2] at h
   cases h
   have:=Xp data _ ts a h2
   have:=F6 e
   show 1+a<=_
   omega
def Dg (v:Int) (o:Option Nat):Prop:=(v = -1/\∀d,o=some d->6<d)\/∃d:Nat,o=some d/\v=d
theorem Dg.clip {v:Int} {o:Option Nat} (h:Dg v o):(if v>6 then -1 else v)=I6 o:=by
 rcases h with ⟨rfl,h⟩ | ⟨d,rfl,rfl⟩
 .rw [if_neg (by omega),An8 h]
 .by_cases hd:6<d
  .rw [if_pos (by omega),Agl hd]
  .rw [if_neg (by omega),Ab4 (by omega)]
theorem Ab9 {o p:Option Nat} {acc:Nat} {d:Nat} (h:(o.bind fun a=>p.map (a + ·)).map (acc + ·)=some d):∃a b,o=some a/\p=some b/\d=acc+(a+b):=by
 cases o with
 | none=>cases h
 | some a=>
  cases p with
  | none=>cases h
  | some b=>exact ⟨a,b,rfl,rfl,by simp at h; omega⟩
theorem Azx {data:List Ap} (hz:Szv data) (hs:Mx data) (b1:List (ByteArray×Int)) (b2:List (ByteArray×List Dl)) (vars:List Ah) (M L:Int) (J:List Ah):∀k:Nat,
  (∀(i:Bc) (t:Ah),3*Di i<=k->Di i<=1048576->Bx t<=200->∃v,Ow k t i b1 b2 data vars M L J=some v/\Dg v (Fh data i t)) /\
  (∀(f:List Bc) (ts:List Ah),3*Fg f+1<=k->Fg f<=1048576->(∀t∈ts,Bx t<=200)->∃v,Ra k ts f b1 b2 data vars M L J=some v/\Dg v (Df data f ts)) /\
  (∀(e:Bc) (t:Ah),3*Di e<=k->Di e<=1048576->Bx t<=200->∃v,Rb k t e b1 b2 data vars M L J=some v/\Dg v (Uh data e t)):=by
 intro k
 induction k with
 | zero=>exact ⟨fun i t h=>by have:=F6 i; omega,fun f ts h=>by omega,fun i t h=>by have:=F6 i; omega⟩
 | succ k ih=>
  obtain ⟨a6,N,a7⟩:=ih
  have D:∀o:Option Nat,o.map (0 + ·)=o:=by intro o; cases o <;> simp
  have c:∀d:Nat,(none:Option Nat)=some d->6<d:=fun d h=>by cases h
  refine ⟨?_,?_,?_⟩
  .intro i t hk hi ht
   have af:=F6 i
   have R:=Pd i.Kids
   rw [Ow,Xo]
   by_cases Y:t.Kind=6
   .simp only [Dj Y,cond_true,if_pos Y]
    by_cases h0:i.Num=0
    .simp only [Dj h0,cond_true,if_pos h0]
     obtain ⟨p,p1,p2⟩:=N i.Kids t.Args (by omega) (by omega) (fun a ha=>by have:=J1 ha; have:=Jl t; omega)
     rw [p1]
     exact ⟨p,rfl,p2⟩
    .simp only [Cp h0,cond_false,if_neg h0]
     exact ⟨_,rfl,.inl ⟨rfl,c⟩⟩
   .simp only [Cp Y,cond_false,if_neg Y]
    by_cases X:t.Kind=7
    .simp only [Dj X,cond_true,if_pos X]
     by_cases a1:0<=i.Num
     .by_cases a2:i.Num<=6
      .by_cases a3:i.Kids.length=0
       .rw [Am (show i.Num>=0 from a1),Am a2,if_pos ⟨a1,a2,a3⟩,Dj (by omega)]
        exact ⟨_,rfl,.inr ⟨i.Num.toNat,rfl,by omega⟩⟩
       .rw [Am (show i.Num>=0 from a1),Am a2,if_neg (fun h=>a3 h.2.2),Cp (by omega)]
        exact ⟨_,rfl,.inl ⟨rfl,c⟩⟩
      .rw [Am (show i.Num>=0 from a1),Ar a2,if_neg (fun h=>a2 h.2.1)]
       exact ⟨_,rfl,.inl ⟨rfl,c⟩⟩
     .rw [Ar (show ¬i.Num>=0 from a1),if_neg (fun h=>a1 h.1)]
      exact ⟨_,rfl,.inl ⟨rfl,c⟩⟩
    .simp only [Cp X,cond_false,if_neg X]
     by_cases Z:t.Kind=5
     .simp only [Dj Z,cond_true,if_pos Z]
      by_cases h0:i.Num=0
      .simp only [Fp h0,cond_false,if_pos h0]
       have key:∀(m j acc:Nat),j+m=i.Kids.length->acc<=10000000->∃z,Al (S:=(Int×Int)) (E:=(Int⊕Int)) (fun (G,v8)=>
         bif (decide (v8<(i.Kids.length:Int))) then (
         (Ag i.Kids v8).bind fun v9=>
         (Rb k t v9 b1 b2 data vars M L J).bind fun v11=>
         bif (decide (v11<(0:Int))) then some (.inr (.inl (-1)))
         else (
         bif (decide (G>(6:Int))) then some (.inr (.inl (-1)))
         else some (.inl ((Ac (G+v11)),(Ac (v8+1))))))
         else some (.inr (.inr G))) ((acc:Int),(j:Int))=some z/\Dg (match z with | .inl v=>v | .inr v=>v) ((G0 data (i.Kids.drop j) t).map (acc + ·)):=by
        intro m
        induction m with
        | zero=>
         intro j acc hj A
         have:j=i.Kids.length:=by omega
         subst this
         exact ⟨.inr (acc:Int),Ee (by simp),.inr ⟨acc,by simp [G0],rfl⟩⟩
        | succ m s=>
         intro j acc hj A
         have g:i.Kids[j]? = some i.Kids[j]:=B0 (by omega)
         generalize i.Kids[j]=e at g
         have ac:=La (B7 g)
         rw [Iu g,Azv]
         obtain ⟨v,B,v2⟩:=a7 e t (by omega) (by omega) ht
         rcases v2 with ⟨rfl,v2⟩ | ⟨a,a1,rfl⟩
         .refine ⟨.inl (-1),Ee ?_,.inl ⟨rfl,fun d h=>?_⟩⟩
          .simp only [Am (by omega:(j:Int)<(i.Kids.length:Int)),cond_true,Bw rfl g,Ad,B]; rfl
          .obtain ⟨a,b,ha,hb,rfl⟩:=Ab9 h
           have:=v2 a ha; omega
         .have U:=Azw data e t a a1
          by_cases hb:acc>6
          .refine ⟨.inl (-1),Ee ?_,.inl ⟨rfl,fun d h=>?_⟩⟩
           .simp only [Am (by omega:(j:Int)<(i.Kids.length:Int)),cond_true,Bw rfl g,Ad,B,Ar (by omega:¬(a:Int)<0),Am (by omega:(acc:Int)>6),cond_false]
           .obtain ⟨a,b,ha,hb,rfl⟩:=Ab9 h
            omega
          .have ew:Ac ((acc:Int)+(a:Int))=((acc+a:Nat):Int):=by rw [Ac,Bs] <;> omega
           obtain ⟨z,q,z2⟩:=s (j+1) (acc+a) (by omega) (by omega)
           refine ⟨z,?_,?_⟩
           .rw [Je (s':=(((acc+a:Nat):Int),((j+1:Nat):Int)))]
            .exact q
            .simp only [Am (by omega:(j:Int)<(i.Kids.length:Int)),cond_true,Bw rfl g,Ad,B,Ar (by omega:¬(a:Int)<0),Ar (by omega:¬(acc:Int)>6),cond_false,ew,C8 (show j<i.Kids.length by omega) (by omega)]
           .have D:∀o:Option Nat,(((some a:Option Nat).bind fun a=>o.map (a + ·)).map (acc + ·))=o.map (acc+a + ·):=by
             intro o; cases o <;> simp [Nat.add_assoc]
            rw [a1,D]
            exact z2
       obtain ⟨z,q,z2⟩:=key i.Kids.length 0 0 (by omega) (by omega)
       have q:Al _ ((0:Int),(0:Int))=some z:=q
       rw [q,Ad]
       rw [List.drop_zero,D] at z2
       cases z with
       | inl v=>exact ⟨v,rfl,z2⟩
       | inr v=>exact ⟨v,rfl,z2⟩
      .simp only [Em h0,cond_true,if_neg h0]
       exact ⟨_,rfl,.inl ⟨rfl,c⟩⟩
     .simp only [Cp Z,cond_false,if_neg Z]
      by_cases h0:i.Num=0
      .simp only [Dj h0,cond_true]
       by_cases a3:i.Kids.length=0
       .rw [if_pos ⟨h0,a3⟩,Dj (by omega)]
        exact ⟨_,rfl,.inr ⟨0,rfl,rfl⟩⟩
       .rw [if_neg (fun h=>a3 h.2),Cp (by omega)]
        exact ⟨_,rfl,.inl ⟨rfl,c⟩⟩
      .simp only [Cp h0,cond_false]
       rw [if_neg (fun h=>h0 h.1)]
       exact ⟨_,rfl,.inl ⟨rfl,c⟩⟩
  .intro f ts hk hi ht
   have R:=Pd f
   rw [Ra]
   by_cases hl:ts.length=f.length
   .rw [Fp (by omega)]
    simp only [cond_false]
    have key:∀(m j acc:Nat),j+m=f.length->acc<=10000000->∃z,Al (S:=(Int×Int)) (E:=(Int⊕Int)) (fun (v5,V)=>
      bif (decide (V<(ts.length:Int))) then (
      (Ag ts V).bind fun G=>
      (Ag f V).bind fun v9=>
      (Ow k G v9 b1 b2 data vars M L J).bind fun I=>
      bif (decide (I<(0:Int))) then some (.inr (.inl (-1)))
      else (
      bif (decide (v5>(6:Int))) then some (.inr (.inl (-1)))
      else some (.inl ((Ac (v5+I)),(Ac (V+1))))))
      else some (.inr (.inr v5))) ((acc:Int),(j:Int))=some z/\Dg (match z with | .inl v=>v | .inr v=>v) ((Df data (f.drop j) (ts.drop j)).map (acc + ·)):=by
     intro m
     induction m with
     | zero=>
      intro j acc hj A
      have:j=ts.length:=by omega
      subst this
      refine ⟨.inr (acc:Int),Ee (by simp),.inr ⟨acc,?_,rfl⟩⟩
      rw [List.drop_of_length_le (by omega),List.drop_of_length_le (by omega)]
      simp [Df]
     | succ m s=>
      intro j acc hj A
      have g:f[j]? = some f[j]:=B0 (by omega)
      generalize f[j]=e at g
      have hu:ts[j]? = some ts[j]:=B0 (by omega)
      generalize ts[j]=u at hu
      have ac:=La (B7 g)
      rw [Iu g,Iu hu,Pe]
      obtain ⟨v,B,v2⟩:=a6 e u (by omega) (by omega) (ht u (B7 hu))
      rcases v2 with ⟨rfl,v2⟩ | ⟨a,a1,rfl⟩
      .refine ⟨.inl (-1),Ee ?_,.inl ⟨rfl,fun d h=>?_⟩⟩
       .simp only [Am (by omega:(j:Int)<(ts.length:Int)),cond_true,Bw rfl g,Bw rfl hu,Ad,B]; rfl
       .obtain ⟨a,b,ha,hb,rfl⟩:=Ab9 h
        have:=v2 a ha; omega
      .have U:=Aok data e u a a1
       by_cases hb:acc>6
       .refine ⟨.inl (-1),Ee ?_,.inl ⟨rfl,fun d h=>?_⟩⟩
        .simp only [Am (by omega:(j:Int)<(ts.length:Int)),cond_true,Bw rfl g,Bw rfl hu,Ad,B,Ar (by omega:¬(a:Int)<0),Am (by omega:(acc:Int)>6),cond_false]
        .obtain ⟨a,b,ha,hb,rfl⟩:=Ab9 h
         omega
       .have ew:Ac ((acc:Int)+(a:Int))=((acc+a:Nat):Int):=by rw [Ac,Bs] <;> omega
        obtain ⟨z,q,z2⟩:=s (j+1) (acc+a) (by omega) (by omega)
        refine ⟨z,?_,?_⟩
        .rw [Je (s':=(((acc+a:Nat):Int),((j+1:Nat):Int)))]
         .exact q
         .simp only [Am (by omega:(j:Int)<(ts.length:Int)),cond_true,Bw rfl g,Bw rfl hu,Ad,B,Ar (by omega:¬(a:Int)<0),Ar (by omega:¬(acc:Int)>6),cond_false,ew,C8 (show j<f.length by omega) (by omega)]
        .have D:∀o:Option Nat,(((some a:Option Nat).bind fun a=>o.map (a + ·)).map (acc + ·))=o.map (acc+a + ·):=by
          intro o; cases o <;> simp [Nat.add_assoc]
         rw [a1,D]
         exact z2
    obtain ⟨z,q,z2⟩:=key f.length 0 0 (by omega) (by omega)
    have q:Al _ ((0:Int),(0:Int))=some z:=q
    rw [q,Ad]
    rw [List.drop_zero,List.drop_zero,D] at z2
    cases z with
    | inl v=>exact ⟨v,rfl,z2⟩
    | inr v=>exact ⟨v,rfl,z2⟩
   .rw [Em (by omega),Agk data f ts hl]
    exact ⟨_,rfl,.inl ⟨rfl,c⟩⟩
  .intro e t hk g ht
   have ag:=F6 e
   rw [Rb]
   unfold Uh G5
   rw [Ab0 hz t ht e.Num,Ad]
   cases hf:Ih data t e.Num with
   | none=>exact ⟨-1,rfl,.inl ⟨rfl,c⟩⟩
   | some l=>
    have ad:=Xn hf
    obtain ⟨x,y,_,hx,_,hy,hl,ab⟩:=Pc hf
    obtain ⟨y6,_⟩:=hz x (F5 hx).2.2.2 y (F5 hy).2.2.2
    have ae:l.length<=6:=by rw [hl]; simpa using y6
    have aa:∀a∈Fq l (Dq data t.Num e.Num),Bx a<=200:=(Agj (show G5 data t e.Num=some _ by unfold G5; rw [hf]; rfl)).1
    obtain ⟨v,B,v2⟩:=N e.Kids (Fq l (Dq data t.Num e.Num)) (by omega) (by omega) aa
    have hd:Dg (if v<0 then -1 else 1+v) (((some l).map fun l=>Fq l (Dq data t.Num e.Num)).bind fun ts=>(Df data e.Kids ts).map (1 + ·)):=by
     rw [Option.map_some,Ad]
     rcases v2 with ⟨rfl,v2⟩ | ⟨a,a1,rfl⟩
     .refine .inl ⟨rfl,fun d h=>?_⟩
      cases ha:Df data e.Kids (Fq l (Dq data t.Num e.Num)) with
      | none=>rw [ha] at h; cases h
      | some a=>rw [ha] at h; have:=v2 a ha; simp at h; omega
     .rw [a1,if_neg (by omega)]
      exact .inr ⟨1+a,rfl,by omega⟩
    have a8:v = -1\/(0<=v/\v<=10000000):=by
     rcases v2 with ⟨rfl,v2⟩ | ⟨a,a1,rfl⟩
     .exact .inl rfl
     .have:=Xp data _ _ a a1; right; omega
    refine ⟨_,?_,hd⟩
    simp only [okL,Dt,cond_false,Xj data t.Num e.Num hs,Ad]
    refine Gf (Dq data t.Num e.Num) (fun j=>((j:Int),Fq (l.take j) ((Dq data t.Num e.Num).take j))) (by simp [Fq]) (by omega) ?_ ?_
    .intro j b hj hb h1 h2 h3
     have ha:l[j]? = some l[j]:=B0 (by omega)
     generalize l[j]=a at ha
     have R:=Ab1 (l.take j) ((Dq data t.Num e.Num).take j)
     have:(l.take j).length<=6:=by simp; omega
     simp only [h1,h2,h3,cond_true,Ad,Bw rfl ha,Agi ha hb]
     rw [Dh (by simp; omega)]
     cases b <;> simp
    .intro h1
     refine ⟨Fq l (Dq data t.Num e.Num),?_,?_⟩
     .simp only [h1]
      rw [List.take_of_length_le (by omega),List.take_of_length_le (Nat.le_refl _)]; rfl
     .rw [B,Ad]
      rcases a8 with h | h
      .subst h; rfl
      .rw [Ar (by omega),if_neg (by omega)]
       simp only [cond_false]
       rw [Ac,Bs] <;> omega
def D2 (vars:List Ah) (res:Ah) (v:Int):Option Ah:=if v = -1 then some res else Ag vars v
def Fw (data:List Ap) (vars:List Ah) (res:Ah) (o:List (ByteArray×Int)):Prop:=∀p∈o,∀v i t,p.1=My v i->D2 vars res v=some t->p.2=I6 (Fh data i t)
theorem Aom {α:Type}:∀(o:List (ByteArray×α)) (s:ByteArray) (v:α),∀p∈Fd o s v,p∈o\/p=(s,v)
 | [],s,v,p,h=>by simp only [Fd,List.mem_singleton] at h; exact .inr h
 | q::o,s,v,p,h=>by
  unfold Fd at h
  cases hq:(s==q.1) with
  | true=>
   rw [hq] at h
   simp only [cond_true,List.mem_cons] at h
   rcases h with h | h
   .exact .inr h
   .exact .inl (by simp [h])
  | false=>
   rw [hq] at h
   simp only [cond_false,List.mem_cons] at h
   rcases h with h | h
   .exact .inl (by simp [h])
   .rcases Aom o s v p h with h | h
    .exact .inl (by simp [h])
    .exact .inr h
theorem Azy {data:List Ap} (D:Szv data) (E:Mx data) (b1:List (ByteArray×Int)) (b2:List (ByteArray×List Dl)) (vars:List Ah) (res:Ah) (f:Fw data vars res b1)
  (v:Int) (i:Bc) (t:Ah) (ht:D2 vars res v=some t) (b:Bx t<=200) (hv:I64 v) (G:iR i) (hi:Di i<=1048576) :
  ∃s,Mq v i b1 b2 data vars res.Kind res.Num res.Args=some (I6 (Fh data i t),s)/\Fw data vars res s:=by
 unfold Mq
 rw [Aoj v i hv G hi,Ad]
 cases hh:E3 b1 (My v i) with
 | true=>
  refine ⟨b1,?_,f⟩
  have:Iq b1 (My v i) 0=I6 (Fh data i t):=by
   unfold Iq
   unfold E3 at hh
   rw [List.any_eq_true] at hh
   obtain ⟨p,B,A⟩:=hh
   cases g:b1.find? (fun p=>My v i==p.1) with
   | none=>exact absurd A (by have:=List.find?_eq_none.1 g p B; simpa using this)
   | some q=>
    have hq:=List.find?_some g
    exact f q (List.mem_of_find?_eq_some g) v i t ((Rr _ _).1 hq).symm ht
  simp only [cond_true,Ad,Dt,cond_false,this]
 | false=>
  obtain ⟨w,x,u⟩:=(Azx D E b1 b2 vars res.Kind res.Num res.Args 4000000).1 i t (by omega) hi b
  have c:Lr v b1 b2 data vars res.Kind res.Num res.Args=some t:=by
   unfold Lr
   unfold D2 at ht
   by_cases h:v = -1
   .rw [if_pos h] at ht; cases ht
    have I:(Ah.mk res.Kind res.Num res.Args)=res:=by cases res; rfl
    rw [Dj h,I]; rfl
   .rw [if_neg h] at ht
    rw [Cp h,ht]; rfl
  have j:(bif decide (w>6) then some (-1) else some w:Option Int)=some (I6 (Fh data i t)):=by
   rw [<-u.clip]
   by_cases h:w>6
   .rw [Am h,if_pos h]; rfl
   .rw [Ar h,if_neg h]; rfl
  refine ⟨Fd b1 (My v i) (I6 (Fh data i t)),?_,?_⟩
  .simp only [cond_false,Ad,Bool.not_false,cond_true,c,x,j]
  .intro p hp y i' z l k
   rcases Aom _ _ _ p hp with h | h
   .exact f p h y i' z l k
   .subst h
    obtain ⟨rfl,rfl⟩:=Azt l
    rw [ht] at k; cases k; rfl
end Go.Ab
namespace Go.Ab
open Go
def Eh (a b:Int):Int:=if a<b then -1 else if a>b then 1 else 0
def orI (a b:Int):Int:=if a=0 then b else a
theorem Iv {a b:Int}:Eh a b=0↔a=b:=by unfold Eh; split <;> (try split) <;> omega
theorem Mz (a b:Int):Ke a b=some (Eh a b):=by
 unfold Ke Qx Eh
 simp only [Ad,bne_self_eq_false,cond_false]
 by_cases h:a<b
 .rw [Am h,if_pos h]; rfl
 .rw [Ar h,if_neg h]
  by_cases h':a>b
  .rw [Am h',if_pos h']; rfl
  .rw [Ar h',if_neg h']; rfl
theorem Aon (a b:Int):Wj a b=some (Eh a b):=Mz a b
theorem Ui (a b:Int):Mo [a,b]=some (orI a b):=by
 unfold Mo orI
 by_cases ha:a=0
 .rw [if_pos ha]
  by_cases hb:b=0
  .refine Hn 2 (fun j=>(j:Int)) rfl ?_ ⟨.inr (),rfl,by rw [hb]⟩
   intro j hj
   match j,hj with
   | 0,_=>subst ha; rfl
   | 1,_=>subst hb; rfl
  .refine Hn 1 (fun j=>(j:Int)) rfl ?_ ⟨.inl b,?_,rfl⟩
   .intro j hj
    match j,hj with
    | 0,_=>subst ha; rfl
   .show (bif (b != 0) then _ else _)=_
    rw [Em hb]; rfl
 .rw [if_neg ha]
  refine Hn 0 (fun j=>(j:Int)) rfl (fun j hj=>by omega) ⟨.inl a,?_,rfl⟩
  show (bif (a != 0) then _ else _)=_
  rw [Em ha]; rfl
def Ez {α:Type} (g:α->α->Int):List α->List α->Int
 | x::xs,y::ys=>orI (g x y) (Ez g xs ys)
 | _,_=>0
theorem Azz {α:Type} (g:α->α->Int) (l m:List α) {step:Int->Option (Int⊕(Int⊕Unit))} (k:l.length=m.length) (hb:l.length<4611686018427387904)
  (f:∀(j:Nat) (x y:α),l[j]? = some x->m[j]? = some y->decide ((j:Int)<(l.length:Int))=true->Ag l (j:Int)=some x->Ag m (j:Int)=some y->decide ((j:Int)>=(m.length:Int))=false->Ac ((j:Int)+1)=((j+1:Nat):Int) ->
   step (j:Int)=if g x y=0 then some (.inl ((j+1:Nat):Int)) else some (.inr (.inl (g x y))))
  (i:decide ((l.length:Int)<(l.length:Int))=false->step (l.length:Int)=some (.inr (.inr ()))) :
  ∃z,Al step 0=some z/\(match z with | .inl r=>r=Ez g l m/\r≠0 | .inr _=>Ez g l m=0):=by
 have key:∀(n j:Nat),j+n=l.length->∃z,Al step (j:Int)=some z/\(match z with | .inl r=>r=Ez g (l.drop j) (m.drop j)/\r≠0 | .inr _=>Ez g (l.drop j) (m.drop j)=0):=by
  intro n
  induction n with
  | zero=>
   intro j hj
   have:j=l.length:=by omega
   subst this
   refine ⟨.inr (),Ee (i (by simp)),?_⟩
   rw [List.drop_of_length_le (by omega)]; simp [Ez]
  | succ n ih=>
   intro j hj
   have hx:l[j]? = some l[j]:=B0 (by omega)
   have hy:m[j]? = some m[j]:=B0 (by omega)
   generalize l[j]=x at hx
   generalize m[j]=y at hy
   have h:=f j x y hx hy (Am (by omega)) (Bw rfl hx) (Bw rfl hy) (Ar (by omega)) (C8 (show j<l.length by omega) hb)
   rw [Iu hx,Iu hy]
   by_cases b:g x y=0
   .rw [if_pos b] at h
    obtain ⟨z,c,z2⟩:=ih (j+1) (by omega)
    refine ⟨z,by rw [Je h]; exact c,?_⟩
    have e:Ez g (x::l.drop (j+1)) (y::m.drop (j+1))=Ez g (l.drop (j+1)) (m.drop (j+1)):=by simp only [Ez,orI,b,if_true]
    cases z with
    | inl r=>simp only [e]; exact z2
    | inr u=>simp only [e]; exact z2
   .rw [if_neg b] at h
    refine ⟨.inl (g x y),Ee h,?_,b⟩
    simp only [Ez,orI,b,if_false]
 exact key l.length 0 (by omega)
theorem Aca {α:Type} (f:α->α->Option Int) (g:α->α->Int) (l m:List α) (s:l.length=m.length) (hb:l.length<4611686018427387904) (A:∀(j:Nat) (x y:α),l[j]? = some x->m[j]? = some y->f x y=some (g x y)) :
  ((Al (S:=Int) (E:=(Int⊕Unit)) (fun b=>
   bif (decide (b<(l.length:Int))) then (
   (Ag l b).bind fun q=>
   bif (decide (b>=(m.length:Int))) then some (.inr (.inl 1))
   else (
   (Ag m b).bind fun v9=>
   (f q v9).bind fun v11=>
   bif (v11 != (0:Int)) then some (.inr (.inl v11))
   else some (.inl (Ac (b+1)))))
   else some (.inr (.inr ()))) 0).bind fun z=>
   match z with
   | .inl i=>some i
   | .inr _=>bif (decide ((l.length:Int)<(m.length:Int))) then some (-1) else some 0)=some (Ez g l m):=by
 refine Amz (Azz g l m s hb ?_ (fun h=>by simp only [h]; rfl)) ?_
 .intro j x y hx hy h1 h2 h3 D B
  simp only [h1,h2,h3,D,B,cond_true,cond_false,Ad,A j x y hx hy]
  by_cases c:g x y=0
  .rw [Fp c,if_pos c]; rfl
  .rw [Em c,if_neg c]; rfl
 .rintro (r | u) k
  .rw [k.1]
  .simp only
   rw [Ar (by omega),show Ez g l m=0 from k]; rfl
def Xq (x y:Bb):Int:=orI (Eh x.Var y.Var) (Eh x.Coef y.Coef)
def Gq (a b:Be):Int:=if a.Terms.length=b.Terms.length then orI (Ez Xq a.Terms b.Terms) (Eh a.Const b.Const) else Eh a.Terms.length b.Terms.length
theorem Acb (a b:Be) (ha:a.Terms.length<1099511627776):K6 a b=some (Gq a b):=by
 unfold K6 Gq
 rw [Mz,Ad]
 by_cases h:a.Terms.length=b.Terms.length
 .rw [Fp (Iv.2 (by omega)),if_pos h]
  simp only [cond_false]
  have:=Aca Wi Xq a.Terms b.Terms h (by omega) (fun j x y _ _=>by
   unfold Wi Xq
   rw [Mz,Aon]; simp only [Ad,Ui])
  rw [show Aai a.Terms b.Terms=_ from this,Ad,Aon]
  simp only [Ad,Ui]
 .rw [Em (fun e=>h (by have:=Iv.1 e; omega)),if_neg h]; rfl
mutual
def L6:Bc->Bc->Int
 | ⟨n,k⟩,j=>if n=j.Num then (if k.length=j.Kids.length then Rt k j.Kids else Eh k.length j.Kids.length) else Eh n j.Num
def Rt:List Bc->List Bc->Int
 | x::xs,y::ys=>orI (L6 x y) (Rt xs ys)
 | [],_=>0
 | _::_,[]=>0
end
theorem Aoo (i j:Bc):L6 i j=if i.Num=j.Num then (if i.Kids.length=j.Kids.length then Rt i.Kids j.Kids else Eh i.Kids.length j.Kids.length) else Eh i.Num j.Num:=by cases i; simp only [L6]
theorem Ags:∀l m:List Bc,Rt l m=Ez L6 l m
 | x::xs,y::ys=>by simp only [Rt,Ez,Ags xs ys]
 | [],_=>by simp [Rt,Ez]
 | _::_,[]=>by simp [Rt,Ez]
theorem Az0:∀(n k:Nat) (i j:Bc),Di i<=n->2*n<=k->n<1099511627776->Oj k i j=some (L6 i j):=by
 intro n
 induction n with
 | zero=>intro k i j h; have:=F6 i; omega
 | succ n ih=>
  intro k i j h hk c
  obtain ⟨k,rfl⟩:∃b,k=b+2:=⟨k-2,by omega⟩
  have hi:=F6 i
  have f:=Pd i.Kids
  rw [Oj,Aoo,Mz,Mz]
  simp only [Ad,Ui]
  by_cases h1:i.Num=j.Num
  .rw [if_pos h1]
   by_cases h2:i.Kids.length=j.Kids.length
   .rw [if_pos h2,Fp (by unfold orI; rw [Iv.2 h1,Iv.2 (by omega)]; rfl),Ags]
    simp only [cond_false]
    have:=Aca (Oj k) L6 i.Kids j.Kids h2 (by omega) (fun q x y hx hy=>ih k x y (by have:=La (B7 hx); omega) (by omega) (by omega))
    rw [Wh]
    refine Eq.trans (congrArg (fun q=>Option.bind q _) this) rfl
   .have e:orI (Eh i.Num j.Num) (Eh (i.Kids.length:Int) (j.Kids.length:Int))=Eh i.Kids.length j.Kids.length:=by unfold orI; rw [Iv.2 h1]; rfl
    rw [if_neg h2,e,Em (fun e=>h2 (by have:=Iv.1 e; omega))]; rfl
  .have e:orI (Eh i.Num j.Num) (Eh (i.Kids.length:Int) (j.Kids.length:Int))=Eh i.Num j.Num:=by unfold orI; rw [if_neg (fun e=>h1 (Iv.1 e))]
   rw [if_neg h1,e,Em (fun e=>h1 (Iv.1 e))]; rfl
def Uj (x y:Cg):Int:=orI (Eh x.Var y.Var) (L6 x.Index y.Index)
def Xr (x y:Ba):Int:=orI (Gq x.Lin y.Lin) (Eh x.Deg y.Deg)
def C9 (a b:A8):Int :=
 if a.Factors.length=b.Factors.length then
  orI (Ez Uj a.Factors b.Factors) (if a.Atoms.length=b.Atoms.length then Ez Xr a.Atoms b.Atoms else Eh a.Atoms.length b.Atoms.length)
 else Eh a.Factors.length b.Factors.length
structure MSz (m:A8):Prop where
 nf:m.Factors.length<=1048576
 na:m.Atoms.length<=1048576
 fi:∀f∈m.Factors,Di f.Index<=1048576
 fr:∀f∈m.Factors,iR f.Index/\I64 f.Var
 al:∀a∈m.Atoms,a.Lin.Terms.length<=1048576
theorem Aop (a b:A8) (ha:MSz a):Oh a b=some (C9 a b):=by
 have h1:=ha.nf
 have h2:=ha.na
 unfold Oh C9
 rw [Mz,Ad]
 by_cases h:a.Factors.length=b.Factors.length
 .rw [Fp (Iv.2 (by omega)),if_pos h]
  simp only [cond_false]
  have:=Aca V4 Uj a.Factors b.Factors h (by omega) (fun j x y hx hy=>by
   unfold V4 Uj
   rw [Mz,Az0 1048576 4000000 x.Index y.Index (ha.fi x (B7 hx)) (by omega) (by omega)]; simp only [Ad,Ui])
  rw [show Aaa a.Factors b.Factors=_ from this,Ad,Mz]
  simp only [Ad,Ui]
  by_cases h0:Ez Uj a.Factors b.Factors=0
  .simp only [h0,orI,if_true]
   by_cases h':a.Atoms.length=b.Atoms.length
   .rw [Fp (Iv.2 (by omega)),if_pos h']
    simp only [cond_false]
    have:=Aca V5 Xr a.Atoms b.Atoms h' (by omega) (fun j x y hx hy=>by
     unfold V5 Xr
     rw [Mz,Acb x.Lin y.Lin (by have:=ha.al x (B7 hx); omega)]; simp only [Ad,Ui])
    rw [show Aab a.Atoms b.Atoms=_ from this]; rfl
   .rw [Em (fun e=>h' (by have:=Iv.1 e; omega)),if_neg h']; rfl
  .simp only [orI,if_neg h0]
   rw [Em h0]; rfl
 .rw [Em (fun e=>h (by have:=Iv.1 e; omega)),if_neg h]; rfl
def Ru {α:Type} (f:α->Int) (l:List α) (x:α) (j:Nat):Bool:=j==0||(match l[j-1]? with | some y=>decide (f y<f x) | none=>false)
def Uk (l:List Bb) (x:Bb) (j:Nat):Bool:=decide (-1<=x.Var/\x.Var<3000/\x.Coef≠0/\-1048576<=x.Coef/\x.Coef<=1048576)&&Ru (·.Var) l x j
def Cz (a:Be):Bool:=decide (-1048576<=a.Const/\a.Const<=1048576/\a.Terms.length<=16)&&a.Terms.zipIdx.all (fun q=>Uk a.Terms q.1 q.2)
theorem Aoq (n:Int):S6 n=some (decide (-1048576<=n/\n<=1048576)):=by
 unfold S6
 by_cases h:(-1048576:Int)<=n <;> simp [h]
theorem Az1 (n:Int):Vt n=some (decide (-1<=n/\n<3000)):=by
 unfold Vt
 by_cases h:(-1:Int)<=n <;> simp [h]
theorem Aor {α S E:Type} (f:α->Int) (l:List α) {x:α} {j:Nat} (hx:l[j]? = some x) (i:l.length<4611686018427387904) (c b:Option (S⊕E)) :
  (bif decide ((j:Int)>0) then ((Ag l (Ac ((j:Int)-1))).bind fun g=>bif decide (f g>=f x) then c else b) else b)=bif Ru f l x j then b else c:=by
 have hj:=Eo hx
 unfold Ru
 by_cases h:j=0
 .subst h; rfl
 .rw [Am (by omega)]
  have e:Ac ((j:Int)-1)=((j-1:Nat):Int):=by rw [Ac,Bs] <;> omega
  have hy:l[j-1]? = some l[j-1]:=B0 (by omega)
  rw [e,Bw rfl hy,hy]
  have h0:(j==0)=false:=by simpa using h
  simp only [cond_true,Ad,h0,Bool.false_or]
  by_cases hc:f l[j-1]<f x
  .rw [Ar (by omega),Am hc]; rfl
  .rw [Am (by omega),Ar hc]; rfl
theorem L7 (a:Be):I2 a=some (Cz a):=by
 unfold I2 Cz
 rw [Aoq]
 simp only [Ad]
 by_cases h1 : -1048576<=a.Const/\a.Const<=1048576
 .rw [Am h1]
  by_cases h2:a.Terms.length<=16
  .rw [Ar (by omega:¬(a.Terms.length:Int)>16),Am ⟨h1.1,h1.2,h2⟩]
   simp only [Dt,cond_false,Ad,Bool.true_and]
   refine (T9 a.Terms (fun q=>Uk a.Terms q.1 q.2) (fun j=>(j:Int)) rfl (by omega) (rt:=true) (rf:=false) ?_ ?_).trans (by rw [Xa])
   .intro j x hx _ h1 h2 h3
    simp only [h1,h2,h3,cond_true,Ad,Az1,Aoq,Aor (·.Var) a.Terms hx (by omega),Uk]
    by_cases g1 : -1<=x.Var/\x.Var<3000
    .by_cases g2:x.Coef=0
     .rw [Am g1,Dj g2,Ar (fun h=>h.2.2.1 g2)]
      exact ⟨(fun h=>by cases h),fun _=>⟨.inl false,rfl,rfl⟩⟩
     .by_cases g3 : -1048576<=x.Coef/\x.Coef<=1048576
      .rw [Am g1,Cp g2,Am g3,Am ⟨g1.1,g1.2,g2,g3.1,g3.2⟩]
       cases Ru (·.Var) a.Terms x j with
       | true=>exact ⟨fun _=>rfl,fun h=>by cases h⟩
       | false=>exact ⟨(fun h=>by cases h),fun _=>⟨.inl false,rfl,rfl⟩⟩
      .rw [Am g1,Cp g2,Ar g3,Ar (fun h=>g3 h.2.2.2)]
       exact ⟨(fun h=>by cases h),fun _=>⟨.inl false,rfl,rfl⟩⟩
    .rw [Ar g1,Ar (fun h=>g1 ⟨h.1,h.2.1⟩)]
     exact ⟨(fun h=>by cases h),fun _=>⟨.inl false,rfl,rfl⟩⟩
   .intro h _
    exact ⟨.inr (),by simp only [h]; rfl,rfl⟩
  .rw [Am (by omega:(a.Terms.length:Int)>16),Ar (fun h=>h2 h.2.2)]; rfl
 .rw [Ar h1,Ar (fun h : -1048576<=a.Const/\a.Const<=1048576/\a.Terms.length<=16=>h1 ⟨h.1,h.2.1⟩)]; rfl
end Go.Ab
namespace Go.Ab
open Go
structure Ul (data:List Ap) (vars:List Ah) (res:Ah):Prop where
 vd:Ig data
 sh:Mx data
 sz:∀v t,D2 vars res v=some t->Bx t<=200
 nv:vars.length<=3000
theorem Az2 (vars:List Ah) (res:Ah) (v:Int):(D2 vars res v).isSome=decide (-1<=v/\v<vars.length):=by
 unfold D2
 by_cases h:v = -1
 .rw [if_pos h]; subst h; rw [Am (by omega)]; rfl
 .rw [if_neg h]
  cases hx:Ag vars v with
  | none=>rcases Xg hx with h' | h' <;> rw [Ar (by omega)] <;> rfl
  | some t=>have:=F5 hx; rw [Am (by omega)]; rfl
section
variable (b1:List (ByteArray×Int)) (b2:List (ByteArray×List Dl)) (data:List Ap) (vars:List Ah) (res:Ah)
theorem Aos (v:Int) (f c:Int) (b:List Ah):Qt v b1 b2 data vars f c b=some (D2 vars res v).isSome:=by
 rw [Az2]
 unfold Qt
 by_cases h:v>=-1
 .rw [Am h]
  by_cases h':v<(vars.length:Int)
  .rw [Am h',Am ⟨h,h'⟩]; rfl
  .rw [Ar h',Ar (fun g=>h' g.2)]; rfl
 .rw [Ar h,Ar (fun g : -1<=v/\v<(vars.length:Int)=>h g.1)]; rfl
theorem Agt {v:Int} {t:Ah} (ht:D2 vars res v=some t):Lr v b1 b2 data vars res.Kind res.Num res.Args=some t:=by
 unfold Lr
 unfold D2 at ht
 by_cases h:v = -1
 .rw [if_pos h] at ht; cases ht
  have b:(Ah.mk res.Kind res.Num res.Args)=res:=by cases res; rfl
  rw [Dj h,b]; rfl
 .rw [if_neg h] at ht
  rw [Cp h,ht]; rfl
def Jn (t:Bb):Bool:=match D2 vars res t.Var with | some u=>u.Kind==1 | none=>false
def Dm (l:Be):Bool:=l.Terms.all (Jn vars res)
theorem Agu (l:Be) (c:l.Terms.length<=1048576):Ql l b1 b2 data vars res.Kind res.Num res.Args=some (Dm vars res l):=by
 unfold Ql Aaf Aak
 have key:=Afv l.Terms (fun t=>!Jn vars res t) (by omega) (J:=fun z=>match z with | .inl b=>some b | .inr _=>some (-1)) (step:=fun v3=>bif (decide (v3<(l.Terms.length:Int))) then ((Ag l.Terms v3).bind fun v4=>(Ti v4 b1 b2 data vars res.Kind res.Num res.Args).bind fun v5=>bif v5 then some (.inr (.inl v3)) else some (.inl (Ac (v3+1)))) else some (.inr (.inr ()))) (by
  intro j x hx h1 h2 h3
  have e:Ti x b1 b2 data vars res.Kind res.Num res.Args=some (!Jn vars res x):=by
   unfold Ti Jn
   rw [Aos b1 b2 data vars res,Ad]
   cases ht:D2 vars res x.Var with
   | none=>rfl
   | some t=>rw [Agt b1 b2 data vars res ht]; rfl
  simp only [h1,h2,h3,cond_true,Ad,e]) (fun h=>by simp only [h]; rfl) (fun _=>rfl) rfl
 obtain ⟨i,i1,i2⟩:=key
 erw [i1]
 simp only [Ad,i2]
 congr 1
 unfold Dm
 rw [List.any_eq_not_all_not]; simp
def F7 (f:Cg):Int:=match D2 vars res f.Var with | some t=>I6 (Fh data f.Index t) | none => -1
theorem Az3 (f:Cg) : -1<=F7 data vars res f/\F7 data vars res f<=6:=by
 unfold F7
 cases D2 vars res f.Var with
 | none=>simp
 | some t=>rcases An7 (Fh data f.Index t) with ⟨h,_⟩ | ⟨d,_,h2,h⟩ <;> simp only [h] <;> omega
def Nu (m:A8):Bool:=m.Factors.all (fun f=>decide (0<=F7 data vars res f))&&m.Atoms.all (fun a=>decide (0<=a.Deg)&&Dm vars res a.Lin)
def Gr (l:List Cg):Int:=(l.map (F7 data vars res)).sum
def Cv (l:List Ba):Int:=(l.map (·.Deg)).sum
def Rv (l:List Ba) (x:Ba) (j:Nat):Bool:=j==0||(match l[j-1]? with | some y=>decide (Gq y.Lin x.Lin<0) | none=>false)
def Xs (l:List Cg) (f:Cg) (j:Nat):Bool:=decide (1<=F7 data vars res f)&&Ru (·.Var) l f j
def Lb (l:List Ba) (a:Ba) (j:Nat):Bool:=decide (1<=a.Deg)&&Cz a.Lin && !(a.Lin.Terms.length==0)&&Dm vars res a.Lin&&Rv l a j
def Iw (m:A8):Bool:=m.Factors.zipIdx.all (fun q=>Xs data vars res m.Factors q.1 q.2)&&m.Atoms.zipIdx.all (fun q=>Lb vars res m.Atoms q.1 q.2)&&decide (Gr data vars res m.Factors+Cv m.Atoms<=6)
variable {b1 data vars res}
theorem Agv (hc:Ul data vars res) (h:Fw data vars res b1) (f:Cg) (hv:I64 f.Var) (g:iR f.Index) (hi:Di f.Index<=1048576) (b:(D2 vars res f.Var).isSome=true) :
  ∃c,Mq f.Var f.Index b1 b2 data vars res.Kind res.Num res.Args=some (F7 data vars res f,c)/\Fw data vars res c:=by
 cases ht:D2 vars res f.Var with
 | none=>rw [ht] at b; cases b
 | some t=>
  obtain ⟨c,h1,h2⟩:=Azy hc.vd.szv hc.sh b1 b2 vars res h f.Var f.Index t ht (hc.sz _ _ ht) hv g hi
  refine ⟨c,?_,h2⟩
  rw [h1]; unfold F7; rw [ht]
theorem Az4 (hc:Ul data vars res) (U:Fw data vars res b1) (m:A8) (k:MSz m) :
  ∃l,We m b1 b2 data vars res.Kind res.Num res.Args=some (Nu data vars res m,l)/\Fw data vars res l:=by
 have V:=k.nf
 have ha:=k.na
 unfold We
 refine Aba (fun l=>(Nu data vars res m,l)) ?_
 obtain ⟨r,N,L⟩:=Afw (M:=List (ByteArray×Int)) (R:=Bool×List (ByteArray×Int)) m.Factors (fun q=>decide (0<=F7 data vars res q.1)) (fun j o=>((j:Int),o)) (Fw data vars res)
  (fun r=>Fw data vars res r.2/\r.1=m.Atoms.all (fun a=>decide (0<=a.Deg)&&Dm vars res a.Lin)) (fun r=>Fw data vars res r.2/\r.1=false) b1
  (s0:=((0:Int),b1))
  (step:=(fun (y,u)=>
   bif (decide (y<(m.Factors.length:Int))) then (
   (Ag m.Factors y).bind fun v8=>
   (Qt v8.Var u b2 data vars res.Kind res.Num res.Args).bind fun A=>
   bif (!A) then some (.inr (.inl (false,u)))
   else (
   (Mq v8.Var v8.Index u b2 data vars res.Kind res.Num res.Args).bind fun v11=>
   bif (decide (v11.1<(0:Int))) then some (.inr (.inl (false,v11.2)))
   else some (.inl ((Ac (y+1)),v11.2))))
   else some (.inr (.inr u)):Int×List (ByteArray×Int)->Option ((Int×List (ByteArray×Int))⊕((Bool×List (ByteArray×Int))⊕List (ByteArray×Int)))))
  (J:=(fun z=>match z with
   | .inl (I,G)=>some (I,G)
   | .inr b=>(Al (S:=Int) (E:=((Bool×(List (ByteArray×Int)))⊕Unit)) (fun c=>
     bif (decide (c<(m.Atoms.length:Int))) then (
     (Ag m.Atoms c).bind fun s=>
     bif (decide (s.Deg<(0:Int))) then some (.inr (.inl (false,b)))
     else (
     (Ql s.Lin b b2 data vars res.Kind res.Num res.Args).bind fun v21=>
     bif (!v21) then some (.inr (.inl (false,b)))
     else some (.inl (Ac (c+1)))))
     else some (.inr (.inr ()))) 0).bind fun z=>match z with
      | .inl (D,B)=>some (D,B)
      | .inr _=>some (true,b)))
  rfl U (by omega) (by
   intro j f o x hx _ h1 h2 h3
   have i:=B7 hx
   simp only [h1,h2,h3,cond_true,Ad,Aos o b2 data vars res]
   cases g:(D2 vars res f.Var).isSome with
   | false=>
    have e:F7 data vars res f = -1:=by
     unfold F7
     cases ht:D2 vars res f.Var with
     | none=>rfl
     | some t=>rw [ht] at g; cases g
    rw [e]
    exact ⟨(fun h=>by cases h),fun _=>⟨_,rfl,_,rfl,x,rfl⟩⟩
   | true=>
    obtain ⟨l,d1,d2⟩:=Agv b2 hc x f (k.fr f i).2 (k.fr f i).1 (k.fi f i) g
    simp only [Dt,cond_false,d1,Ad]
    by_cases h0:0<=F7 data vars res f
    .rw [Am h0,Ar (by omega)]
     exact ⟨fun _=>⟨l,rfl,d2⟩,fun h=>by cases h⟩
    .rw [Ar h0,Am (by omega)]
     exact ⟨(fun h=>by cases h),fun _=>⟨_,rfl,_,rfl,d2,rfl⟩⟩) (by
   intro o x h1 _
   refine ⟨.inr o,by simp only [h1]; rfl,?_⟩
   refine ⟨(m.Atoms.all (fun a=>decide (0<=a.Deg)&&Dm vars res a.Lin),o),?_,x,rfl⟩
   refine (W9 m.Atoms (fun a=>decide (0<=a.Deg)&&Dm vars res a.Lin) (fun j=>(j:Int)) rfl (by omega) (rt:=(true,o)) (rf:=(false,o)) ?_ ?_).trans (by cases m.Atoms.all (fun a=>decide (0<=a.Deg)&&Dm vars res a.Lin) <;> rfl)
   .intro j a hx h1 h2 h3
    simp only [h1,h2,h3,cond_true,Ad,Agu o b2 data vars res a.Lin (k.al a (B7 hx))]
    by_cases h0:0<=a.Deg
    .rw [Am h0,Ar (by omega)]
     cases Dm vars res a.Lin with
     | true=>exact ⟨fun _=>rfl,fun h=>by cases h⟩
     | false=>exact ⟨(fun h=>by cases h),fun _=>⟨_,rfl,rfl⟩⟩
    .rw [Ar h0,Am (by omega)]
     exact ⟨(fun h=>by cases h),fun _=>⟨_,rfl,rfl⟩⟩
   .intro h; exact ⟨.inr (),by simp only [h]; rfl,rfl⟩)
 refine ⟨r,N,r.2,?_,?_⟩
 .unfold Nu
  rw [<-Abf]
  rcases L with ⟨h1,h2,h3⟩ | ⟨h1,h2,h3⟩
  .rw [h1,Bool.true_and,<-h3]
  .rw [h1,Bool.false_and,<-h3]
 .rcases L with ⟨h1,h2,h3⟩ | ⟨h1,h2,h3⟩ <;> exact h2
theorem Az5 (g:Cg->Int) {l:List Cg} {j:Nat} {x:Cg} (h:l[j]? = some x):((l.take (j+1)).map g).sum=((l.take j).map g).sum+g x:=by
 rw [C5 h]; simp
theorem Az6 {l:List Ba} {j:Nat} {x:Ba} (h:l[j]? = some x):Cv (l.take (j+1))=Cv (l.take j)+x.Deg:=by
 unfold Cv; rw [C5 h]; simp
theorem Az7 (hc:Ul data vars res) (y:Fw data vars res b1) (m:A8) (k:MSz m) (hp:Nu data vars res m=true) :
  ∃p:Int×List (ByteArray×Int),Oq m b1 b2 data vars res.Kind res.Num res.Args=some p/\(decide (p.1>6) = !decide (Gr data vars res m.Factors+Cv m.Atoms<=6))/\Fw data vars res p.2:=by
 have A:=k.nf
 have ha:=k.na
 unfold Nu at hp
 rw [Cu,List.all_eq_true,List.all_eq_true] at hp
 unfold Oq
 refine Ef (fun (v5,s,g)=>∃j:Nat,s=j/\j<=m.Factors.length/\Fw data vars res g/\0<=v5/\v5<=12/\(v5=Gr data vars res (m.Factors.take j)\/(6<v5/\6<Gr data vars res (m.Factors.take j)))) (fun (_,s,_)=>m.Factors.length-s.toNat)
  (fun (v5,g)=>Fw data vars res g/\0<=v5/\v5<=12/\(v5=Gr data vars res m.Factors\/(6<v5/\6<Gr data vars res m.Factors))) ⟨0,rfl,by omega,y,by omega,by omega,.inl (by simp [Gr])⟩ ?_ ?_
 .rintro ⟨v5,s,g⟩ ⟨j,rfl,hj,l,h0,h12,hv⟩
  rcases Nat.lt_or_ge j m.Factors.length with h | h
  .have hx:m.Factors[j]? = some m.Factors[j]:=B0 h
   generalize m.Factors[j]=f at hx
   have c:=B7 hx
   have hd:=hp.1 f c
   rw [decide_eq_true_eq] at hd
   have z:=(Az3 data vars res f).2
   have es:Gr data vars res (m.Factors.take (j+1))=Gr data vars res (m.Factors.take j)+F7 data vars res f:=Az5 _ hx
   simp only [Am (by omega:(j:Int)<(m.Factors.length:Int)),cond_true,Bw rfl hx,Ad,C8 h (by omega)]
   by_cases q:v5<=6
   .have u:(D2 vars res f.Var).isSome=true:=by
     unfold F7 at hd
     cases ht:D2 vars res f.Var with
     | none=>rw [ht] at hd; have hd:(0:Int)<=-1:=hd; omega
     | some t=>rfl
    obtain ⟨B,d1,d2⟩:=Agv b2 hc l f (k.fr f c).2 (k.fr f c).1 (k.fi f c) u
    rw [Am q]
    simp only [cond_true,d1,Ad]
    have b:Ac (v5+F7 data vars res f)=v5+F7 data vars res f:=by rw [Ac,Bs] <;> omega
    exact .inl ⟨_,rfl,⟨j+1,rfl,by omega,d2,by simp only [b]; omega,by simp only [b]; omega,by simp only [b,es]; omega⟩,by simp; omega⟩
   .rw [Ar q]
    exact .inl ⟨_,rfl,⟨j+1,rfl,by omega,l,h0,h12,by simp only [es]; omega⟩,by simp; omega⟩
  .have:j=m.Factors.length:=by omega
   subst this
   rw [List.take_length] at hv
   exact .inr ⟨(v5,g),by simp,l,h0,h12,hv⟩
 .rintro ⟨v5,g⟩ ⟨l,h0,h12,hv⟩
  simp only
  refine Ef (fun (v,i)=>∃j:Nat,i=j/\j<=m.Atoms.length/\0<=v/\v<=13/\(v=Gr data vars res m.Factors+Cv (m.Atoms.take j)\/(6<v/\6<Gr data vars res m.Factors+Cv (m.Atoms.take j)))) (fun (_,i)=>m.Atoms.length-i.toNat)
   (fun v=>(v=Gr data vars res m.Factors+Cv m.Atoms\/(6<v/\6<Gr data vars res m.Factors+Cv m.Atoms))) ⟨0,rfl,by omega,h0,by omega,by simpa [Cv] using hv⟩ ?_ ?_
  .rintro ⟨v,i⟩ ⟨j,rfl,hj,g0,g13,gv⟩
   rcases Nat.lt_or_ge j m.Atoms.length with h | h
   .have hx:m.Atoms[j]? = some m.Atoms[j]:=B0 h
    generalize m.Atoms[j]=a at hx
    have hd:=hp.2 a (B7 hx)
    rw [Cu,decide_eq_true_eq] at hd
    have es:=Az6 hx
    simp only [Am (by omega:(j:Int)<(m.Atoms.length:Int)),cond_true,Bw rfl hx,Ad,C8 h (by omega)]
    by_cases q:v<=6
    .rw [Am q]
     simp only [cond_true]
     by_cases x:7<a.Deg
     .rw [if_pos x]
      have b:Ac (v+7)=v+7:=by rw [Ac,Bs] <;> omega
      exact .inl ⟨_,rfl,⟨j+1,rfl,by omega,by simp only [b]; omega,by simp only [b]; omega,by simp only [b,es]; omega⟩,by simp; omega⟩
     .rw [if_neg x]
      have b:Ac (v+a.Deg)=v+a.Deg:=by rw [Ac,Bs] <;> omega
      exact .inl ⟨_,rfl,⟨j+1,rfl,by omega,by simp only [b]; omega,by simp only [b]; omega,by simp only [b,es]; omega⟩,by simp; omega⟩
    .rw [Ar q]
     exact .inl ⟨_,rfl,⟨j+1,rfl,by omega,g0,g13,by simp only [es]; omega⟩,by simp; omega⟩
   .have:j=m.Atoms.length:=by omega
    subst this
    rw [List.take_length] at gv
    exact .inr ⟨v,by simp,gv⟩
  .intro v hv
   refine ⟨(v,g),rfl,?_,l⟩
   by_cases h:Gr data vars res m.Factors+Cv m.Atoms<=6
   .rw [Am h,Ar (by simp only; omega)]; rfl
   .rw [Ar h,Am (by simp only; omega)]; rfl
end
end Go.Ab
namespace Go.Ab
open Go
theorem Az8 {S E:Type} (F:Be->Be->Option Int) (l:List Ba) (g:∀y∈l,∀x,F y.Lin x=some (Gq y.Lin x)) {x:Ba} {j:Nat} (hx:l[j]? = some x) (i:l.length<4611686018427387904) (c b:Option (S⊕E)) :
  (bif decide ((j:Int)>0) then ((Ag l (Ac ((j:Int)-1))).bind fun f=>(F f.Lin x.Lin).bind fun v28=>bif decide (v28>=0) then c else b) else b)=bif Rv l x j then b else c:=by
 have hj:=Eo hx
 unfold Rv
 by_cases h:j=0
 .subst h; rfl
 .rw [Am (by omega)]
  have e:Ac ((j:Int)-1)=((j-1:Nat):Int):=by rw [Ac,Bs] <;> omega
  have hy:l[j-1]? = some l[j-1]:=B0 (by omega)
  rw [e,Bw rfl hy,hy]
  have h0:(j==0)=false:=by simpa using h
  simp only [cond_true,Ad,h0,Bool.false_or,g _ (List.getElem_mem (by omega:j-1<l.length))]
  by_cases hc:Gq l[j-1].Lin x.Lin<0
  .rw [Ar (by omega),Am hc]; rfl
  .rw [Am (by omega),Ar hc]; rfl
section
variable {b1:List (ByteArray×Int)} (b2:List (ByteArray×List Dl)) {data:List Ap} {vars:List Ah} {res:Ah}
def Xt (data:List Ap) (vars:List Ah) (res:Ah) (l:List Cg) (f:Cg) (j:Nat):Bool:=!(F7 data vars res f==0)&&Ru (·.Var) l f j
def Pg (l:List Ba) (a:Ba) (j:Nat):Bool:=!(a.Deg==0)&&Cz a.Lin && !(a.Lin.Terms.length==0)&&Rv l a j
theorem Az9 (m:A8):Iw data vars res m=(Nu data vars res m&&decide (Gr data vars res m.Factors+Cv m.Atoms<=6)&&m.Factors.zipIdx.all (fun q=>Xt data vars res m.Factors q.1 q.2)&&m.Atoms.zipIdx.all (fun q=>Pg m.Atoms q.1 q.2)):=by
 rw [Bool.eq_iff_iff]
 unfold Iw Nu
 rw [<-Abf m.Factors (fun f=>decide (0<=F7 data vars res f)),<-Abf m.Atoms (fun a=>decide (0<=a.Deg)&&Dm vars res a.Lin)]
 simp only [Cu,List.all_eq_true,Xs,Lb,Xt,Pg,decide_eq_true_eq,Bool.not_eq_true',beq_eq_false_iff_ne,ne_eq]
 constructor
 .rintro ⟨⟨h1,h2⟩,h3⟩
  refine ⟨⟨⟨⟨fun q hq=>?_,fun q hq=>?_⟩,h3⟩,fun q hq=>?_⟩,fun q hq=>?_⟩
  .have:=(h1 q hq).1; omega
  .have:=h2 q hq; exact ⟨by omega,this.1.2⟩
  .have:=h1 q hq; exact ⟨by omega,this.2⟩
  .have:=h2 q hq; exact ⟨⟨⟨by omega,this.1.1.1.2⟩,this.1.1.2⟩,this.2⟩
 .rintro ⟨⟨⟨⟨h1,h2⟩,h3⟩,c⟩,b⟩
  refine ⟨⟨fun q hq=>?_,fun q hq=>?_⟩,h3⟩
  .have:=h1 q hq; have g:=c q hq; exact ⟨by omega,g.2⟩
  .have:=h2 q hq; have g:=b q hq; exact ⟨⟨⟨⟨by omega,g.1.1.2⟩,g.1.2⟩,this.2⟩,g.2⟩
theorem A0a (hc:Ul data vars res) (hm:Fw data vars res b1) (m:A8) (i:MSz m) :
  ∃u,Tb m b1 b2 data vars res.Kind res.Num res.Args=some (Iw data vars res m,u)/\Fw data vars res u:=by
 have hf:=i.nf
 have ha:=i.na
 rw [Az9]
 unfold Tb
 obtain ⟨b,p1,Y⟩:=Az4 b2 hc hm m i
 rw [p1]
 cases hp:Nu data vars res m with
 | false=>exact ⟨b,rfl,Y⟩
 | true=>
  obtain ⟨q,q1,q2,X⟩:=Az7 b2 hc Y m i hp
  simp only [Ad,Dt,cond_false,q1,q2]
  cases hs:decide (Gr data vars res m.Factors+Cv m.Atoms<=6) with
  | false=>exact ⟨q.2,rfl,X⟩
  | true=>
   simp only [Dt,cond_false,Bool.true_and]
   have N:∀f∈m.Factors,(D2 vars res f.Var).isSome=true:=by
    intro f c
    unfold Nu at hp
    rw [Cu,List.all_eq_true] at hp
    have hd:=hp.1 f c
    rw [decide_eq_true_eq] at hd
    unfold F7 at hd
    cases ht:D2 vars res f.Var with
    | none=>rw [ht] at hd; have hd:(0:Int)<=-1:=hd; omega
    | some t=>rfl
   obtain ⟨r,Z,V⟩:=Afw (M:=List (ByteArray×Int)) (R:=Bool×List (ByteArray×Int)) m.Factors (fun q=>Xt data vars res m.Factors q.1 q.2) (fun j o=>((j:Int),o)) (Fw data vars res)
    (fun r=>Fw data vars res r.2/\r.1=m.Atoms.zipIdx.all (fun q=>Pg m.Atoms q.1 q.2)) (fun r=>Fw data vars res r.2/\r.1=false) q.2
    (s0:=((0:Int),q.2))
    (step:=(fun (v9,l)=>
     bif (decide (v9<(m.Factors.length:Int))) then (
     (Ag m.Factors v9).bind fun v11=>
     (Mq v11.Var v11.Index l b2 data vars res.Kind res.Num res.Args).bind fun g=>
     bif (g.1==(0:Int)) then some (.inr (.inl (false,g.2)))
     else (
     bif (decide (v9>(0:Int))) then (
     (Ag m.Factors (Ac (v9-1))).bind fun B=>
     bif (decide (B.Var>=v11.Var)) then some (.inr (.inl (false,g.2)))
     else some (.inl ((Ac (v9+1)),g.2)))
     else some (.inl ((Ac (v9+1)),g.2))))
     else some (.inr (.inr l)):Int×List (ByteArray×Int)->Option ((Int×List (ByteArray×Int))⊕((Bool×List (ByteArray×Int))⊕List (ByteArray×Int)))))
    (J:=(fun z=>match z with
     | .inl (L,I)=>some (L,I)
     | .inr k=>(Al (S:=Int) (E:=((Bool×(List (ByteArray×Int)))⊕Unit)) (fun v22=>
       bif (decide (v22<(m.Atoms.length:Int))) then (
       (Ag m.Atoms v22).bind fun v23=>
       (show Option Bool from
       bif (v23.Deg==(0:Int)) then some true
       else (
       (I2 v23.Lin).bind fun v25=>
       bif (!v25) then some true
       else some ((v23.Lin.Terms.length:Int)==(0:Int)))).bind fun v26=>
       bif v26 then some (.inr (.inl (false,k)))
       else (
       bif (decide (v22>(0:Int))) then (
       (Ag m.Atoms (Ac (v22-1))).bind fun A=>
       (K6 A.Lin v23.Lin).bind fun v28=>
       bif (decide (v28>=(0:Int))) then some (.inr (.inl (false,k)))
       else some (.inl (Ac (v22+1))))
       else some (.inl (Ac (v22+1)))))
       else some (.inr (.inr ()))) 0).bind fun z=>match z with
        | .inl (G,D)=>some (G,D)
        | .inr _=>some (true,k)))
    rfl X (by omega) (by
     intro j f o U hx _ h1 h2 h3
     have c:=B7 hx
     obtain ⟨u,d1,d2⟩:=Agv b2 hc U f (i.fr f c).2 (i.fr f c).1 (i.fi f c) (N f c)
     simp only [h1,h2,h3,cond_true,Ad,d1,Aor (·.Var) m.Factors hx (by omega),Xt]
     cases (F7 data vars res f==0) with
     | true=>exact ⟨(fun h=>by cases h),fun _=>⟨_,rfl,_,rfl,d2,rfl⟩⟩
     | false=>
      cases Ru (·.Var) m.Factors f j with
      | true=>exact ⟨fun _=>⟨u,rfl,d2⟩,fun h=>by cases h⟩
      | false=>exact ⟨(fun h=>by cases h),fun _=>⟨_,rfl,_,rfl,d2,rfl⟩⟩) (by
     intro o U h1 _
     refine ⟨.inr o,by simp only [h1]; rfl,?_⟩
     refine ⟨(m.Atoms.zipIdx.all (fun q=>Pg m.Atoms q.1 q.2),o),?_,U,rfl⟩
     refine (T9 m.Atoms (fun q=>Pg m.Atoms q.1 q.2) (fun j=>(j:Int)) rfl (by omega) (rt:=(true,o)) (rf:=(false,o)) ?_ ?_).trans (by cases m.Atoms.zipIdx.all (fun q=>Pg m.Atoms q.1 q.2) <;> rfl)
     .intro j a hx _ h1 h2 h3
      have s:((a.Lin.Terms.length:Int)==(0:Int))=(a.Lin.Terms.length==0):=Ank a.Lin.Terms 0
      simp only [h1,h2,h3,cond_true,Ad,L7,Az8 K6 m.Atoms (fun y hy x=>Acb y.Lin x (by have:=i.al y hy; omega)) hx (by omega),Pg,s]
      cases (a.Deg==0) with
      | true=>exact ⟨(fun h=>by cases h),fun _=>⟨_,rfl,rfl⟩⟩
      | false=>
       cases Cz a.Lin with
       | false=>exact ⟨(fun h=>by cases h),fun _=>⟨_,rfl,rfl⟩⟩
       | true=>
        cases (a.Lin.Terms.length==0) with
        | true=>exact ⟨(fun h=>by cases h),fun _=>⟨_,rfl,rfl⟩⟩
        | false=>
         cases Rv m.Atoms a j with
         | true=>exact ⟨fun _=>rfl,fun h=>by cases h⟩
         | false=>exact ⟨(fun h=>by cases h),fun _=>⟨_,rfl,rfl⟩⟩
     .intro h _; exact ⟨.inr (),by simp only [h]; rfl,rfl⟩)
   refine ⟨r.2,?_,?_⟩
   .have e:some r=some (m.Factors.zipIdx.all (fun q=>Xt data vars res m.Factors q.1 q.2)&&m.Atoms.zipIdx.all (fun q=>Pg m.Atoms q.1 q.2),r.2):=by
     rcases V with ⟨h1,h2,h3⟩ | ⟨h1,h2,h3⟩
     .rw [h1,Bool.true_and,<-h3]
     .rw [h1,Bool.false_and,<-h3]
    rw [<-e]
    exact Z
   .rcases V with ⟨h1,h2,h3⟩ | ⟨h1,h2,h3⟩ <;> exact h2
theorem A0b (l:List Cg) (h:∀f∈l,0<=F7 data vars res f):0<=Gr data vars res l:=by
 induction l with
 | nil=>simp [Gr]
 | cons x xs ih=>
  have h1:=h x (by simp)
  have h2:=ih (fun f b=>h f (by simp [b]))
  unfold Gr at *
  simp only [List.map_cons,List.sum_cons]
  omega
theorem Aot (l:List Ba) (h:∀a∈l,0<=a.Deg):0<=Cv l/\((∀a∈l,a.Deg<=6)->Cv l<=6*l.length)/\∀a∈l,a.Deg<=Cv l:=by
 induction l with
 | nil=>simp [Cv]
 | cons x xs ih=>
  have h1:=h x (by simp)
  obtain ⟨i1,i2,i3⟩:=ih (fun f b=>h f (by simp [b]))
  unfold Cv at *
  simp only [List.map_cons,List.sum_cons,List.length_cons]
  refine ⟨by omega,fun g=>?_,fun a ha=>?_⟩
  .have:=g x (by simp)
   have:=i2 (fun a ha=>g a (by simp [ha]))
   omega
  .rcases List.mem_cons.1 ha with rfl | ha
   .omega
   .have:=i3 a ha; omega
end
end Go.Ab
namespace Go.Ab
open Go
theorem A0c {α:Type} [DecidableEq α] (l m:List α) (b:l.length=m.length):(decide (l=m))=l.zipIdx.all (fun q=>decide (m[q.2]? = some q.1)):=by
 rw [Bool.eq_iff_iff,decide_eq_true_eq]
 constructor
 .rintro rfl
  exact Afu fun j x hx=>by simpa using hx
 .intro h
  apply List.ext_getElem?
  intro j
  cases hx:l[j]? with
  | none=>rw [List.getElem?_eq_none_iff] at hx; rw [List.getElem?_eq_none (by omega)]
  | some x=>have:=Hx h hx; rw [decide_eq_true_eq] at this; rw [this]
theorem A0d {R:Type} (l m:List Int) (b:l.length<1099511627776) (h:l.length=m.length) {J:Bool⊕Unit->Option R} {rt rf:R} (h1:J (.inl false)=some rf) (h2:J (.inr ())=some rt) :
  (Al (S:=Int) (E:=(Bool⊕Unit)) (fun v3=>bif (decide (v3<(l.length:Int))) then ((Ag l v3).bind fun v4=>(Ag m v3).bind fun v5=>bif (v4 != v5) then some (.inr (.inl false)) else some (.inl (Ac (v3+1)))) else some (.inr (.inr ()))) 0).bind J=some (bif decide (l=m) then rt else rf):=by
 rw [A0c l m h]
 refine T9 l (fun q=>decide (m[q.2]? = some q.1)) (fun j=>(j:Int)) rfl (by omega) (rt:=rt) (rf:=rf) ?_ ?_
 .intro j x hx _ g1 g2 g3
  have hj:j<m.length:=by have:=Eo hx; omega
  have hy:m[j]? = some m[j]:=B0 hj
  generalize m[j]=y at hy
  simp only [g1,g2,g3,cond_true,Ad,Bw rfl hy,hy,Option.some.injEq]
  by_cases e:x=y
  .rw [Fp e,Am e.symm]
   exact ⟨fun _=>rfl,fun h=>by cases h⟩
  .rw [Em e,Ar (fun h=>e h.symm)]
   exact ⟨(fun h=>by cases h),fun _=>⟨.inl false,rfl,h1⟩⟩
 .intro h _; exact ⟨.inr (),by simp only [h]; rfl,h2⟩
theorem Aou (l m:List Int) (b:l.length<1099511627776):Mn l m=some (decide (l=m)):=by
 unfold Mn
 by_cases h:l.length=m.length
 .rw [Fp (by omega)]
  simp only [cond_false]
  refine (A0d l m b h (rt:=true) (rf:=false) ?_ ?_).trans (by rw [Xa]) <;> rfl
 .rw [Em (by omega),Ar (fun e=>h (by rw [e]))]; rfl
def Um (a b:Ak):Bool:=a.Neg==b.Neg&&decide (a.Num=b.Num)&&decide (a.Den=b.Den)
theorem Aov (a b:Ak):Um a b=true↔a=b:=by
 unfold Um
 simp only [Cu,beq_iff_eq,decide_eq_true_eq]
 constructor
 .rintro ⟨⟨h1,h2⟩,h3⟩; cases a; cases b; simp_all
 .rintro rfl; simp
def Xu (c:Ak):Bool:=Um (Bq (sv c) (nv c) (dv c)) c && !(nv c==0)
structure TSz (t:Aj):Prop where
 co:RB 1048576 t.Coef
 mo:MSz t.Mono
def Rw (l:List Aj) (x:Aj) (j:Nat):Bool:=j==0||(match l[j-1]? with | some y=>decide (C9 y.Mono x.Mono<0) | none=>false)
def Un (data:List Ap) (vars:List Ah) (res:Ah) (l:List Aj) (t:Aj) (j:Nat):Bool:=Xu t.Coef&&Iw data vars res t.Mono&&Rw l t j
def Hh (data:List Ap) (vars:List Ah) (res:Ah) (p:List Aj):Bool:=decide (p.length<=1000)&&p.zipIdx.all (fun q=>Un data vars res p q.1 q.2)
theorem A0e {S E:Type} (F:A8->A8->Option Int) (l:List Aj) (g:∀y∈l,∀x,F y.Mono x=some (C9 y.Mono x)) {x:Aj} {j:Nat} (hx:l[j]? = some x) (i:l.length<4611686018427387904) (c b:Option (S⊕E)) :
  (bif decide ((j:Int)>0) then ((Ag l (Ac ((j:Int)-1))).bind fun f=>(F f.Mono x.Mono).bind fun v28=>bif decide (v28>=0) then c else b) else b)=bif Rw l x j then b else c:=by
 have hj:=Eo hx
 unfold Rw
 by_cases h:j=0
 .subst h; rfl
 .rw [Am (by omega)]
  have e:Ac ((j:Int)-1)=((j-1:Nat):Int):=by rw [Ac,Bs] <;> omega
  have hy:l[j-1]? = some l[j-1]:=B0 (by omega)
  rw [e,Bw rfl hy,hy]
  have h0:(j==0)=false:=by simpa using h
  simp only [cond_true,Ad,h0,Bool.false_or,g _ (List.getElem_mem (by omega:j-1<l.length))]
  by_cases hc:C9 l[j-1].Mono x.Mono<0
  .rw [Ar (by omega),Am hc]; rfl
  .rw [Am (by omega),Ar hc]; rfl
theorem A0f (s:Bool) (n:Nat):(Ic s n==0)=(n==0):=by
 unfold Ic
 by_cases h:n=0
 .rw [if_pos h]; subst h; rfl
 .rw [if_neg h]
  have:(n==0)=false:=by simpa using h
  rw [this]; cases s <;> rfl
theorem Aow {data:List Ap} {vars:List Ah} {res:Ah} (hc:Ul data vars res) {b1:List (ByteArray×Int)} (b2:List (ByteArray×List Dl)) (V:Fw data vars res b1) (p:List Aj) (U:∀t∈p,TSz t) :
  ∃B,Vq p b1 b2 data vars res.Kind res.Num res.Args=some (Hh data vars res p,B)/\Fw data vars res B:=by
 unfold Vq Hh
 by_cases A:p.length<=1000
 .rw [Ar (by omega),Am A,Bool.true_and]
  simp only [cond_false]
  obtain ⟨r,X,S⟩:=Afw (M:=List (ByteArray×Int)) (R:=Bool×List (ByteArray×Int)) p (fun q=>Un data vars res p q.1 q.2) (fun j o=>((j:Int),o)) (Fw data vars res)
   (fun r=>Fw data vars res r.2/\r.1=true) (fun r=>Fw data vars res r.2/\r.1=false) b1
   (s0:=((0:Int),b1))
   (step:=(fun (b,g)=>
    bif (decide (b<(p.length:Int))) then (
    (Ag p b).bind fun v12=>
    (Nh v12.Coef).bind fun f=>
    (show Option Bool from
    bif (f.Neg==v12.Coef.Neg) then (
    (Mn f.Num v12.Coef.Num).bind fun i=>
    bif i then (
    (Mn f.Den v12.Coef.Den).bind fun v17=>
    some v17)
    else some false)
    else some false).bind fun E=>
    bif (!E) then some (.inr (.inl (false,g)))
    else (
    (He f).bind fun D=>
    bif (D==(0:Int)) then some (.inr (.inl (false,g)))
    else (
    (Tb v12.Mono g b2 data vars res.Kind res.Num res.Args).bind fun v20=>
    bif (!v20.1) then some (.inr (.inl (false,v20.2)))
    else (
    bif (decide (b>(0:Int))) then (
    (Ag p (Ac (b-1))).bind fun v21=>
    (Oh v21.Mono v12.Mono).bind fun v22=>
    bif (decide (v22>=(0:Int))) then some (.inr (.inl (false,v20.2)))
    else some (.inl ((Ac (b+1)),v20.2)))
    else some (.inl ((Ac (b+1)),v20.2))))))
    else some (.inr (.inr g)):Int×List (ByteArray×Int)->Option ((Int×List (ByteArray×Int))⊕((Bool×List (ByteArray×Int))⊕List (ByteArray×Int)))))
   (J:=(fun z=>match z with
    | .inl (I,G)=>some (I,G)
    | .inr L=>some (true,L)))
   rfl V (by omega) (by
    intro j t o u hx _ h1 h2 h3
    have c:=U t (B7 hx)
    obtain ⟨B,d1,d2⟩:=A0a b2 hc u t.Mono c.mo
    have s:∀l:List Int,l=(Bq (sv t.Coef) (nv t.Coef) (dv t.Coef)).Num\/l=(Bq (sv t.Coef) (nv t.Coef) (dv t.Coef)).Den->l.length<1099511627776:=by
     intro l A
     have q:=K9 (sv t.Coef) (nv t.Coef) (dv t.Coef) 1048577 c.co.nv c.co.dv (by omega)
     have:=q.nl
     have:=q.dl
     rcases A with rfl | rfl <;> omega
    have k:(bif ((Bq (sv t.Coef) (nv t.Coef) (dv t.Coef)).Neg==t.Coef.Neg) then ((Mn (Bq (sv t.Coef) (nv t.Coef) (dv t.Coef)).Num t.Coef.Num).bind fun i=>bif i then ((Mn (Bq (sv t.Coef) (nv t.Coef) (dv t.Coef)).Den t.Coef.Den).bind fun v17=>some v17) else some false) else some false)=some (Um (Bq (sv t.Coef) (nv t.Coef) (dv t.Coef)) t.Coef):=by
     unfold Um
     rw [Aou _ _ (s _ (.inl rfl)),Aou _ _ (s _ (.inr rfl))]
     cases ((Bq (sv t.Coef) (nv t.Coef) (dv t.Coef)).Neg==t.Coef.Neg) <;> cases decide ((Bq (sv t.Coef) (nv t.Coef) (dv t.Coef)).Num=t.Coef.Num) <;> rfl
    simp only [h1,h2,h3,cond_true,Ad,Af2 t.Coef 1048576 c.co (by omega),k,A0e Oh p (fun y hy x=>Aop y.Mono x (U y hy).mo) hx (by omega),Un,Xu]
    cases N:Um (Bq (sv t.Coef) (nv t.Coef) (dv t.Coef)) t.Coef with
    | false=>exact ⟨(fun h=>by cases h),fun _=>⟨_,rfl,_,rfl,u,rfl⟩⟩
    | true=>
     have e:=(Aov _ _).1 N
     simp only [Dt,cond_false,Bool.true_and]
     rw [e,Abl t.Coef 1048576 c.co (by omega),Ad,A0f]
     cases (nv t.Coef==0) with
     | true=>exact ⟨(fun h=>by cases h),fun _=>⟨_,rfl,_,rfl,u,rfl⟩⟩
     | false=>
      simp only [cond_false,d1,Ad,Bool.not_false,Bool.true_and]
      cases Iw data vars res t.Mono with
      | false=>exact ⟨(fun h=>by cases h),fun _=>⟨_,rfl,_,rfl,d2,rfl⟩⟩
      | true=>
       cases Rw p t j with
       | true=>exact ⟨fun _=>⟨B,rfl,d2⟩,fun h=>by cases h⟩
       | false=>exact ⟨(fun h=>by cases h),fun _=>⟨_,rfl,_,rfl,d2,rfl⟩⟩) (by
    intro o u h1 _
    exact ⟨.inr o,by simp only [h1]; rfl,_,rfl,u,rfl⟩)
  refine ⟨r.2,?_,?_⟩
  .have e:some r=some (p.zipIdx.all (fun q=>Un data vars res p q.1 q.2),r.2):=by
    rcases S with ⟨h1,h2,h3⟩ | ⟨h1,h2,h3⟩
    .rw [h1,<-h3]
    .rw [h1,<-h3]
   rw [<-e]
   exact X
  .rcases S with ⟨h1,h2,h3⟩ | ⟨h1,h2,h3⟩ <;> exact h2
 .rw [Am (by omega),Ar A]
  exact ⟨b1,rfl,V⟩
structure CSz (x:Bo):Prop where
 ds:DSz x.Data
 nv:x.Vars.length<=1048576
 vs:∀t∈x.Vars,Bx t<=1048576
 rs:Bx x.Res<=1048576
def Gg (data:List Ap) (t:Ah):Bool:=Du data 0 t&&decide (Bx t<=200)
def D9 (x:Bo):Prop:=x.Vars.length<=3000/\Ig x.Data/\Gg x.Data x.Res=true/\x.Vars.all (Gg x.Data)=true
theorem D9.ctx {x:Bo} (h:D9 x) (b:CSz x):Ul x.Data x.Vars x.Res:=by
 refine ⟨h.2.1,b.ds.sz.short,fun v t ht=>?_,h.1⟩
 have good:∀t,Gg x.Data t=true->Bx t<=200:=fun t h=>by
  simp only [Gg,Cu,decide_eq_true_eq] at h; exact h.2
 unfold D2 at ht
 by_cases hv:v = -1
 .rw [if_pos hv] at ht; cases ht; exact good _ h.2.2.1
 .rw [if_neg hv] at ht
  exact good t (List.all_eq_true.1 h.2.2.2 t (F5 ht).2.2.2)
theorem Agw (x:Bo) (g:CSz x) (p:List Aj) (hp:∀t∈p,TSz t):∃b,Oe x p=some b/\(b=true↔D9 x/\Hh x.Data x.Vars x.Res p=true):=by
 obtain ⟨b,b1,b2⟩:=Abx g.ds
 have G:=g.nv
 have E:=g.rs
 unfold Oe Ju
 rw [b1,Rq x.Data x.Res 0 (by omega)]
 by_cases y:x.Vars.length<=3000
 .rw [Ar (by omega)]
  simp only [cond_false,Ad]
  cases b with
  | false=>exact ⟨false,rfl,by simp; intro h; have:=b2.2 h.2.1; cases this⟩
  | true=>
   have hv:=b2.1 rfl
   simp only [Dt,cond_false]
   cases s:(Du x.Data 0 x.Res&&decide (Bx x.Res<=200)) with
   | false=>exact ⟨false,rfl,by simp; intro h; have:=h.2.2.1; rw [show Gg x.Data x.Res=false from s] at this; cases this⟩
   | true=>
    simp only [Dt,cond_false,Ad]
    rw [Option.bind_assoc]
    refine Ef (fun i=>∃j:Nat,i=j/\j<=x.Vars.length/\(x.Vars.take j).all (Gg x.Data)=true) (fun i=>x.Vars.length-i.toNat)
     (fun z=>match z with | .inl r=>r=false/\¬D9 x | .inr _=>D9 x) ⟨0,rfl,by omega,by simp⟩ ?_ ?_
    .rintro i ⟨j,rfl,hj,c⟩
     rcases Nat.lt_or_ge j x.Vars.length with h | h
     .have ht:x.Vars[j]? = some x.Vars[j]:=B0 h
      generalize x.Vars[j]=t at ht
      have:=g.vs t (B7 ht)
      simp only [Am (by omega:(j:Int)<(x.Vars.length:Int)),cond_true,Bw rfl ht,Ad,Rq x.Data t 0 (by omega),C8 h (by omega)]
      rw [show (Du x.Data 0 t&&decide (Bx t<=200))=Gg x.Data t from rfl]
      cases A:Gg x.Data t with
      | true=>exact .inl ⟨_,rfl,⟨j+1,rfl,by omega,by rw [C5 ht,List.all_append,c]; simp [A]⟩,by simp; omega⟩
      | false=>
       refine .inr ⟨.inl false,rfl,rfl,fun hh=>?_⟩
       have:=List.all_eq_true.1 hh.2.2.2 t (B7 ht)
       rw [A] at this; cases this
     .have:j=x.Vars.length:=by omega
      subst this
      rw [List.take_length] at c
      exact .inr ⟨.inr (),by simp,y,hv,s,c⟩
    .rintro (r | u) f
     .obtain ⟨rfl,f⟩:=f
      exact ⟨false,rfl,by simp [f]⟩
     .have B:D9 x:=f
      have I:Fw x.Data x.Vars x.Res []:=fun q h=>by cases h
      obtain ⟨D,l,J⟩:=Aow (B.ctx g) [] I p hp
      cases k:Hh x.Data x.Vars x.Res p with
      | true=>
       rw [k] at l
       refine ⟨true,?_,by simp [B]⟩
       simp only
       rw [Option.bind_assoc]
       refine Hn 1 (fun j=>match j with | 0=>((0:Int),[]) | _=>((1:Int),D)) rfl ?_ ⟨.inr D,rfl,rfl⟩
       intro j hj
       match j,hj with
       | 0,_=>
        show (bif decide ((0:Int)<1) then _ else _)=_
        simp only [Am (by omega:(0:Int)<1),cond_true]
        rw [show Ag [p] 0=some p from rfl,Ad,l]; rfl
      | false=>
       rw [k] at l
       refine ⟨false,?_,by simp⟩
       simp only
       rw [Option.bind_assoc]
       refine Hn 0 (fun _=>((0:Int),[])) rfl (fun j hj=>by omega) ⟨.inl false,?_,rfl⟩
       show (bif decide ((0:Int)<1) then _ else _)=_
       simp only [Am (by omega:(0:Int)<1),cond_true]
       rw [show Ag [p] 0=some p from rfl,Ad,l]; rfl
 .rw [Am (by omega)]
  exact ⟨false,rfl,by simp; intro h; exact absurd h.1 y⟩
end Go.Ab
namespace Go.Ab
open Go
mutual
def C6:Ay->Nat
 | ⟨_,_,l⟩=>1+Dv l
def Dv:List Ay->Nat
 | []=>0
 | x::xs=>C6 x+Dv xs
end
theorem L8 (t:Ay):C6 t=1+Dv t.Kids:=by cases t; simp only [C6]
theorem Xv (t:Ay):1<=C6 t:=by rw [L8]; omega
theorem L9 {l:List Ay} {a:Ay} (h:a∈l):C6 a<=Dv l:=by
 induction l with
 | nil=>cases h
 | cons x xs ih=>
  simp only [Dv]
  rcases List.mem_cons.1 h with rfl | h
  .omega
  .have:=ih h; omega
theorem Xw (l:List Ay):l.length<=Dv l:=by
 induction l with
 | nil=>simp
 | cons x xs ih=>simp only [Dv,List.length_cons]; have:=Xv x; omega
theorem Aox (l m:List Ay):Dv (l++m)=Dv l+Dv m:=by
 induction l with
 | nil=>simp [Dv]
 | cons x xs ih=>simp only [List.cons_append,Dv,ih]; omega
theorem Aoy {l:List Ay} {j:Nat} {x:Ay} (h:l[j]? = some x):Dv (l.take (j+1))=Dv (l.take j)+C6 x:=by
 rw [C5 h,Aox]; simp [Dv]
theorem Aoz (l:List Ay) (j:Nat):Dv (l.take j)<=Dv l:=by
 have:=Aox (l.take j) (l.drop j)
 rw [List.take_append_drop] at this; omega
theorem A0g (k:Nat) (l:List Ay) (c:Nat) (L:l.length<1099511627776) (B:c<=5000)
  (ih:∀(a:Ay),a∈l->∀f:Nat,f<=c->∃q:Int,Ml k a f=some (decide (C6 a<=f),q)/\(C6 a<=f->q=(f:Int)-C6 a)) :
  ∃p:Int×Int,Tl (k+2) l c=some p/\(Dv l<=c->p.1 = -1/\p.2=(c:Int)-Dv l)/\(¬Dv l<=c->0<=p.1):=by
 rw [Tl]
 refine Ef
  (fun (v3,v4)=>∃j:Nat,v3=j/\j<=l.length/\Dv (l.take j)<=c/\v4=(c:Int)-Dv (l.take j))
  (fun (v3,_)=>l.length-v3.toNat)
  (fun z=>match z with | .inl (i,_)=>0<=i/\¬Dv l<=c | .inr v4=>Dv l<=c/\v4=(c:Int)-Dv l)
  ⟨0,rfl,by omega,by simp [Dv],by simp [Dv]⟩ ?_ ?_
 .rintro ⟨v3,v4⟩ ⟨j,rfl,hj,y,D⟩
  have D:v4=_:=D
  subst D
  rcases Nat.lt_or_ge j l.length with h | h
  .have hx:l[j]? = some l[j]:=B0 h
   generalize l[j]=x at hx
   obtain ⟨g,A,s⟩:∃g:Nat,(c:Int)-Dv (l.take j)=g/\g<=c:=⟨c-Dv (l.take j),by omega,by omega⟩
   obtain ⟨q,J,I⟩:=ih x (B7 hx) g s
   have E:=Aoy hx
   have G:=Aoz l (j+1)
   simp only [Am (by omega:(j:Int)<(l.length:Int)),cond_true,Bw rfl hx,Ad,V8,A,J,C8 h (by omega)]
   by_cases hb:C6 x<=g
   .rw [Am hb]
    have M:=I hb
    exact .inl ⟨_,rfl,⟨j+1,rfl,by omega,by omega,by show q=_; omega⟩,by simp; omega⟩
   .rw [Ar hb]
    exact .inr ⟨.inl ((j:Int),q),rfl,by omega,by omega⟩
  .have:j=l.length:=by omega
   subst this
   rw [List.take_length] at *
   exact .inr ⟨.inr ((c:Int)-Dv l),by simp,y,rfl⟩
 .rintro (⟨i,b⟩ | v4) u
  .exact ⟨(i,b),rfl,fun h=>absurd h u.2,fun _=>u.1⟩
  .exact ⟨(-1,v4),rfl,fun _=>⟨rfl,u.2⟩,fun h=>absurd u.1 h⟩
theorem A0h:∀(left:Nat) (t:Ay) (k:Nat),left<=5000->4*left+4<=k->C6 t<1099511627776->∃c:Int,Ml k t left=some (decide (C6 t<=left),c)/\(C6 t<=left->c=(left:Int)-C6 t):=by
 intro left
 induction left using Nat.strongRecOn with
 | _ left l=>
  intro t k y hk ht
  have hp:=Xv t
  have s:=L8 t
  have q:=Xw t.Kids
  obtain ⟨j,rfl⟩:∃j,k=j+1:=⟨k-1,by omega⟩
  cases left with
  | zero=>
   refine ⟨-1,?_,fun h=>by omega⟩
   rw [Ml,Ar (by omega:¬C6 t<=0)]
   rfl
  | succ f=>
   have x:Ac (((f+1:Nat):Int)-1)=(f:Int):=by rw [Ac,Bs] <;> omega
   obtain ⟨g,rfl⟩:∃g,j=g+3:=⟨j-3,by omega⟩
   obtain ⟨⟨i,c⟩,h1,h2,h3⟩:=A0g g t.Kids f (by omega) (by omega) (fun a ha b u=>by
    have:=L9 ha
    exact l b (by omega) a g (by omega) (by omega) (by omega))
   rw [Ml,x,Ar (by omega)]
   simp only [cond_false,V7,h1,Ad]
   by_cases hb:Dv t.Kids<=f
   .obtain ⟨a1,a2⟩:=h2 hb
    simp only at a1 a2
    refine ⟨c,?_,fun _=>by omega⟩
    rw [Ar (by omega),Am (by omega)]; rfl
   .have a1:=h3 hb
    simp only at a1
    refine ⟨c,?_,fun h=>by omega⟩
    rw [Am (by omega),Ar (by omega)]; rfl
mutual
def Fr (data:List Ap):Ay->Ah->Bool
 | ⟨k,n,kids⟩,t=>
  if t.Kind=1 then k==3&&decide (-1099511627776<=n)&&decide (n<=1099511627776)&&kids.length==0
  else if t.Kind=2 then k==2&&(n==0||n==1)&&kids.length==0
  else if t.Kind=3 then k==1&&n==0&&kids.length==0
  else if t.Kind=6 then k==4&&n==0&&Jo data kids t.Args
  else if t.Kind=5 then k==5&&decide (0<=n)&&decide (n<8)&&(match Ih data t n with | some l=>Jo data kids l | none=>false)
  else if t.Kind=7 then k==6&&n==0&&decide (kids.length<=4096)&&(match t.Args with | u::_=>Rx data kids u | []=>false)
  else if t.Kind=8 then k==7&&n==0&&Jo data kids t.Args
  else k==8&&decide (0<=n)&&decide (n<64)&&kids.length==0
def Jo (data:List Ap):List Ay->List Ah->Bool
 | [],[]=>true
 | x::xs,t::ts=>Fr data x t&&Jo data xs ts
 | [],_::_=>false
 | _::_,[]=>false
def Rx (data:List Ap):List Ay->Ah->Bool
 | [],_=>true
 | x::xs,t=>Fr data x t&&Rx data xs t
end
theorem Uo (data:List Ap) (v:Ay) (t:Ah):Fr data v t =
  if t.Kind=1 then v.Kind==3&&decide (-1099511627776<=v.Num)&&decide (v.Num<=1099511627776)&&v.Kids.length==0
  else if t.Kind=2 then v.Kind==2&&(v.Num==0||v.Num==1)&&v.Kids.length==0
  else if t.Kind=3 then v.Kind==1&&v.Num==0&&v.Kids.length==0
  else if t.Kind=6 then v.Kind==4&&v.Num==0&&Jo data v.Kids t.Args
  else if t.Kind=5 then v.Kind==5&&decide (0<=v.Num)&&decide (v.Num<8)&&(match Ih data t v.Num with | some l=>Jo data v.Kids l | none=>false)
  else if t.Kind=7 then v.Kind==6&&v.Num==0&&decide (v.Kids.length<=4096)&&(match t.Args with | u::_=>Rx data v.Kids u | []=>false)
  else if t.Kind=8 then v.Kind==7&&v.Num==0&&Jo data v.Kids t.Args
  else v.Kind==8&&decide (0<=v.Num)&&decide (v.Num<64)&&v.Kids.length==0:=by cases v; simp only [Fr]
theorem A0i (data:List Ap) (l:List Ay) (t:Ah):Rx data l t=l.all (Fr data · t):=by
 induction l with
 | nil=>rfl
 | cons x xs ih=>simp only [Rx,ih,List.all_cons]
theorem Xx (data:List Ap):∀(l:List Ay) (ts:List Ah),l.length≠ts.length->Jo data l ts=false
 | [],[],h=>absurd rfl h
 | x::xs,t::ts,h=>by simp only [Jo,Xx data xs ts (by simpa using h),Bool.and_false]
 | [],_::_,_=>by simp only [Jo]
 | _::_,[],_=>by simp only [Jo]
theorem Xy (data:List Ap):∀(l:List Ay) (ts:List Ah),l.length=ts.length->Jo data l ts=(l.zip ts).all (fun q=>Fr data q.1 q.2)
 | [],[],_=>rfl
 | x::xs,t::ts,h=>by simp only [Jo,List.zip_cons_cons,List.all_cons,Xy data xs ts (by simpa using h)]
 | [],_::_,h=>by simp at h
 | _::_,[],h=>by simp at h
mutual
theorem Agx (data:List Ap) (d:Nat) (v:Int):∀t,Du (data.take d) v t=true->Du data v t=true
 | ⟨k,n,l⟩,h=>by
  simp only [Du,Cu] at h ⊢
  refine ⟨?_,Ao0 data d v l h.2⟩
  have h1:=h.1
  unfold Jm at h1 ⊢
  by_cases hk:k=5
  .subst hk
   simp only [List.getElem?_take] at h1 ⊢
   by_cases hd:n.toNat<d
   .simpa [hd] using h1
   .simp [hd] at h1
  .simp only [hk,if_false] at h1 ⊢
   exact h1
theorem Ao0 (data:List Ap) (d:Nat) (v:Int):∀l,Ep (data.take d) v l=true->Ep data v l=true
 | [],_=>rfl
 | x::xs,h=>by
  simp only [Ep,Cu] at h ⊢
  exact ⟨Agx data d v x h.1,Ao0 data d v xs h.2⟩
end
mutual
theorem Ao1 (data:List Ap) (v:Int) (σ:List Ah) (hσ:∀s∈σ,Du data 0 s=true) (hv:(σ.length:Int)=v):∀t,Du data v t=true->Du data 0 (De σ t)=true
 | ⟨k,n,l⟩,h=>by
  simp only [Du,Cu] at h
  cases hV:isV σ k n with
  | true=>
   obtain ⟨s,h1,_,h3⟩:=Aby hV
   rw [Xm (t:=⟨k,n,l⟩) hV h1]
   exact hσ s h3
  | false=>
   rw [Abz (t:=⟨k,n,l⟩) hV,<-Agh]
   simp only [Du,Cu]
   refine ⟨?_,Ao2 data v σ hσ hv l h.2⟩
   rw [Agh,List.length_map]
   have h1:=h.1
   unfold Jm at h1 ⊢
   by_cases hk:k=4
   .exfalso
    subst hk
    simp at h1
    unfold isV at hV
    rw [Am h1.1.1,Am (by omega)] at hV
    cases hV
   .simp only [hk,if_false] at h1 ⊢
    exact h1
theorem Ao2 (data:List Ap) (v:Int) (σ:List Ah) (hσ:∀s∈σ,Du data 0 s=true) (hv:(σ.length:Int)=v):∀l,Ep data v l=true->Ep data 0 (L3 σ l)=true
 | [],_=>rfl
 | x::xs,h=>by
  simp only [Ep,Cu] at h
  simp only [L3,Ep,Cu]
  exact ⟨Ao1 data v σ hσ hv x h.1,Ao2 data v σ hσ hv xs h.2⟩
end
theorem Ao3 {data:List Ap} {t:Ah} (h:Du data 0 t=true):∀a∈t.Args,Du data 0 a=true:=by
 rw [Xf,Cu,Anp,List.all_eq_true] at h
 exact h.2
theorem A0j {data:List Ap} (hv:Ig data) {t:Ah} (ht:Du data 0 t=true) {c:Int} {l:List Ah} (h:Ih data t c=some l):∀a∈l,Du data 0 a=true/\Bx a<=200:=by
 obtain ⟨x,y,hk,hx,g,hy,rfl,f⟩:=Pc h
 intro a ha
 refine ⟨?_,f a ha⟩
 obtain ⟨b,hb,rfl⟩:=List.mem_map.1 ha
 obtain ⟨i0,_,j,_⟩:=F5 hx
 have h1:=hv.2.1 t.Num.toNat x j
 obtain ⟨_,_,k⟩:=h1.2.2.2.2.2 y (F5 hy).2.2.2
 have i:=List.all_eq_true.1 k b hb
 refine Ao1 data x.Vars t.Args (Ao3 ht) g b ?_
 unfold Pb at i
 rw [Bool.or_eq_true] at i
 rcases i with h' | h'
 .exact Agx data _ _ b (Agd j h1.2.1 h').1
 .rw [Cu] at h'
  exact Agx data _ _ b h'.1
theorem A0k {data:List Ap} {t:Ah} (h:Du data 0 t=true):(t.Kind=1\/t.Kind=2\/t.Kind=3\/t.Kind=5\/t.Kind=6\/t.Kind=7\/t.Kind=8\/t.Kind=9)/\(t.Kind=7->t.Args.length=1)/\(t.Kind=8->t.Args.length=1):=by
 rw [Xf,Cu] at h
 have h1:=h.1
 unfold Jm at h1
 by_cases q:t.Kind=1
 .simp [q]
 by_cases l:t.Kind=2
 .simp [l]
 by_cases k:t.Kind=3
 .simp [k]
 by_cases j:t.Kind=4
 .exfalso; simp [j] at h1; omega
 by_cases i:t.Kind=5
 .simp [i]
 by_cases g:t.Kind=6
 .simp [g]
 by_cases f:t.Kind=7
 .simp [f] at h1 ⊢; exact h1.2
 by_cases c:t.Kind=8
 .simp [c] at h1 ⊢; exact h1.2
 by_cases b:t.Kind=9
 .simp [b]
 .simp [q,l,k,j,i,g,f,c,b] at h1
end Go.Ab
namespace Go.Ab
open Go
theorem Acd {α:Type} (l:List α):((l.length:Int)==(0:Int))=(l.length==0):=Ank l 0
def Xz {α β:Type} (m:List β) (p:α×β->Bool) (q:α×Nat):Bool:=match m[q.2]? with | some y=>p (q.1,y) | none=>false
theorem A0l {α β:Type} (l:List α) (m:List β) (p:α×β->Bool) (h:l.length=m.length):(l.zip m).all p=l.zipIdx.all (Xz m p):=by
 rw [Bool.eq_iff_iff]
 constructor
 .intro ha
  refine Afu fun j x hx=>?_
  have hj:=Eo hx
  have hy:m[j]? = some m[j]:=B0 (by omega)
  simp only [Xz,hy]
  refine List.all_eq_true.1 ha _ (B7 (i:=j) ?_)
  rw [List.getElem?_zip_eq_some]; exact ⟨hx,hy⟩
 .intro ha
  rw [List.all_eq_true]
  rintro ⟨x,y⟩ hq
  obtain ⟨j,hj⟩:=List.getElem?_of_mem hq
  rw [List.getElem?_zip_eq_some] at hj
  have:=Hx ha hj.1
  simp only [Xz,hj.2] at this
  exact this
theorem A0m {data:List Ap} (hv:Ig data):∀(n:Nat) (v:Ay) (t:Ah) (k:Nat),C6 v<=n->4*n<=k->n<=5000->Du data 0 t=true->Bx t<=200->Oi k data v t=some (Fr data v t):=by
 intro n
 induction n with
 | zero=>intro v t k h; have:=Xv v; omega
 | succ n ih=>
  intro v t k h hk hn ht D
  have a1:=L8 v
  have a6:=Xw v.Kids
  obtain ⟨k,rfl⟩:∃k',k=k' + 4:=⟨k-4,by omega⟩
  obtain ⟨kd,k7,k8⟩:=A0k ht
  have f:∀ts:List Ah,(∀a∈ts,Du data 0 a=true/\Bx a<=200)->Ok (k+3) data v.Kids ts=some (Jo data v.Kids ts):=by
   intro ts S
   rw [Ok,Wl]
   by_cases V:v.Kids.length=ts.length
   .rw [Fp (by omega),Xy data _ _ V,A0l _ _ _ V]
    simp only [cond_false]
    have key:=T9 v.Kids (Xz ts (fun q=>Fr data q.1 q.2)) (fun j=>(j:Int)) (s0:=(0:Int)) rfl (by omega) (rt:=true) (rf:=false) (J:=fun z:Bool⊕Unit=>match z with | .inl R=>some R | .inr _=>some true)
     (step:=fun E=>bif (decide (E<(v.Kids.length:Int))) then ((Ag v.Kids E).bind fun X=>(Ag ts E).bind fun v9=>(Tm (k+1) X v9 data).bind fun v11=>bif (!v11) then some (.inr (.inl false)) else some (.inl (Ac (E+1)))) else some (.inr (.inr ()))) (by
      intro j x hx _ h1 h2 h3
      have hy:ts[j]? = some (ts[j]'(by have:=Eo hx; omega)):=B0 (by have:=Eo hx; omega)
      generalize ts[j]'(by have:=Eo hx; omega)=y at hy
      have s:=S y (B7 hy)
      have hxm:=L9 (B7 hx)
      simp only [h1,h2,h3,cond_true,Ad,Bw rfl hy,Xz,hy,Tm,ih x y k (by omega) (by omega) (by omega) s.1 s.2]
      cases Fr data x y with
      | true=>exact ⟨fun _=>rfl,fun h=>by cases h⟩
      | false=>exact ⟨(fun h=>by cases h),fun _=>⟨.inl false,rfl,rfl⟩⟩) (by intro h _; exact ⟨.inr (),by simp only [h]; rfl,rfl⟩)
    rw [Xa] at key
    exact congrArg (fun q=>Option.bind q some) key
   .rw [Em (by omega),Xx data _ _ V]; rfl
  have b:∀a∈t.Args,Du data 0 a=true/\Bx a<=200:=fun a ha=>⟨Ao3 ht a ha,by have:=J1 ha; have:=Jl t; omega⟩
  rw [Oi,Uo]
  by_cases N:t.Kind=1
  .rw [Dj N,if_pos N,Acd]
   cases (v.Kind==3) <;> cases decide (-1099511627776<=v.Num) <;> cases decide (v.Num<=1099511627776) <;> rfl
  rw [Cp N,if_neg N]
  by_cases M:t.Kind=2
  .rw [Dj M,if_pos M,Acd]
   cases (v.Kind==2) <;> cases (v.Num==0) <;> cases (v.Num==1) <;> rfl
  rw [Cp M,if_neg M]
  by_cases L:t.Kind=3
  .rw [Dj L,if_pos L,Acd]
   cases (v.Kind==1) <;> cases (v.Num==0) <;> rfl
  rw [Cp L,if_neg L]
  by_cases G:t.Kind=6
  .rw [Dj G,if_pos G,f t.Args b]
   cases (v.Kind==4) <;> cases (v.Num==0) <;> rfl
  rw [Cp G,if_neg G]
  by_cases I:t.Kind=5
  .rw [Dj I,if_pos I,Azj hv.szv t D]
   simp only [cond_false,cond_true]
   by_cases g1:v.Kind=5
   .rw [Fp g1,Dj g1]
    by_cases g2:v.Num<0
    .rw [Am g2,Ar (by omega:¬0<=v.Num)]; rfl
    .by_cases g3:v.Num>=8
     .rw [Ar g2,Am g3,Ar (by omega:¬v.Num<8)]
      simp
     .rw [Ar g2,Ar g3,Am (by omega:0<=v.Num),Am (by omega:v.Num<8)]
      simp only [cond_false,Ad,Bool.true_and]
      cases hf:Ih data t v.Num with
      | none=>rfl
      | some l=>
       simp only [okL,cond_true]
       rw [f l (A0j hv ht hf)]; rfl
   .rw [Em g1,Cp g1]; rfl
  rw [Cp I,if_neg I]
  by_cases c:t.Kind=7
  .rw [Dj c,if_pos c,show decide ((v.Kids.length:Int)<=4096)=decide (v.Kids.length<=4096) by congr 1; simp only [eq_iff_iff]; omega]
   have U:=k7 c
   match A:t.Args,U with
   | [u],_=>
    have hu:=b u (by rw [A]; simp)
    have B:W6 (k+3) v.Kids data t=some (!Rx data v.Kids u):=by
     rw [W6,Aa5,A0i]
     have key:=Afv v.Kids (fun x=>!Fr data x u) (by omega) (J:=fun z=>match z with | .inl Y=>some Y | .inr _=>some (-1)) (step:=fun v3=>bif (decide (v3<(v.Kids.length:Int))) then ((Ag v.Kids v3).bind fun v4=>(Td (k+1) v4 data t).bind fun v5=>bif v5 then some (.inr (.inl v3)) else some (.inl (Ac (v3+1)))) else some (.inr (.inr ()))) (by
      intro j x hx h1 h2 h3
      have hxm:=L9 hx
      have hi:Ag t.Args 0=some u:=by rw [A]; rfl
      simp only [h1,h2,h3,cond_true,Ad,Td,hi,ih x u k (by omega) (by omega) (by omega) hu.1 hu.2]) (fun h=>by simp only [h]; rfl) (fun _=>rfl) rfl
     obtain ⟨i,i1,i2⟩:=key
     erw [i1]
     simp only [Ad,i2]
     rw [List.any_eq_not_all_not]; simp
    simp only [cond_false,cond_true,B,Ad]
    cases (v.Kind==6) <;> cases (v.Num==0) <;> cases decide (v.Kids.length<=4096) <;> cases Rx data v.Kids u <;> rfl
  rw [Cp c,if_neg c]
  by_cases g:t.Kind=8
  .rw [Dj g,if_pos g,f t.Args b]
   cases (v.Kind==7) <;> cases (v.Num==0) <;> rfl
  rw [Cp g,if_neg g]
  have Z:t.Kind=9:=by omega
  rw [Dj Z,Acd]
  cases (v.Kind==8) <;> cases decide (0<=v.Num) <;> cases decide (v.Num<64) <;> rfl
def Kl (data:List Ap) (v:Ay) (t:Ah):Bool:=Gg data t&&decide (C6 v<=5000)&&Fr data v t
theorem Ao4 {data:List Ap} (j:DSz data) (v:Ay) (t:Ah) (f:C6 v<1099511627776) (ht:Bx t<=1048576):∃b,Na data v t=some b/\(b=true↔Ig data/\Kl data v t=true):=by
 obtain ⟨b,b1,b2⟩:=Abx j
 unfold Na Z8 Kl
 rw [b1,Rq data t 0 (by omega)]
 simp only [Ad]
 rw [show (Du data 0 t&&decide (Bx t<=200))=Gg data t from rfl]
 cases b with
 | false=>exact ⟨false,rfl,by simp; intro h; have:=b2.2 h; cases this⟩
 | true=>
  have hv:=b2.1 rfl
  cases k:Gg data t with
  | false=>exact ⟨false,rfl,by simp⟩
  | true=>
   obtain ⟨l,i,_⟩:=A0h 5000 v 4000000 (by omega) (by omega) f
   have i:Ml 4000000 v 5000=_:=i
   simp only [cond_true,Ad,i]
   by_cases g:C6 v<=5000
   .have c:=k
    simp only [Gg,Cu,decide_eq_true_eq] at c
    rw [Am g]
    simp only [cond_true,A0m hv 5000 v t 4000000 g (by omega) (by omega) c.1 c.2,Ad]
    exact ⟨_,rfl,by simp [hv]⟩
   .rw [Ar g]
    exact ⟨false,rfl,by simp⟩
end Go.Ab
namespace Go.Ab
open Go
mutual
def Hi (data:List Ap) (d:Int):Ay->List Ay
 | ⟨k,n,kids⟩=>⟨k,n,kids⟩::Gt data d kids (Dq data d n)
def Gt (data:List Ap) (d:Int):List Ay->List Bool->List Ay
 | x::xs,b::bs=>(bif b then Hi data d x else [])++Gt data d xs bs
 | [],_=>[]
 | _::_,[]=>[]
end
theorem Ao5 (data:List Ap) (d:Int) (v:Ay):Hi data d v=v::Gt data d v.Kids (Dq data d v.Num):=by cases v; simp only [Hi]
mutual
theorem Agy (data:List Ap) (d:Int):∀v,(Hi data d v).length<=C6 v
 | ⟨k,n,kids⟩=>by
  have:=Agz data d kids (Dq data d n)
  simp only [Hi,C6,List.length_cons]; omega
theorem Agz (data:List Ap) (d:Int):∀l r,(Gt data d l r).length<=Dv l
 | x::xs,b::bs=>by
  have h1:=Agy data d x
  have h2:=Agz data d xs bs
  cases b <;> simp only [Gt,Dv,List.length_append,cond_true,cond_false,List.length_nil] <;> omega
 | [],_=>by simp [Gt]
 | _::_,[]=>by simp [Gt]
end
theorem Ao6 (data:List Ap) (d:Int):∀(l:List Ay) (r:List Bool) (x:Ay) (b:Bool),l.length=r.length->Gt data d (l++[x]) (r++[b])=Gt data d l r++(bif b then Hi data d x else [])
 | [],[],x,b,_=>by simp [Gt]
 | y::ys,c::cs,x,b,h=>by
  simp only [List.cons_append,Gt,Ao6 data d ys cs x b (by simpa using h),List.append_assoc]
 | [],_::_,_,_,h=>by simp at h
 | _::_,[],_,_,h=>by simp at h
theorem A0n {a:Ah} {d vars:Int} {σ:List Ah} (h:It a d vars=true) (g:(σ.length:Int)=vars):De σ a=⟨5,d,σ⟩:=by
 unfold It at h
 simp only [Cu,beq_iff_eq] at h
 obtain ⟨⟨⟨h1,h2⟩,h3⟩,f⟩:=h
 have hv:isV σ a.Kind a.Num=false:=by unfold isV; rw [h1]; rfl
 rw [Abz hv,h1,h2]
 congr 1
 apply List.ext_getElem?
 intro j
 rw [List.getElem?_map]
 cases hx:a.Args[j]? with
 | none=>
  rw [List.getElem?_eq_none_iff] at hx
  rw [List.getElem?_eq_none (by omega)]; rfl
 | some x=>
  have hj:=Eo hx
  have:=Hx f hx
  simp only [Pa,Cu,beq_iff_eq] at this
  have c:σ[j]? = some (σ[j]'(by omega)):=B0 (by omega)
  generalize σ[j]'(by omega)=s at c
  have b:isV σ x.Kind x.Num=true:=by
   unfold isV
   rw [this.1.1,this.1.2,Am (by omega),Am (by omega)]; rfl
  rw [c,Option.map_some,Xm b (by rw [this.1.2]; exact c)]
theorem Ace {data:List Ap} {v:Ay} {t:Ah} (hk:t.Kind=5) (h:Fr data v t=true) :
  ∃x,Ag data t.Num=some x/\0<=v.Num/\v.Num<x.Cons.length/\(Dq data t.Num v.Num).length=v.Kids.length/\∀(j:Nat) (w:Ay),v.Kids[j]? = some w->(Dq data t.Num v.Num)[j]? = some true->Fr data w t=true:=by
 rw [Uo,if_neg (by omega),if_neg (by omega),if_neg (by omega),if_neg (by omega),if_pos hk] at h
 cases s:Ih data t v.Num with
 | none=>rw [s] at h; simp at h
 | some l=>
  rw [s] at h
  simp only [Cu] at h
  have b:=h.2
  have c:v.Kids.length=l.length:=by
   by_cases q:v.Kids.length=l.length
   .exact q
   .rw [Xx data _ _ q] at b; cases b
  have E:=Xn s
  obtain ⟨x,y,_,hx,u,hy,q,_⟩:=Pc s
  obtain ⟨D,B,_,_⟩:=F5 hy
  refine ⟨x,hx,D,B,by omega,fun j w hw A=>?_⟩
  rw [Xy data _ _ c] at b
  have hj:=Eo hw
  have g:l[j]? = some (l[j]'(by omega)):=B0 (by omega)
  have hh:=List.all_eq_true.1 b (w,l[j]'(by omega)) (B7 (i:=j) (by rw [List.getElem?_zip_eq_some]; exact ⟨hw,g⟩))
  simp only at hh
  have ha:y.Args[j]? = some (y.Args[j]'(by rw [q] at c; simp at c; omega)):=B0 _
  generalize y.Args[j]'_=a at ha
  have z:(Dq data t.Num v.Num)[j]? = some (It a t.Num x.Vars):=by
   unfold Dq; simp only [hx,hy,List.getElem?_map,ha,Option.map_some]
  rw [z] at A
  have f:=Option.some.inj A
  have k:l[j]? = some (De t.Args a):=by rw [q,List.getElem?_map,ha]; rfl
  rw [k] at g
  rw [<-Option.some.inj g,A0n f u] at hh
  have:(Ah.mk 5 t.Num t.Args)=t:=by cases t; simp only at hk; rw [hk]
  rw [this] at hh; exact hh
theorem A0o {data:List Ap} {t:Ah} (hk:t.Kind=5) (B:List (List Bool)) (I:∀(x:Ap),Ag data t.Num=some x->∀n:Int,0<=n->n<x.Cons.length->Ag B n=some (Dq data t.Num n)):∀(n:Nat) (v:Ay) (k:Nat) (b:List Ay),C6 v<=n->n<=k->n<=1048576->b.length+C6 v<=1048576->Fr data v t=true->Q9 k v b B=some (b++Hi data t.Num v):=by
 intro n
 induction n with
 | zero=>intro v k b h; have:=Xv v; omega
 | succ n ih=>
  intro v k b h E J hb G
  obtain ⟨k,rfl⟩:∃s,k=s+1:=⟨k-1,by omega⟩
  have y:=L8 v
  have z:=Xw v.Kids
  obtain ⟨x,hx,q,l,i,f⟩:=Ace hk G
  rw [Q9,Dh (by simp; omega),Ad,Xi b [] _ _ b.length rfl rfl,Ad,Xh b [] _ _ _ b.length rfl rfl,I x hx v.Num q l,Ad,Ao5]
  generalize L:Dq data t.Num v.Num=R at *
  have g:∀j,(Gt data t.Num (v.Kids.take j) (R.take j)).length<=Dv (v.Kids.take j):=fun j=>Agz _ _ _ _
  refine Gf R (fun j=>((j:Int),b++[v]++Gt data t.Num (v.Kids.take j) (R.take j))) (by simp [Gt]) (by omega) ?_ ?_
  .intro j c hj hc h1 h2 h3
   have hw:v.Kids[j]? = some (v.Kids[j]'(by omega)):=B0 (by omega)
   generalize v.Kids[j]'_=w at hw
   have u:=L9 (B7 hw)
   have A:=Aoy hw
   have D:=Aoz v.Kids (j+1)
   have hp:=g j
   simp only [h1,h2,h3,cond_true,Ad,Bw rfl hw,C5 hw,C5 hc]
   rw [Ao6 _ _ _ _ _ _ (by simp; omega)]
   cases c with
   | false=>simp
   | true=>
    rw [ih w k _ (by omega) (by omega) (by omega) (by simp; omega) (f j w hw hc)]
    simp
  .intro h1
   refine ⟨b++(v::Gt data t.Num v.Kids R),?_,rfl⟩
   simp only [h1]
   rw [List.take_of_length_le (by omega:v.Kids.length<=R.length),List.take_length]; simp
theorem A0p {data:List Ap} (k:Mx data) (l:∀x∈data,x.Cons.length<=8) {t:Ah} (hk:t.Kind=5) (v:Ay) (hv:C6 v<=5000) (h:Fr data v t=true):Wn data t v=some (Hi data t.Num v):=by
 obtain ⟨x,hx,u,s,g,f⟩:=Ace hk h
 have i:=l x (F5 hx).2.2.2
 unfold Wn
 rw [hx,Ad]
 refine Gf x.Cons (fun j=>((j:Int),(List.range j).map fun c:Nat=>Dq data t.Num (c:Int))) rfl (by omega) ?_ ?_
 .intro j y hj hy h1 h2 h3
  simp only [h1,h3,cond_true,Xj data t.Num (j:Int) k,Ad]
  rw [Dh (by simp; omega),Ad,List.range_succ]; simp
 .intro h1
  refine ⟨(List.range x.Cons.length).map fun c:Nat=>Dq data t.Num (c:Int),by simp,?_⟩
  rw [A0o hk _ (fun q b n a1 a2=>?_) 5000 v 4000000 [] hv (by omega) (by omega) (by simp; omega) h]
  .rfl
  .rw [hx] at b; cases b
   rw [Bw (n:=n.toNat) (by omega)]
   rw [List.getElem?_map,List.getElem?_range (by omega)]
   simp only [Option.map_some]
   rw [show ((n.toNat:Nat):Int)=n by omega]
end Go.Ab
namespace Go.Ab
open Go
theorem A0q {data:List Ap} (c:DSz data) (hv:Ig data) (t:Ah) (f:Gg data t=true) (i:Bc) (hi:Di i<=1048576):V9 data t i=some (I6 (Fh data i t)):=by
 have b:=f
 simp only [Gg,Cu,decide_eq_true_eq] at b
 obtain ⟨q,h,g⟩:=Abx c
 have hq:q=true:=g.2 hv
 subst hq
 unfold V9 Aaj
 rw [h,Rq data t 0 (by omega)]
 simp only [Ad,cond_true]
 rw [show (Du data 0 t&&decide (Bx t<=200))=Gg data t from rfl,f]
 obtain ⟨p,k,j⟩:=(Azl hv.szv c.sz.short 4000000).1 i t (by omega) hi b.2
 simp only [Dt,cond_false,k,Ad]
 rcases j with ⟨a1,d,a2,a3,a4⟩ | ⟨a1,a2⟩
 .rw [a1,a2,Ab4 a3,a4]; rfl
 .rw [a1,An8 a2]; rfl
end Go.Ab
namespace Go.Ab
open Go
theorem Acf {data:List Ap} {vars:List Ah} {res:Ah} {m:A8} (h:Iw data vars res m=true):(∀f∈m.Factors,∃t,D2 vars res f.Var=some t)/\m.Factors.length<=6:=by
 unfold Iw at h
 simp only [Cu,decide_eq_true_eq] at h
 obtain ⟨⟨h1,h2⟩,h3⟩:=h
 have b:∀f∈m.Factors,1<=F7 data vars res f:=by
  intro f b
  obtain ⟨j,hj⟩:=List.getElem?_of_mem b
  have:=Hx h1 hj
  simp only [Xs,Cu,decide_eq_true_eq] at this
  exact this.1
 have ha:0<=Cv m.Atoms:=(Aot m.Atoms (fun a ha=>by
  obtain ⟨j,hj⟩:=List.getElem?_of_mem ha
  have:=Hx h2 hj
  simp only [Lb,Cu,decide_eq_true_eq] at this
  omega)).1
 refine ⟨fun f c=>?_,?_⟩
 .have:=b f c
  unfold F7 at this
  cases ht:D2 vars res f.Var with
  | none=>rw [ht] at this; have:(1:Int)<=-1:=this; omega
  | some t=>exact ⟨t,rfl⟩
 .have key:∀l:List Cg,(∀f∈l,1<=F7 data vars res f)->(l.length:Int)<=Gr data vars res l:=by
   intro l
   induction l with
   | nil=>intro _; simp [Gr]
   | cons f fs ih=>
    intro i
    have h1:=i f (by simp)
    have h2:=ih (fun g k=>i g (by simp [k]))
    unfold Gr at *
    simp only [List.map_cons,List.sum_cons,List.length_cons]; omega
  have:=key m.Factors b
  omega
theorem A0r (a b:Ak) (j k:Nat) (ha:RB j a) (hb:RB k b) (hj:j<34359738000) (hk:k<34359738000):∃c,Hc a b=some c/\Vz a b=some c/\RB (j+k+3) c:=by
 refine ⟨_,Abn a b j k ha hb (by omega) (by omega),Ayk a b j k ha hb (by omega) (by omega),?_⟩
 have h1:=ha.nv
 have h2:=ha.dv
 have h3:=hb.nv
 have s:=hb.dv
 have q:=Gz (nv a) (dv b)
 have l:=Gz (nv b) (dv a)
 have i:=Gz (dv a) (dv b)
 have f:Ie (sv a) (nv a) (dv a) (sv b) (nv b) (dv b)<=nv a*dv b+nv b*dv a:=by
  unfold Ie
  split
  .omega
  .split <;> omega
 have h:=G4 f
 have g:=T8 (nv a*dv b) (nv b*dv a)
 exact K9 _ _ _ _ (by omega) (by omega) (by omega)
end Go.Ab
namespace Go.Ab
open Go
end Go.Ab
namespace Go.Ab
open Go
theorem A0s (k:Nat):RB k ⟨false,[],[]⟩:=⟨(fun _ h=>by cases h),(fun _ h=>by cases h),by simp,by simp⟩
end Go.Ab
namespace Go.Ab
open Go
end Go.Ab
namespace Go.Ab
open Go
def sg (s:Bool) (n:Nat):Int:=if s then -(n:Int) else n
def rq (a:Ak):Rat:=mkRat (sg (sv a) (nv a)) (dv a)
def Fx (a:Ak):Prop:=a=Bq (sv a) (nv a) (dv a)
theorem Lc (s:Bool) (n d:Nat) (hd:d≠0):rq (Bq s n d)=mkRat (sg s n) d:=by
 obtain ⟨g,f,h1,h2,h3,i⟩:=Abt s n d hd
 unfold rq
 rw [Rat.mkRat_eq_iff (E7 _) hd]
 generalize nv (Bq s n d)=b at *
 generalize dv (Bq s n d)=j at *
 generalize sv (Bq s n d)=s' at *
 by_cases c:n=0
 .have:b=0:=by
   rcases Nat.eq_zero_or_pos b with h | h
   .exact h
   .have:=Nat.mul_pos (Nat.pos_of_ne_zero f) h; omega
  subst this; subst c
  cases s <;> cases s' <;> simp [sg]
 .rw [h3 c,h1,h2]
  cases s <;> simp only [sg,if_true,if_false,Bool.false_eq_true,Int.natCast_mul] <;> grind
theorem Ph (s:Bool) (n d:Nat) (hd:d≠0):Fx (Bq s n d):=by
 obtain ⟨g,b,h1,h2,h3,i⟩:=Abt s n d hd
 unfold Fx
 generalize hc:Bq s n d=c at h1 h2 h3 i
 have e:=Ro s (nv c) (dv c) g b
 rw [<-h1,<-h2,hc] at e
 by_cases f:n=0
 .have h0:nv c=0:=by
   rcases Nat.eq_zero_or_pos (nv c) with h | h
   .exact h
   .have:=Nat.mul_pos (Nat.pos_of_ne_zero b) h; omega
  rw [h0,Xc] at e ⊢
  exact e
 .rw [h3 f]; exact e
theorem Ao7 (n m:Int) {d e:Nat} (hd:d≠0) (g:e≠0):mkRat n d<mkRat m e↔n*e<m*d:=by
 have c:(0:Rat)<(d:Rat):=Rat.natCast_pos.2 (by omega)
 have b:(0:Rat)<(e:Rat):=Rat.natCast_pos.2 (by omega)
 rw [Rat.mkRat_eq_div,Rat.mkRat_eq_div,Rat.div_lt_iff c]
 rw [<-Rat.mul_lt_mul_right b]
 have f:(m:Rat) / (e:Rat)*(d:Rat)*(e:Rat)=(m:Rat)*(d:Rat):=by grind
 rw [f]
 have a1:(n:Rat)*(e:Rat)=((n*(e:Int):Int):Rat):=by rw [Rat.intCast_mul]; rfl
 have a2:(m:Rat)*(d:Rat)=((m*(d:Int):Int):Rat):=by rw [Rat.intCast_mul]; rfl
 rw [a1,a2,Rat.intCast_lt_intCast]
theorem Ao8 {a b:Ak} (ha:Fx a) (hb:Fx b) (h:rq a=rq b):a=b:=by
 unfold rq at h
 rw [Rat.mkRat_eq_iff (E7 _) (E7 _)] at h
 rw [ha,hb]
 have l:=E7 a
 have k:=E7 b
 generalize nv a=n at *
 generalize dv a=d at *
 generalize sv a=s at *
 generalize nv b=m at *
 generalize dv b=e at *
 generalize sv b=t at *
 have hh:n*e=m*d/\(n≠0->s=t):=by
  have c:n≠0->0<n*e:=fun h=>Nat.mul_pos (by omega) (by omega)
  have f:m≠0->0<m*d:=fun h=>Nat.mul_pos (by omega) (by omega)
  have u:((n*e:Nat):Int)=(n:Int)*e:=by simp
  have q:((m*d:Nat):Int)=(m:Int)*d:=by simp
  cases s <;> cases t <;> simp only [sg,if_true,if_false,Bool.false_eq_true,Int.neg_mul] at h
  .exact ⟨by omega,fun _=>rfl⟩
  .have:n*e=0/\m*d=0:=by omega
   refine ⟨by omega,fun g=>?_⟩
   have:=c g; omega
  .have:n*e=0/\m*d=0:=by omega
   refine ⟨by omega,fun g=>?_⟩
   have:=c g; omega
  .exact ⟨by omega,fun _=>rfl⟩
 have j:=Ro s n d e k
 have i:=Ro t m e d l
 rw [<-j,<-i,Nat.mul_comm e n,hh.1,Nat.mul_comm e d,Nat.mul_comm m d]
 refine Am9 fun h0=>hh.2 ?_
 rintro rfl
 rw [Nat.zero_mul] at hh
 have:=hh.1
 rw [Nat.mul_comm d m] at h0
 omega
theorem Ao9 (j:Bool) (c g:Nat) (i:Bool) (b f:Nat):sg (Jk j c g i b f) (Ie j c g i b f)=sg j c*f+sg i b*g:=by
 unfold Jk Ie sg
 have l:((c*f:Nat):Int)=(c:Int)*f:=by simp
 have k:((b*g:Nat):Int)=(b:Int)*g:=by simp
 cases j <;> cases i <;> simp only [if_true,if_false,Bool.false_eq_true,Bool.true_eq_false,Int.neg_mul]
 .omega
 .by_cases h:b*g<=c*f
  .simp only [if_pos h]; simp only [if_false,Bool.false_eq_true]; omega
  .simp only [if_neg h]; simp only [if_true]; omega
 .by_cases h:b*g<=c*f
  .simp only [if_pos h]; simp only [if_true]; omega
  .simp only [if_neg h]; simp only [if_false,Bool.false_eq_true]; omega
 .omega
theorem Ag0 {a b:Ak} {j k:Nat} (ha:RB j a) (hb:RB k b) (hj:j<34359738000) (hk:k<34359738000):∃c,Hc a b=some c/\Vz a b=some c/\RB (j+k+3) c/\Fx c/\rq c=rq a+rq b:=by
 obtain ⟨c,h1,h2,h3⟩:=A0r a b j k ha hb hj hk
 have e:=Abn a b j k ha hb (by omega) (by omega)
 rw [h1] at e
 have e:=Option.some.inj e
 have hd:dv a*dv b≠0:=Nat.mul_ne_zero (E7 a) (E7 b)
 refine ⟨c,h1,h2,h3,?_,?_⟩
 .rw [e]; exact Ph _ _ _ hd
 .rw [e,Lc _ _ _ hd,Ao9,rq,rq,Rat.mkRat_add_mkRat _ _ (E7 a) (E7 b)]
theorem A0t (s t:Bool) (n m:Nat):sg (s != t) (n*m)=sg s n*sg t m:=by
 unfold sg
 cases s <;> cases t <;> simp [Int.neg_mul,Int.mul_neg]
theorem Pi {a b:Ak} {j k:Nat} (ha:RB j a) (hb:RB k b) (hj:j<34359738000) (hk:k<34359738000):∃c,Eb a b=some c/\RB (j+k+2) c/\Fx c/\rq c=rq a*rq b:=by
 have hd:dv a*dv b≠0:=Nat.mul_ne_zero (E7 a) (E7 b)
 have h1:=ha.nv
 have h2:=ha.dv
 have h3:=hb.nv
 have h:=hb.dv
 have g:=Gz (nv a) (nv b)
 have f:=Gz (dv a) (dv b)
 refine ⟨_,Abm a b j k ha hb (by omega) (by omega),K9 _ _ _ _ (by omega) (by omega) (by omega),Ph _ _ _ hd,?_⟩
 rw [Lc _ _ _ hd,A0t,rq,rq,Rat.mkRat_mul_mkRat]
def Jp (x:Rat):Int:=if x<0 then -1 else if 0<x then 1 else 0
theorem A0u (a:Ak):rq a<0↔Ic (sv a) (nv a) = -1:=by
 have e:(0:Rat)=mkRat 0 1:=by simp
 rw [rq,e,Ao7 _ _ (E7 a) (by decide)]
 unfold sg Ic
 split <;> split <;> simp <;> omega
theorem A0v (a:Ak):0<rq a↔Ic (sv a) (nv a)=1:=by
 have e:(0:Rat)=mkRat 0 1:=by simp
 rw [rq,e,Ao7 _ _ (by decide) (E7 a)]
 unfold sg Ic
 split <;> split <;> simp <;> omega
theorem A0w (a:Ak):Ic (sv a) (nv a)=Jp (rq a):=by
 have h1:=A0u a
 have h2:=A0v a
 have h3:Ic (sv a) (nv a) = -1\/Ic (sv a) (nv a)=0\/Ic (sv a) (nv a)=1:=by unfold Ic; split <;> (try split) <;> simp
 unfold Jp
 split
 .rename_i h; exact h1.1 h
 .rename_i h
  split
  .rename_i h'; exact h2.1 h'
  .rename_i h'
   rcases h3 with h3 | h3 | h3
   .exact (h (h1.2 h3)).elim
   .exact h3
   .exact (h' (h2.2 h3)).elim
theorem X0 {a:Ak} {k:Nat} (h:RB k a) (hk:k<34359738000):He a=some (Jp (rq a))/\M9 a=some (Jp (rq a)):=by
 rw [<-A0w]
 exact ⟨Abl a k h (by omega),Ayl a k h (by omega)⟩
end Go.Ab
namespace Go.Ab
open Go
structure Ei {α:Type} (S:α->Prop) (g:α->α->Int):Prop where
 zero:∀a b,S a->S b->(g a b=0↔a=b)
 anti:∀a b,S a->S b->g b a = - g a b
 trans:∀a b c,S a->S b->S c->g a b<0->g b c<0->g a c<0
theorem Ei.cmpI:Ei (fun _:Int=>True) Eh:=by
 refine ⟨fun a b _ _=>Iv,fun a b _ _=>?_,fun a b c _ _ _=>?_⟩
 .unfold Go.Ab.Eh; split <;> split <;> (try split) <;> (try split) <;> omega
 .unfold Go.Ab.Eh; intro h1 h2; split at h1 <;> (try split at h1) <;> split at h2 <;> (try split at h2) <;> first | omega | (rw [if_pos (by omega)]; decide)
theorem Apa {x y:Int}:orI x y<0↔x<0\/(x=0/\y<0):=by unfold orI; split <;> omega
theorem Apb {x y:Int}:orI x y=0↔x=0/\y=0:=by unfold orI; split <;> omega
theorem Ei.or {α β γ:Type} {S:α->Prop} {s:β->Prop} {l:γ->Prop} {j:β->β->Int} {i:γ->γ->Int} (p:α->β) (q:α->γ) (g:∀a b,p a=p b->q a=q b->a=b) (h1:Ei s j) (h2:Ei l i) (f:∀a,S a->s (p a)/\l (q a)) :
  Ei S (fun a b=>orI (j (p a) (p b)) (i (q a) (q b))):=by
 refine ⟨fun a b ha hb=>?_,fun a b ha hb=>?_,fun a b c ha hb hc=>?_⟩
 .rw [Apb,h1.zero _ _ (f a ha).1 (f b hb).1,h2.zero _ _ (f a ha).2 (f b hb).2]
  exact ⟨fun h=>g a b h.1 h.2,fun h=>by subst h; exact ⟨rfl,rfl⟩⟩
 .show orI (j (p b) (p a)) (i (q b) (q a)) = - orI (j (p a) (p b)) (i (q a) (q b))
  have z:=h1.anti _ _ (f a ha).1 (f b hb).1
  have y:=h2.anti _ _ (f a ha).2 (f b hb).2
  rw [z,y]; unfold orI; split <;> split <;> omega
 .show orI _ _<0->orI _ _<0->orI _ _<0
  simp only [Apa]
  have u:=h1.zero _ _ (f a ha).1 (f b hb).1
  have z2:=h1.zero _ _ (f b hb).1 (f c hc).1
  have t1:=h1.trans _ _ _ (f a ha).1 (f b hb).1 (f c hc).1
  have t2:=h2.trans _ _ _ (f a ha).2 (f b hb).2 (f c hc).2
  rintro (h | ⟨h,h'⟩) (k | ⟨k,x⟩)
  .exact .inl (t1 h k)
  .rw [<-z2.1 k]; exact .inl h
  .rw [u.1 h]; exact .inl k
  .rw [<-z2.1 k,h]; exact .inr ⟨rfl,t2 h' x⟩
theorem Ei.mono {α:Type} {S i:α->Prop} {g:α->α->Int} (h:Ei S g) (f:∀a,i a->S a):Ei i g :=
 ⟨fun a b ha hb=>h.zero a b (f a ha) (f b hb),fun a b ha hb=>h.anti a b (f a ha) (f b hb),fun a b c ha hb hc=>h.trans a b c (f a ha) (f b hb) (f c hc)⟩
theorem Ei.congr {α:Type} {S:α->Prop} {g c:α->α->Int} (h:Ei S g) (e:∀a b,c a b=g a b):Ei S c:=by
 have:c=g:=funext fun a=>funext fun b=>e a b
 rw [this]; exact h
def LL {α:Type} (g:α->α->Int) (l m:List α):Int:=if l.length=m.length then Ez g l m else Go.Ab.Eh l.length m.length
theorem Apc {α:Type} {S:α->Prop} {g:α->α->Int} (h:Ei S g):∀l m:List α,l.length=m.length->(∀x∈l,S x)->(∀x∈m,S x)->(Ez g l m=0↔l=m)
 | [],[],_,_,_=>by simp [Ez]
 | x::xs,y::ys,b,h1,h2=>by
  simp only [Ez,Apb,h.zero x y (h1 x (by simp)) (h2 y (by simp)),Apc h xs ys (by simpa using b) (fun z c=>h1 z (by simp [c])) (fun z c=>h2 z (by simp [c])),List.cons.injEq]
 | [],_::_,b,_,_=>by simp at b
 | _::_,[],b,_,_=>by simp at b
theorem Apd {α:Type} {S:α->Prop} {g:α->α->Int} (h:Ei S g):∀l m:List α,l.length=m.length->(∀x∈l,S x)->(∀x∈m,S x)->Ez g m l = - Ez g l m
 | [],[],_,_,_=>by simp [Ez]
 | x::xs,y::ys,b,h1,h2=>by
  simp only [Ez,h.anti x y (h1 x (by simp)) (h2 y (by simp)),Apd h xs ys (by simpa using b) (fun z c=>h1 z (by simp [c])) (fun z c=>h2 z (by simp [c]))]
  unfold orI; split <;> split <;> omega
 | [],_::_,b,_,_=>by simp at b
 | _::_,[],b,_,_=>by simp at b
theorem Ape {α:Type} {S:α->Prop} {g:α->α->Int} (h:Ei S g):∀l m n:List α,l.length=m.length->m.length=n.length->(∀x∈l,S x)->(∀x∈m,S x)->(∀x∈n,S x)->Ez g l m<0->Ez g m n<0->Ez g l n<0
 | [],[],_,_,_,_,_,_=>by intro h; simp [Ez] at h
 | x::xs,y::ys,z::j,f,i,h1,h2,h3=>by
  simp only [Ez,Apa]
  have k:=h.zero x y (h1 x (by simp)) (h2 y (by simp))
  have z2:=h.zero y z (h2 y (by simp)) (h3 z (by simp))
  have t1:=h.trans x y z (h1 x (by simp)) (h2 y (by simp)) (h3 z (by simp))
  have t2:=Ape h xs ys j (by simpa using f) (by simpa using i) (fun z c=>h1 z (by simp [c])) (fun z c=>h2 z (by simp [c])) (fun z c=>h3 z (by simp [c]))
  rintro (a | ⟨a,s⟩) (b | ⟨b,q⟩)
  .exact .inl (t1 a b)
  .rw [<-z2.1 b]; exact .inl a
  .rw [k.1 a]; exact .inl b
  .rw [<-z2.1 b,a]; exact .inr ⟨rfl,t2 s q⟩
 | _::_,_::_,[],_,i,_,_,_=>by simp at i
 | [],_::_,_,f,_,_,_,_=>by simp at f
 | _::_,[],_,f,_,_,_,_=>by simp at f
theorem Ei.ll {α:Type} {S:α->Prop} {g:α->α->Int} (h:Ei S g):Ei (fun l=>∀x∈l,S x) (LL g):=by
 have c:=Ei.cmpI
 refine ⟨fun a b ha hb=>?_,fun a b ha hb=>?_,fun x y z hx hy q=>?_⟩
 .unfold LL
  split
  .rename_i i; exact Apc h a b i ha hb
  .rename_i i
   rw [Iv]
   exact ⟨fun e=>(i (by omega)).elim,fun e=>(i (by rw [e])).elim⟩
 .unfold LL
  by_cases i:a.length=b.length
  .rw [if_pos i,if_pos i.symm]; exact Apd h a b i ha hb
  .rw [if_neg i,if_neg (fun e=>i e.symm)]; exact c.anti _ _ trivial trivial
 .unfold LL
  intro h1 h2
  have neg:∀a b:Int,Go.Ab.Eh a b<0->a<b:=by intro a b h; unfold Go.Ab.Eh at h; split at h <;> (try split at h) <;> omega
  have f:∀a b:Int,a<b->Go.Ab.Eh a b<0:=by intro a b h; unfold Go.Ab.Eh; rw [if_pos h]; decide
  by_cases k:x.length=y.length
  .rw [if_pos k] at h1
   by_cases j:y.length=z.length
   .rw [if_pos j] at h2; rw [if_pos (by omega)]; exact Ape h x y z k j hx hy q h1 h2
   .rw [if_neg j] at h2; rw [if_neg (by omega)]
    have:=neg _ _ h2; exact f _ _ (by omega)
  .rw [if_neg k] at h1
   have:=neg _ _ h1
   by_cases j:y.length=z.length
   .rw [if_neg (by omega)]; exact f _ _ (by omega)
   .rw [if_neg j] at h2
    have:=neg _ _ h2
    rw [if_neg (by omega)]; exact f _ _ (by omega)
theorem Apf {α:Type} (g:α->α->Int) (l m:List α) (y:Int):orI (LL g l m) y=if l.length=m.length then orI (Ez g l m) y else Go.Ab.Eh l.length m.length:=by
 unfold LL
 by_cases h:l.length=m.length
 .rw [if_pos h,if_pos h]
 .rw [if_neg h,if_neg h]
  unfold orI
  rw [if_neg (fun e=>h (by have:=Iv.1 e; omega))]
theorem A0x:Ei (fun _=>True) Xq :=
 (Ei.or (S:=fun _=>True) (fun t:Bb=>t.Var) (fun t=>t.Coef) (fun a b h1 h2=>by cases a; cases b; cases h1; cases h2; rfl) Ei.cmpI Ei.cmpI (fun _ _=>⟨trivial,trivial⟩)).congr fun _ _=>rfl
theorem Ix:Ei (fun _=>True) Gq :=
 (Ei.or (S:=fun _=>True) (fun t:Be=>t.Terms) (fun t=>t.Const) (fun a b h1 h2=>by cases a; cases b; cases h1; cases h2; rfl) A0x.ll Ei.cmpI (fun _ _=>⟨fun _ _=>trivial,trivial⟩)).congr fun a b=>by
  show Gq a b=orI (LL Xq a.Terms b.Terms) (Go.Ab.Eh a.Const b.Const)
  rw [Apf]; rfl
theorem A0y (i j:Bc):L6 i j=orI (Go.Ab.Eh i.Num j.Num) (LL L6 i.Kids j.Kids):=by
 rw [Aoo,Ags]
 unfold orI LL
 by_cases h:i.Num=j.Num
 .rw [if_pos h,if_pos (Iv.2 h)]
 .rw [if_neg h,if_neg (fun e=>h (Iv.1 e))]
theorem Ag1:∀n:Nat,Ei (fun i=>Di i<=n) L6:=by
 intro n
 induction n with
 | zero=>exact ⟨fun a _ ha=>by have:=F6 a; omega,fun a _ ha=>by have:=F6 a; omega,fun a _ _ ha=>by have:=F6 a; omega⟩
 | succ n ih=>
  refine (Ei.or (S:=fun i=>Di i<=n+1) (fun i:Bc=>i.Num) (fun i=>i.Kids) (fun a b h1 h2=>by cases a; cases b; cases h1; cases h2; rfl) Ei.cmpI ih.ll ?_).congr A0y
  intro i hi
  refine ⟨trivial,fun x hx=>?_⟩
  have h1:=La hx
  have h2:=F6 i
  show Di x<=n
  omega
theorem A0z:Ei (fun _=>True) L6 :=
 ⟨fun a b _ _=>(Ag1 (max (Di a) (Di b))).zero a b (by show Di a<=_; omega) (by show Di b<=_; omega),fun a b _ _=>(Ag1 (max (Di a) (Di b))).anti a b (by show Di a<=_; omega) (by show Di b<=_; omega),
  fun a b c _ _ _=>(Ag1 (max (Di a) (max (Di b) (Di c)))).trans a b c (by show Di a<=_; omega) (by show Di b<=_; omega) (by show Di c<=_; omega)⟩
theorem A00:Ei (fun _=>True) Uj :=
 (Ei.or (S:=fun _=>True) (fun t:Cg=>t.Var) (fun t=>t.Index) (fun a b h1 h2=>by cases a; cases b; cases h1; cases h2; rfl) Ei.cmpI A0z (fun _ _=>⟨trivial,trivial⟩)).congr fun _ _=>rfl
theorem A01:Ei (fun _=>True) Xr :=
 (Ei.or (S:=fun _=>True) (fun t:Ba=>t.Lin) (fun t=>t.Deg) (fun a b h1 h2=>by cases a; cases b; cases h1; cases h2; rfl) Ix Ei.cmpI (fun _ _=>⟨trivial,trivial⟩)).congr fun _ _=>rfl
theorem Ag2:Ei (fun _=>True) C9 :=
 (Ei.or (S:=fun _=>True) (fun t:A8=>t.Factors) (fun t=>t.Atoms) (fun a b h1 h2=>by cases a; cases b; cases h1; cases h2; rfl) A00.ll A01.ll (fun _ _=>⟨fun _ _=>trivial,fun _ _=>trivial⟩)).congr fun a b=>by
  show C9 a b=orI (LL Uj a.Factors b.Factors) (LL Xr a.Atoms b.Atoms)
  rw [Apf]; rfl
theorem Km {a b:A8}:C9 a b=0↔a=b:=Ag2.zero a b trivial trivial
theorem Up (a b:A8):C9 b a = - C9 a b:=Ag2.anti a b trivial trivial
theorem Uq {a b c:A8} (h:C9 a b<0) (h':C9 b c<0):C9 a c<0:=Ag2.trans a b c trivial trivial trivial h h'
end Go.Ab
namespace Go.Ab
open Go
theorem Apg (m:A8):C9 m m=0:=Km.2 rfl
theorem Ag3 {a b:A8}:0<C9 a b↔C9 b a<0:=by rw [Up a b]; omega
def cf:List Aj->A8->Rat
 | [],_=>0
 | t::p,m=>(if C9 t.Mono m=0 then rq t.Coef else 0)+cf p m
def ltT (t u:Aj):Prop:=C9 t.Mono u.Mono<0
structure CP (p:List Aj):Prop where
 srt:p.Pairwise ltT
 coe:∀t∈p,Fx t.Coef/\rq t.Coef≠0
theorem CP.tail {t:Aj} {p:List Aj} (h:CP (t::p)):CP p:=⟨(List.pairwise_cons.1 h.srt).2,fun u hu=>h.coe u (by simp [hu])⟩
theorem CP.head {t:Aj} {p:List Aj} (h:CP (t::p)):∀u∈p,C9 t.Mono u.Mono<0:=(List.pairwise_cons.1 h.srt).1
theorem CP.nil:CP []:=⟨List.Pairwise.nil,fun _ h=>by cases h⟩
theorem CP.cons {t:Aj} {p:List Aj} (h:CP p) (h1:∀u∈p,C9 t.Mono u.Mono<0) (h2:Fx t.Coef) (h3:rq t.Coef≠0):CP (t::p) :=
 ⟨List.pairwise_cons.2 ⟨h1,h.srt⟩,fun u hu=>by
  rcases List.mem_cons.1 hu with rfl | hu
  .exact ⟨h2,h3⟩
  .exact h.coe u hu⟩
theorem Aph {p:List Aj} {m:A8} (h:∀t∈p,C9 t.Mono m≠0):cf p m=0:=by
 induction p with
 | nil=>rfl
 | cons t p ih=>
  simp only [cf]
  rw [if_neg (h t (by simp)),ih (fun u hu=>h u (by simp [hu]))]; grind
theorem Ry {p:List Aj} {m:A8} (h:∀t∈p,C9 m t.Mono<0):cf p m=0 :=
 Aph fun t ht e=>by have:=h t ht; rw [Up,e] at this; omega
theorem Rz {t:Aj} {p:List Aj} (h:CP (t::p)):cf (t::p) t.Mono=rq t.Coef:=by
 simp only [cf]
 rw [if_pos (Apg _),Ry h.head]; grind
theorem Ag4 {t:Aj} {p:List Aj} {m:A8} (h:C9 t.Mono m≠0):cf (t::p) m=cf p m:=by
 simp only [cf]; rw [if_neg h]; grind
theorem Ur (p q:List Aj) (m:A8):cf (p++q) m=cf p m+cf q m:=by
 induction p with
 | nil=>simp only [List.nil_append,cf]; grind
 | cons t p ih=>simp only [List.cons_append,cf,ih]; grind
theorem Acg {p:List Aj} (h:CP p) {t:Aj} (ht:t∈p):cf p t.Mono=rq t.Coef:=by
 induction p with
 | nil=>cases ht
 | cons u p ih=>
  rcases List.mem_cons.1 ht with rfl | ht
  .exact Rz h
  .have:=h.head t ht
   rw [Ag4 (by omega)]; exact ih h.tail ht
theorem CP.ext:∀{p q:List Aj},CP p->CP q->(∀m,cf p m=cf q m)->p=q
 | [],[],_,_,_=>rfl
 | [],u::q,_,h2,h=>by
  have:=h u.Mono
  rw [Rz h2] at this
  exact ((h2.coe u (by simp)).2 this.symm).elim
 | t::p,[],h1,_,h=>by
  have:=h t.Mono
  rw [Rz h1] at this
  exact ((h1.coe t (by simp)).2 this).elim
 | t::p,u::q,h1,h2,h=>by
  have b:C9 t.Mono u.Mono=0:=by
   rcases Int.lt_trichotomy (C9 t.Mono u.Mono) 0 with k | k | k
   .have e:=h t.Mono
    rw [Rz h1,Ry (p:=u::q)] at e
    .exact ((h1.coe t (by simp)).2 e).elim
    .intro w hw
     rcases List.mem_cons.1 hw with rfl | hw
     .exact k
     .exact Uq k (h2.head w hw)
   .exact k
   .have k:=Ag3.1 k
    have e:=h u.Mono
    rw [Rz h2,Ry (p:=t::p)] at e
    .exact ((h2.coe u (by simp)).2 e.symm).elim
    .intro w hw
     rcases List.mem_cons.1 hw with rfl | hw
     .exact k
     .exact Uq k (h1.head w hw)
  have c:=Km.1 b
  have hc:t.Coef=u.Coef:=by
   refine Ao8 (h1.coe t (by simp)).1 (h2.coe u (by simp)).1 ?_
   have e:=h t.Mono
   rw [Rz h1,c,Rz h2] at e
   exact e
  have ht:t=u:=by cases t; cases u; simp_all
  subst ht
  congr 1
  refine CP.ext h1.tail h2.tail fun m=>?_
  by_cases e:C9 t.Mono m=0
  .rw [<-Km.1 e,Ry h1.head,Ry h2.head]
  .have:=h m
   rwa [Ag4 e,Ag4 e] at this
theorem Api (c:Ak):Xu c=true↔Fx c/\rq c≠0:=by
 unfold Xu Fx
 rw [Cu,Aov]
 have h:(!(nv c==0))=true↔rq c≠0:=by
  have e:rq c=0↔nv c=0:=by
   unfold rq
   rw [Rat.mkRat_eq_zero (E7 c)]
   unfold sg; split <;> omega
  rw [Ne,e]; simp
 rw [h]
 exact ⟨fun ⟨a,b⟩=>⟨a.symm,b⟩,fun ⟨a,b⟩=>⟨a.symm,b⟩⟩
theorem A02 {l:List Aj} (h:∀(j:Nat) (x y:Aj),l[j]? = some x->l[j+1]? = some y->C9 x.Mono y.Mono<0):l.Pairwise ltT:=by
 induction l with
 | nil=>exact List.Pairwise.nil
 | cons t l ih=>
  have ih:=ih fun j x y hx hy=>h (j+1) x y (by simpa using hx) (by simpa using hy)
  refine List.pairwise_cons.2 ⟨?_,ih⟩
  cases l with
  | nil=>intro u hu; cases hu
  | cons v l=>
   have h0:=h 0 t v rfl rfl
   intro u hu
   rcases List.mem_cons.1 hu with rfl | hu
   .exact h0
   .exact Uq h0 ((List.pairwise_cons.1 ih).1 u hu)
theorem X1 {data:List Ap} {vars:List Ah} {res:Ah} {p:List Aj}:Hh data vars res p=true↔p.length<=1000/\CP p/\∀t∈p,Iw data vars res t.Mono=true:=by
 unfold Hh
 rw [Cu,decide_eq_true_eq]
 constructor
 .rintro ⟨h1,h2⟩
  have g:∀(j:Nat) (t:Aj),p[j]? = some t->Xu t.Coef=true/\Iw data vars res t.Mono=true/\Rw p t j=true:=by
   intro j t hj
   have:=Hx h2 hj
   simp only [Un,Cu] at this
   exact ⟨this.1.1,this.1.2,this.2⟩
  refine ⟨h1,⟨A02 fun j x y hx hy=>?_,fun t ht=>?_⟩,fun t ht=>?_⟩
  .have:=(g _ _ hy).2.2
   unfold Rw at this
   rw [show j+1-1=j by omega,hx] at this
   simpa using this
  .obtain ⟨j,hj⟩:=List.getElem?_of_mem ht
   exact (Api _).1 (g j t hj).1
  .obtain ⟨j,hj⟩:=List.getElem?_of_mem ht
   exact (g j t hj).2.1
 .rintro ⟨h1,h2,h3⟩
  refine ⟨h1,List.all_eq_true.2 fun q hq=>?_⟩
  have hq:=List.mem_zipIdx' hq
  have hj:p[q.2]? = some q.1:=(B0 hq.1).trans (congrArg some hq.2.symm)
  have c:q.1∈p:=B7 hj
  simp only [Un,Cu]
  refine ⟨⟨(Api _).2 (h2.coe _ c),h3 _ c⟩,?_⟩
  unfold Rw
  by_cases h0:q.2=0
  .rw [h0]; rfl
  .have b:q.2-1<p.length:=by omega
   rw [B0 b]
   have:=List.pairwise_iff_getElem.1 h2.srt (q.2-1) q.2 b hq.1 (by omega)
   rw [<-hq.2] at this
   simp only [Bool.or_eq_true,decide_eq_true_eq]
   exact .inr this
end Go.Ab
namespace Go.Ab
open Go
theorem A03:∀(k:Nat) (t:Bc),Di t<=k->k<1099511627776->Qy k t=some t:=by
 intro k
 induction k with
 | zero=>intro t h; have:=F6 t; omega
 | succ k ih=>
  intro t h hk
  have c:=F6 t
  have b:=Pd t.Kids
  rw [Qy]
  refine Gf t.Kids (fun j=>((j:Int),(t.Kids.take j))) rfl (by omega) ?_ ?_
  .intro j x hj hx h1 h2 h3
   have:=La (B7 hx)
   simp only [h1,h2,h3,cond_true,Ad,ih x (by omega) (by omega)]
   rw [Dh (by simp; omega),Ad,C5 hx]
  .intro h1
   exact ⟨t.Kids,by simp,by cases t; rfl⟩
theorem A04 (m:A8) (b:MSz m):V6 m=some m:=by
 have g:=b.nf
 have f:=b.na
 unfold V6
 refine Gf m.Factors (fun j=>((j:Int),(m.Factors.take j))) rfl (by omega) ?_ ?_
 .intro j x hj hx h1 h2 h3
  have c:=B7 hx
  have:=b.fi x c
  simp only [h1,h2,h3,cond_true,Ad,A03 4000000 x.Index (by omega) (by omega)]
  rw [Dh (by simp; omega),Ad,C5 hx]
 .intro h1
  refine ⟨m.Factors,by simp,?_⟩
  dsimp only
  refine Gf m.Atoms (fun j=>((j:Int),(m.Atoms.take j))) rfl (by omega) ?_ ?_
  .intro j x hj hx h1 h2 h3
   have c:=B7 hx
   have:=b.al x c
   simp only [h1,h2,h3,cond_true,Ad,S8]
   rw [Dh (by simp; omega),Ad,Dh (by simp; omega),Ad,C5 hx]; rfl
  .intro h1
   exact ⟨m.Atoms,by simp,by cases m; rfl⟩
end Go.Ab
namespace Go.Ab
open Go
structure TB (k:Nat) (t:Aj):Prop where
 co:RB k t.Coef
 mo:MSz t.Mono
theorem TSz.tb {t:Aj} (h:TSz t):TB 1048576 t:=⟨h.co,h.mo⟩
theorem TB.mono {j k:Nat} {t:Aj} (h:TB j t) (hk:j<=k):TB k t:=⟨h.co.mono hk,h.mo⟩
def R0 (c:Ak) (m:A8):List Aj:=if nv c=0 then [] else [⟨Bq (sv c) (nv c) (dv c),m⟩]
theorem Apj (c:Ak):rq c=0↔nv c=0:=by
 unfold rq
 rw [Rat.mkRat_eq_zero (E7 c)]
 unfold sg; split <;> omega
theorem A05 (c:Ak) (m n:A8):cf (R0 c m) n=if C9 m n=0 then rq c else 0:=by
 unfold R0
 split
 .rename_i h
  rw [(Apj c).2 h]; simp [cf]
 .simp only [cf,Lc _ _ _ (E7 c)]
  show (if C9 m n=0 then rq c else 0)+0=_
  grind
structure Mg (F:Rat->Rat->Rat) (k:Nat) (p q R:List Aj):Prop where
 cp:CP R
 val:∀m,cf R m=F (cf p m) (cf q m)
 mon:∀t∈R,(∃u∈p,u.Mono=t.Mono)\/(∃u∈q,u.Mono=t.Mono)
 len:R.length<=p.length+q.length
 rb:∀t∈R,RB (k+1) t.Coef
theorem A06 {k:Nat} {c:Ak} {m:A8} (hc:RB k c):(∀t∈R0 c m,t.Mono=m/\Fx t.Coef/\rq t.Coef≠0/\RB (k+1) t.Coef)/\(R0 c m).length<=1:=by
 unfold R0
 split
 .exact ⟨fun _ h=>(by cases h),by simp⟩
 .rename_i h
  refine ⟨fun t ht=>?_,by simp⟩
  simp only [List.mem_singleton] at ht
  subst ht
  exact ⟨rfl,Ph _ _ _ (E7 c),by rw [Lc _ _ _ (E7 c)]; exact fun e=>h ((Apj c).1 e),Anf hc⟩
theorem Mg.step {F:Rat->Rat->Rat} {k:Nat} {p q g f R:List Aj} {c:Ak} {m:A8} (h:Mg F k g f R) (y:F 0 0=0) (hc:RB k c)
  (hv:∀n,C9 m n≠0->cf p n=cf g n/\cf q n=cf f n) (h0:rq c=F (cf p m) (cf q m)) (l:∀u∈g,C9 m u.Mono<0) (j:∀u∈f,C9 m u.Mono<0)
  (s:(∃u∈p,u.Mono=m)\/(∃u∈q,u.Mono=m)) (hp:∀u∈g,u∈p) (hq:∀u∈f,u∈q) (A:g.length+f.length+1<=p.length+q.length):Mg F k p q (R0 c m++R):=by
 obtain ⟨i,z⟩:=A06 (m:=m) hc
 have x:∀t∈R,C9 m t.Mono<0:=by
  intro t ht
  rcases h.mon t ht with ⟨u,hu,e⟩ | ⟨u,hu,e⟩
  .rw [<-e]; exact l u hu
  .rw [<-e]; exact j u hu
 refine ⟨?_,?_,?_,?_,?_⟩
 .refine ⟨List.pairwise_append.2 ⟨?_,h.cp.srt,?_⟩,?_⟩
  .unfold R0; split
   .exact List.Pairwise.nil
   .exact List.pairwise_singleton _ _
  .intro a ha b hb
   show C9 a.Mono b.Mono<0
   rw [(i a ha).1]; exact x b hb
  .intro t ht
   rcases List.mem_append.1 ht with ht | ht
   .exact ⟨(i t ht).2.1,(i t ht).2.2.1⟩
   .exact h.cp.coe t ht
 .intro n
  rw [Ur,A05,h.val n]
  by_cases e:C9 m n=0
  .rw [if_pos e]
   have e':=Km.1 e
   subst e'
   rw [Ry l,Ry j,y,h0]; grind
  .rw [if_neg e,(hv n e).1,(hv n e).2]; grind
 .intro t ht
  rcases List.mem_append.1 ht with ht | ht
  .rw [(i t ht).1]; exact s
  .rcases h.mon t ht with ⟨u,hu,e⟩ | ⟨u,hu,e⟩
   .exact .inl ⟨u,hp u hu,e⟩
   .exact .inr ⟨u,hq u hu,e⟩
 .rw [List.length_append]; have:=h.len; omega
 .intro t ht
  rcases List.mem_append.1 ht with ht | ht
  .exact (i t ht).2.2.2
  .exact h.rb t ht
end Go.Ab
