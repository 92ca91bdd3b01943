/- Plain laws: what the plain functions answer. -/
import Derived.Test.YtkafffjlpedijaaGreatDoorWtPl1
import Derived.Lib.ItoaLen
import Derived.KernelRfl
namespace Go.Ab
open Go
def I64 (n:Int):Prop:= -9223372036854775808<=n/\n<=9223372036854775807
def ti (n:Int):List Int:=(Lib.itoa n).map λc=>(c.toNat:Int)
def P5 (c:Int):Bool:=c==45||(decide (48<=c)&&decide (c<=57))
theorem W9 {d:Nat} (h:d<10):(UInt8.ofNat (48+d)).toNat=48+d:=by rw[UInt8.toNat_ofNat'];omega
theorem Aff:∀(n u:Nat),u<=n->∀c∈Lib.decDigits u,48<=c.toNat/\c.toNat<=57:=by
 intro n;induction n with
 | zero=>intro u hu c hc;rw[Lib.decDigits,dif_pos ω]at hc;simp only[Dw]at hc;subst hc;rw[W9 ω];omega
 | succ n ih=>
  intro u hu c hc;rw[Lib.decDigits]at hc;split at hc
  .simp only[Dw]at hc;subst hc;rw[W9 ω];omega
  .rcases D7.1 hc with h|h
   .exact ih (u / 10) ω c h
   .simp only[Dw]at h;subst h;rw[W9 ω];omega
def Afg (l:List UInt8):Nat:=l.foldl (λa c=>10*a+(c.toNat-48)) 0
theorem Ary:∀(n u:Nat),u<=n->Afg (Lib.decDigits u)=u:=by
 intro n;induction n with
 | zero=>intro u hu;rw[Lib.decDigits,dif_pos ω];simp only[Afg,List.foldl_cons,List.foldl_nil];rw[W9 ω];omega
 | succ n ih=>
  intro u hu;rw[Lib.decDigits];split
  .simp only[Afg,List.foldl_cons,List.foldl_nil];rw[W9 ω];omega
  .have:=ih (u / 10) ω;unfold Afg at *;rw[List.foldl_append,this];simp only[List.foldl_cons,List.foldl_nil];rw[W9 ω];omega
theorem Arz {u v:Nat} (h:Lib.decDigits u=Lib.decDigits v):u=v:=by rw[<-Ary u u (Nat.le_refl _),h,Ary v v (Nat.le_refl _)]
theorem A4z (u:Nat):Lib.decDigits u≠[]:=by rw[Lib.decDigits];split <;> simp
theorem A40 {m n:Int} (h:Lib.itoa m=Lib.itoa n):m=n:=by
 have b:∀u v:Nat,45::Lib.decDigits u≠Lib.decDigits v:=by intro u v e;have:=Aff v v (Nat.le_refl _) 45 (by rw[<-e];simp);exact absurd this δ
 unfold Lib.itoa at h;split at h <;> split at h
 .have:=Arz (List.cons.inj h).2;omega
 .exact absurd h (b _ _)
 .exact absurd h.symm (b _ _)
 .have:=Arz h;omega
theorem I0 (n:Int):∀c∈ti n,P5 c=true:=by
 intro c hc;unfold ti at hc;obtain⟨b,hb,rfl⟩:=List.mem_map.1 hc;have key:b=45\/(48<=b.toNat/\b.toNat<=57):=by
  unfold Lib.itoa at hb;split at hb
  .rcases Fx.1 hb with h|h
   .exact .inl h
   .exact .inr (Aff _ _ (Nat.le_refl _) b h)
  .exact .inr (Aff _ _ (Nat.le_refl _) b hb)
 unfold P5;rcases key with rfl|⟨h1,h2⟩
 .decide
 .rw[Bool.or_eq_true,Ck,C8,C8];right;omega
theorem Aj2 (n:Int):ti n≠[]:=by
 unfold ti Lib.itoa;split
 .simp
 .simpa using A4z _
theorem Un {m n:Int} (h:ti m=ti n):m=n:=by
 unfold ti at h;have:∀l m:List UInt8,l.map (λc=>(c.toNat:Int))=m.map (λc=>(c.toNat:Int))->l=m:=by
  intro l;induction l with
  | nil=>intro m h;cases m with|nil=>rfl|cons=>simp at h
  | cons x xs ih=>intro m h;cases m with| nil=>simp at h| cons y ys=>simp only[List.map_cons,List.cons.injEq]at h;rw[ih ys h.2,UInt8.toNat.inj (ω:x.toNat=y.toNat)]
 exact A40 (this _ _ h)
theorem N5 {n:Int} (h:I64 n):(ti n).length<=21:=by unfold ti;rw[Ix];exact Lib.itoa_length_le n h.1 h.2
def Sb (X:List Int):Prop:=∀c m,X=c::m->P5 c=false/\c≠40
def Me (X:List Int):Prop:=∀c m,X=c::m->P5 c=false
theorem P6:∀(a b X Y:List Int),(∀c∈a,P5 c=true)->(∀c∈b,P5 c=true)->Me X->Me Y->a++X=b++Y->a=b/\X=Y
 | [],[],_,_,_,_,_,_,h=>⟨rfl,h⟩
 | [],y::b,X,Y,_,hb,g,_,h=>by have:=g y (b++Y) h;rw[hb y ψ]at this;cases this
 | x::a,[],X,Y,ha,_,_,f,h=>by have:=f x (a++X) h.symm;rw[ha x ψ]at this;cases this
 | x::a,y::b,X,Y,ha,hb,g,f,h=>by simp only[Du,List.cons.injEq]at h;obtain⟨j,i⟩:=P6 a b X Y (λc hc=>ha c (by simp[hc])) (λc hc=>hb c (by simp[hc])) g f h.2;exact⟨by rw[h.1,j],i⟩
mutual
def wx:Bj->List Int
 | ⟨n,kids⟩=>ti n++(if kids.length=0 then [] else 40::(wxs kids++[41]))
def wxs:List Bj->List Int
 | []=>[]
 | x::xs=>wx x++44::wxs xs
end
theorem Aj3 (i:Bj):wx i=ti i.U++(if i.K.length=0 then [] else 40::(wxs i.K++[41])):=by cases i;simp only[wx]
theorem Ar0 (l m:List Bj):wxs (l++m)=wxs l++wxs m:=by induction l with| nil=>simp[wxs]| cons x xs ih=>simp only[Du,wxs,ih,List.append_assoc]
theorem Ar1 (b:List Bj) (X:List Int) (f:Sb X):Me ((if b.length=0 then [] else 40::(wxs b++[41]))++X):=by
 intro c m h;by_cases hk:b.length=0
 .rw[Ay hk,List.nil_append]at h;exact (f c m h).1
 .rw[Av hk,Du]at h;cases h;decide
theorem Ar2 (X:List Int):Sb (44::X):=by intro c m h;cases h;exact⟨δ,δ⟩
theorem Ar3:Sb []:=by intro c m h;cases h
mutual
theorem Aj4:∀(i j:Bj) (X Y:List Int),Sb X->Sb Y->wx i++X=wx j++Y->i=j/\X=Y
 | ⟨n,k⟩,⟨n',k'⟩,X,Y,hX,hY,h=>by
  simp only[wx,List.append_assoc]at h
  obtain⟨e1,e2⟩:=P6 _ _ _ _ (I0 n) (I0 n') (Ar1 k X hX) (Ar1 k' Y hY) h
  have e1:=Un e1
  subst e1
  by_cases hk:k.length=0
  .by_cases hk':k'.length=0
   .rw[Ay hk,Ay hk']at e2
    rw[Fa.1 hk,Fa.1 hk']
    exact⟨rfl,e2⟩
   .rw[Ay hk,Av hk',List.nil_append,Du]at e2
    exact absurd rfl (hX _ _ e2).2
  .by_cases hk':k'.length=0
   .rw[Av hk,Ay hk',List.nil_append,Du]at e2
    exact absurd rfl (hY _ _ e2.symm).2
   .rw[Av hk,Av hk',Du,Du,List.append_assoc,List.append_assoc]at e2
    obtain⟨e3,e4⟩:=Ar4 k k' X Y hX hY (List.cons.inj e2).2
    rw[e3];exact⟨rfl,e4⟩
theorem Ar4:∀(l m:List Bj) (X Y:List Int),Sb X->Sb Y->wxs l++([41]++X)=wxs m++([41]++Y)->l=m/\X=Y
 | [],[],X,Y,_,_,h=>by
  simp only[wxs,List.nil_append,Du,List.cons.injEq,true_and]at h
  exact⟨rfl,h⟩
 | [],y::ys,X,Y,_,_,h=>by
  exfalso
  cases ht:ti y.U with
  | nil=>exact Aj2 _ ht
  | cons c r=>
   have hc:=I0 y.U c (by rw[ht];simp)
   simp only[wxs,Aj3 y,ht,List.nil_append,Du,List.cons.injEq]at h
   rw[<-h.1]at hc;exact absurd hc δ
 | x::xs,[],X,Y,_,_,h=>by
  exfalso
  cases ht:ti x.U with
  | nil=>exact Aj2 _ ht
  | cons c r=>
   have hc:=I0 x.U c (by rw[ht];simp)
   simp only[wxs,Aj3 x,ht,List.nil_append,Du,List.cons.injEq]at h
   rw[h.1]at hc;exact absurd hc δ
 | x::xs,y::ys,X,Y,hX,hY,h=>by
  simp only[wxs,List.append_assoc,Du]at h
  obtain⟨e1,e2⟩:=Aj4 x y _ _ (Ar2 _) (Ar2 _) h
  obtain⟨e3,e4⟩:=Ar4 xs ys X Y hX hY (by simpa using e2)
  exact⟨by rw[e1,e3],e4⟩
end
mutual
def iR:Bj->Prop
 | ⟨n,l⟩=>I64 n/\iRs l
def iRs:List Bj->Prop
 | []=>True
 | x::xs=>iR x/\iRs xs
end
theorem A41 (i:Bj):iR i↔I64 i.U/\iRs i.K:=by cases i;simp only[iR]
theorem A42 {l:List Bj} (h:iRs l) {a:Bj} (ha:a∈l):iR a:=by
 induction l with
 | nil=>cases ha
 | cons x xs ih=>
  simp only[iRs]at h;rcases Fx.1 ha with rfl|ha
  .exact h.1
  .exact ih h.2 ha
mutual
theorem Aj5:∀i:Bj,iR i->(wx i).length+1<=24*Dl i
 | ⟨n,l⟩,h=>by
  simp only[iR]at h
  have h1:=Afh l h.2
  have h2:=N5 h.1
  simp only[wx,Dl,Fb]
  by_cases hl:l.length=0
  .rw[Ay hl];simp;omega
  .rw[Av hl];simp;omega
theorem Afh:∀l:List Bj,iRs l->(wxs l).length<=24*Gj l
 | [],_=>by simp[wxs,Gj]
 | x::xs,h=>by
  simp only[iRs]at h
  have h1:=Aj5 x h.1
  have h2:=Afh xs h.2
  have h3:=Hc x
  simp only[wxs,Gj,Fb,Ei];omega
end
theorem Ar5 (l m:List Bj):Gj (l++m)=Gj l+Gj m:=by induction l with| nil=>simp[Gj]| cons x xs ih=>simp only[Du,Gj,ih];omega
theorem A43 (l m:List Bj):iRs (l++m)↔iRs l/\iRs m:=by induction l with| nil=>simp[iRs]| cons x xs ih=>simp only[Du,iRs,ih,and_assoc]
theorem Aj6 {n:Int} (h:I64 n):Pc n=some ⟨(Lib.itoa n).toArray⟩:=by unfold Pc;rw[Ay (show _/\_ from h)]
theorem A44 (n:Int):Nq ⟨(Lib.itoa n).toArray⟩=ti n:=by unfold Nq ti;simp
theorem A45:∀(k:Nat) (i:Bj) (b:List Int),Dl i<=k->iR i->b.length+24*Dl i<=1099511627776->T5 k i b=some (b++wx i):=by
 intro k;induction k with
 | zero=>intro i b h;have:=Hc i;omega
 | succ k ih=>
  intro i b h c hb;have hi:=Hc i;have z:=P4 i.K;have c:=(A41 i).1 c;have A:=N5 c.1;rw[T5,Aj3];simp only[Jd,Aj6 c.1,Ad,Hh,Wr,A44];rw[Dm ω];simp only[Ad];by_cases h0:i.K.length=0
  .rw[Ax ω,Ay h0];simp
  .rw[Ap ω,Av h0];simp only[Ak,Wl,Wr,Ad];rw[Dm ζ,Ad];have g:=Afh i.K c.2;have l:∀j,(wxs (i.K.take j)).length<=24*Gj i.K:=λj=>by have:=Ar0 (i.K.take j) (i.K.drop j);rw[List.take_append_drop]at this;rw[this,Fb]at g;omega
   refine Ho i.K (λj=>((j:Int),b++ti i.U++[40]++wxs (i.K.take j))) (by simp[wxs]) ω ?_ ?_
   .intro j x hj hx h1 h2 h3;have hm:=Md (Cf hx);have f:=A42 c.2 (Cf hx);have y:=Aj5 x f;have hh:=l (j+1);have e:wxs (i.K.take (j+1))=wxs (i.K.take j)++(wx x++[44]):=(by rw[Dc hx,Ar0];simp[wxs]);rw[e]at hh;simp only[Fb,Ei,List.length_nil]at hh;simp only[h1,h2,h3,Ak,Ad];have u:Gj (i.K.take j)+Dl x<=Gj i.K:=(by have q:=Ar5 (i.K.take (j+1)) (i.K.drop (j+1));rw[List.take_append_drop,Dc hx,Ar5]at q;simp only[Gj]at q;omega);have s:(wxs (i.K.take j)).length<=24*Gj (i.K.take j):=Afh _ (by have:=(A43 (i.K.take j) (i.K.drop j)).1 (by rw[List.take_append_drop];exact c.2);exact this.1);rw[ih x _ ω f ζ];simp only[Ad];rw[Dm ζ,e];simp
   .intro h1;refine⟨b++ti i.U++[40]++wxs i.K,ψ,?_⟩;rw[Dm ζ];simp
def J4 (v:Int) (i:Bj):List Int:=118::(ti v++58::wx i)
def I1 (v:Int) (i:Bj):ByteArray:=⟨(E2 (J4 v i)).toArray⟩
mutual
theorem Ar6:∀i:Bj,∀c∈wx i,0<=c/\c<256
 | ⟨n,l⟩,c,h=>by
  simp only[wx,D7]at h
  rcases h with h|h
  .have:=I0 n c h
   simp only[P5,Bool.or_eq_true,Ck,beq_iff_eq,C8]at this
   omega
  .by_cases hl:l.length=0
   .rw[Ay hl]at h;cases h
   .rw[Av hl]at h
    simp only[Fx,D7,List.not_mem_nil,or_false]at h
    rcases h with h|h|h
    .omega
    .exact Ar7 l c h
    .omega
theorem Ar7:∀l:List Bj,∀c∈wxs l,0<=c/\c<256
 | [],c,h=>by simp[wxs]at h
 | x::xs,c,h=>by
  simp only[wxs,D7,Fx]at h
  rcases h with h|h|h
  .exact Ar6 x c h
  .omega
  .exact Ar7 xs c h
end
theorem Afi (v:Int) (i:Bj):∀c∈J4 v i,0<=c/\c<256:=by
 intro c h;simp only[J4,Fx,D7]at h;rcases h with h|h|h|h
 .omega
 .have:=I0 v c h;simp only[P5,Bool.or_eq_true,Ck,beq_iff_eq,C8]at this;omega
 .omega
 .exact Ar6 i c h
theorem Aj7:∀l m:List Int,(∀c∈l,0<=c/\c<256)->(∀c∈m,0<=c/\c<256)->E2 l=E2 m->l=m
 | [],[],_,_,_=>rfl
 | [],_::_,_,_,h=>by simp[E2]at h
 | _::_,[],_,_,h=>by simp[E2]at h
 | x::xs,y::ys,h1,h2,h=>by simp only[E2,List.map_cons,List.cons.injEq]at h;have hx:=h1 x ψ;have hy:=h2 y ψ;have e:x.toNat=y.toNat:=(by have:=congrArg UInt8.toNat h.1;rw[UInt8.toNat_ofNat',UInt8.toNat_ofNat']at this;omega);rw[Aj7 xs ys (λc hc=>h1 c (by simp[hc])) (λc hc=>h2 c (by simp[hc])) h.2,show x=y by omega]
theorem Ar8 {v w:Int} {i j:Bj} (h:I1 v i=I1 w j):v=w/\i=j:=by
 unfold I1 at h;have h1:(E2 (J4 v i)).toArray=(E2 (J4 w j)).toArray:=by injection h
 have h2:E2 (J4 v i)=E2 (J4 w j):=by simpa using congrArg Array.toList h1
 have h3:=Aj7 _ _ (Afi v i) (Afi w j) h2;simp only[J4,List.cons.injEq,true_and]at h3;have b:∀X:List Int,Me (58::X):=λX c m e=>by cases e;decide
 obtain⟨k,g⟩:=P6 _ _ _ _ (I0 v) (I0 w) (b _) (b _) h3;obtain⟨f,_⟩:=Aj4 i j [] [] Ar3 Ar3 (by simpa using (List.cons.inj g).2);exact⟨Un k,f⟩
theorem A46 (l:List UInt8):Nq ⟨l.toArray⟩=l.map λb=>(b.toNat:Int):=by unfold Nq;simp
theorem Aj8 (v:Int) (i:Bj) (hv:I64 v) (f:iR i) (hi:Dl i<=1048576):L7 v i=some (I1 v i):=by
 have k:=N5 hv;have c:(Lib.itoa v).length=(ti v).length:=by unfold ti;simp
 unfold L7;have j:F8 (ByteArray.mk #[118]) ⟨(Lib.itoa v).toArray⟩=some ⟨(118::Lib.itoa v).toArray⟩:=by
  unfold F8;rw[Ay]
  .congr 1
  .show 1+(Lib.itoa v).toArray.size<=9223372036854775807;rw[List.size_toArray];omega
 have h:F8 ⟨(118::Lib.itoa v).toArray⟩ (ByteArray.mk #[58])=some ⟨(118::(Lib.itoa v++[58])).toArray⟩:=by
  unfold F8;rw[Ay]
  .congr 1
  .show (118::Lib.itoa v).toArray.size+1<=9223372036854775807;rw[List.size_toArray,Ei];omega
 simp only[Jd,Aj6 hv,Ad,j,h,Jm,Zw,A46];rw[Dm ζ];simp only[Ad];rw[A45 4000000 i _ ω f ζ];simp only[Ad,L8];have g:([]++(118::(Lib.itoa v++[58])).map λb=>(b.toNat:Int))++wx i=J4 v i:=by unfold J4 ti;simp
 rw[g];unfold Yd I1;rw[Ay (Afi v i)];rfl
mutual
theorem Ar9 (data:List Aw):∀(i:Bj) (t:Ah) (d:Nat),G1 data i t=some d->d<=6*Dl i
 | ⟨n,kids⟩,t,d,h=>by
  rw[Aaw]at h
  simp only[Dl]
  simp only at h
  split at h
  .split at h
   .have:=Aax data kids _ d h;omega
   .cases h
  .split at h
   .split at h
    .cases h;omega
    .cases h
   .split at h
    .split at h
     .have:=Asa data kids _ d h;omega
     .cases h
    .split at h
     .cases h;omega
     .cases h
theorem Aax (data:List Aw):∀(is:List Bj) (ts:List Ah) (d:Nat),D0 data is ts=some d->d<=6*Gj is
 | [],[],d,h=>by simp only[D0]at h;cases h;omega
 | i::is,t::ts,d,h=>by
  rw[Sa]at h
  cases h1:G1 data i t with
  | none=>rw[h1]at h;cases h
  | some a=>
   rw[h1,Ad]at h
   cases h2:D0 data is ts with
   | none=>rw[h2]at h;cases h
   | some b=>
    rw[h2]at h
    cases h
    have:=Ar9 data i t a h1
    have:=Aax data is ts b h2
    simp only[Gj];omega
 | [],_::_,d,h=>by simp only[D0]at h;cases h
 | _::_,[],d,h=>by simp only[D0]at h;cases h
theorem Asa (data:List Aw):∀(es:List Bj) (t:Ah) (d:Nat),Ib data es t=some d->d<=6*Gj es
 | [],t,d,h=>by simp only[Ib]at h;cases h;omega
 | ⟨n,kids⟩::es,t,d,h=>by
  rw[Afd]at h
  simp only at h
  cases h1:Ig data t n with
  | none=>rw[h1]at h;cases h
  | some ts=>
   rw[h1,Ad]at h
   cases h2:D0 data kids ts with
   | none=>rw[h2]at h;cases h
   | some a=>
    rw[h2,Ad]at h
    cases h3:Ib data es t with
    | none=>rw[h3]at h;cases h
    | some b=>
     rw[h3]at h
     cases h
     have:=Aax data kids ts a h2
     have:=Asa data es t b h3
     simp only[Gj,Dl];omega
end
def Xa (data:List Aw) (e:Bj) (t:Ah):Option Nat:=(Ig data t e.U).bind λts=>(D0 data e.K ts).map (1 + ·)
theorem A47 (data:List Aw) (e:Bj) (es:List Bj) (t:Ah):Ib data (e::es) t=(Xa data e t).bind λa=>(Ib data es t).map (a + ·):=by rw[Afd];unfold Xa;cases Ig data t e.U with| none=>rfl| some ts=>simp only[Ad];cases D0 data e.K ts <;> rfl
theorem A48 (data:List Aw) (e:Bj) (t:Ah) (d:Nat) (h:Xa data e t=some d):d<=6*Dl e:=by
 unfold Xa at h;cases h1:Ig data t e.U with
 | none=>rw[h1]at h;cases h
 | some ts=>rw[h1,Ad]at h;cases h2:D0 data e.K ts with| none=>rw[h2]at h;cases h| some a=>rw[h2]at h;cases h;have:=Aax data _ ts a h2;have:=Hc e;show 1+a<=_;omega
def Dg (v:Int) (o:Option Nat):Prop:=(v = -1/\∀d,o=some d->6<d)\/∃d:Nat,o=some d/\v=d
theorem Dg.clip {v:Int} {o:Option Nat} (h:Dg v o):(if v>6 then -1 else v)=Kd o:=by
 rcases h with⟨rfl,h⟩|⟨d,rfl,rfl⟩
 .rw[Av ω,Arx h]
 .by_cases hd:6<d
  .rw[Ay ω,Aj1 hd]
  .rw[Av ω,Afe ω]
theorem Afj {o p:Option Nat} {acc:Nat} {d:Nat} (h:(o.bind λa=>p.map (a + ·)).map (acc + ·)=some d):∃a b,o=some a/\p=some b/\d=acc+(a+b):=by
 cases o with
 | none=>cases h
 | some a=>cases p with| none=>cases h| some b=>exact⟨a,b,rfl,rfl,by simp at h;omega⟩
theorem A49 {data:List Aw} (hz:Szv data) (hs:O0 data) (b1:List (ByteArray×Int)) (b2:List (ByteArray×List Ch)) (vars:List Ah) (M L:Int) (J:List Ah):∀k:Nat, (∀(i:Bj) (t:Ah),3*Dl i<=k->Dl i<=1048576->B5 t<=200->∃v,Rq k t i b1 b2 data vars M L J=some v/\Dg v (G1 data i t)) /\ (∀(f:List Bj) (ts:List Ah),3*Gj f+1<=k->Gj f<=1048576->(∀t∈ts,B5 t<=200)->∃v,T8 k ts f b1 b2 data vars M L J=some v/\Dg v (D0 data f ts)) /\ (∀(e:Bj) (t:Ah),3*Dl e<=k->Dl e<=1048576->B5 t<=200->∃v,T9 k t e b1 b2 data vars M L J=some v/\Dg v (Xa data e t)):=by
 intro k;induction k with
 | zero=>exact⟨λi t h=>by have:=Hc i;omega,λf ts h=>ω,λi t h=>by have:=Hc i;omega⟩
 | succ k ih=>
  obtain⟨a6,N,a7⟩:=ih;have D:∀o:Option Nat,o.map (0 + ·)=o:=(by intro o;cases o <;> simp);have c:∀d:Nat,(none:Option Nat)=some d->6<d:=λd h=>by cases h
  refine⟨?_,?_,?_⟩
  .intro i t hk hi ht;have af:=Hc i;have R:=P4 i.K;rw[Rq,Aaw];by_cases Y:t.G=6
   .simp only[Dk Y,Ak,Ay Y];by_cases h0:i.U=0
    .simp only[Dk h0,Ak,Ay h0];obtain⟨p,p1,p2⟩:=N i.K t.R ω ω (λa ha=>by have:=Ln ha;have:=K4 t;omega);rw[p1];exact⟨p,rfl,p2⟩
    .simp only[Cn h0,Am,Av h0];exact⟨_,rfl,.inl ⟨rfl,c⟩⟩
   .simp only[Cn Y,Am,Av Y];by_cases X:t.G=7
    .simp only[Dk X,Ak,Ay X];by_cases a1:0<=i.U
     .by_cases a2:i.U<=6
      .by_cases a3:i.K.length=0
       .rw[Ap (show i.U>=0 from a1),Ap a2,Ay ⟨a1,a2,a3⟩,Dk ω];exact⟨_,rfl,.inr ⟨i.U.toNat,rfl,ω⟩⟩
       .rw[Ap (show i.U>=0 from a1),Ap a2,Av (λh=>a3 h.2.2),Cn ω];exact⟨_,rfl,.inl ⟨rfl,c⟩⟩
      .rw[Ap (show i.U>=0 from a1),Ax a2,Av (λh=>a2 h.2.1)];exact⟨_,rfl,.inl ⟨rfl,c⟩⟩
     .rw[Ax (show ¬i.U>=0 from a1),Av (λh=>a1 h.1)];exact⟨_,rfl,.inl ⟨rfl,c⟩⟩
    .simp only[Cn X,Am,Av X];by_cases Z:t.G=5
     .simp only[Dk Z,Ak,Ay Z];by_cases h0:i.U=0
      .simp only[Fc h0,Am,Ay h0];have key:∀(m j acc:Nat),j+m=i.K.length->acc<=10000000->∃z,An (S:=(Int×Int)) (E:=(Int⊕Int)) (λ(G,v8)=>
         bif v8<(i.K.length:Int) then ((Af i.K v8).bind λv9=> (T9 k t v9 b1 b2 data vars M L J).bind λv11=> bif v11<(0:Int) then some (.inr (.inl (-1))) else (bif G>(6:Int) then some (.inr (.inl (-1))) else some (.inl ((Ac (G+v11)),(Ac (v8+1)))))) else some (.inr (.inr G))) ((acc:Int),(j:Int))=some z/\Dg (match z with|.inl v=>v | .inr v=>v) ((Ib data (i.K.drop j) t).map (acc + ·)):=by
        intro m;induction m with
        | zero=>intro j acc hj A;have:j=i.K.length:=ω;subst this;exact⟨.inr (acc:Int),D5 ψ,.inr ⟨acc,by simp[Ib],rfl⟩⟩
        | succ m s=>
         intro j acc hj A;have g:i.K[j]? = some i.K[j]:=Bx ω;generalize i.K[j]=e at g;have ac:=Md (Cf g);rw[Js g,A47];obtain⟨v,B,v2⟩:=a7 e t ω ω ht;rcases v2 with⟨rfl,v2⟩|⟨a,a1,rfl⟩
         .refine⟨.inl (-1),D5 ?_,.inl ⟨rfl,λd h=>?_⟩⟩
          .simp only[Ap (ω:(j:Int)<(i.K.length:Int)),Ak,Bv rfl g,Ad,B];rfl
          .obtain⟨a,b,ha,hb,rfl⟩:=Afj h;have:=v2 a ha;omega
         .have U:=A48 data e t a a1;by_cases hb:acc>6
          .refine⟨.inl (-1),D5 ?_,.inl ⟨rfl,λd h=>?_⟩⟩
           .simp only[Ap (ω:(j:Int)<(i.K.length:Int)),Ak,Bv rfl g,Ad,B,Ax (ω:¬(a:Int)<0),Ap (ω:(acc:Int)>6),Am]
           .obtain⟨a,b,ha,hb,rfl⟩:=Afj h;omega
          .have ew:Ac ((acc:Int)+(a:Int))=((acc+a:Nat):Int):=ξ;obtain⟨z,q,z2⟩:=s (j+1) (acc+a) ω ω;refine⟨z,?_,?_⟩
           .rw[Ir (s':=(((acc+a:Nat):Int),((j+1:Nat):Int)))]
            .exact q
            .simp only[Ap (ω:(j:Int)<(i.K.length:Int)),Ak,Bv rfl g,Ad,B,Ax (ω:¬(a:Int)<0),Ax (ω:¬(acc:Int)>6),Am,ew,C9 (show j<i.K.length by omega) ω]
           .have D:∀o:Option Nat,(((some a:Option Nat).bind λa=>o.map (a + ·)).map (acc + ·))=o.map (acc+a + ·):=(by intro o;cases o <;> simp[Nat.add_assoc]);rw[a1,D];exact z2
       obtain⟨z,q,z2⟩:=key i.K.length 0 0 ω ω;have q:An _ ((0:Int),(0:Int))=some z:=q;rw[q,Ad];rw[List.drop_zero,D]at z2;cases z with| inl v=>exact⟨v,rfl,z2⟩| inr v=>exact⟨v,rfl,z2⟩
      .simp only[Ek h0,Ak,Av h0];exact⟨_,rfl,.inl ⟨rfl,c⟩⟩
     .simp only[Cn Z,Am,Av Z];by_cases h0:i.U=0
      .simp only[Dk h0,Ak];by_cases a3:i.K.length=0
       .rw[Ay ⟨h0,a3⟩,Dk ω];exact⟨_,rfl,.inr ⟨0,rfl,rfl⟩⟩
       .rw[Av (λh=>a3 h.2),Cn ω];exact⟨_,rfl,.inl ⟨rfl,c⟩⟩
      .simp only[Cn h0,Am];rw[Av (λh=>h0 h.1)];exact⟨_,rfl,.inl ⟨rfl,c⟩⟩
  .intro f ts hk hi ht;have R:=P4 f;rw[T8];by_cases hl:ts.length=f.length
   .rw[Fc ω];simp only[Am];have key:∀(m j acc:Nat),j+m=f.length->acc<=10000000->∃z,An (S:=(Int×Int)) (E:=(Int⊕Int)) (λ(v5,V)=>
      bif V<(ts.length:Int) then ((Af ts V).bind λG=> (Af f V).bind λv9=> (Rq k G v9 b1 b2 data vars M L J).bind λI=> bif I<(0:Int) then some (.inr (.inl (-1))) else (bif v5>(6:Int) then some (.inr (.inl (-1))) else some (.inl ((Ac (v5+I)),(Ac (V+1)))))) else some (.inr (.inr v5))) ((acc:Int),(j:Int))=some z/\Dg (match z with|.inl v=>v | .inr v=>v) ((D0 data (f.drop j) (ts.drop j)).map (acc + ·)):=by
     intro m;induction m with
     | zero=>intro j acc hj A;have:j=ts.length:=ω;subst this;refine⟨.inr (acc:Int),D5 ψ,.inr ⟨acc,?_,rfl⟩⟩;rw[List.drop_of_length_le ω,List.drop_of_length_le ω];simp[D0]
     | succ m s=>
      intro j acc hj A;have g:f[j]? = some f[j]:=Bx ω;generalize f[j]=e at g;have hu:ts[j]? = some ts[j]:=Bx ω;generalize ts[j]=u at hu;have ac:=Md (Cf g);rw[Js g,Js hu,Sa];obtain⟨v,B,v2⟩:=a6 e u ω ω (ht u (Cf hu));rcases v2 with⟨rfl,v2⟩|⟨a,a1,rfl⟩
      .refine⟨.inl (-1),D5 ?_,.inl ⟨rfl,λd h=>?_⟩⟩
       .simp only[Ap (ω:(j:Int)<(ts.length:Int)),Ak,Bv rfl g,Bv rfl hu,Ad,B];rfl
       .obtain⟨a,b,ha,hb,rfl⟩:=Afj h;have:=v2 a ha;omega
      .have U:=Ar9 data e u a a1;by_cases hb:acc>6
       .refine⟨.inl (-1),D5 ?_,.inl ⟨rfl,λd h=>?_⟩⟩
        .simp only[Ap (ω:(j:Int)<(ts.length:Int)),Ak,Bv rfl g,Bv rfl hu,Ad,B,Ax (ω:¬(a:Int)<0),Ap (ω:(acc:Int)>6),Am]
        .obtain⟨a,b,ha,hb,rfl⟩:=Afj h;omega
       .have ew:Ac ((acc:Int)+(a:Int))=((acc+a:Nat):Int):=ξ;obtain⟨z,q,z2⟩:=s (j+1) (acc+a) ω ω;refine⟨z,?_,?_⟩
        .rw[Ir (s':=(((acc+a:Nat):Int),((j+1:Nat):Int)))]
         .exact q
         .simp only[Ap (ω:(j:Int)<(ts.length:Int)),Ak,Bv rfl g,Bv rfl hu,Ad,B,Ax (ω:¬(a:Int)<0),Ax (ω:¬(acc:Int)>6),Am,ew,C9 (show j<f.length by omega) ω]
        .have D:∀o:Option Nat,(((some a:Option Nat).bind λa=>o.map (a + ·)).map (acc + ·))=o.map (acc+a + ·):=(by intro o;cases o <;> simp[Nat.add_assoc]);rw[a1,D];exact z2
    obtain⟨z,q,z2⟩:=key f.length 0 0 ω ω;have q:An _ ((0:Int),(0:Int))=some z:=q;rw[q,Ad];rw[List.drop_zero,List.drop_zero,D]at z2;cases z with| inl v=>exact⟨v,rfl,z2⟩| inr v=>exact⟨v,rfl,z2⟩
   .rw[Ek ω,Aj0 data f ts hl];exact⟨_,rfl,.inl ⟨rfl,c⟩⟩
  .intro e t hk g ht;have ag:=Hc e;rw[T9];unfold Xa Ig;rw[Afa hz t ht e.U,Ad];cases hf:Jr data t e.U with
   | none=>exact⟨-1,rfl,.inl ⟨rfl,c⟩⟩
   | some l=>
    have ad:=Aav hf;obtain⟨x,y,_,hx,_,hy,hl,ab⟩:=R9 hf;obtain⟨y6,_⟩:=hz x (Hq hx).2.2.2 y (Hq hy).2.2.2;have ae:l.length<=6:=(by rw[hl];simpa using y6);have aa:∀a∈G6 l (Eb data t.U e.U),B5 a<=200:=(Ajz (show Ig data t e.U=some _ by unfold Ig;rw[hf];rfl)).1;obtain⟨v,B,v2⟩:=N e.K (G6 l (Eb data t.U e.U)) ω ω aa;have hd:Dg (if v<0 then -1 else 1+v) (((some l).map λl=>G6 l (Eb data t.U e.U)).bind λts=>(D0 data e.K ts).map (1 + ·)):=by
     rw[Option.map_some,Ad];rcases v2 with⟨rfl,v2⟩|⟨a,a1,rfl⟩
     .refine .inl ⟨rfl,λd h=>?_⟩;cases ha:D0 data e.K (G6 l (Eb data t.U e.U)) with| none=>rw[ha]at h;cases h| some a=>rw[ha]at h;have:=v2 a ha;simp at h;omega
     .rw[a1,Av ω];exact .inr ⟨1+a,rfl,ω⟩
    have a8:v = -1\/(0<=v/\v<=10000000):=by
     rcases v2 with⟨rfl,v2⟩|⟨a,a1,rfl⟩
     .exact .inl rfl
     .have:=Aax data _ _ a a1;right;omega
    refine⟨_,?_,hd⟩;simp only[okL,Dz,Am,Aar data t.U e.U hs,Ad];refine Ho (Eb data t.U e.U) (λj=>((j:Int),G6 (l.take j) ((Eb data t.U e.U).take j))) (by simp[G6]) ω ?_ ?_
    .intro j b hj hb h1 h2 h3;have ha:l[j]? = some l[j]:=Bx ω;generalize l[j]=a at ha;have R:=Afb (l.take j) ((Eb data t.U e.U).take j);have:(l.take j).length<=6:=ζ;simp only[h1,h2,h3,Ak,Ad,Bv rfl ha,Ajy ha hb];rw[Dm ζ];cases b <;> simp
    .intro h1;refine⟨G6 l (Eb data t.U e.U),?_,?_⟩
     .simp only[h1];rw[Iw ω,Iw (Nat.le_refl _)];rfl
     .rw[B,Ad];rcases a8 with h|h
      .subst h;rfl
      .rw[Ax ω,Av ω];simp only[Am];rw[Ac,B3] <;> omega
def Ec (vars:List Ah) (res:Ah) (v:Int):Option Ah:=if v = -1 then some res else Af vars v
def Ef (data:List Aw) (vars:List Ah) (res:Ah) (o:List (ByteArray×Int)):Prop:=∀p∈o,∀v i t,p.1=I1 v i->Ec vars res v=some t->p.2=Kd (G1 data i t)
theorem Aj9 {α:Type}:∀(o:List (ByteArray×α)) (s:ByteArray) (v:α),∀p∈Gc o s v,p∈o\/p=(s,v)
 | [],s,v,p,h=>by simp only[Gc,Dw]at h;exact .inr h
 | q::o,s,v,p,h=>by
  unfold Gc at h;cases hq:(s==q.1) with
  | true=>
   rw[hq]at h;simp only[Ak,Fx]at h;rcases h with h|h
   .exact .inr h
   .exact .inl (by simp[h])
  | false=>
   rw[hq]at h;simp only[Am,Fx]at h;rcases h with h|h
   .exact .inl (by simp[h])
   .rcases Aj9 o s v p h with h|h
    .exact .inl (by simp[h])
    .exact .inr h
theorem A5a {data:List Aw} (B:Szv data) (D:O0 data) (b1:List (ByteArray×Int)) (b2:List (ByteArray×List Ch)) (vars:List Ah) (res:Ah) (hm:Ef data vars res b1) (v:Int) (i:Bj) (t:Ah) (ht:Ec vars res v=some t) (b:B5 t<=200) (hv:I64 v) (E:iR i) (hi:Dl i<=1048576) : ∃l,Nu v i b1 b2 data vars res.G res.U res.R=some (Kd (G1 data i t),l)/\Ef data vars res l:=by
 unfold Nu;rw[Aj8 v i hv E hi,Ad];cases hh:Fs b1 (I1 v i) with
 | true=>refine⟨b1,?_,hm⟩;have:Is b1 (I1 v i) 0=Kd (G1 data i t):=(by unfold Is;unfold Fs at hh;rw[List.any_eq_true]at hh;obtain⟨p,A,z⟩:=hh;cases f:b1.find? (λp=>I1 v i==p.1) with| none=>exact absurd z (by have:=List.find?_eq_none.1 f p A;simpa using this)| some q=>have hq:=List.find?_some f;exact hm q (List.mem_of_find?_eq_some f) v i t ((R8 _ _).1 hq).symm ht);simp only[Ak,Ad,Dz,Am,this]
 | false=>
  obtain⟨w,u,s⟩:=(A49 B D b1 b2 vars res.G res.U res.R 4000000).1 i t ω hi b;have c:Lf v b1 b2 data vars res.G res.U res.R=some t:=by
   unfold Lf;unfold Ec at ht;by_cases h:v = -1
   .rw[Ay h]at ht;cases ht;have G:(Ah.mk res.G res.U res.R)=res:=(by cases res;rfl);rw[Dk h,G];rfl
   .rw[Av h]at ht;rw[Cn h,ht];rfl
  have g:(bif decide (w>6) then some (-1) else some w:Option Int)=some (Kd (G1 data i t)):=by
   rw[<-s.clip];by_cases h:w>6
   .rw[Ap h,Ay h];rfl
   .rw[Ax h,Av h];rfl
  refine⟨Gc b1 (I1 v i) (Kd (G1 data i t)),?_,?_⟩
  .simp only[Am,Ad,Bool.not_false,Ak,c,u,g]
  .intro p hp x i' y k j;rcases Aj9 _ _ _ p hp with h|h
   .exact hm p h x i' y k j
   .subst h;obtain⟨rfl,rfl⟩:=Ar8 k;rw[ht]at j;cases j;rfl
def Fm (a b:Int):Int:=if a<b then -1 else if a>b then 1 else 0
def orI (a b:Int):Int:=if a=0 then b else a
theorem J5 {a b:Int}:Fm a b=0↔a=b:=by unfold Fm;split <;> (try split) <;> omega
theorem O1 (a b:Int):L6 a b=some (Fm a b):=by
 unfold L6 T1 Fm;simp only[Ad,bne_self_eq_false,Am];by_cases h:a<b
 .rw[Ap h,Ay h];rfl
 .rw[Ax h,Av h];by_cases h':a>b
  .rw[Ap h',Ay h'];rfl
  .rw[Ax h',Av h'];rfl
theorem Asb (a b:Int):Zt a b=some (Fm a b):=O1 a b
theorem Xb (a b:Int):Oq [a,b]=some (orI a b):=by
 unfold Oq orI;by_cases ha:a=0
 .rw[Ay ha];by_cases hb:b=0
  .refine Iy 2 (λj=>(j:Int)) rfl ?_ ⟨.inr (),rfl,by rw[hb]⟩;intro j hj
   match j,hj with| 0,_=>subst ha;rfl| 1,_=>subst hb;rfl
  .refine Iy 1 (λj=>(j:Int)) rfl ?_ ⟨.inl b,?_,rfl⟩
   .intro j hj
    match j,hj with| 0,_=>subst ha;rfl
   .show (bif (b != 0) then _ else _)=_;rw[Ek hb];rfl
 .rw[Av ha];refine Iy 0 (λj=>(j:Int)) rfl (λj hj=>ω) ⟨.inl a,?_,rfl⟩;show (bif (a != 0) then _ else _)=_;rw[Ek ha];rfl
def Ga {α:Type} (g:α->α->Int):List α->List α->Int
 | x::xs,y::ys=>orI (g x y) (Ga g xs ys)
 | _,_=>0
theorem A5b {α:Type} (g:α->α->Int) (l m:List α) {step:Int->Option (Int⊕(Int⊕Unit))} (i:l.length=m.length) (hb:l.length<4611686018427387904) (c:∀(j:Nat) (x y:α),l[j]? = some x->m[j]? = some y->decide ((j:Int)<(l.length:Int))=true->Af l (j:Int)=some x->Af m (j:Int)=some y->decide ((j:Int)>=(m.length:Int))=false->Ac ((j:Int)+1)=((j+1:Nat):Int) -> step (j:Int)=if g x y=0 then some (.inl ((j+1:Nat):Int)) else some (.inr (.inl (g x y)))) (f:decide ((l.length:Int)<(l.length:Int))=false->step (l.length:Int)=some (.inr (.inr ()))) : ∃z,An step 0=some z/\(match z with|.inl r=>r=Ga g l m/\r≠0 | .inr _=>Ga g l m=0):=by
 have key:∀(n j:Nat),j+n=l.length->∃z,An step (j:Int)=some z/\(match z with|.inl r=>r=Ga g (l.drop j) (m.drop j)/\r≠0 | .inr _=>Ga g (l.drop j) (m.drop j)=0):=by
  intro n;induction n with
  | zero=>intro j hj;have:j=l.length:=ω;subst this;refine⟨.inr (),D5 (f ψ),?_⟩;rw[List.drop_of_length_le ω];simp[Ga]
  | succ n ih=>
   intro j hj;have hx:l[j]? = some l[j]:=Bx ω;have hy:m[j]? = some m[j]:=Bx ω;generalize l[j]=x at hx;generalize m[j]=y at hy;have h:=c j x y hx hy (Ap ω) (Bv rfl hx) (Bv rfl hy) (Ax ω) (C9 (show j<l.length by omega) hb);rw[Js hx,Js hy];by_cases hg:g x y=0
   .rw[Ay hg]at h;obtain⟨z,b,z2⟩:=ih (j+1) ω;refine⟨z,by rw[Ir h];exact b,?_⟩;have e:Ga g (x::l.drop (j+1)) (y::m.drop (j+1))=Ga g (l.drop (j+1)) (m.drop (j+1)):=(by simp only[Ga,orI,hg,if_true]);cases z with| inl r=>simp only[e];exact z2| inr u=>simp only[e];exact z2
   .rw[Av hg]at h;refine⟨.inl (g x y),D5 h,?_,hg⟩;simp only[Ga,orI,hg,if_false]
 exact key l.length 0 ω
theorem Afk {α:Type} (f:α->α->Option Int) (g:α->α->Int) (l m:List α) (q:l.length=m.length) (hb:l.length<4611686018427387904) (s:∀(j:Nat) (x y:α),l[j]? = some x->m[j]? = some y->f x y=some (g x y)) : ((An (S:=Int) (E:=(Int⊕Unit)) (λb=> bif b<(l.length:Int) then ((Af l b).bind λk=> bif b>=(m.length:Int) then some (.inr (.inl 1)) else ((Af m b).bind λv9=> (f k v9).bind λv11=> bif (v11 != (0:Int)) then some (.inr (.inl v11)) else some (.inl (Ac (b+1))))) else some (.inr (.inr ()))) 0).bind λz=> match z with
   | .inl c=>some c
   | .inr _=>bif (l.length:Int)<(m.length:Int) then some (-1) else some 0)=some (Ga g l m):=by
 refine Aqv (A5b g l m q hb ?_ (λh=>by simp only[h];rfl)) ?_
 .intro j x y hx hy h1 h2 h3 B A;simp only[h1,h2,h3,B,A,Ak,Am,Ad,s j x y hx hy];by_cases hg:g x y=0
  .rw[Fc hg,Ay hg];rfl
  .rw[Ek hg,Av hg];rfl
 .rintro (r|u) i
  .rw[i.1]
  .simp only;rw[Ax ω,show Ga g l m=0 from i];rfl
def Aay (x y:Bk):Int:=orI (Fm x.v y.v) (Fm x.C y.C)
def F0 (a b:As):Int:=if a.T.length=b.T.length then orI (Ga Aay a.T b.T) (Fm a.Q b.Q) else Fm a.T.length b.T.length
theorem Afl (a b:As) (ha:a.T.length<1099511627776):M0 a b=some (F0 a b):=by
 unfold M0 F0;rw[O1,Ad];by_cases h:a.T.length=b.T.length
 .rw[Fc (J5.2 ω),Ay h];simp only[Am];have:=Afk Zs Aay a.T b.T h ω (λj x y _ _=>by unfold Zs Aay;rw[O1,Asb];simp only[Ad,Xb]);rw[show Adt a.T b.T=_ from this,Ad,Asb];simp only[Ad,Xb]
 .rw[Ek (λe=>h (by have:=J5.1 e;omega)),Av h];rfl
mutual
def N6:Bj->Bj->Int
 | ⟨n,k⟩,j=>if n=j.U then (if k.length=j.K.length then Uo k j.K else Fm k.length j.K.length) else Fm n j.U
def Uo:List Bj->List Bj->Int
 | x::xs,y::ys=>orI (N6 x y) (Uo xs ys)
 | [],_=>0
 | _::_,[]=>0
end
theorem Asd (i j:Bj):N6 i j=if i.U=j.U then (if i.K.length=j.K.length then Uo i.K j.K else Fm i.K.length j.K.length) else Fm i.U j.U:=by cases i;simp only[N6]
theorem Aka:∀l m:List Bj,Uo l m=Ga N6 l m
 | x::xs,y::ys=>by simp only[Uo,Ga,Aka xs ys]
 | [],_=>by simp[Uo,Ga]
 | _::_,[]=>by simp[Uo,Ga]
theorem A5c:∀(n k:Nat) (i j:Bj),Dl i<=n->2*n<=k->n<1099511627776->Ri k i j=some (N6 i j):=by
 intro n;induction n with
 | zero=>intro k i j h;have:=Hc i;omega
 | succ n ih=>
  intro k i j h hk c;obtain⟨k,rfl⟩:∃b,k=b+2:=⟨k-2,ω⟩;have hi:=Hc i;have f:=P4 i.K;rw[Ri,Asd,O1,O1];simp only[Ad,Xb];by_cases h1:i.U=j.U
  .rw[Ay h1];by_cases h2:i.K.length=j.K.length
   .rw[Ay h2,Fc (by unfold orI;rw[J5.2 h1,J5.2 ω];rfl),Aka];simp only[Am];have:=Afk (Ri k) N6 i.K j.K h2 ω (λq x y hx hy=>ih k x y (by have:=Md (Cf hx);omega) ω ω);rw[Zu];refine Eq.trans (congrArg (λq=>Option.bind q _) this) rfl
   .have e:orI (Fm i.U j.U) (Fm (i.K.length:Int) (j.K.length:Int))=Fm i.K.length j.K.length:=(by unfold orI;rw[J5.2 h1];rfl);rw[Av h2,e,Ek (λe=>h2 (by have:=J5.1 e;omega))];rfl
  .have e:orI (Fm i.U j.U) (Fm (i.K.length:Int) (j.K.length:Int))=Fm i.U j.U:=(by unfold orI;rw[Av (λe=>h1 (J5.1 e))]);rw[Av h1,e,Ek (λe=>h1 (J5.1 e))];rfl
def Xc (x y:Ca):Int:=orI (Fm x.v y.v) (N6 x.I y.I)
def Aaz (x y:Be):Int:=orI (F0 x.L y.L) (Fm x.P y.P)
def D8 (a b:A7):Int := if a.F.length=b.F.length then orI (Ga Xc a.F b.F) (if a.A.length=b.A.length then Ga Aaz a.A b.A else Fm a.A.length b.A.length) else Fm a.F.length b.F.length
structure MSz (m:A7):Prop where
 nf:m.F.length<=1048576
 na:m.A.length<=1048576
 fi:∀f∈m.F,Dl f.I<=1048576
 fr:∀f∈m.F,iR f.I/\I64 f.v
 al:∀a∈m.A,a.L.T.length<=1048576
theorem Ase (a b:A7) (ha:MSz a):Ra a b=some (D8 a b):=by
 have h1:=ha.nf;have h2:=ha.na;unfold Ra D8;rw[O1,Ad];by_cases h:a.F.length=b.F.length
 .rw[Fc (J5.2 ω),Ay h];simp only[Am];have:=Afk Zf Xc a.F b.F h ω (λj x y hx hy=>by unfold Zf Xc;rw[O1,A5c 1048576 4000000 x.I y.I (ha.fi x (Cf hx)) ω ω];simp only[Ad,Xb]);rw[show Adm a.F b.F=_ from this,Ad,O1];simp only[Ad,Xb];by_cases h0:Ga Xc a.F b.F=0
  .simp only[h0,orI,if_true];by_cases h':a.A.length=b.A.length
   .rw[Fc (J5.2 ω),Ay h'];simp only[Am];have:=Afk Zg Aaz a.A b.A h' ω (λj x y hx hy=>by unfold Zg Aaz;rw[O1,Afl x.L y.L (by have:=ha.al x (Cf hx);omega)];simp only[Ad,Xb]);rw[show Adn a.A b.A=_ from this];rfl
   .rw[Ek (λe=>h' (by have:=J5.1 e;omega)),Av h'];rfl
  .simp only[orI,Av h0];rw[Ek h0];rfl
 .rw[Ek (λe=>h (by have:=J5.1 e;omega)),Av h];rfl
def O2 {α:Type} (f:α->Int) (l:List α) (x:α) (j:Nat):Bool:=j==0||(match l[j-1]? with|some y=>decide (f y<f x) | none=>false)
def Sc (l:List Bk) (x:Bk) (j:Nat):Bool:=decide (-1<=x.v/\x.v<3000/\x.C≠0/\-1048576<=x.C/\x.C<=1048576)&&O2 (·.v) l x j
def Cd (a:As):Bool:=decide (-1048576<=a.Q/\a.Q<=1048576/\a.T.length<=16)&&a.T.zipIdx.all (λq=>Sc a.T q.1 q.2)
theorem Asf (n:Int):Vv n=some (decide (-1048576<=n/\n<=1048576)):=by unfold Vv;by_cases h:(-1048576:Int)<=n <;> simp[h]
theorem A5d (n:Int):Yz n=some (decide (-1<=n/\n<3000)):=by unfold Yz;by_cases h:(-1:Int)<=n <;> simp[h]
theorem Asg {α S E:Type} (f:α->Int) (l:List α) {x:α} {j:Nat} (hx:l[j]? = some x) (i:l.length<4611686018427387904) (c b:Option (S⊕E)) : (bif decide ((j:Int)>0) then ((Af l (Ac ((j:Int)-1))).bind λg=>bif decide (f g>=f x) then c else b) else b)=bif O2 f l x j then b else c:=by
 have hj:=E4 hx;unfold O2;by_cases h:j=0
 .subst h;rfl
 .rw[Ap ω];have e:Ac ((j:Int)-1)=((j-1:Nat):Int):=ξ;have hy:l[j-1]? = some l[j-1]:=Bx ω;rw[e,Bv rfl hy,hy];have h0:(j==0)=false:=(by simpa using h);simp only[Ak,Ad,h0,Bool.false_or];by_cases hc:f l[j-1]<f x
  .rw[Ax ω,Ap hc];rfl
  .rw[Ap ω,Ax hc];rfl
theorem M5 (a:As):Jl a=some (Cd a):=by
 unfold Jl Cd;rw[Asf];simp only[Ad];by_cases h1 : -1048576<=a.Q/\a.Q<=1048576
 .rw[Ap h1];by_cases h2:a.T.length<=16
  .rw[Ax (ω:¬(a.T.length:Int)>16),Ap ⟨h1.1,h1.2,h2⟩];simp only[Dz,Am,Ad,Bool.true_and];refine (Wy a.T (λq=>Sc a.T q.1 q.2) (λj=>(j:Int)) rfl ω (rt:=true) (rf:=false) ?_ ?_).trans (by rw[N1])
   .intro j x hx _ h1 h2 h3;simp only[h1,h2,h3,Ak,Ad,A5d,Asf,Asg (·.v) a.T hx ω,Sc];by_cases g1 : -1<=x.v/\x.v<3000
    .by_cases g2:x.C=0
     .rw[Ap g1,Dk g2,Ax (λh=>h.2.2.1 g2)];exact⟨nofun,λ_=>⟨.inl false,rfl,rfl⟩⟩
     .by_cases g3 : -1048576<=x.C/\x.C<=1048576
      .rw[Ap g1,Cn g2,Ap g3,Ap ⟨g1.1,g1.2,g2,g3.1,g3.2⟩];cases O2 (·.v) a.T x j with| true=>exact⟨λ_=>rfl,λh=>by cases h⟩| false=>exact⟨nofun,λ_=>⟨.inl false,rfl,rfl⟩⟩
      .rw[Ap g1,Cn g2,Ax g3,Ax (λh=>g3 h.2.2.2)];exact⟨nofun,λ_=>⟨.inl false,rfl,rfl⟩⟩
    .rw[Ax g1,Ax (λh=>g1 ⟨h.1,h.2.1⟩)];exact⟨nofun,λ_=>⟨.inl false,rfl,rfl⟩⟩
   .intro h _;exact⟨.inr (),by simp only[h];rfl,rfl⟩
  .rw[Ap (ω:(a.T.length:Int)>16),Ax (λh=>h2 h.2.2)];rfl
 .rw[Ax h1,Ax (λh : -1048576<=a.Q/\a.Q<=1048576/\a.T.length<=16=>h1 ⟨h.1,h.2.1⟩)];rfl
structure O3 (data:List Aw) (vars:List Ah) (res:Ah):Prop where
 vd:Kc data
 sh:O0 data
 sz:∀v t,Ec vars res v=some t->B5 t<=200
 nv:vars.length<=3000
theorem Ash (vars:List Ah) (res:Ah) (v:Int):(Ec vars res v).isSome=decide (-1<=v/\v<vars.length):=by
 unfold Ec;by_cases h:v = -1
 .rw[Ay h];subst h;rw[Ap ω];rfl
 .rw[Av h];cases hx:Af vars v with
  | none=>rcases Aao hx with h'|h' <;> rw[Ax ω] <;> rfl
  | some t=>have:=Hq hx;rw[Ap ω];rfl
section
variable (b1:List (ByteArray×Int)) (b2:List (ByteArray×List Ch)) (data:List Aw) (vars:List Ah) (res:Ah)
theorem Asi (v:Int) (f c:Int) (b:List Ah):Tz v b1 b2 data vars f c b=some (Ec vars res v).isSome:=by
 rw[Ash];unfold Tz;by_cases h:v>=-1
 .rw[Ap h];by_cases h':v<(vars.length:Int)
  .rw[Ap h',Ap ⟨h,h'⟩];rfl
  .rw[Ax h',Ax (λg=>h' g.2)];rfl
 .rw[Ax h,Ax (λg : -1<=v/\v<(vars.length:Int)=>h g.1)];rfl
theorem Afm {v:Int} {t:Ah} (ht:Ec vars res v=some t):Lf v b1 b2 data vars res.G res.U res.R=some t:=by
 unfold Lf;unfold Ec at ht;by_cases h:v = -1
 .rw[Ay h]at ht;cases ht;have b:(Ah.mk res.G res.U res.R)=res:=(by cases res;rfl);rw[Dk h,b];rfl
 .rw[Av h]at ht;rw[Cn h,ht];rfl
def K6 (t:Bk):Bool:=match Ec vars res t.v with|some u=>u.G==1|none=>false
def D9 (l:As):Bool:=l.T.all (K6 vars res)
theorem Asj (l:As) (c:l.T.length<=1048576):T0 l b1 b2 data vars res.G res.U res.R=some (D9 vars res l):=by
 unfold T0 Ady Ad2;have key:=Aeq l.T (λt=>!K6 vars res t) ω (J:=λz=>match z with|.inl b=>some b | .inr _=>some (-1)) (step:=λv3=>bif v3<(l.T.length:Int) then ((Af l.T v3).bind λv4=>(Wk v4 b1 b2 data vars res.G res.U res.R).bind λv5=>bif v5 then some (.inr (.inl v3)) else some (.inl (Ac (v3+1)))) else some (.inr (.inr ()))) (by intro j x hx h1 h2 h3;have e:Wk x b1 b2 data vars res.G res.U res.R=some (!K6 vars res x):=(by unfold Wk K6;rw[Asi b1 b2 data vars res,Ad];cases ht:Ec vars res x.v with| none=>rfl| some t=>rw[Afm b1 b2 data vars res ht];rfl);simp only[h1,h2,h3,Ak,Ad,e]) (λh=>by simp only[h];rfl) (λ_=>rfl) rfl
 obtain⟨i,i1,i2⟩:=key
 erw[i1];simp only[Ad,i2];congr 1;unfold D9;rw[List.any_eq_not_all_not];simp
def F5 (f:Ca):Int:=match Ec vars res f.v with|some t=>Kd (G1 data f.I t) | none => -1
theorem Ask (f:Ca) : -1<=F5 data vars res f/\F5 data vars res f<=6:=by
 unfold F5;cases Ec vars res f.v with
 | none=>simp
 | some t=>rcases Arw (G1 data f.I t) with⟨h,_⟩|⟨d,_,h2,h⟩ <;> simp only[h] <;> omega
def Mf (m:A7):Bool:=m.F.all (λf=>decide (0<=F5 data vars res f))&&m.A.all (λa=>decide (0<=a.P)&&D9 vars res a.L)
def Em (l:List Ca):Int:=(l.map (F5 data vars res)).sum
def Cv (l:List Be):Int:=(l.map (·.P)).sum
def P7 (l:List Be) (x:Be) (j:Nat):Bool:=j==0||(match l[j-1]? with|some y=>decide (F0 y.L x.L<0) | none=>false)
def Xd (l:List Ca) (f:Ca) (j:Nat):Bool:=decide (1<=F5 data vars res f)&&O2 (·.v) l f j
def Mg (l:List Be) (a:Be) (j:Nat):Bool:=decide (1<=a.P)&&Cd a.L && !(a.L.T.length==0)&&D9 vars res a.L&&P7 l a j
def I6 (m:A7):Bool:=m.F.zipIdx.all (λq=>Xd data vars res m.F q.1 q.2)&&m.A.zipIdx.all (λq=>Mg vars res m.A q.1 q.2)&&decide (Em data vars res m.F+Cv m.A<=6)
variable {b1 data vars res}
theorem Aa0 (hc:O3 data vars res) (hm:Ef data vars res b1) (f:Ca) (hv:I64 f.v) (g:iR f.I) (hi:Dl f.I<=1048576) (b:(Ec vars res f.v).isSome=true) : ∃c,Nu f.v f.I b1 b2 data vars res.G res.U res.R=some (F5 data vars res f,c)/\Ef data vars res c:=by cases ht:Ec vars res f.v with| none=>rw[ht]at b;cases b| some t=>obtain⟨c,h1,h2⟩:=A5a hc.vd.szv hc.sh b1 b2 vars res hm f.v f.I t ht (hc.sz _ _ ht) hv g hi;refine⟨c,?_,h2⟩;rw[h1];unfold F5;rw[ht]
theorem A5e (hc:O3 data vars res) (hm:Ef data vars res b1) (m:A7) (k:MSz m) :
  ∃l,Ze m b1 b2 data vars res.G res.U res.R=some (Mf data vars res m,l)/\Ef data vars res l:=by
 have U:=k.nf
 have ha:=k.na
 unfold Ze
 refine Aej (λl=>(Mf data vars res m,l)) ?_
 obtain⟨r,N,L⟩:=Aje (M:=List (ByteArray×Int)) (R:=Bool×List (ByteArray×Int)) m.F (λq=>decide (0<=F5 data vars res q.1)) (λj o=>((j:Int),o)) (Ef data vars res)
  (λr=>Ef data vars res r.2/\r.1=m.A.all (λa=>decide (0<=a.P)&&D9 vars res a.L)) (λr=>Ef data vars res r.2/\r.1=false) b1
  (s0:=((0:Int),b1))
  (step:=(λ(y,u)=>
   bif y<(m.F.length:Int) then (
   (Af m.F y).bind λv8=>
   (Tz v8.v u b2 data vars res.G res.U res.R).bind λA=>
   bif (!A) then some (.inr (.inl (false,u)))
   else (
   (Nu v8.v v8.I u b2 data vars res.G res.U res.R).bind λv11=>
   bif v11.1<(0:Int) then some (.inr (.inl (false,v11.2)))
   else some (.inl ((Ac (y+1)),v11.2))))
   else some (.inr (.inr u)):Int×List (ByteArray×Int)->Option ((Int×List (ByteArray×Int))⊕((Bool×List (ByteArray×Int))⊕List (ByteArray×Int)))))
  (J:=(λz=>match z with
   | .inl (I,G)=>some (I,G)
   | .inr b=>(An (S:=Int) (E:=((Bool×(List (ByteArray×Int)))⊕Unit)) (λc=>
     bif c<(m.A.length:Int) then (
     (Af m.A c).bind λs=>
     bif s.P<(0:Int) then some (.inr (.inl (false,b)))
     else (
     (T0 s.L b b2 data vars res.G res.U res.R).bind λv21=>
     bif (!v21) then some (.inr (.inl (false,b)))
     else some (.inl (Ac (c+1)))))
     else some (.inr (.inr ()))) 0).bind λz=>match z with
      | .inl (D,B)=>some (D,B)
      | .inr _=>some (true,b)))
  rfl hm ω (by
   intro j f o x hx _ h1 h2 h3
   have i:=Cf hx
   simp only[h1,h2,h3,Ak,Ad,Asi o b2 data vars res]
   cases g:(Ec vars res f.v).isSome with
   | false=>
    have e:F5 data vars res f = -1:=by
     unfold F5
     cases ht:Ec vars res f.v with
     | none=>rfl
     | some t=>rw[ht]at g;cases g
    rw[e]
    exact⟨nofun,λ_=>⟨_,rfl,_,rfl,x,rfl⟩⟩
   | true=>
    obtain⟨l,d1,d2⟩:=Aa0 b2 hc x f (k.fr f i).2 (k.fr f i).1 (k.fi f i) g
    simp only[Dz,Am,d1,Ad]
    by_cases h0:0<=F5 data vars res f
    .rw[Ap h0,Ax ω]
     exact⟨λ_=>⟨l,rfl,d2⟩,λh=>by cases h⟩
    .rw[Ax h0,Ap ω]
     exact⟨nofun,λ_=>⟨_,rfl,_,rfl,d2,rfl⟩⟩) (by
   intro o x h1 _
   refine⟨.inr o,by simp only[h1];rfl,?_⟩
   refine⟨(m.A.all (λa=>decide (0<=a.P)&&D9 vars res a.L),o),?_,x,rfl⟩
   refine (Ky m.A (λa=>decide (0<=a.P)&&D9 vars res a.L) (λj=>(j:Int)) rfl ω (rt:=(true,o)) (rf:=(false,o)) ?_ ?_).trans (by cases m.A.all (λa=>decide (0<=a.P)&&D9 vars res a.L) <;> rfl)
   .intro j a hx h1 h2 h3
    simp only[h1,h2,h3,Ak,Ad,Asj o b2 data vars res a.L (k.al a (Cf hx))]
    by_cases h0:0<=a.P
    .rw[Ap h0,Ax ω]
     cases D9 vars res a.L with
     | true=>exact⟨λ_=>rfl,λh=>by cases h⟩
     | false=>exact⟨nofun,λ_=>⟨_,rfl,rfl⟩⟩
    .rw[Ax h0,Ap ω]
     exact⟨nofun,λ_=>⟨_,rfl,rfl⟩⟩
   .intro h;exact⟨.inr (),by simp only[h];rfl,rfl⟩)
 refine⟨r,N,r.2,?_,?_⟩
 .unfold Mf
  rw[<-Aep]
  rcases L with⟨h1,h2,h3⟩|⟨h1,h2,h3⟩
  .rw[h1,Bool.true_and,<-h3]
  .rw[h1,Bool.false_and,<-h3]
 .rcases L with⟨h1,h2,h3⟩|⟨h1,h2,h3⟩ <;> exact h2
theorem Asl (g:Ca->Int) {l:List Ca} {j:Nat} {x:Ca} (h:l[j]? = some x):((l.take (j+1)).map g).sum=((l.take j).map g).sum+g x:=by rw[Dc h];simp
theorem Asm {l:List Be} {j:Nat} {x:Be} (h:l[j]? = some x):Cv (l.take (j+1))=Cv (l.take j)+x.P:=by unfold Cv;rw[Dc h];simp
theorem A5f (hc:O3 data vars res) (hm:Ef data vars res b1) (m:A7) (k:MSz m) (hp:Mf data vars res m=true) : ∃p:Int×List (ByteArray×Int),Mz m b1 b2 data vars res.G res.U res.R=some p/\(decide (p.1>6) = !decide (Em data vars res m.F+Cv m.A<=6))/\Ef data vars res p.2:=by
 have A:=k.nf;have ha:=k.na;unfold Mf at hp;rw[Ck,D2,D2]at hp;unfold Mz;refine Ej (λ(v5,s,g)=>∃j:Nat,s=j/\j<=m.F.length/\Ef data vars res g/\0<=v5/\v5<=12/\(v5=Em data vars res (m.F.take j)\/(6<v5/\6<Em data vars res (m.F.take j)))) (λ(_,s,_)=>m.F.length-s.toNat) (λ(v5,g)=>Ef data vars res g/\0<=v5/\v5<=12/\(v5=Em data vars res m.F\/(6<v5/\6<Em data vars res m.F))) ⟨0,rfl,ω,hm,ω,ω,.inl (by simp[Em])⟩ ?_ ?_
 .rintro⟨v5,s,g⟩ ⟨j,rfl,hj,l,h0,h12,hv⟩;rcases Cg j m.F.length with h|h
  .have hx:m.F[j]? = some m.F[j]:=Bx h;generalize m.F[j]=f at hx;have c:=Cf hx;have hd:=hp.1 f c;rw[C8]at hd;have z:=(Ask data vars res f).2;have es:Em data vars res (m.F.take (j+1))=Em data vars res (m.F.take j)+F5 data vars res f:=Asl _ hx;simp only[Ap (ω:(j:Int)<(m.F.length:Int)),Ak,Bv rfl hx,Ad,C9 h ω];by_cases q:v5<=6
   .have u:(Ec vars res f.v).isSome=true:=by
     unfold F5 at hd;cases ht:Ec vars res f.v with
     | none=>rw[ht]at hd;have hd:(0:Int)<=-1:=hd;omega
     | some t=>rfl
    obtain⟨B,d1,d2⟩:=Aa0 b2 hc l f (k.fr f c).2 (k.fr f c).1 (k.fi f c) u;rw[Ap q];simp only[Ak,d1,Ad];have b:Ac (v5+F5 data vars res f)=v5+F5 data vars res f:=ξ;exact .inl ⟨_,rfl,⟨j+1,rfl,ω,d2,by simp only[b];omega,by simp only[b];omega,by simp only[b,es];omega⟩,ζ⟩
   .rw[Ax q];exact .inl ⟨_,rfl,⟨j+1,rfl,ω,l,h0,h12,by simp only[es];omega⟩,ζ⟩
  .have:j=m.F.length:=ω;subst this;rw[Dh]at hv;exact .inr ⟨(v5,g),ψ,l,h0,h12,hv⟩
 .rintro⟨v5,g⟩ ⟨l,h0,h12,hv⟩;simp only;refine Ej (λ(v,i)=>∃j:Nat,i=j/\j<=m.A.length/\0<=v/\v<=13/\(v=Em data vars res m.F+Cv (m.A.take j)\/(6<v/\6<Em data vars res m.F+Cv (m.A.take j)))) (λ(_,i)=>m.A.length-i.toNat) (λv=>(v=Em data vars res m.F+Cv m.A\/(6<v/\6<Em data vars res m.F+Cv m.A))) ⟨0,rfl,ω,h0,ω,by simpa[Cv] using hv⟩ ?_ ?_
  .rintro⟨v,i⟩ ⟨j,rfl,hj,g0,g13,y⟩;rcases Cg j m.A.length with h|h
   .have hx:m.A[j]? = some m.A[j]:=Bx h;generalize m.A[j]=a at hx;have hd:=hp.2 a (Cf hx);rw[Ck,C8]at hd;have es:=Asm hx;simp only[Ap (ω:(j:Int)<(m.A.length:Int)),Ak,Bv rfl hx,Ad,C9 h ω];by_cases q:v<=6
    .rw[Ap q];simp only[Ak];by_cases x:7<a.P
     .rw[Ay x];have b:Ac (v+7)=v+7:=ξ;exact .inl ⟨_,rfl,⟨j+1,rfl,ω,by simp only[b];omega,by simp only[b];omega,by simp only[b,es];omega⟩,ζ⟩
     .rw[Av x];have b:Ac (v+a.P)=v+a.P:=ξ;exact .inl ⟨_,rfl,⟨j+1,rfl,ω,by simp only[b];omega,by simp only[b];omega,by simp only[b,es];omega⟩,ζ⟩
    .rw[Ax q];exact .inl ⟨_,rfl,⟨j+1,rfl,ω,g0,g13,by simp only[es];omega⟩,ζ⟩
   .have:j=m.A.length:=ω;subst this;rw[Dh]at y;exact .inr ⟨v,ψ,y⟩
  .intro v hv;refine⟨(v,g),rfl,?_,l⟩;by_cases h:Em data vars res m.F+Cv m.A<=6
   .rw[Ap h,Ax (by simp only;omega)];rfl
   .rw[Ax h,Ap (by simp only;omega)];rfl
end
theorem A5g {S E:Type} (F:As->As->Option Int) (l:List Be) (g:∀y∈l,∀x,F y.L x=some (F0 y.L x)) {x:Be} {j:Nat} (hx:l[j]? = some x) (i:l.length<4611686018427387904) (c b:Option (S⊕E)) : (bif decide ((j:Int)>0) then ((Af l (Ac ((j:Int)-1))).bind λf=>(F f.L x.L).bind λv28=>bif decide (v28>=0) then c else b) else b)=bif P7 l x j then b else c:=by
 have hj:=E4 hx;unfold P7;by_cases h:j=0
 .subst h;rfl
 .rw[Ap ω];have e:Ac ((j:Int)-1)=((j-1:Nat):Int):=ξ;have hy:l[j-1]? = some l[j-1]:=Bx ω;rw[e,Bv rfl hy,hy];have h0:(j==0)=false:=(by simpa using h);simp only[Ak,Ad,h0,Bool.false_or,g _ (List.getElem_mem (ω:j-1<l.length))];by_cases hc:F0 l[j-1].L x.L<0
  .rw[Ax ω,Ap hc];rfl
  .rw[Ap ω,Ax hc];rfl
section
variable {b1:List (ByteArray×Int)} (b2:List (ByteArray×List Ch)) {data:List Aw} {vars:List Ah} {res:Ah}
def Aa1 (data:List Aw) (vars:List Ah) (res:Ah) (l:List Ca) (f:Ca) (j:Nat):Bool:=!(F5 data vars res f==0)&&O2 (·.v) l f j
def Sd (l:List Be) (a:Be) (j:Nat):Bool:=!(a.P==0)&&Cd a.L && !(a.L.T.length==0)&&P7 l a j
theorem A5h (m:A7):I6 data vars res m=(Mf data vars res m&&decide (Em data vars res m.F+Cv m.A<=6)&&m.F.zipIdx.all (λq=>Aa1 data vars res m.F q.1 q.2)&&m.A.zipIdx.all (λq=>Sd m.A q.1 q.2)):=by
 rw[Bool.eq_iff_iff];unfold I6 Mf;rw[<-Aep m.F (λf=>decide (0<=F5 data vars res f)),<-Aep m.A (λa=>decide (0<=a.P)&&D9 vars res a.L)];simp only[Ck,D2,Xd,Mg,Aa1,Sd,C8,Bool.not_eq_true',beq_eq_false_iff_ne,ne_eq];constructor
 .rintro⟨⟨h1,h2⟩,h3⟩;refine⟨⟨⟨⟨λq hq=>?_,λq hq=>?_⟩,h3⟩,λq hq=>?_⟩,λq hq=>?_⟩
  .have:=(h1 q hq).1;omega
  .have:=h2 q hq;exact⟨ω,this.1.2⟩
  .have:=h1 q hq;exact⟨ω,this.2⟩
  .have:=h2 q hq;exact⟨⟨⟨ω,this.1.1.1.2⟩,this.1.1.2⟩,this.2⟩
 .rintro⟨⟨⟨⟨h1,h2⟩,h3⟩,c⟩,b⟩;refine⟨⟨λq hq=>?_,λq hq=>?_⟩,h3⟩
  .have:=h1 q hq;have g:=c q hq;exact⟨ω,g.2⟩
  .have:=h2 q hq;have g:=b q hq;exact⟨⟨⟨⟨ω,g.1.1.2⟩,g.1.2⟩,this.2⟩,g.2⟩
theorem A5i (hc:O3 data vars res) (hm:Ef data vars res b1) (m:A7) (i:MSz m) :
  ∃u,Vz m b1 b2 data vars res.G res.U res.R=some (I6 data vars res m,u)/\Ef data vars res u:=by
 have hf:=i.nf
 have ha:=i.na
 rw[A5h]
 unfold Vz
 obtain⟨b,p1,Y⟩:=A5e b2 hc hm m i
 rw[p1]
 cases hp:Mf data vars res m with
 | false=>exact⟨b,rfl,Y⟩
 | true=>
  obtain⟨q,q1,q2,X⟩:=A5f b2 hc Y m i hp
  simp only[Ad,Dz,Am,q1,q2]
  cases hs:decide (Em data vars res m.F+Cv m.A<=6) with
  | false=>exact⟨q.2,rfl,X⟩
  | true=>
   simp only[Dz,Am,Bool.true_and]
   have N:∀f∈m.F,(Ec vars res f.v).isSome=true:=by
    intro f c
    unfold Mf at hp
    rw[Ck,D2]at hp
    have hd:=hp.1 f c
    rw[C8]at hd
    unfold F5 at hd
    cases ht:Ec vars res f.v with
    | none=>rw[ht]at hd;have hd:(0:Int)<=-1:=hd;omega
    | some t=>rfl
   obtain⟨r,Z,V⟩:=Aje (M:=List (ByteArray×Int)) (R:=Bool×List (ByteArray×Int)) m.F (λq=>Aa1 data vars res m.F q.1 q.2) (λj o=>((j:Int),o)) (Ef data vars res)
    (λr=>Ef data vars res r.2/\r.1=m.A.zipIdx.all (λq=>Sd m.A q.1 q.2)) (λr=>Ef data vars res r.2/\r.1=false) q.2
    (s0:=((0:Int),q.2))
    (step:=(λ(v9,l)=>
     bif v9<(m.F.length:Int) then (
     (Af m.F v9).bind λv11=>
     (Nu v11.v v11.I l b2 data vars res.G res.U res.R).bind λg=>
     bif (g.1==(0:Int)) then some (.inr (.inl (false,g.2)))
     else (
     bif v9>(0:Int) then (
     (Af m.F (Ac (v9-1))).bind λB=>
     bif B.v>=v11.v then some (.inr (.inl (false,g.2)))
     else some (.inl ((Ac (v9+1)),g.2)))
     else some (.inl ((Ac (v9+1)),g.2))))
     else some (.inr (.inr l)):Int×List (ByteArray×Int)->Option ((Int×List (ByteArray×Int))⊕((Bool×List (ByteArray×Int))⊕List (ByteArray×Int)))))
    (J:=(λz=>match z with
     | .inl (L,I)=>some (L,I)
     | .inr k=>(An (S:=Int) (E:=((Bool×(List (ByteArray×Int)))⊕Unit)) (λv22=>
       bif v22<(m.A.length:Int) then (
       (Af m.A v22).bind λv23=>
       (show OB from
       bif (v23.P==(0:Int)) then some true
       else (
       (Jl v23.L).bind λv25=>
       bif (!v25) then some true
       else some ((v23.L.T.length:Int)==(0:Int)))).bind λv26=>
       bif v26 then some (.inr (.inl (false,k)))
       else (
       bif v22>(0:Int) then (
       (Af m.A (Ac (v22-1))).bind λA=>
       (M0 A.L v23.L).bind λv28=>
       bif v28>=(0:Int) then some (.inr (.inl (false,k)))
       else some (.inl (Ac (v22+1))))
       else some (.inl (Ac (v22+1)))))
       else some (.inr (.inr ()))) 0).bind λz=>match z with
        | .inl (G,D)=>some (G,D)
        | .inr _=>some (true,k)))
    rfl X ω (by
     intro j f o U hx _ h1 h2 h3
     have c:=Cf hx
     obtain⟨u,d1,d2⟩:=Aa0 b2 hc U f (i.fr f c).2 (i.fr f c).1 (i.fi f c) (N f c)
     simp only[h1,h2,h3,Ak,Ad,d1,Asg (·.v) m.F hx ω,Aa1]
     cases (F5 data vars res f==0) with
     | true=>exact⟨nofun,λ_=>⟨_,rfl,_,rfl,d2,rfl⟩⟩
     | false=>
      cases O2 (·.v) m.F f j with
      | true=>exact⟨λ_=>⟨u,rfl,d2⟩,λh=>by cases h⟩
      | false=>exact⟨nofun,λ_=>⟨_,rfl,_,rfl,d2,rfl⟩⟩) (by
     intro o U h1 _
     refine⟨.inr o,by simp only[h1];rfl,?_⟩
     refine⟨(m.A.zipIdx.all (λq=>Sd m.A q.1 q.2),o),?_,U,rfl⟩
     refine (Wy m.A (λq=>Sd m.A q.1 q.2) (λj=>(j:Int)) rfl ω (rt:=(true,o)) (rf:=(false,o)) ?_ ?_).trans (by cases m.A.zipIdx.all (λq=>Sd m.A q.1 q.2) <;> rfl)
     .intro j a hx _ h1 h2 h3
      have s:((a.L.T.length:Int)==(0:Int))=(a.L.T.length==0):=Arb a.L.T 0
      simp only[h1,h2,h3,Ak,Ad,M5,A5g M0 m.A (λy hy x=>Afl y.L x (by have:=i.al y hy;omega)) hx ω,Sd,s]
      cases (a.P==0) with
      | true=>exact⟨nofun,λ_=>⟨_,rfl,rfl⟩⟩
      | false=>
       cases Cd a.L with
       | false=>exact⟨nofun,λ_=>⟨_,rfl,rfl⟩⟩
       | true=>
        cases (a.L.T.length==0) with
        | true=>exact⟨nofun,λ_=>⟨_,rfl,rfl⟩⟩
        | false=>
         cases P7 m.A a j with
         | true=>exact⟨λ_=>rfl,λh=>by cases h⟩
         | false=>exact⟨nofun,λ_=>⟨_,rfl,rfl⟩⟩
     .intro h _;exact⟨.inr (),by simp only[h];rfl,rfl⟩)
   refine⟨r.2,?_,?_⟩
   .have e:some r=some (m.F.zipIdx.all (λq=>Aa1 data vars res m.F q.1 q.2)&&m.A.zipIdx.all (λq=>Sd m.A q.1 q.2),r.2):=by
     rcases V with⟨h1,h2,h3⟩|⟨h1,h2,h3⟩
     .rw[h1,Bool.true_and,<-h3]
     .rw[h1,Bool.false_and,<-h3]
    rw[<-e]
    exact Z
   .rcases V with⟨h1,h2,h3⟩|⟨h1,h2,h3⟩ <;> exact h2
theorem A5j (l:List Ca) (h:∀f∈l,0<=F5 data vars res f):0<=Em data vars res l:=by induction l with| nil=>simp[Em]| cons x xs ih=>have h1:=h x ψ;have h2:=ih (λf b=>h f (by simp[b]));unfold Em at *;simp only[List.map_cons,List.sum_cons];omega
theorem Asn (l:List Be) (h:∀a∈l,0<=a.P):0<=Cv l/\((∀a∈l,a.P<=6)->Cv l<=6*l.length)/\∀a∈l,a.P<=Cv l:=by
 induction l with
 | nil=>simp[Cv]
 | cons x xs ih=>
  have h1:=h x ψ;obtain⟨i1,i2,i3⟩:=ih (λf b=>h f (by simp[b]));unfold Cv at *;simp only[List.map_cons,List.sum_cons,Ei];refine⟨ω,λg=>?_,λa ha=>?_⟩
  .have:=g x ψ;have:=i2 (λa ha=>g a (by simp[ha]));omega
  .rcases Fx.1 ha with rfl|ha
   .omega
   .have:=i3 a ha;omega
end
theorem A5k {α:Type} [DecidableEq α] (l m:List α) (b:l.length=m.length):(decide (l=m))=l.zipIdx.all (λq=>decide (m[q.2]? = some q.1)):=by
 rw[Bool.eq_iff_iff,C8];constructor
 .rintro rfl;exact Ajd λj x hx=>by simpa using hx
 .intro h;apply List.ext_getElem?;intro j;cases hx:l[j]? with| none=>rw[List.getElem?_eq_none_iff]at hx;rw[Kv ω]| some x=>have:=Iz h hx;rw[C8]at this;rw[this]
theorem A5l {R:Type} (l m:List Int) (b:l.length<1099511627776) (h:l.length=m.length) {J:Bool⊕Unit->Option R} {rt rf:R} (h1:J (.inl false)=some rf) (h2:J (.inr ())=some rt) : (An (S:=Int) (E:=(Bool⊕Unit)) (λv3=>bif v3<(l.length:Int) then ((Af l v3).bind λv4=>(Af m v3).bind λv5=>bif (v4 != v5) then some (.inr (.inl false)) else some (.inl (Ac (v3+1)))) else some (.inr (.inr ()))) 0).bind J=some (bif decide (l=m) then rt else rf):=by
 rw[A5k l m h];refine Wy l (λq=>decide (m[q.2]? = some q.1)) (λj=>(j:Int)) rfl ω (rt:=rt) (rf:=rf) ?_ ?_
 .intro j x hx _ g1 g2 g3;have hj:j<m.length:=(by have:=E4 hx;omega);have hy:m[j]? = some m[j]:=Bx hj;generalize m[j]=y at hy;simp only[g1,g2,g3,Ak,Ad,Bv rfl hy,hy,Option.some.injEq];by_cases e:x=y
  .rw[Fc e,Ap e.symm];exact⟨λ_=>rfl,λh=>by cases h⟩
  .rw[Ek e,Ax (λh=>e h.symm)];exact⟨nofun,λ_=>⟨.inl false,rfl,h1⟩⟩
 .intro h _;exact⟨.inr (),by simp only[h];rfl,h2⟩
theorem Aso (l m:List Int) (b:l.length<1099511627776):Om l m=some (decide (l=m)):=by
 unfold Om;by_cases h:l.length=m.length
 .rw[Fc ω];simp only[Am];refine (A5l l m b h (rt:=true) (rf:=false) ?_ ?_).trans (by rw[N1]) <;> rfl
 .rw[Ek ω,Ax (λe=>h (by rw[e]))];rfl
def Xe (a b:Aj):Bool:=a.N==b.N&&decide (a.U=b.U)&&decide (a.B=b.B)
theorem Asp (a b:Aj):Xe a b=true↔a=b:=by
 unfold Xe;simp only[Ck,beq_iff_eq,C8];constructor
 .rintro⟨⟨h1,h2⟩,h3⟩;cases a;cases b;simp_all
 .rintro rfl;simp
def Aa2 (c:Aj):Bool:=Xe (B1 (sv c) (nv c) (dv c)) c && !(nv c==0)
structure TSz (t:Ai):Prop where
 co:RB 1048576 t.C
 mo:MSz t.M
def Up (l:List Ai) (x:Ai) (j:Nat):Bool:=j==0||(match l[j-1]? with|some y=>decide (D8 y.M x.M<0) | none=>false)
def Xf (data:List Aw) (vars:List Ah) (res:Ah) (l:List Ai) (t:Ai) (j:Nat):Bool:=Aa2 t.C&&I6 data vars res t.M&&Up l t j
def H3 (data:List Aw) (vars:List Ah) (res:Ah) (p:List Ai):Bool:=decide (p.length<=1000)&&p.zipIdx.all (λq=>Xf data vars res p q.1 q.2)
theorem A5m {S E:Type} (F:A7->A7->Option Int) (l:List Ai) (g:∀y∈l,∀x,F y.M x=some (D8 y.M x)) {x:Ai} {j:Nat} (hx:l[j]? = some x) (i:l.length<4611686018427387904) (c b:Option (S⊕E)) : (bif decide ((j:Int)>0) then ((Af l (Ac ((j:Int)-1))).bind λf=>(F f.M x.M).bind λv28=>bif decide (v28>=0) then c else b) else b)=bif Up l x j then b else c:=by
 have hj:=E4 hx;unfold Up;by_cases h:j=0
 .subst h;rfl
 .rw[Ap ω];have e:Ac ((j:Int)-1)=((j-1:Nat):Int):=ξ;have hy:l[j-1]? = some l[j-1]:=Bx ω;rw[e,Bv rfl hy,hy];have h0:(j==0)=false:=(by simpa using h);simp only[Ak,Ad,h0,Bool.false_or,g _ (List.getElem_mem (ω:j-1<l.length))];by_cases hc:D8 l[j-1].M x.M<0
  .rw[Ax ω,Ap hc];rfl
  .rw[Ap ω,Ax hc];rfl
theorem A5n (s:Bool) (n:Nat):(Jp s n==0)=(n==0):=by
 unfold Jp;by_cases h:n=0
 .rw[Ay h];subst h;rfl
 .rw[Av h];have:(n==0)=false:=(by simpa using h);rw[this];cases s <;> rfl
theorem Asq {data:List Aw} {vars:List Ah} {res:Ah} (hc:O3 data vars res) {b1:List (ByteArray×Int)} (b2:List (ByteArray×List Ch)) (hm:Ef data vars res b1) (p:List Ai) (U:∀t∈p,TSz t) :
  ∃B,Yw p b1 b2 data vars res.G res.U res.R=some (H3 data vars res p,B)/\Ef data vars res B:=by
 unfold Yw H3
 by_cases A:p.length<=1000
 .rw[Ax ω,Ap A,Bool.true_and]
  simp only[Am]
  obtain⟨r,V,S⟩:=Aje (M:=List (ByteArray×Int)) (R:=Bool×List (ByteArray×Int)) p (λq=>Xf data vars res p q.1 q.2) (λj o=>((j:Int),o)) (Ef data vars res)
   (λr=>Ef data vars res r.2/\r.1=true) (λr=>Ef data vars res r.2/\r.1=false) b1
   (s0:=((0:Int),b1))
   (step:=(λ(b,g)=>
    bif b<(p.length:Int) then (
    (Af p b).bind λv12=>
    (Po v12.C).bind λf=>
    (show OB from
    bif (f.N==v12.C.N) then (
    (Om f.U v12.C.U).bind λi=>
    bif i then (
    (Om f.B v12.C.B).bind λv17=>
    some v17)
    else some false)
    else some false).bind λE=>
    bif (!E) then some (.inr (.inl (false,g)))
    else (
    (G5 f).bind λD=>
    bif (D==(0:Int)) then some (.inr (.inl (false,g)))
    else (
    (Vz v12.M g b2 data vars res.G res.U res.R).bind λv20=>
    bif (!v20.1) then some (.inr (.inl (false,v20.2)))
    else (
    bif b>(0:Int) then (
    (Af p (Ac (b-1))).bind λv21=>
    (Ra v21.M v12.M).bind λv22=>
    bif v22>=(0:Int) then some (.inr (.inl (false,v20.2)))
    else some (.inl ((Ac (b+1)),v20.2)))
    else some (.inl ((Ac (b+1)),v20.2))))))
    else some (.inr (.inr g)):Int×List (ByteArray×Int)->Option ((Int×List (ByteArray×Int))⊕((Bool×List (ByteArray×Int))⊕List (ByteArray×Int)))))
   (J:=(λz=>match z with
    | .inl (I,G)=>some (I,G)
    | .inr L=>some (true,L)))
   rfl hm ω (by
    intro j t o u hx _ h1 h2 h3
    have c:=U t (Cf hx)
    obtain⟨B,d1,d2⟩:=A5i b2 hc u t.M c.mo
    have s:∀l:List Int,l=(B1 (sv t.C) (nv t.C) (dv t.C)).U\/l=(B1 (sv t.C) (nv t.C) (dv t.C)).B->l.length<1099511627776:=by
     intro l A
     have q:=K2 (sv t.C) (nv t.C) (dv t.C) 1048577 c.co.nv c.co.dv ω
     have:=q.nl
     have:=q.dl
     rcases A with rfl|rfl <;> omega
    have k:(bif ((B1 (sv t.C) (nv t.C) (dv t.C)).N==t.C.N) then ((Om (B1 (sv t.C) (nv t.C) (dv t.C)).U t.C.U).bind λi=>bif i then ((Om (B1 (sv t.C) (nv t.C) (dv t.C)).B t.C.B).bind λv17=>some v17) else some false) else some false)=some (Xe (B1 (sv t.C) (nv t.C) (dv t.C)) t.C):=by
     unfold Xe
     rw[Aso _ _ (s _ (.inl rfl)),Aso _ _ (s _ (.inr rfl))]
     cases ((B1 (sv t.C) (nv t.C) (dv t.C)).N==t.C.N) <;> cases decide ((B1 (sv t.C) (nv t.C) (dv t.C)).U=t.C.U) <;> rfl
    simp only[h1,h2,h3,Ak,Ad,Ajk t.C 1048576 c.co ω,k,A5m Ra p (λy hy x=>Ase y.M x (U y hy).mo) hx ω,Xf,Aa2]
    cases N:Xe (B1 (sv t.C) (nv t.C) (dv t.C)) t.C with
    | false=>exact⟨nofun,λ_=>⟨_,rfl,_,rfl,u,rfl⟩⟩
    | true=>
     have e:=(Asp _ _).1 N
     simp only[Dz,Am,Bool.true_and]
     rw[e,Aew t.C 1048576 c.co ω,Ad,A5n]
     cases (nv t.C==0) with
     | true=>exact⟨nofun,λ_=>⟨_,rfl,_,rfl,u,rfl⟩⟩
     | false=>
      simp only[Am,d1,Ad,Bool.not_false,Bool.true_and]
      cases I6 data vars res t.M with
      | false=>exact⟨nofun,λ_=>⟨_,rfl,_,rfl,d2,rfl⟩⟩
      | true=>
       cases Up p t j with
       | true=>exact⟨λ_=>⟨B,rfl,d2⟩,λh=>by cases h⟩
       | false=>exact⟨nofun,λ_=>⟨_,rfl,_,rfl,d2,rfl⟩⟩) (by
    intro o u h1 _
    exact⟨.inr o,by simp only[h1];rfl,_,rfl,u,rfl⟩)
  refine⟨r.2,?_,?_⟩
  .have e:some r=some (p.zipIdx.all (λq=>Xf data vars res p q.1 q.2),r.2):=by
    rcases S with⟨h1,h2,h3⟩|⟨h1,h2,h3⟩
    .rw[h1,<-h3]
    .rw[h1,<-h3]
   rw[<-e]
   exact V
  .rcases S with⟨h1,h2,h3⟩|⟨h1,h2,h3⟩ <;> exact h2
 .rw[Ap ω,Ax A]
  exact⟨b1,rfl,hm⟩
structure CSz (x:Bh):Prop where
 ds:DSz x.D
 nv:x.V.length<=1048576
 vs:∀t∈x.V,B5 t<=1048576
 rs:B5 x.E<=1048576
def Ii (data:List Aw) (t:Ah):Bool:=El data 0 t&&decide (B5 t<=200)
def En (x:Bh):Prop:=x.V.length<=3000/\Kc x.D/\Ii x.D x.E=true/\x.V.all (Ii x.D)=true
theorem En.ctx {x:Bh} (h:En x) (b:CSz x):O3 x.D x.V x.E:=by
 refine⟨h.2.1,b.ds.sz.short,λv t ht=>?_,h.1⟩;have good:∀t,Ii x.D t=true->B5 t<=200:=λt h=>by simp only[Ii,Ck,C8]at h;exact h.2
 unfold Ec at ht;by_cases hv:v = -1
 .rw[Ay hv]at ht;cases ht;exact good _ h.2.2.1
 .rw[Av hv]at ht;exact good t (D2.1 h.2.2.2 t (Hq ht).2.2.2)
theorem Uq (x:Bh) (g:CSz x) (p:List Ai) (hp:∀t∈p,TSz t):∃b,L2 x p=some b/\(b=true↔En x/\H3 x.D x.V x.E p=true):=by
 obtain⟨b,b1,b2⟩:=Ae7 g.ds;have E:=g.nv;have D:=g.rs;unfold L2 Kq;rw[b1,Um x.D x.E 0 ω];by_cases y:x.V.length<=3000
 .rw[Ax ω];simp only[Am,Ad];cases b with
  | false=>exact⟨false,rfl,by simp;intro h;have:=b2.2 h.2.1;cases this⟩
  | true=>
   have hv:=b2.1 rfl;simp only[Dz,Am];cases s:(El x.D 0 x.E&&decide (B5 x.E<=200)) with
   | false=>exact⟨false,rfl,by simp;intro h;have:=h.2.2.1;rw[show Ii x.D x.E=false from s]at this;cases this⟩
   | true=>
    simp only[Dz,Am,Ad];rw[Option.bind_assoc];refine Ej (λi=>∃j:Nat,i=j/\j<=x.V.length/\(x.V.take j).all (Ii x.D)=true) (λi=>x.V.length-i.toNat) (λz=>match z with|.inl r=>r=false/\¬En x | .inr _=>En x) ⟨0,rfl,ω,ψ⟩ ?_ ?_
    .rintro i ⟨j,rfl,hj,c⟩;rcases Cg j x.V.length with h|h
     .have ht:x.V[j]? = some x.V[j]:=Bx h;generalize x.V[j]=t at ht;have:=g.vs t (Cf ht);simp only[Ap (ω:(j:Int)<(x.V.length:Int)),Ak,Bv rfl ht,Ad,Um x.D t 0 ω,C9 h ω];rw[show (El x.D 0 t&&decide (B5 t<=200))=Ii x.D t from rfl];cases hg:Ii x.D t with| true=>exact .inl ⟨_,rfl,⟨j+1,rfl,ω,by rw[Dc ht,List.all_append,c];simp[hg]⟩,ζ⟩| false=>refine .inr ⟨.inl false,rfl,rfl,λhh=>?_⟩;have:=D2.1 hh.2.2.2 t (Cf ht);rw[hg]at this;cases this
     .have:j=x.V.length:=ω;subst this;rw[Dh]at c;exact .inr ⟨.inr (),ψ,y,hv,s,c⟩
    .rintro (r|u) f
     .obtain⟨rfl,f⟩:=f;exact⟨false,rfl,by simp[f]⟩
     .have A:En x:=f;have hm:Ef x.D x.V x.E []:=λq h=>by cases h
      obtain⟨B,l,G⟩:=Asq (A.ctx g) [] hm p hp;cases k:H3 x.D x.V x.E p with
      | true=>
       rw[k]at l;refine⟨true,?_,by simp[A]⟩;simp only;rw[Option.bind_assoc];refine Iy 1 (λj=>match j with|0=>((0:Int),[]) | _=>((1:Int),B)) rfl ?_ ⟨.inr B,rfl,rfl⟩
       intro j hj
       match j,hj with| 0,_=>show (bif decide ((0:Int)<1) then _ else _)=_;simp only[Ap (ω:(0:Int)<1),Ak];rw[show Af [p] 0=some p from rfl,Ad,l];rfl
      | false=>rw[k]at l;refine⟨false,?_,ψ⟩;simp only;rw[Option.bind_assoc];refine Iy 0 (λ_=>((0:Int),[])) rfl (λj hj=>ω) ⟨.inl false,?_,rfl⟩;show (bif decide ((0:Int)<1) then _ else _)=_;simp only[Ap (ω:(0:Int)<1),Ak];rw[show Af [p] 0=some p from rfl,Ad,l];rfl
 .rw[Ap ω];exact⟨false,rfl,by simp;intro h;exact absurd h.1 y⟩
mutual
def Da:A3->Nat
 | ⟨_,_,l⟩=>1+Et l
def Et:List A3->Nat
 | []=>0
 | x::xs=>Da x+Et xs
end
theorem M6 (t:A3):Da t=1+Et t.K:=by cases t;simp only[Da]
theorem Xg (t:A3):1<=Da t:=by rw[M6];omega
theorem M7 {l:List A3} {a:A3} (h:a∈l):Da a<=Et l:=by
 induction l with
 | nil=>cases h
 | cons x xs ih=>
  simp only[Et];rcases Fx.1 h with rfl|h
  .omega
  .have:=ih h;omega
theorem Xh (l:List A3):l.length<=Et l:=by induction l with| nil=>simp| cons x xs ih=>simp only[Et,Ei];have:=Xg x;omega
theorem Asr (l m:List A3):Et (l++m)=Et l+Et m:=by induction l with| nil=>simp[Et]| cons x xs ih=>simp only[Du,Et,ih];omega
theorem Ass {l:List A3} {j:Nat} {x:A3} (h:l[j]? = some x):Et (l.take (j+1))=Et (l.take j)+Da x:=by rw[Dc h,Asr];simp[Et]
theorem Ast (l:List A3) (j:Nat):Et (l.take j)<=Et l:=by have:=Asr (l.take j) (l.drop j);rw[List.take_append_drop]at this;omega
theorem A5o (k:Nat) (l:List A3) (c:Nat) (L:l.length<1099511627776) (B:c<=5000) (ih:∀(a:A3),a∈l->∀f:Nat,f<=c->∃q:Int,Oj k a f=some (decide (Da a<=f),q)/\(Da a<=f->q=(f:Int)-Da a)) : ∃p:Int×Int,V8 (k+2) l c=some p/\(Et l<=c->p.1 = -1/\p.2=(c:Int)-Et l)/\(¬Et l<=c->0<=p.1):=by
 rw[V8];refine Ej (λ(v3,v4)=>∃j:Nat,v3=j/\j<=l.length/\Et (l.take j)<=c/\v4=(c:Int)-Et (l.take j)) (λ(v3,_)=>l.length-v3.toNat) (λz=>match z with|.inl (i,_)=>0<=i/\¬Et l<=c | .inr v4=>Et l<=c/\v4=(c:Int)-Et l) ⟨0,rfl,ω,by simp[Et],by simp[Et]⟩ ?_ ?_
 .rintro⟨v3,v4⟩ ⟨j,rfl,hj,y,D⟩;have D:v4=_:=D;subst D;rcases Cg j l.length with h|h
  .have hx:l[j]? = some l[j]:=Bx h;generalize l[j]=x at hx;obtain⟨g,A,s⟩:∃g:Nat,(c:Int)-Et (l.take j)=g/\g<=c:=⟨c-Et (l.take j),ω,ω⟩;obtain⟨q,J,I⟩:=ih x (Cf hx) g s;have E:=Ass hx;have G:=Ast l (j+1);simp only[Ap (ω:(j:Int)<(l.length:Int)),Ak,Bv rfl hx,Ad,Y2,A,J,C9 h ω];by_cases hb:Da x<=g
   .rw[Ap hb];have M:=I hb;exact .inl ⟨_,rfl,⟨j+1,rfl,ω,ω,by show q=_;omega⟩,ζ⟩
   .rw[Ax hb];exact .inr ⟨.inl ((j:Int),q),rfl,ω,ω⟩
  .have:j=l.length:=ω;subst this;rw[Dh]at *;exact .inr ⟨.inr ((c:Int)-Et l),ψ,y,rfl⟩
 .rintro (⟨i,b⟩|v4) u
  .exact⟨(i,b),rfl,λh=>absurd h u.2,λ_=>u.1⟩
  .exact⟨(-1,v4),rfl,λ_=>⟨rfl,u.2⟩,λh=>absurd u.1 h⟩
theorem A5p:∀(left:Nat) (t:A3) (k:Nat),left<=5000->4*left+4<=k->Da t<1099511627776->∃c:Int,Oj k t left=some (decide (Da t<=left),c)/\(Da t<=left->c=(left:Int)-Da t):=by
 intro left;induction left using Nat.strongRecOn with
 | _ left l=>
  intro t k y hk ht;have hp:=Xg t;have s:=M6 t;have q:=Xh t.K;obtain⟨j,rfl⟩:∃j,k=j+1:=⟨k-1,ω⟩;cases left with
  | zero=>refine⟨-1,?_,λh=>ω⟩;rw[Oj,Ax (ω:¬Da t<=0)];rfl
  | succ f=>
   have x:Ac (((f+1:Nat):Int)-1)=(f:Int):=ξ;obtain⟨g,rfl⟩:∃g,j=g+3:=⟨j-3,ω⟩;obtain⟨⟨i,c⟩,h1,h2,h3⟩:=A5o g t.K f ω ω (λa ha b u=>by have:=M7 ha;exact l b ω a g ω ω ω);rw[Oj,x,Ax ω];simp only[Am,Y1,h1,Ad];by_cases hb:Et t.K<=f
   .obtain⟨a1,a2⟩:=h2 hb;simp only at a1 a2;refine⟨c,?_,λ_=>ω⟩;rw[Ax ω,Ap ω];rfl
   .have a1:=h3 hb;simp only at a1;refine⟨c,?_,λh=>ω⟩;rw[Ap ω,Ax ω];rfl
mutual
def He (data:List Aw):A3->Ah->Bool
 | ⟨k,n,kids⟩,t=>
  if t.G=1 then k==3&&decide (-1099511627776<=n)&&decide (n<=1099511627776)&&kids.length==0
  else if t.G=2 then k==2&&(n==0||n==1)&&kids.length==0
  else if t.G=3 then k==1&&n==0&&kids.length==0
  else if t.G=6 then k==4&&n==0&&K7 data kids t.R
  else if t.G=5 then k==5&&decide (0<=n)&&decide (n<8)&&(match Jr data t n with|some l=>K7 data kids l|none=>false)
  else if t.G=7 then k==6&&n==0&&decide (kids.length<=4096)&&(match t.R with|u::_=>Ur data kids u | []=>false)
  else if t.G=8 then k==7&&n==0&&K7 data kids t.R
  else k==8&&decide (0<=n)&&decide (n<64)&&kids.length==0
def K7 (data:List Aw):List A3->List Ah->Bool
 | [],[]=>true
 | x::xs,t::ts=>He data x t&&K7 data xs ts
 | [],_::_=>false
 | _::_,[]=>false
def Ur (data:List Aw):List A3->Ah->Bool
 | [],_=>true
 | x::xs,t=>He data x t&&Ur data xs t
end
theorem Xi (data:List Aw) (v:A3) (t:Ah):He data v t = if t.G=1 then v.G==3&&decide (-1099511627776<=v.U)&&decide (v.U<=1099511627776)&&v.K.length==0 else if t.G=2 then v.G==2&&(v.U==0||v.U==1)&&v.K.length==0 else if t.G=3 then v.G==1&&v.U==0&&v.K.length==0 else if t.G=6 then v.G==4&&v.U==0&&K7 data v.K t.R else if t.G=5 then v.G==5&&decide (0<=v.U)&&decide (v.U<8)&&(match Jr data t v.U with|some l=>K7 data v.K l|none=>false) else if t.G=7 then v.G==6&&v.U==0&&decide (v.K.length<=4096)&&(match t.R with|u::_=>Ur data v.K u | []=>false) else if t.G=8 then v.G==7&&v.U==0&&K7 data v.K t.R else v.G==8&&decide (0<=v.U)&&decide (v.U<64)&&v.K.length==0:=by cases v;simp only[He]
theorem A5q (data:List Aw) (l:List A3) (t:Ah):Ur data l t=l.all (He data · t):=by induction l with| nil=>rfl| cons x xs ih=>simp only[Ur,ih,List.all_cons]
theorem Aa3 (data:List Aw):∀(l:List A3) (ts:List Ah),l.length≠ts.length->K7 data l ts=false
 | [],[],h=>absurd rfl h
 | x::xs,t::ts,h=>by simp only[K7,Aa3 data xs ts (by simpa using h),Bool.and_false]
 | [],_::_,_=>by simp only[K7]
 | _::_,[],_=>by simp only[K7]
theorem Aa4 (data:List Aw):∀(l:List A3) (ts:List Ah),l.length=ts.length->K7 data l ts=(l.zip ts).all (λq=>He data q.1 q.2)
 | [],[],_=>rfl
 | x::xs,t::ts,h=>by simp only[K7,List.zip_cons_cons,List.all_cons,Aa4 data xs ts (by simpa using h)]
 | [],_::_,h=>by simp at h
 | _::_,[],h=>by simp at h
mutual
theorem Akb (data:List Aw) (d:Nat) (v:Int):∀t,El (data.take d) v t=true->El data v t=true
 | ⟨k,n,l⟩,h=>by
  simp only[El,Ck]at h ⊢
  refine⟨?_,Asu data d v l h.2⟩
  have h1:=h.1
  unfold K5 at h1 ⊢
  by_cases hk:k=5
  .subst hk
   simp only[List.getElem?_take]at h1 ⊢
   by_cases hd:n.toNat<d
   .simpa[hd] using h1
   .simp[hd]at h1
  .simp only[hk,if_false]at h1 ⊢
   exact h1
theorem Asu (data:List Aw) (d:Nat) (v:Int):∀l,Fz (data.take d) v l=true->Fz data v l=true
 | [],_=>rfl
 | x::xs,h=>by
  simp only[Fz,Ck]at h ⊢
  exact⟨Akb data d v x h.1,Asu data d v xs h.2⟩
end
mutual
theorem Asv (data:List Aw) (v:Int) (σ:List Ah) (hσ:∀s∈σ,El data 0 s=true) (hv:(σ.length:Int)=v):∀t,El data v t=true->El data 0 (Dy σ t)=true
 | ⟨k,n,l⟩,h=>by
  simp only[El,Ck]at h
  cases hV:isV σ k n with
  | true=>
   obtain⟨s,h1,_,h3⟩:=Ae8 hV
   rw[Aau (t:=⟨k,n,l⟩) hV h1]
   exact hσ s h3
  | false=>
   rw[Ae9 (t:=⟨k,n,l⟩) hV,<-Ajx]
   simp only[El,Ck]
   refine⟨?_,Asw data v σ hσ hv l h.2⟩
   rw[Ajx,Ix]
   have h1:=h.1
   unfold K5 at h1 ⊢
   by_cases hk:k=4
   .exfalso
    subst hk
    simp at h1
    unfold isV at hV
    rw[Ap h1.1.1,Ap ω]at hV
    cases hV
   .simp only[hk,if_false]at h1 ⊢
    exact h1
theorem Asw (data:List Aw) (v:Int) (σ:List Ah) (hσ:∀s∈σ,El data 0 s=true) (hv:(σ.length:Int)=v):∀l,Fz data v l=true->Fz data 0 (N4 σ l)=true
 | [],_=>rfl
 | x::xs,h=>by
  simp only[Fz,Ck]at h
  simp only[N4,Fz,Ck]
  exact⟨Asv data v σ hσ hv x h.1,Asw data v σ hσ hv xs h.2⟩
end
theorem Asx {data:List Aw} {t:Ah} (h:El data 0 t=true):∀a∈t.R,El data 0 a=true:=by rw[Aan,Ck,Arf,D2]at h;exact h.2
theorem A5r {data:List Aw} (hv:Kc data) {t:Ah} (ht:El data 0 t=true) {c:Int} {l:List Ah} (h:Jr data t c=some l):∀a∈l,El data 0 a=true/\B5 a<=200:=by
 obtain⟨x,y,hk,hx,g,hy,rfl,f⟩:=R9 h;intro a ha;refine⟨?_,f a ha⟩;obtain⟨b,hb,rfl⟩:=List.mem_map.1 ha;obtain⟨i0,_,j,_⟩:=Hq hx;have h1:=hv.2.1 t.U.toNat x j;obtain⟨_,_,k⟩:=h1.2.2.2.2.2 y (Hq hy).2.2.2;have i:=D2.1 k b hb;refine Asv data x.V t.R (Asx ht) g b ?_;unfold R7 at i;rw[Bool.or_eq_true]at i;rcases i with h'|h'
 .exact Akb data _ _ b (Ajt j h1.2.1 h').1
 .rw[Ck]at h';exact Akb data _ _ b h'.1
theorem A5s {data:List Aw} {t:Ah} (h:El data 0 t=true):(t.G=1\/t.G=2\/t.G=3\/t.G=5\/t.G=6\/t.G=7\/t.G=8\/t.G=9)/\(t.G=7->t.R.length=1)/\(t.G=8->t.R.length=1):=by
 rw[Aan,Ck]at h;have h1:=h.1;unfold K5 at h1;by_cases q:t.G=1
 .simp[q]
 by_cases l:t.G=2
 .simp[l]
 by_cases k:t.G=3
 .simp[k]
 by_cases j:t.G=4
 .exfalso;simp[j]at h1;omega
 by_cases i:t.G=5
 .simp[i]
 by_cases g:t.G=6
 .simp[g]
 by_cases f:t.G=7
 .simp[f]at h1 ⊢;exact h1.2
 by_cases c:t.G=8
 .simp[c]at h1 ⊢;exact h1.2
 by_cases b:t.G=9
 .simp[b]
 .simp[q,l,k,j,i,g,f,c,b]at h1
theorem Afn {α:Type} (l:List α):((l.length:Int)==(0:Int))=(l.length==0):=Arb l 0
def Aa5 {α β:Type} (m:List β) (p:α×β->Bool) (q:α×Nat):Bool:=match m[q.2]? with|some y=>p (q.1,y) | none=>false
theorem A5t {α β:Type} (l:List α) (m:List β) (p:α×β->Bool) (h:l.length=m.length):(l.zip m).all p=l.zipIdx.all (Aa5 m p):=by
 rw[Bool.eq_iff_iff];constructor
 .intro ha;refine Ajd λj x hx=>?_;have hj:=E4 hx;have hy:m[j]? = some m[j]:=Bx ω;simp only[Aa5,hy];refine D2.1 ha _ (Cf (i:=j) ?_);rw[List.getElem?_zip_eq_some];exact⟨hx,hy⟩
 .intro ha;rw[D2];rintro⟨x,y⟩ hq;obtain⟨j,hj⟩:=Gz hq;rw[List.getElem?_zip_eq_some]at hj;have:=Iz ha hj.1;simp only[Aa5,hj.2]at this;exact this
theorem A5u {data:List Aw} (hv:Kc data):∀(n:Nat) (v:A3) (t:Ah) (k:Nat),Da v<=n->4*n<=k->n<=5000->El data 0 t=true->B5 t<=200->Q8 k data v t=some (He data v t):=by
 intro n;induction n with
 | zero=>intro v t k h;have:=Xg v;omega
 | succ n ih=>
  intro v t k h hk hn ht D;have a1:=M6 v;have a6:=Xh v.K;obtain⟨k,rfl⟩:∃k',k=k' + 4:=⟨k-4,ω⟩;obtain⟨kd,k7,k8⟩:=A5s ht;have f:∀ts:List Ah,(∀a∈ts,El data 0 a=true/\B5 a<=200)->Rb (k+3) data v.K ts=some (K7 data v.K ts):=by
   intro ts S;rw[Rb,Zh];by_cases V:v.K.length=ts.length
   .rw[Fc ω,Aa4 data _ _ V,A5t _ _ _ V];simp only[Am];have key:=Wy v.K (Aa5 ts (λq=>He data q.1 q.2)) (λj=>(j:Int)) (s0:=(0:Int)) rfl ω (rt:=true) (rf:=false) (J:=λz:Bool⊕Unit=>match z with|.inl R=>some R | .inr _=>some true)
     (step:=λE=>bif E<(v.K.length:Int) then ((Af v.K E).bind λX=>(Af ts E).bind λv9=>(V9 (k+1) X v9 data).bind λv11=>bif (!v11) then some (.inr (.inl false)) else some (.inl (Ac (E+1)))) else some (.inr (.inr ()))) (by intro j x hx _ h1 h2 h3;have hy:ts[j]? = some (ts[j]'(by have:=E4 hx;omega)):=Bx (by have:=E4 hx;omega);generalize ts[j]'(by have:=E4 hx;omega)=y at hy;have s:=S y (Cf hy);have hxm:=M7 (Cf hx);simp only[h1,h2,h3,Ak,Ad,Bv rfl hy,Aa5,hy,V9,ih x y k ω ω ω s.1 s.2];cases He data x y with| true=>exact⟨λ_=>rfl,λh=>by cases h⟩| false=>exact⟨nofun,λ_=>⟨.inl false,rfl,rfl⟩⟩) (by intro h _;exact⟨.inr (),by simp only[h];rfl,rfl⟩)
    rw[N1]at key;exact congrArg (λq=>Option.bind q some) key
   .rw[Ek ω,Aa3 data _ _ V];rfl
  have b:∀a∈t.R,El data 0 a=true/\B5 a<=200:=λa ha=>⟨Asx ht a ha,by have:=Ln ha;have:=K4 t;omega⟩;rw[Q8,Xi];by_cases N:t.G=1
  .rw[Dk N,Ay N,Afn];cases (v.G==3) <;> cases decide (-1099511627776<=v.U) <;> cases decide (v.U<=1099511627776) <;> rfl
  rw[Cn N,Av N];by_cases M:t.G=2
  .rw[Dk M,Ay M,Afn];cases (v.G==2) <;> cases (v.U==0) <;> cases (v.U==1) <;> rfl
  rw[Cn M,Av M];by_cases L:t.G=3
  .rw[Dk L,Ay L,Afn];cases (v.G==1) <;> cases (v.U==0) <;> rfl
  rw[Cn L,Av L];by_cases G:t.G=6
  .rw[Dk G,Ay G,f t.R b];cases (v.G==4) <;> cases (v.U==0) <;> rfl
  rw[Cn G,Av G];by_cases I:t.G=5
  .rw[Dk I,Ay I,A4w hv.szv t D];simp only[Am,Ak];by_cases g1:v.G=5
   .rw[Fc g1,Dk g1];by_cases g2:v.U<0
    .rw[Ap g2,Ax (ω:¬0<=v.U)];rfl
    .by_cases g3:v.U>=8
     .rw[Ax g2,Ap g3,Ax (ω:¬v.U<8)];simp
     .rw[Ax g2,Ax g3,Ap (ω:0<=v.U),Ap (ω:v.U<8)];simp only[Am,Ad,Bool.true_and];cases hf:Jr data t v.U with| none=>rfl| some l=>simp only[okL,Ak];rw[f l (A5r hv ht hf)];rfl
   .rw[Ek g1,Cn g1];rfl
  rw[Cn I,Av I];by_cases c:t.G=7
  .rw[Dk c,Ay c,show decide ((v.K.length:Int)<=4096)=decide (v.K.length<=4096) by congr 1;simp only[eq_iff_iff];omega];have U:=k7 c
   match A:t.R,U with
   | [u],_=>
    have hu:=b u (by rw[A];simp);have B:Aag (k+3) v.K data t=some (!Ur data v.K u):=by
     rw[Aag,Aee,A5q];have key:=Aeq v.K (λx=>!He data x u) ω (J:=λz=>match z with|.inl Y=>some Y | .inr _=>some (-1)) (step:=λv3=>bif v3<(v.K.length:Int) then ((Af v.K v3).bind λv4=>(V1 (k+1) v4 data t).bind λv5=>bif v5 then some (.inr (.inl v3)) else some (.inl (Ac (v3+1)))) else some (.inr (.inr ()))) (by intro j x hx h1 h2 h3;have hxm:=M7 hx;have hi:Af t.R 0=some u:=(by rw[A];rfl);simp only[h1,h2,h3,Ak,Ad,V1,hi,ih x u k ω ω ω hu.1 hu.2]) (λh=>by simp only[h];rfl) (λ_=>rfl) rfl
     obtain⟨i,i1,i2⟩:=key
     erw[i1];simp only[Ad,i2];rw[List.any_eq_not_all_not];simp
    simp only[Am,Ak,B,Ad];cases (v.G==6) <;> cases (v.U==0) <;> cases decide (v.K.length<=4096) <;> cases Ur data v.K u <;> rfl
  rw[Cn c,Av c];by_cases g:t.G=8
  .rw[Dk g,Ay g,f t.R b];cases (v.G==7) <;> cases (v.U==0) <;> rfl
  rw[Cn g,Av g];have Z:t.G=9:=ω;rw[Dk Z,Afn];cases (v.G==8) <;> cases decide (0<=v.U) <;> cases decide (v.U<64) <;> rfl
def N7 (data:List Aw) (v:A3) (t:Ah):Bool:=Ii data t&&decide (Da v<=5000)&&He data v t
theorem Asy {data:List Aw} (j:DSz data) (v:A3) (t:Ah) (f:Da v<1099511627776) (ht:B5 t<=1048576):∃b,Pg data v t=some b/\(b=true↔Kc data/\N7 data v t=true):=by
 obtain⟨b,b1,b2⟩:=Ae7 j;unfold Pg Adf N7;rw[b1,Um data t 0 ω];simp only[Ad];rw[show (El data 0 t&&decide (B5 t<=200))=Ii data t from rfl];cases b with
 | false=>exact⟨false,rfl,by simp;intro h;have:=b2.2 h;cases this⟩
 | true=>
  have hv:=b2.1 rfl;cases hg:Ii data t with
  | false=>exact⟨false,rfl,ψ⟩
  | true=>
   obtain⟨k,i,_⟩:=A5p 5000 v 4000000 ω ω f;have i:Oj 4000000 v 5000=_:=i;simp only[Ak,Ad,i];by_cases g:Da v<=5000
   .have c:=hg;simp only[Ii,Ck,C8]at c;rw[Ap g];simp only[Ak,A5u hv 5000 v t 4000000 g ω ω c.1 c.2,Ad];exact⟨_,rfl,by simp[hv]⟩
   .rw[Ax g];exact⟨false,rfl,ψ⟩
mutual
def I2 (data:List Aw) (d:Int):A3->List A3
 | ⟨k,n,kids⟩=>⟨k,n,kids⟩::H4 data d kids (Eb data d n)
def H4 (data:List Aw) (d:Int):List A3->List Bool->List A3
 | x::xs,b::bs=>(bif b then I2 data d x else [])++H4 data d xs bs
 | [],_=>[]
 | _::_,[]=>[]
end
theorem Asz (data:List Aw) (d:Int) (v:A3):I2 data d v=v::H4 data d v.K (Eb data d v.U):=by cases v;simp only[I2]
mutual
theorem Akc (data:List Aw) (d:Int):∀v,(I2 data d v).length<=Da v
 | ⟨k,n,kids⟩=>by
  have:=Akd data d kids (Eb data d n)
  simp only[I2,Da,Ei];omega
theorem Akd (data:List Aw) (d:Int):∀l r,(H4 data d l r).length<=Et l
 | x::xs,b::bs=>by
  have h1:=Akc data d x
  have h2:=Akd data d xs bs
  cases b <;> simp only[H4,Et,Fb,Ak,Am,List.length_nil] <;> omega
 | [],_=>by simp[H4]
 | _::_,[]=>by simp[H4]
end
theorem As0 (data:List Aw) (d:Int):∀(l:List A3) (r:List Bool) (x:A3) (b:Bool),l.length=r.length->H4 data d (l++[x]) (r++[b])=H4 data d l r++(bif b then I2 data d x else [])
 | [],[],x,b,_=>by simp[H4]
 | y::ys,c::cs,x,b,h=>by simp only[Du,H4,As0 data d ys cs x b (by simpa using h),List.append_assoc]
 | [],_::_,_,_,h=>by simp at h
 | _::_,[],_,_,h=>by simp at h
theorem A5v {a:Ah} {d vars:Int} {σ:List Ah} (h:J3 a d vars=true) (g:(σ.length:Int)=vars):Dy σ a=⟨5,d,σ⟩:=by
 unfold J3 at h;simp only[Ck,beq_iff_eq]at h;obtain⟨⟨⟨h1,h2⟩,h3⟩,f⟩:=h;have hv:isV σ a.G a.U=false:=by unfold isV;rw[h1];rfl
 rw[Ae9 hv,h1,h2];congr 1;apply List.ext_getElem?;intro j;rw[List.getElem?_map];cases hx:a.R[j]? with| none=>rw[List.getElem?_eq_none_iff]at hx;rw[Kv ω];rfl| some x=>have hj:=E4 hx;have:=Iz f hx;simp only[R6,Ck,beq_iff_eq]at this;have c:σ[j]? = some (σ[j]' ω):=Bx ω;generalize σ[j]' ω=s at c;have b:isV σ x.G x.U=true:=(by unfold isV;rw[this.1.1,this.1.2,Ap ω,Ap ω];rfl);rw[c,Option.map_some,Aau b (by rw[this.1.2];exact c)]
theorem Afo {data:List Aw} {v:A3} {t:Ah} (hk:t.G=5) (h:He data v t=true) : ∃x,Af data t.U=some x/\0<=v.U/\v.U<x.O.length/\(Eb data t.U v.U).length=v.K.length/\∀(j:Nat) (w:A3),v.K[j]? = some w->(Eb data t.U v.U)[j]? = some true->He data w t=true:=by
 rw[Xi,Av ω,Av ω,Av ω,Av ω,Ay hk]at h;cases s:Jr data t v.U with
 | none=>rw[s]at h;simp at h
 | some l=>
  rw[s]at h;simp only[Ck]at h;have b:=h.2;have c:v.K.length=l.length:=by
   by_cases q:v.K.length=l.length
   .exact q
   .rw[Aa3 data _ _ q]at b;cases b
  have E:=Aav s;obtain⟨x,y,_,hx,u,hy,q,_⟩:=R9 s;obtain⟨D,B,_,_⟩:=Hq hy;refine⟨x,hx,D,B,ω,λj w hw A=>?_⟩;rw[Aa4 data _ _ c]at b;have hj:=E4 hw;have g:l[j]? = some (l[j]' ω):=Bx ω;have hh:=D2.1 b (w,l[j]' ω) (Cf (i:=j) (by rw[List.getElem?_zip_eq_some];exact⟨hw,g⟩));simp only at hh;have ha:y.R[j]? = some (y.R[j]'(by rw[q]at c;simp at c;omega)):=Bx _;generalize y.R[j]'_=a at ha;have z:(Eb data t.U v.U)[j]? = some (J3 a t.U x.V):=(by unfold Eb;simp only[hx,hy,List.getElem?_map,ha,Option.map_some]);rw[z]at A;have f:=Fj A;have k:l[j]? = some (Dy t.R a):=(by rw[q,List.getElem?_map,ha];rfl);rw[k]at g;rw[<-Fj g,A5v f u]at hh;have:(Ah.mk 5 t.U t.R)=t:=(by cases t;simp only at hk;rw[hk]);rw[this]at hh;exact hh
theorem A5w {data:List Aw} {t:Ah} (hk:t.G=5) (B:List (List Bool)) (I:∀(x:Aw),Af data t.U=some x->∀n:Int,0<=n->n<x.O.length->Af B n=some (Eb data t.U n)):∀(n:Nat) (v:A3) (k:Nat) (b:List A3),Da v<=n->n<=k->n<=1048576->b.length+Da v<=1048576->He data v t=true->T3 k v b B=some (b++I2 data t.U v):=by
 intro n;induction n with
 | zero=>intro v k b h;have:=Xg v;omega
 | succ n ih=>
  intro v k b h E J hb G;obtain⟨k,rfl⟩:∃s,k=s+1:=⟨k-1,ω⟩;have y:=M6 v;have z:=Xh v.K;obtain⟨x,hx,q,l,i,f⟩:=Afo hk G;rw[T3,Dm ζ,Ad,Aaq b [] _ _ b.length rfl rfl,Ad,Aap b [] _ _ _ b.length rfl rfl,I x hx v.U q l,Ad,Asz];generalize L:Eb data t.U v.U=R at *;have g:∀j,(H4 data t.U (v.K.take j) (R.take j)).length<=Et (v.K.take j):=λj=>Akd _ _ _ _;refine Ho R (λj=>((j:Int),b++[v]++H4 data t.U (v.K.take j) (R.take j))) (by simp[H4]) ω ?_ ?_
  .intro j c hj hc h1 h2 h3;have hw:v.K[j]? = some (v.K[j]' ω):=Bx ω;generalize v.K[j]'_=w at hw;have u:=M7 (Cf hw);have A:=Ass hw;have D:=Ast v.K (j+1);have hp:=g j;simp only[h1,h2,h3,Ak,Ad,Bv rfl hw,Dc hw,Dc hc];rw[As0 _ _ _ _ _ _ ζ];cases c with| false=>simp| true=>rw[ih w k _ ω ω ω ζ (f j w hw hc)];simp
  .intro h1;refine⟨b++(v::H4 data t.U v.K R),?_,rfl⟩;simp only[h1];rw[Iw (ω:v.K.length<=R.length),Dh];simp
theorem A5x {data:List Aw} (k:O0 data) (l:∀x∈data,x.O.length<=8) {t:Ah} (hk:t.G=5) (v:A3) (hv:Da v<=5000) (h:He data v t=true):Zj data t v=some (I2 data t.U v):=by
 obtain⟨x,hx,u,s,g,f⟩:=Afo hk h;have i:=l x (Hq hx).2.2.2;unfold Zj;rw[hx,Ad];refine Ho x.O (λj=>((j:Int),(List.range j).map λc:Nat=>Eb data t.U (c:Int))) rfl ω ?_ ?_
 .intro j y hj hy h1 h2 h3;simp only[h1,h3,Ak,Aar data t.U (j:Int) k,Ad];rw[Dm ζ,Ad,List.range_succ];simp
 .intro h1;refine⟨(List.range x.O.length).map λc:Nat=>Eb data t.U (c:Int),ψ,?_⟩;rw[A5w hk _ (λq b n a1 a2=>?_) 5000 v 4000000 [] hv ω ω ζ h]
  .rfl
  .rw[hx]at b;cases b;rw[Bv (n:=n.toNat) ω];rw[List.getElem?_map,List.getElem?_range ω];simp only[Option.map_some];rw[show ((n.toNat:Nat):Int)=n by omega]
theorem A5y {data:List Aw} (c:DSz data) (hv:Kc data) (t:Ah) (hg:Ii data t=true) (i:Bj) (hi:Dl i<=1048576):Y3 data t i=some (Kd (G1 data i t)):=by
 have b:=hg;simp only[Ii,Ck,C8]at b;obtain⟨q,g,f⟩:=Ae7 c;have hq:q=true:=f.2 hv;subst hq;unfold Y3 Adp;rw[g,Um data t 0 ω];simp only[Ad,Ak];rw[show (El data 0 t&&decide (B5 t<=200))=Ii data t from rfl,hg];obtain⟨p,j,h⟩:=(A4y hv.szv c.sz.short 4000000).1 i t ω hi b.2;simp only[Dz,Am,j,Ad];rcases h with⟨a1,d,a2,a3,a4⟩|⟨a1,a2⟩
 .rw[a1,a2,Afe a3,a4];rfl
 .rw[a1,Arx a2];rfl
theorem Afp {data:List Aw} {vars:List Ah} {res:Ah} {m:A7} (h:I6 data vars res m=true):(∀f∈m.F,∃t,Ec vars res f.v=some t)/\m.F.length<=6:=by
 unfold I6 at h;simp only[Ck,C8]at h;obtain⟨⟨h1,h2⟩,h3⟩:=h;have b:∀f∈m.F,1<=F5 data vars res f:=by intro f b;obtain⟨j,hj⟩:=Gz b;have:=Iz h1 hj;simp only[Xd,Ck,C8]at this;exact this.1
 have ha:0<=Cv m.A:=(Asn m.A (λa ha=>by obtain⟨j,hj⟩:=Gz ha;have:=Iz h2 hj;simp only[Mg,Ck,C8]at this;omega)).1;refine⟨λf c=>?_,?_⟩
 .have:=b f c;unfold F5 at this;cases ht:Ec vars res f.v with
  | none=>rw[ht]at this;have:(1:Int)<=-1:=this;omega
  | some t=>exact⟨t,rfl⟩
 .have key:∀l:List Ca,(∀f∈l,1<=F5 data vars res f)->(l.length:Int)<=Em data vars res l:=(by intro l;induction l with| nil=>intro _;simp[Em]| cons f fs ih=>intro i;have h1:=i f ψ;have h2:=ih (λg hg=>i g (by simp[hg]));unfold Em at *;simp only[List.map_cons,List.sum_cons,Ei];omega);have:=key m.F b;omega
theorem A5z (a b:Aj) (j k:Nat) (ha:RB j a) (hb:RB k b) (hj:j<34359738000) (hk:k<34359738000):∃c,Ea a b=some c/\Tn a b=some c/\RB (j+k+2) c:=by refine⟨_,W1 a b j k ha hb ω ω,A3t a b j k ha hb ω ω,?_⟩;have h1:=ha.nv;have h2:=ha.dv;have h3:=hb.nv;have h:=hb.dv;have g:=Hi (nv a) (nv b);have f:=Hi (dv a) (dv b);exact K2 _ _ _ _ ω ω ω
theorem A50 (a b:Aj) (j k:Nat) (ha:RB j a) (hb:RB k b) (hj:j<34359738000) (hk:k<34359738000):∃c,It a b=some c/\Pm a b=some c/\RB (j+k+3) c:=by
 refine⟨_,Aex a b j k ha hb ω ω,A3v a b j k ha hb ω ω,?_⟩;have h1:=ha.nv;have h2:=ha.dv;have h3:=hb.nv;have s:=hb.dv;have q:=Hi (nv a) (dv b);have l:=Hi (nv b) (dv a);have i:=Hi (dv a) (dv b);have f:Jq (sv a) (nv a) (dv a) (sv b) (nv b) (dv b)<=nv a*dv b+nv b*dv a:=by
  unfold Jq;split
  .omega
  .split <;> omega
 have h:=Ia f;have g:=Wx (nv a*dv b) (nv b*dv a);exact K2 _ _ _ _ ω ω ω
theorem A51 (k:Nat):RB k ⟨false,[],[]⟩:=⟨nofun,nofun,ψ,ψ⟩
theorem A52:∀(k:Nat) (v:A3) (a:Int),Da v<=k->k<1099511627776->∃r,Te k v a=some r/\True:=by
 intro k;induction k with
 | zero=>intro v a h _;have:=Xg v;omega
 | succ k ih=>
  intro v a h hk;have hv:=M6 v;have f:=Xh v.K;simp only[Te];refine Ej (λs=>∃j:Nat,s.2=j/\j<=v.K.length) (λs=>v.K.length-s.2.toNat) (λ_=>True) ⟨0,rfl,ω⟩ ?_ ?_
  .rintro⟨c,_⟩ ⟨j,rfl,hj⟩;rcases Cg j v.K.length with h'|h'
   .simp only[Ap (ω:(j:Int)<(v.K.length:Int)),Ak,D3 rfl h',Ad];cases decide (c>a) with| true=>exact .inr ⟨_,rfl,trivial⟩| false=>have hm:=M7 (List.getElem_mem h');obtain⟨r,b,_⟩:=ih v.K[j] (Ac (a-c)) ω ω;simp only[b,Am,Ad,C9 h' ω];exact .inl ⟨_,rfl,⟨j+1,rfl,ω⟩,ζ⟩
   .simp only[Ax (ω:¬(j:Int)<(v.K.length:Int)),Am];exact .inr ⟨_,rfl,trivial⟩
  .rintro (r|r) _
   .exact⟨_,rfl,trivial⟩
   .exact⟨_,rfl,trivial⟩
theorem As1 (l:List A3) (g:l.length<=1048576) (h:∀v∈l,Da v<=1048576):∃b,Vo l=some b/\True:=by
 unfold Vo;refine Ej (λs=>∃j:Nat,s.2=j/\j<=l.length) (λs=>l.length-s.2.toNat) (λ_=>True) ⟨0,rfl,ω⟩ ?_ ?_
 .rintro⟨c,_⟩ ⟨j,rfl,hj⟩;rcases Cg j l.length with h'|h'
  .have hm:=h _ (List.getElem_mem h');obtain⟨r,f,_⟩:=A52 4000000 l[j] (Ac (61-c)) ω ω;simp only[Ap (ω:(j:Int)<(l.length:Int)),Ak,D3 rfl h',Ad,f,C9 h' ω];cases decide (Ac (c+r)>60) with| true=>exact .inr ⟨_,rfl,trivial⟩| false=>exact .inl ⟨_,rfl,⟨j+1,rfl,ω⟩,ζ⟩
  .simp only[Ax (ω:¬(j:Int)<(l.length:Int)),Am];exact .inr ⟨_,rfl,trivial⟩
 .rintro (r|r) _
  .exact⟨_,rfl,trivial⟩
  .exact⟨_,rfl,trivial⟩
def sg (s:Bool) (n:Nat):Int:=if s then -(n:Int) else n
def rq (a:Aj):Rat:=mkRat (sg (sv a) (nv a)) (dv a)
def Gk (a:Aj):Prop:=a=B1 (sv a) (nv a) (dv a)
theorem Mh (s:Bool) (n d:Nat) (hd:d≠0):rq (B1 s n d)=mkRat (sg s n) d:=by
 obtain⟨g,hg,h1,h2,h3,f⟩:=Ae3 s n d hd;unfold rq;rw[Rat.mkRat_eq_iff (Ft _) hd];generalize nv (B1 s n d)=b at *;generalize dv (B1 s n d)=i at *;generalize sv (B1 s n d)=s' at *;by_cases c:n=0
 .have:b=0:=by
   rcases Nat.eq_zero_or_pos b with h|h
   .exact h
   .have:=Nat.mul_pos (Nat.pos_of_ne_zero hg) h;omega
  subst this;subst c;cases s <;> cases s' <;> simp[sg]
 .rw[h3 c,h1,h2];cases s <;> simp only[sg,if_true,if_false,Bool.false_eq_true,Int.natCast_mul] <;> grind
theorem P8 (s:Bool) (n d:Nat) (hd:d≠0):Gk (B1 s n d):=by
 obtain⟨g,hg,h1,h2,h3,f⟩:=Ae3 s n d hd;unfold Gk;generalize hc:B1 s n d=c at h1 h2 h3 f;have e:=R5 s (nv c) (dv c) g hg;rw[<-h1,<-h2,hc]at e;by_cases b:n=0
 .have h0:nv c=0:=by
   rcases Nat.eq_zero_or_pos (nv c) with h|h
   .exact h
   .have:=Nat.mul_pos (Nat.pos_of_ne_zero hg) h;omega
  rw[h0,Aai]at e ⊢;exact e
 .rw[h3 b];exact e
theorem As2 (n m:Int) {d e:Nat} (hd:d≠0) (g:e≠0):mkRat n d<mkRat m e↔n*e<m*d:=by
 have c:(0:Rat)<(d:Rat):=Rat.natCast_pos.2 ω;have b:(0:Rat)<(e:Rat):=Rat.natCast_pos.2 ω;rw[Rat.mkRat_eq_div,Rat.mkRat_eq_div,Rat.div_lt_iff c];rw[<-Rat.mul_lt_mul_right b];have f:(m:Rat) / (e:Rat)*(d:Rat)*(e:Rat)=(m:Rat)*(d:Rat):=by grind
 rw[f];have a1:(n:Rat)*(e:Rat)=((n*(e:Int):Int):Rat):=by rw[Rat.intCast_mul];rfl
 have a2:(m:Rat)*(d:Rat)=((m*(d:Int):Int):Rat):=by rw[Rat.intCast_mul];rfl
 rw[a1,a2,Rat.intCast_lt_intCast]
theorem Ake {a b:Aj} (ha:Gk a) (hb:Gk b) (h:rq a=rq b):a=b:=by
 unfold rq at h;rw[Rat.mkRat_eq_iff (Ft _) (Ft _)]at h;rw[ha,hb];have l:=Ft a;have k:=Ft b;generalize nv a=n at *;generalize dv a=d at *;generalize sv a=s at *;generalize nv b=m at *;generalize dv b=e at *;generalize sv b=t at *;have hh:n*e=m*d/\(n≠0->s=t):=by
  have c:n≠0->0<n*e:=λh=>Nat.mul_pos ω ω;have f:m≠0->0<m*d:=λh=>Nat.mul_pos ω ω;have u:((n*e:Nat):Int)=(n:Int)*e:=ψ;have q:((m*d:Nat):Int)=(m:Int)*d:=ψ;cases s <;> cases t <;> simp only[sg,if_true,if_false,Bool.false_eq_true,Int.neg_mul]at h
  .exact⟨ω,λ_=>rfl⟩
  .have:n*e=0/\m*d=0:=ω;refine⟨ω,λg=>?_⟩;have:=c g;omega
  .have:n*e=0/\m*d=0:=ω;refine⟨ω,λg=>?_⟩;have:=c g;omega
  .exact⟨ω,λ_=>rfl⟩
 have j:=R5 s n d e k;have i:=R5 t m e d l;rw[<-j,<-i,Nat.mul_comm e n,hh.1,Nat.mul_comm e d,Nat.mul_comm m d];refine Aq5 λh0=>hh.2 ?_;rintro rfl;rw[Nat.zero_mul]at hh;have:=hh.1;rw[Nat.mul_comm d m]at h0;omega
theorem As3 (j:Bool) (c g:Nat) (i:Bool) (b f:Nat):sg (K1 j c g i b f) (Jq j c g i b f)=sg j c*f+sg i b*g:=by
 unfold K1 Jq sg;have l:((c*f:Nat):Int)=(c:Int)*f:=ψ;have k:((b*g:Nat):Int)=(b:Int)*g:=ψ;cases j <;> cases i <;> simp only[if_true,if_false,Bool.false_eq_true,Bool.true_eq_false,Int.neg_mul]
 .omega
 .by_cases h:b*g<=c*f
  .simp only[Ay h];simp only[if_false,Bool.false_eq_true];omega
  .simp only[Av h];simp only[if_true];omega
 .by_cases h:b*g<=c*f
  .simp only[Ay h];simp only[if_true];omega
  .simp only[Av h];simp only[if_false,Bool.false_eq_true];omega
 .omega
theorem Aa6 {a b:Aj} {j k:Nat} (ha:RB j a) (hb:RB k b) (hj:j<34359738000) (hk:k<34359738000):∃c,It a b=some c/\Pm a b=some c/\RB (j+k+3) c/\Gk c/\rq c=rq a+rq b:=by
 obtain⟨c,h1,h2,h3⟩:=A50 a b j k ha hb hj hk;have e:=Aex a b j k ha hb ω ω;rw[h1]at e;have e:=Fj e;have hd:dv a*dv b≠0:=Nat.mul_ne_zero (Ft a) (Ft b);refine⟨c,h1,h2,h3,?_,?_⟩
 .rw[e];exact P8 _ _ _ hd
 .rw[e,Mh _ _ _ hd,As3,rq,rq,Rat.mkRat_add_mkRat _ _ (Ft a) (Ft b)]
theorem As4 (s t:Bool) (n m:Nat):sg (s != t) (n*m)=sg s n*sg t m:=by unfold sg;cases s <;> cases t <;> simp[Int.neg_mul,Int.mul_neg]
theorem M8 {a b:Aj} {j k:Nat} (ha:RB j a) (hb:RB k b) (hj:j<34359738000) (hk:k<34359738000):∃c,Ea a b=some c/\RB (j+k+2) c/\Gk c/\rq c=rq a*rq b:=by have hd:dv a*dv b≠0:=Nat.mul_ne_zero (Ft a) (Ft b);have h1:=ha.nv;have h2:=ha.dv;have h3:=hb.nv;have h:=hb.dv;have g:=Hi (nv a) (nv b);have f:=Hi (dv a) (dv b);refine⟨_,W1 a b j k ha hb ω ω,K2 _ _ _ _ ω ω ω,P8 _ _ _ hd,?_⟩;rw[Mh _ _ _ hd,As4,rq,rq,Rat.mkRat_mul_mkRat]
theorem A53 {a b:Aj} {j k:Nat} (ha:RB j a) (hb:RB k b) (hj:j<34359738000) (hk:k<34359738000):∃c,Ea a b=some c/\Tn a b=some c/\RB (j+k+2) c/\Gk c/\rq c=rq a*rq b:=by
 obtain⟨c,h1,h2,h3⟩:=A5z a b j k ha hb hj hk;have e:=W1 a b j k ha hb ω ω;rw[h1]at e;have e:=Fj e;have hd:dv a*dv b≠0:=Nat.mul_ne_zero (Ft a) (Ft b);refine⟨c,h1,h2,h3,?_,?_⟩
 .rw[e];exact P8 _ _ _ hd
 .rw[e,Mh _ _ _ hd,As4,rq,rq,Rat.mkRat_mul_mkRat]
def G2 (x:Rat):Int:=if x<0 then -1 else if 0<x then 1 else 0
theorem A54 (a:Aj):rq a<0↔Jp (sv a) (nv a) = -1:=by have e:(0:Rat)=mkRat 0 1:=ψ;rw[rq,e,As2 _ _ (Ft a) δ];unfold sg Jp;split <;> split <;> simp <;> omega
theorem A55 (a:Aj):0<rq a↔Jp (sv a) (nv a)=1:=by have e:(0:Rat)=mkRat 0 1:=ψ;rw[rq,e,As2 _ _ δ (Ft a)];unfold sg Jp;split <;> split <;> simp <;> omega
theorem A56 (a:Aj):Jp (sv a) (nv a)=G2 (rq a):=by
 have h1:=A54 a;have h2:=A55 a;have h3:Jp (sv a) (nv a) = -1\/Jp (sv a) (nv a)=0\/Jp (sv a) (nv a)=1:=by unfold Jp;split <;> (try split) <;> simp
 unfold G2;split
 .rename_i h;exact h1.1 h
 .rename_i h;split
  .rename_i h';exact h2.1 h'
  .rename_i h';rcases h3 with h3|h3|h3
   .exact (h (h1.2 h3)).elim
   .exact h3
   .exact (h' (h2.2 h3)).elim
theorem M9 {a:Aj} {k:Nat} (h:RB k a) (hk:k<34359738000):G5 a=some (G2 (rq a))/\Th a=some (G2 (rq a)):=by rw[<-A56];exact⟨Aew a k h ω,A3w a k h ω⟩
structure Fo {α:Type} (S:α->Prop) (g:α->α->Int):Prop where
 zero:∀a b,S a->S b->(g a b=0↔a=b)
 anti:∀a b,S a->S b->g b a = - g a b
 trans:∀a b c,S a->S b->S c->g a b<0->g b c<0->g a c<0
theorem Fo.cmpI:Fo (λ_:Int=>True) Fm:=by
 refine⟨λa b _ _=>J5,λa b _ _=>?_,λa b c _ _ _=>?_⟩
 .unfold Go.Ab.Fm;split <;> split <;> (try split) <;> (try split) <;> omega
 .unfold Go.Ab.Fm;intro h1 h2;split at h1 <;> (try split at h1) <;> split at h2 <;> (try split at h2) <;> first|omega | (rw[Ay ω];decide)
theorem As5 {x y:Int}:orI x y<0↔x<0\/(x=0/\y<0):=by unfold orI;split <;> omega
theorem As6 {x y:Int}:orI x y=0↔x=0/\y=0:=by unfold orI;split <;> omega
theorem Fo.or {α β γ:Type} {S:α->Prop} {s:β->Prop} {l:γ->Prop} {j:β->β->Int} {i:γ->γ->Int} (p:α->β) (q:α->γ) (g:∀a b,p a=p b->q a=q b->a=b) (h1:Fo s j) (h2:Fo l i) (f:∀a,S a->s (p a)/\l (q a)) : Fo S (λa b=>orI (j (p a) (p b)) (i (q a) (q b))):=by
 refine⟨λa b ha hb=>?_,λa b ha hb=>?_,λa b c ha hb hc=>?_⟩
 .rw[As6,h1.zero _ _ (f a ha).1 (f b hb).1,h2.zero _ _ (f a ha).2 (f b hb).2];exact⟨λh=>g a b h.1 h.2,λh=>by subst h;exact⟨rfl,rfl⟩⟩
 .show orI (j (p b) (p a)) (i (q b) (q a)) = - orI (j (p a) (p b)) (i (q a) (q b));have z:=h1.anti _ _ (f a ha).1 (f b hb).1;have y:=h2.anti _ _ (f a ha).2 (f b hb).2;rw[z,y];unfold orI;split <;> split <;> omega
 .show orI _ _<0->orI _ _<0->orI _ _<0;simp only[As5];have u:=h1.zero _ _ (f a ha).1 (f b hb).1;have z2:=h1.zero _ _ (f b hb).1 (f c hc).1;have t1:=h1.trans _ _ _ (f a ha).1 (f b hb).1 (f c hc).1;have t2:=h2.trans _ _ _ (f a ha).2 (f b hb).2 (f c hc).2;rintro (h|⟨h,h'⟩) (k|⟨k,x⟩)
  .exact .inl (t1 h k)
  .rw[<-z2.1 k];exact .inl h
  .rw[u.1 h];exact .inl k
  .rw[<-z2.1 k,h];exact .inr ⟨rfl,t2 h' x⟩
theorem Fo.mono {α:Type} {S i:α->Prop} {g:α->α->Int} (h:Fo S g) (f:∀a,i a->S a):Fo i g := ⟨λa b ha hb=>h.zero a b (f a ha) (f b hb),λa b ha hb=>h.anti a b (f a ha) (f b hb),λa b c ha hb hc=>h.trans a b c (f a ha) (f b hb) (f c hc)⟩
theorem Fo.congr {α:Type} {S:α->Prop} {g c:α->α->Int} (h:Fo S g) (e:∀a b,c a b=g a b):Fo S c:=by have:c=g:=funext λa=>funext λb=>e a b;rw[this];exact h
def LL {α:Type} (g:α->α->Int) (l m:List α):Int:=if l.length=m.length then Ga g l m else Go.Ab.Fm l.length m.length
theorem As7 {α:Type} {S:α->Prop} {g:α->α->Int} (h:Fo S g):∀l m:List α,l.length=m.length->(∀x∈l,S x)->(∀x∈m,S x)->(Ga g l m=0↔l=m)
 | [],[],_,_,_=>by simp[Ga]
 | x::xs,y::ys,b,h1,h2=>by simp only[Ga,As6,h.zero x y (h1 x ψ) (h2 y ψ),As7 h xs ys (by simpa using b) (λz c=>h1 z (by simp[c])) (λz c=>h2 z (by simp[c])),List.cons.injEq]
 | [],_::_,b,_,_=>by simp at b
 | _::_,[],b,_,_=>by simp at b
theorem As8 {α:Type} {S:α->Prop} {g:α->α->Int} (h:Fo S g):∀l m:List α,l.length=m.length->(∀x∈l,S x)->(∀x∈m,S x)->Ga g m l = - Ga g l m
 | [],[],_,_,_=>by simp[Ga]
 | x::xs,y::ys,b,h1,h2=>by simp only[Ga,h.anti x y (h1 x ψ) (h2 y ψ),As8 h xs ys (by simpa using b) (λz c=>h1 z (by simp[c])) (λz c=>h2 z (by simp[c]))];unfold orI;split <;> split <;> omega
 | [],_::_,b,_,_=>by simp at b
 | _::_,[],b,_,_=>by simp at b
theorem As9 {α:Type} {S:α->Prop} {g:α->α->Int} (h:Fo S g):∀l m n:List α,l.length=m.length->m.length=n.length->(∀x∈l,S x)->(∀x∈m,S x)->(∀x∈n,S x)->Ga g l m<0->Ga g m n<0->Ga g l n<0
 | [],[],_,_,_,_,_,_=>by intro h;simp[Ga]at h
 | x::xs,y::ys,z::i,f,hm,h1,h2,h3=>by
  simp only[Ga,As5];have j:=h.zero x y (h1 x ψ) (h2 y ψ);have z2:=h.zero y z (h2 y ψ) (h3 z ψ);have t1:=h.trans x y z (h1 x ψ) (h2 y ψ) (h3 z ψ);have t2:=As9 h xs ys i (by simpa using f) (by simpa using hm) (λz c=>h1 z (by simp[c])) (λz c=>h2 z (by simp[c])) (λz c=>h3 z (by simp[c]));rintro (a|⟨a,q⟩) (b|⟨b,k⟩)
  .exact .inl (t1 a b)
  .rw[<-z2.1 b];exact .inl a
  .rw[j.1 a];exact .inl b
  .rw[<-z2.1 b,a];exact .inr ⟨rfl,t2 q k⟩
 | _::_,_::_,[],_,hm,_,_,_=>by simp at hm
 | [],_::_,_,f,_,_,_,_=>by simp at f
 | _::_,[],_,f,_,_,_,_=>by simp at f
theorem Fo.ll {α:Type} {S:α->Prop} {g:α->α->Int} (h:Fo S g):Fo (λl=>∀x∈l,S x) (LL g):=by
 have c:=Fo.cmpI;refine⟨λa b ha hb=>?_,λa b ha hb=>?_,λx y z hx hy q=>?_⟩
 .unfold LL;split
  .rename_i i;exact As7 h a b i ha hb
  .rename_i i;rw[J5];exact⟨λe=>(i ω).elim,λe=>(i (by rw[e])).elim⟩
 .unfold LL;by_cases i:a.length=b.length
  .rw[Ay i,Ay i.symm];exact As8 h a b i ha hb
  .rw[Av i,Av (λe=>i e.symm)];exact c.anti _ _ trivial trivial
 .unfold LL;intro h1 h2;have neg:∀a b:Int,Go.Ab.Fm a b<0->a<b:=(by intro a b h;unfold Go.Ab.Fm at h;split at h <;> (try split at h) <;> omega);have f:∀a b:Int,a<b->Go.Ab.Fm a b<0:=(by intro a b h;unfold Go.Ab.Fm;rw[Ay h];decide);by_cases k:x.length=y.length
  .rw[Ay k]at h1;by_cases j:y.length=z.length
   .rw[Ay j]at h2;rw[Ay ω];exact As9 h x y z k j hx hy q h1 h2
   .rw[Av j]at h2;rw[Av ω];have:=neg _ _ h2;exact f _ _ ω
  .rw[Av k]at h1;have:=neg _ _ h1;by_cases j:y.length=z.length
   .rw[Av ω];exact f _ _ ω
   .rw[Av j]at h2;have:=neg _ _ h2;rw[Av ω];exact f _ _ ω
theorem Ata {α:Type} (g:α->α->Int) (l m:List α) (y:Int):orI (LL g l m) y=if l.length=m.length then orI (Ga g l m) y else Go.Ab.Fm l.length m.length:=by
 unfold LL;by_cases h:l.length=m.length
 .rw[Ay h,Ay h]
 .rw[Av h,Av h];unfold orI;rw[Av (λe=>h (by have:=J5.1 e;omega))]
theorem A57:Fo (λ_=>True) Aay := (Fo.or (S:=λ_=>True) (λt:Bk=>t.v) (λt=>t.C) (λa b h1 h2=>by cases a;cases b;cases h1;cases h2;rfl) Fo.cmpI Fo.cmpI (λ_ _=>⟨trivial,trivial⟩)).congr λ_ _=>rfl
theorem I7:Fo (λ_=>True) F0 := (Fo.or (S:=λ_=>True) (λt:As=>t.T) (λt=>t.Q) (λa b h1 h2=>by cases a;cases b;cases h1;cases h2;rfl) A57.ll Fo.cmpI (λ_ _=>⟨λ_ _=>trivial,trivial⟩)).congr λa b=>by show F0 a b=orI (LL Aay a.T b.T) (Go.Ab.Fm a.Q b.Q);rw[Ata];rfl
theorem A58 (i j:Bj):N6 i j=orI (Go.Ab.Fm i.U j.U) (LL N6 i.K j.K):=by
 rw[Asd,Aka];unfold orI LL;by_cases h:i.U=j.U
 .rw[Ay h,Ay (J5.2 h)]
 .rw[Av h,Av (λe=>h (J5.1 e))]
theorem Akf:∀n:Nat,Fo (λi=>Dl i<=n) N6:=by intro n;induction n with| zero=>exact⟨λa _ ha=>by have:=Hc a;omega,λa _ ha=>by have:=Hc a;omega,λa _ _ ha=>by have:=Hc a;omega⟩| succ n ih=>refine (Fo.or (S:=λi=>Dl i<=n+1) (λi:Bj=>i.U) (λi=>i.K) (λa b h1 h2=>by cases a;cases b;cases h1;cases h2;rfl) Fo.cmpI ih.ll ?_).congr A58;intro i hi;refine⟨trivial,λx hx=>?_⟩;have h1:=Md hx;have h2:=Hc i;show Dl x<=n;omega
theorem A59:Fo (λ_=>True) N6 := ⟨λa b _ _=>(Akf (max (Dl a) (Dl b))).zero a b (by show Dl a<=_;omega) (by show Dl b<=_;omega),λa b _ _=>(Akf (max (Dl a) (Dl b))).anti a b (by show Dl a<=_;omega) (by show Dl b<=_;omega),
  λa b c _ _ _=>(Akf (max (Dl a) (max (Dl b) (Dl c)))).trans a b c (by show Dl a<=_;omega) (by show Dl b<=_;omega) (by show Dl c<=_;omega)⟩
theorem A6a:Fo (λ_=>True) Xc := (Fo.or (S:=λ_=>True) (λt:Ca=>t.v) (λt=>t.I) (λa b h1 h2=>by cases a;cases b;cases h1;cases h2;rfl) Fo.cmpI A59 (λ_ _=>⟨trivial,trivial⟩)).congr λ_ _=>rfl
theorem A6b:Fo (λ_=>True) Aaz := (Fo.or (S:=λ_=>True) (λt:Be=>t.L) (λt=>t.P) (λa b h1 h2=>by cases a;cases b;cases h1;cases h2;rfl) I7 Fo.cmpI (λ_ _=>⟨trivial,trivial⟩)).congr λ_ _=>rfl
theorem Akg:Fo (λ_=>True) D8 := (Fo.or (S:=λ_=>True) (λt:A7=>t.F) (λt=>t.A) (λa b h1 h2=>by cases a;cases b;cases h1;cases h2;rfl) A6a.ll A6b.ll (λ_ _=>⟨λ_ _=>trivial,λ_ _=>trivial⟩)).congr λa b=>by show D8 a b=orI (LL Xc a.F b.F) (LL Aaz a.A b.A);rw[Ata];rfl
theorem Mi {a b:A7}:D8 a b=0↔a=b:=Akg.zero a b trivial trivial
theorem Xj (a b:A7):D8 b a = - D8 a b:=Akg.anti a b trivial trivial
theorem Afq {a b c:A7} (h:D8 a b<0) (h':D8 b c<0):D8 a c<0:=Akg.trans a b c trivial trivial trivial h h'
theorem Atb (m:A7):D8 m m=0:=Mi.2 rfl
theorem Atc {a b:A7}:0<D8 a b↔D8 b a<0:=by rw[Xj a b];omega
def cf:List Ai->A7->Rat
 | [],_=>0
 | t::p,m=>(if D8 t.M m=0 then rq t.C else 0)+cf p m
def ltT (t u:Ai):Prop:=D8 t.M u.M<0
structure CP (p:List Ai):Prop where
 srt:p.Pairwise ltT
 coe:∀t∈p,Gk t.C/\rq t.C≠0
theorem CP.tail {t:Ai} {p:List Ai} (h:CP (t::p)):CP p:=⟨(List.pairwise_cons.1 h.srt).2,λu hu=>h.coe u (by simp[hu])⟩
theorem CP.head {t:Ai} {p:List Ai} (h:CP (t::p)):∀u∈p,D8 t.M u.M<0:=(List.pairwise_cons.1 h.srt).1
theorem CP.nil:CP []:=⟨List.Pairwise.nil,λ_ h=>by cases h⟩
theorem CP.cons {t:Ai} {p:List Ai} (h:CP p) (h1:∀u∈p,D8 t.M u.M<0) (h2:Gk t.C) (h3:rq t.C≠0):CP (t::p) := ⟨List.pairwise_cons.2 ⟨h1,h.srt⟩,λu hu=>by
  rcases Fx.1 hu with rfl|hu
  .exact⟨h2,h3⟩
  .exact h.coe u hu⟩
theorem Afr {p:List Ai} {m:A7} (h:∀t∈p,D8 t.M m≠0):cf p m=0:=by induction p with| nil=>rfl| cons t p ih=>simp only[cf];rw[Av (h t ψ),ih (λu hu=>h u (by simp[hu]))];grind
theorem A6c {p:List Ai} {m:A7} (h:∀t∈p,D8 m t.M<0):cf p m=0 := Afr λt ht e=>by have:=h t ht;rw[Xj,e]at this;omega
theorem A6d {t:Ai} {p:List Ai} (h:CP (t::p)):cf (t::p) t.M=rq t.C:=by simp only[cf];rw[Ay (Atb _),A6c h.head];grind
theorem A6e {t:Ai} {p:List Ai} {m:A7} (h:D8 t.M m≠0):cf (t::p) m=cf p m:=by simp only[cf];rw[Av h];grind
theorem Xk (p q:List Ai) (m:A7):cf (p++q) m=cf p m+cf q m:=by induction p with| nil=>simp only[List.nil_append,cf];grind| cons t p ih=>simp only[Du,cf,ih];grind
theorem O4 {p:List Ai} (h:CP p) {t:Ai} (ht:t∈p):cf p t.M=rq t.C:=by
 induction p with
 | nil=>cases ht
 | cons u p ih=>
  rcases Fx.1 ht with rfl|ht
  .exact A6d h
  .have:=h.head t ht;rw[A6e ω];exact ih h.tail ht
theorem Atd (c:Aj):Aa2 c=true↔Gk c/\rq c≠0:=by
 unfold Aa2 Gk;rw[Ck,Asp];have h:(!(nv c==0))=true↔rq c≠0:=by have e:rq c=0↔nv c=0:=(by unfold rq;rw[Rat.mkRat_eq_zero (Ft c)];unfold sg;split <;> omega);rw[Ne,e];simp
 rw[h];exact⟨λ⟨a,b⟩=>⟨a.symm,b⟩,λ⟨a,b⟩=>⟨a.symm,b⟩⟩
theorem A6f {l:List Ai} (h:∀(j:Nat) (x y:Ai),l[j]? = some x->l[j+1]? = some y->D8 x.M y.M<0):l.Pairwise ltT:=by
 induction l with
 | nil=>exact List.Pairwise.nil
 | cons t l ih=>
  have ih:=ih λj x y hx hy=>h (j+1) x y (by simpa using hx) (by simpa using hy);refine List.pairwise_cons.2 ⟨?_,ih⟩;cases l with
  | nil=>intro u hu;cases hu
  | cons v l=>
   have h0:=h 0 t v rfl rfl;intro u hu;rcases Fx.1 hu with rfl|hu
   .exact h0
   .exact Afq h0 ((List.pairwise_cons.1 ih).1 u hu)
theorem Xl {data:List Aw} {vars:List Ah} {res:Ah} {p:List Ai}:H3 data vars res p=true↔p.length<=1000/\CP p/\∀t∈p,I6 data vars res t.M=true:=by
 unfold H3;rw[Ck,C8];constructor
 .rintro⟨h1,h2⟩;have g:∀(j:Nat) (t:Ai),p[j]? = some t->Aa2 t.C=true/\I6 data vars res t.M=true/\Up p t j=true:=(by intro j t hj;have:=Iz h2 hj;simp only[Xf,Ck]at this;exact⟨this.1.1,this.1.2,this.2⟩);refine⟨h1,⟨A6f λj x y hx hy=>?_,λt ht=>?_⟩,λt ht=>?_⟩
  .have:=(g _ _ hy).2.2;unfold Up at this;rw[show j+1-1=j by omega,hx]at this;simpa using this
  .obtain⟨j,hj⟩:=Gz ht;exact (Atd _).1 (g j t hj).1
  .obtain⟨j,hj⟩:=Gz ht;exact (g j t hj).2.1
 .rintro⟨h1,h2,h3⟩;refine⟨h1,D2.2 λq hq=>?_⟩;have hq:=List.mem_zipIdx' hq;have hj:p[q.2]? = some q.1:=(Bx hq.1).trans (congrArg some hq.2.symm);have hm:q.1∈p:=Cf hj;simp only[Xf,Ck];refine⟨⟨(Atd _).2 (h2.coe _ hm),h3 _ hm⟩,?_⟩;unfold Up;by_cases h0:q.2=0
  .rw[h0];rfl
  .have b:q.2-1<p.length:=ω;rw[Bx b];have:=List.pairwise_iff_getElem.1 h2.srt (q.2-1) q.2 b hq.1 ω;rw[<-hq.2]at this;simp only[Bool.or_eq_true,C8];exact .inr this
theorem A6g:∀(k:Nat) (t:Bj),Dl t<=k->k<1099511627776->T7 k t=some t:=by
 intro k;induction k with
 | zero=>intro t h;have:=Hc t;omega
 | succ k ih=>
  intro t h hk;have c:=Hc t;have b:=P4 t.K;rw[T7];refine Ho t.K (λj=>((j:Int),(t.K.take j))) rfl ω ?_ ?_
  .intro j x hj hx h1 h2 h3;have:=Md (Cf hx);simp only[h1,h2,h3,Ak,Ad,ih x ω ω];rw[Dm ζ,Ad,Dc hx]
  .intro h1;exact⟨t.K,ψ,by cases t;rfl⟩
theorem A6h (m:A7) (b:MSz m):Zr m=some m:=by
 have f:=b.nf;have c:=b.na;unfold Zr;refine Ho m.F (λj=>((j:Int),(m.F.take j))) rfl ω ?_ ?_
 .intro j x hj hx h1 h2 h3;have hm:=Cf hx;have:=b.fi x hm;simp only[h1,h2,h3,Ak,Ad,A6g 4000000 x.I ω ω];rw[Dm ζ,Ad,Dc hx]
 .intro h1;refine⟨m.F,ψ,?_⟩;dsimp only;refine Ho m.A (λj=>((j:Int),(m.A.take j))) rfl ω ?_ ?_
  .intro j x hj hx h1 h2 h3;have hm:=Cf hx;have:=b.al x hm;simp only[h1,h2,h3,Ak,Ad,Wa];rw[Dm ζ,Ad,Dm ζ,Ad,Dc hx];rfl
  .intro h1;exact⟨m.A,ψ,by cases m;rfl⟩
structure TB (k:Nat) (t:Ai):Prop where
 co:RB k t.C
 mo:MSz t.M
theorem TSz.tb {t:Ai} (h:TSz t):TB 1048576 t:=⟨h.co,h.mo⟩
theorem TB.mono {j k:Nat} {t:Ai} (h:TB j t) (hk:j<=k):TB k t:=⟨h.co.mono hk,h.mo⟩
end Go.Ab
