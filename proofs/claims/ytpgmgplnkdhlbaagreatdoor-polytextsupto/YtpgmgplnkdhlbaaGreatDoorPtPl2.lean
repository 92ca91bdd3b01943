/- Plain laws: what the plain functions answer. -/
import Derived.Test.YtpgmgplnkdhlbaaGreatDoorPtPl1
import Derived.Lib.ItoaLen
namespace Go.Ab
open Go
theorem Aj4 {data:List Ao} (z:Szv data) (t:Af) (ht:A9 t<=200) (c:Int):Q2 data t c=some (okL (Iq data t c)):=by
 have A:=Fm t
 have l:=Hc t.Args
 unfold Q2 Iq
 by_cases hk:t.Kind=5
 .simp only [C4 hk,cond_false,if_pos hk]
  cases hx:Ae data t.Num with
  | none=>
   rcases Nb hx with h | h
   .simp only [Aj h,cond_true,Ad,okL]
   .by_cases h':t.Num<0
    .simp only [Aj h',cond_true,Ad,okL]
    .simp only [Ap h',Aj (show t.Num>=(data.length:Int) from h),cond_true,cond_false,Ad,okL]
  | some x=>
   obtain ⟨a1,a2,_,hxm⟩:=E9 hx
   simp only [Ap (by omega:¬t.Num<0),Ap (by omega:¬t.Num>=(data.length:Int)),cond_false,Ad]
   by_cases g:(t.Args.length:Int)=x.Vars
   .simp only [C4 g,cond_false,if_pos g]
    cases hy:Ae x.Cons c with
    | none=>
     rcases Nb hy with h | h
     .simp only [Aj h,cond_true,Ad,okL]
     .by_cases h':c<0
      .simp only [Aj h',cond_true,Ad,okL]
      .simp only [Ap h',Aj (show c>=(x.Cons.length:Int) from h),cond_true,cond_false,Ad,okL]
    | some y=>
     obtain ⟨b1,b2,_,i⟩:=E9 hy
     obtain ⟨E,b⟩:=z x hxm y i
     simp only [Ap (by omega:¬c<0),Ap (by omega:¬c>=(x.Cons.length:Int)),cond_false,Ad]
     rw [Kc (n:=t.Args.length) (c:=t.Args.length) rfl rfl (by omega) (by omega) (by omega),Ad]
     refine Im t.Args (fun j=>((j:Int),((t.Args.take j).map fun s=>(A9 s:Int))++List.replicate (t.Args.length-j) 0)) rfl (by omega) ?_ ?_
     .intro j s hj hs h1 h2 h3
      have:=Fx (Br hs)
      obtain ⟨m,B⟩:∃m,t.Args.length-j=m+1:=⟨t.Args.length-j-1,by omega⟩
      have D:t.Args.length-(j+1)=m:=by omega
      have ln:j=((t.Args.take j).map fun s=>(A9 s:Int)).length:=by simp; omega
      simp only [h1,h2,h3,cond_true,Ad,Aub 4000000 s (by omega) (by omega),B,D,List.replicate_succ,Ac6 _ _ _ (j:Int) j rfl ln,Ac5 _ _ _ _ (j:Int) j rfl ln,Dk hs]
      simp
     .intro h1
      refine ⟨t.Args.map fun s=>(A9 s:Int),by simp,?_⟩
      have k:∀s∈t.Args,A9 s<=200:=fun s hs=>by have:=Fx hs; omega
      refine (M8 (rt:=(y.Args.map (Cr t.Args),true)) (rf:=([],false)) y.Args (fun a=>decide (A9 (Cr t.Args a)<=200)) (fun j=>(j:Int)) rfl (by omega) ?_ ?_).trans ?_
      .intro j a ha h1 h2 h3
       have u:=b a (Br ha)
       obtain ⟨v,q,v2,v3⟩:=Auc t.Args 200 (by omega) (by omega) k 4000000 a (by omega) (by omega)
       simp only [h1,h2,h3,cond_true,Ad,q]
       by_cases hb:A9 (Cr t.Args a)<=200
       .rw [Aj hb,Ap (by omega)]
        exact ⟨fun _=>rfl,fun h=>by cases h⟩
       .rw [Ap hb,Aj (by omega)]
        exact ⟨(fun h=>by cases h),fun _=>⟨_,rfl,rfl⟩⟩
      .intro h1
       refine ⟨.inr (),by simp,?_⟩
       simp only
       refine Im y.Args (fun j=>((j:Int),(y.Args.take j).map (Cr t.Args))) rfl (by omega) ?_ ?_
       .intro j a hj ha h1 h2 h3
        have u:=b a (Br ha)
        simp only [h1,h2,h3,cond_true,Ad,At8 4000000 a t.Args 200 k (by omega) (by omega)]
        rw [Ds (by simp; omega),Ad,Dk ha]; simp
       .intro h1
        exact ⟨y.Args.map (Cr t.Args),by simp,rfl⟩
      .rw [List.all_map]
       cases f:y.Args.all ((fun a=>decide (A9 a<=200)) ∘ Cr t.Args) with
       | true=>rw [if_pos rfl]; rw [show (y.Args.all fun a=>decide (A9 (Cr t.Args a)<=200))=true from f]; rfl
       | false=>rw [show (y.Args.all fun a=>decide (A9 (Cr t.Args a)<=200))=false from f]; rfl
   .simp only [Cy g,cond_true,Ad,if_neg g,okL]
 .simp only [Cy hk,cond_true,Ad,if_neg hk,okL]
theorem Pf {data:List Ao} {t:Af} {c:Int} {l:List Af} (h:Iq data t c=some l) :
  ∃x y,t.Kind=5/\Ae data t.Num=some x/\(t.Args.length:Int)=x.Vars/\Ae x.Cons c=some y/\l=y.Args.map (Cr t.Args)/\∀a∈l,A9 a<=200:=by
 unfold Iq at h
 by_cases hk:t.Kind=5
 .rw [if_pos hk] at h
  cases hx:Ae data t.Num with
  | none=>rw [hx] at h; cases h
  | some x=>
   rw [hx] at h
   simp only at h
   by_cases f:(t.Args.length:Int)=x.Vars
   .rw [if_pos f] at h
    cases hy:Ae x.Cons c with
    | none=>rw [hy] at h; cases h
    | some y=>
     rw [hy] at h
     simp only at h
     by_cases b:(y.Args.map (Cr t.Args)).all (fun a=>decide (A9 a<=200))=true
     .rw [if_pos b] at h
      cases h
      refine ⟨x,y,hk,rfl,f,hy,rfl,fun a ha=>?_⟩
      have:=List.all_eq_true.1 b a ha
      simpa using this
     .rw [if_neg b] at h; cases h
   .rw [if_neg f] at h; cases h
 .rw [if_neg hk] at h; cases h
def Fo (l:List Af) (r:List Bool):List Af:=((l.zip r).filter fun p=>!p.2).map (·.1)
def E2 (data:List Ao) (t:Af) (c:Int):Option (List Af):=(Iq data t c).map fun l=>Fo l (Fi data t.Num c)
theorem X9 {data:List Ao} {t:Af} {c:Int} {l:List Af} (h:Iq data t c=some l):(Fi data t.Num c).length=l.length:=by
 obtain ⟨x,y,_,hx,_,hy,rfl,_⟩:=Pf h
 unfold Fi
 simp only [hx,hy,List.length_map]
theorem Adf {l:List Af} {r:List Bool} {j:Nat} {a:Af} {b:Bool} (h1:l[j]? = some a) (h2:r[j]? = some b):Fo (l.take (j+1)) (r.take (j+1))=Fo (l.take j) (r.take j)++bif b then [] else [a]:=by
 unfold Fo
 have f:=Fh h1
 have c:=Fh h2
 rw [Dk h1,Dk h2,List.zip_append (by simp; omega)]
 cases b <;> simp
theorem Adg (l:List Af) (r:List Bool):(Fo l r).length<=l.length:=by
 unfold Fo
 rw [List.length_map]
 refine Nat.le_trans (List.length_filter_le _ _) ?_
 rw [List.length_zip]; omega
theorem Ul {data:List Ao} (f:Szv data) (hs:He data) (t:Af) (ht:A9 t<=200) (c:Int):J9 data t c=some (okL (E2 data t c)):=by
 unfold J9 E2
 rw [Aj4 f t ht c,Ad]
 cases g:Iq data t c with
 | none=>rfl
 | some l=>
  have i:=X9 g
  obtain ⟨x,y,_,hx,_,hy,q,_⟩:=Pf g
  obtain ⟨h,_⟩:=f x (E9 hx).2.2.2 y (E9 hy).2.2.2
  have k:l.length<=6:=by rw [q]; simpa using h
  simp only [okL,De,cond_false,Ac7 data t.Num c hs,Ad,Option.map_some]
  refine Im (Fi data t.Num c) (fun j=>((j:Int),Fo (l.take j) ((Fi data t.Num c).take j))) (by simp [Fo]) (by omega) ?_ ?_
  .intro j b hj hb h1 h2 h3
   have ha:l[j]? = some l[j]:=B0 (by omega)
   generalize l[j]=a at ha
   have s:=Adg (l.take j) ((Fi data t.Num c).take j)
   have:(l.take j).length<=6:=by simp; omega
   simp only [h1,h2,h3,cond_true,Ad,Bv rfl ha,Adf ha hb]
   rw [Ds (by simp; omega)]
   cases b <;> simp
  .intro h1
   refine ⟨Fo l (Fi data t.Num c),?_,rfl⟩
   simp only [h1]
   rw [List.take_of_length_le (by omega),List.take_of_length_le (Nat.le_refl _)]; rfl
def Ji (r:List Bool):List Int:=(r.zipIdx.filter fun p=>!p.1).map fun p=>(p.2:Int)
def Pg (r:List Bool):List Int:=(r.zipIdx.filter fun p=>p.1).map fun p=>(p.2:Int)
theorem Adh {r:List Bool} {j:Nat} {b:Bool} (h:r[j]? = some b):(r.take (j+1)).zipIdx=(r.take j).zipIdx++[(b,j)]:=by
 have:=Fh h
 rw [Dk h,List.zipIdx_append]; simp; omega
theorem Auf {data:List Ao} (g:Szv data) (hs:He data) (t:Af) (ht:A9 t<=200) (c:Int) {l:List Af} (f:Iq data t c=some l):Tj data t c=some (Ji (Fi data t.Num c),Pg (Fi data t.Num c),true):=by
 unfold Tj
 have i:=X9 f
 obtain ⟨x,y,_,hx,_,hy,q,_⟩:=Pf f
 obtain ⟨h,_⟩:=g x (E9 hx).2.2.2 y (E9 hy).2.2.2
 have k:l.length<=6:=by rw [q]; simpa using h
 rw [Aj3 g t ht c,f,Ad]
 simp only [okL,De,cond_false,Atc data t.Num c hs,Ad]
 generalize Fi data t.Num c=r at *
 refine Im r (fun j=>((j:Int),Ji (r.take j),Pg (r.take j))) (by simp [Ji,Pg]) (by omega) ?_ ?_
 .intro j b hj hb h1 h2 h3
  have u:(Ji (r.take j)).length<=6:=by
   unfold Ji; rw [List.length_map]; refine Nat.le_trans (List.length_filter_le _ _) ?_; simp; omega
  have s:(Pg (r.take j)).length<=6:=by
   unfold Pg; rw [List.length_map]; refine Nat.le_trans (List.length_filter_le _ _) ?_; simp; omega
  simp only [h1,h2,h3,cond_true,Ad]
  rw [Ds (by simp; omega),Ds (by simp; omega)]
  unfold Ji Pg
  rw [Adh hb]
  cases b <;> simp
 .intro h1
  exact ⟨(Ji r,Pg r),by simp,rfl⟩
theorem Aug {l:List Af} {r:List Bool} (h:r.length=l.length):∀(j:Nat) (a:Int),(Ji r)[j]? = some a->∃x,Ae l a=some x/\(Fo l r)[j]? = some x:=by
 intro j a ha
 have e:Fo l r=(r.zipIdx.filter fun p=>!p.1).map fun p=>(l[p.2]?).getD ⟨0,0,[]⟩:=by
  unfold Fo
  have key:∀n,n<=r.length->(((l.take n).zip (r.take n)).filter fun p=>!p.2).map (·.1)=((r.take n).zipIdx.filter fun p=>!p.1).map fun p=>(l[p.2]?).getD ⟨0,0,[]⟩:=by
   intro n
   induction n with
   | zero=>intro _; simp
   | succ n ih=>
    intro g
    have h1:l[n]? = some l[n]:=B0 (by omega)
    have h2:r[n]? = some r[n]:=B0 (by omega)
    have:=Adf h1 h2
    unfold Fo at this
    rw [this,ih (by omega),Adh h2]
    cases r[n] <;> simp [h1]
  have:=key r.length (Nat.le_refl _)
  rw [List.take_of_length_le (by omega),List.take_of_length_le (Nat.le_refl _)] at this
  exact this
 unfold Ji at ha
 rw [List.getElem?_map] at ha
 cases hp:(r.zipIdx.filter fun p=>!p.1)[j]? with
 | none=>rw [hp] at ha; cases ha
 | some p=>
  rw [hp] at ha
  cases ha
  have c:=Br hp
  rw [List.mem_filter] at c
  have b:r[p.2]? = some p.1:=List.mk_mem_zipIdx_iff_getElem?.1 c.1
  have f:=Fh b
  have hx:l[p.2]? = some l[p.2]:=B0 (by omega)
  refine ⟨l[p.2],Bv rfl hx,?_⟩
  rw [e,List.getElem?_map,hp]
  simp [hx]
theorem Auh {l:List Af} {r:List Bool} (h:r.length=l.length):(Ji r).length=(Fo l r).length:=by
 unfold Ji Fo
 simp only [List.length_map]
 have key:∀n,n<=r.length->(((l.take n).zip (r.take n)).filter fun p=>!p.2).length=((r.take n).zipIdx.filter fun p=>!p.1).length:=by
  intro n
  induction n with
  | zero=>intro _; simp
  | succ n ih=>
   intro b
   have h1:l[n]? = some l[n]:=B0 (by omega)
   have h2:r[n]? = some r[n]:=B0 (by omega)
   rw [Adh h2,Dk h1,Dk h2,List.zip_append (by simp; omega),List.filter_append,List.length_append,ih (by omega),List.filter_append,List.length_append]
   cases r[n] <;> simp
 have:=key r.length (Nat.le_refl _)
 rw [List.take_of_length_le (by omega),List.take_of_length_le (Nat.le_refl _)] at this
 exact this.symm
theorem Um {data:List Ao} (g:Szv data) (hs:He data) (t:Af) (ht:A9 t<=200) (c:Int):Mp data t c=some (okL (E2 data t c)):=by
 unfold Mp E2
 rw [Aj3 g t ht c,Ad]
 cases h:Iq data t c with
 | none=>rfl
 | some l=>
  have f:=X9 h
  obtain ⟨x,y,_,hx,_,hy,s,_⟩:=Pf h
  obtain ⟨i,_⟩:=g x (E9 hx).2.2.2 y (E9 hy).2.2.2
  have q:l.length<=6:=by rw [s]; simpa using i
  simp only [okL,De,cond_false,Auf g hs t ht c h,Ad,Option.map_some]
  generalize Fi data t.Num c=r at *
  have k:=Auh f
  have u:=Adg l r
  refine Im (Ji r) (fun j=>((j:Int),(Fo l r).take j)) (by simp) (by omega) ?_ ?_
  .intro j b hj hb h1 h2 h3
   obtain ⟨a,a1,a2⟩:=Aug f j b hb
   simp only [h1,h2,h3,cond_true,Ad,a1]
   rw [Ds (by simp; omega),Ad,Dk a2]
  .intro h1
   refine ⟨Fo l r,?_,rfl⟩
   simp only [h1]
   rw [List.take_of_length_le (by omega)]; rfl
theorem Ro {data:List Ao} {t:Af} {c:Int} {l:List Af} (h:E2 data t c=some l):(∀a∈l,A9 a<=200)/\∃x,Ae data t.Num=some x/\0<=c/\c<x.Cons.length:=by
 unfold E2 at h
 cases b:Iq data t c with
 | none=>rw [b] at h; cases h
 | some m=>
  rw [b] at h
  cases h
  obtain ⟨x,y,_,hx,_,hy,_,g⟩:=Pf b
  refine ⟨fun a ha=>?_,x,hx,(E9 hy).1,(E9 hy).2.1⟩
  unfold Fo at ha
  obtain ⟨p,f,rfl⟩:=List.mem_map.1 ha
  exact g _ (List.of_mem_zip (List.mem_filter.1 f).1).1
end Go.Ab
namespace Go.Ab
open Go
mutual
def Cm:Az->Nat
 | ⟨_,l⟩=>1+Db l
def Db:List Az->Nat
 | []=>0
 | x::xs=>Cm x+Db xs
end
theorem Eg (t:Az):Cm t=1+Db t.Kids:=by cases t; simp only [Cm]
theorem Hf {l:List Az} {a:Az} (h:a∈l):Cm a<=Db l:=by
 induction l with
 | nil=>cases h
 | cons x xs ih=>
  simp only [Db]
  rcases List.mem_cons.1 h with rfl | h
  .omega
  .have:=ih h; omega
theorem Ia (l:List Az):l.length<=Db l:=by
 induction l with
 | nil=>simp
 | cons x xs ih=>simp only [Db,List.length_cons]; have:=Eg x; omega
mutual
def D9 (data:List Ao):Az->Af->Option Nat
 | ⟨n,kids⟩,t=>
  if t.Kind=6 then (if n=0 then C8 data kids t.Args else none)
  else if t.Kind=7 then (if 0<=n/\n<=6/\kids.length=0 then some n.toNat else none)
  else if t.Kind=5 then (if n=0 then E3 data kids t else none)
  else if n=0/\kids.length=0 then some 0 else none
def C8 (data:List Ao):List Az->List Af->Option Nat
 | [],[]=>some 0
 | i::is,t::ts=>(D9 data i t).bind fun a=>(C8 data is ts).map (a + ·)
 | [],_::_=>none
 | _::_,[]=>none
def E3 (data:List Ao):List Az->Af->Option Nat
 | [],_=>some 0
 | ⟨n,kids⟩::es,t=>(E2 data t n).bind fun ts=>(C8 data kids ts).bind fun a=>(E3 data es t).map (1+a + ·)
end
theorem Un (data:List Ao) (i:Az) (t:Af):D9 data i t=if t.Kind=6 then (if i.Num=0 then C8 data i.Kids t.Args else none)
  else if t.Kind=7 then (if 0<=i.Num/\i.Num<=6/\i.Kids.length=0 then some i.Num.toNat else none)
  else if t.Kind=5 then (if i.Num=0 then E3 data i.Kids t else none)
  else if i.Num=0/\i.Kids.length=0 then some 0 else none:=by cases i; simp only [D9]
theorem Rp (data:List Ao) (e:Az) (es:List Az) (t:Af):E3 data (e::es) t=(E2 data t e.Num).bind fun b=>(C8 data e.Kids b).bind fun a=>(E3 data es t).map (1+a + ·):=by cases e; simp only [E3]
theorem Rq (data:List Ao) (i:Az) (c:List Az) (t:Af) (b:List Af):C8 data (i::c) (t::b)=(D9 data i t).bind fun a=>(C8 data c b).map (a + ·):=by simp only [C8]
theorem Ya (data:List Ao):∀(c:List Az) (b:List Af),b.length≠c.length->C8 data c b=none
 | [],[],h=>absurd rfl h
 | i::c,t::b,h=>by rw [Rq,Ya data c b (by simpa using h)]; cases D9 data i t <;> rfl
 | [],_::_,_=>by simp only [C8]
 | _::_,[],_=>by simp only [C8]
theorem Aj5 (data:List Ao):∀(es:List Az) (t:Af) (d:Nat),E3 data es t=some d->es.length<=d
 | [],_,_,_=>by simp
 | e::es,t,d,h=>by
  rw [Rp] at h
  cases h1:E2 data t e.Num with
  | none=>rw [h1] at h; cases h
  | some c=>
   rw [h1,Ad] at h
   cases h2:C8 data e.Kids c with
   | none=>rw [h2] at h; cases h
   | some a=>
    rw [h2,Ad] at h
    cases h3:E3 data es t with
    | none=>rw [h3] at h; cases h
    | some b=>
     rw [h3] at h
     cases h
     have:=Aj5 data es t b h3
     simp only [List.length_cons]; omega
def Et (o:Option Nat):Int:=match o with | some d=>if d<=6 then (d:Int) else -1 | none => -1
theorem Aui:Et none = -1:=rfl
theorem Yb {d:Nat} (h:d<=6):Et (some d)=d:=by simp [Et,h]
theorem Adi {d:Nat} (h:6<d):Et (some d) = -1:=by simp only [Et]; rw [if_neg (by omega)]
theorem Adj (o:Option Nat):(Et o = -1/\∀d,o=some d->6<d)\/∃d,o=some d/\d<=6/\Et o=d:=by
 cases o with
 | none=>exact .inl ⟨rfl,fun d h=>by cases h⟩
 | some d=>
  rcases Nat.lt_or_ge 6 d with h | h
  .exact .inl ⟨Adi h,fun e he=>by cases he; exact h⟩
  .exact .inr ⟨d,rfl,h,Yb h⟩
theorem Ph {o:Option Nat} (h:∀d,o=some d->6<d):Et o = -1:=by
 cases o with
 | none=>rfl
 | some d=>exact Adi (h d rfl)
def Pr (p:Int×Bool) (o:Option Nat):Prop:=(p.2=true/\∃d:Nat,o=some d/\d<=6/\p.1=d)\/(p.2=false/\∀d,o=some d->6<d)
theorem Ke {α:Type} {l:List α} {j:Nat} {x:α} (h:l[j]? = some x):l.drop j=x::l.drop (j+1):=by
 have hj:=Fh h
 rw [List.drop_eq_getElem_cons hj]
 rw [B0 hj] at h
 rw [Option.some.inj h]
theorem Auj {data:List Ao} (M:Szv data) (hs:He data):∀k:Nat,
  (∀(i:Az) (t:Af),2*Cm i<=k->Cm i<=1048576->A9 t<=200->∃p,Mw k data t i=some p/\Pr p (D9 data i t)) /\
  (∀(f:List Az) (c:List Af),2*Db f+1<=k->Db f<=1048576->(∀t∈c,A9 t<=200)->∃p,Mz k data c f=some p/\Pr p (C8 data f c)):=by
 intro k
 induction k with
 | zero=>exact ⟨fun i t h=>by have:=Eg i; omega,fun f c h=>by omega⟩
 | succ k ih=>
  obtain ⟨Y,J⟩:=ih
  constructor
  .intro i t hk hi ht
   have a7:=Eg i
   have Z:=Ia i.Kids
   rw [Mw,Un]
   by_cases R:t.Kind=6
   .simp only [Da R,cond_true,if_pos R]
    by_cases h0:i.Num=0
    .simp only [C4 h0,cond_false,if_pos h0]
     obtain ⟨p,p1,p2⟩:=J i.Kids t.Args (by omega) (by omega) (fun a ha=>by have:=Fx ha; have:=Fm t; omega)
     rw [p1]
     exact ⟨p,rfl,p2⟩
    .simp only [Cy h0,cond_true,if_neg h0]
     exact ⟨_,rfl,.inr ⟨rfl,fun d h=>by cases h⟩⟩
   .simp only [B2 R,cond_false,if_neg R]
    by_cases N:t.Kind=7
    .simp only [Da N,cond_true,if_pos N]
     by_cases a1:0<=i.Num
     .by_cases a2:i.Num<=6
      .by_cases a3:i.Kids.length=0
       .rw [Aj (show i.Num>=0 from a1),Aj a2,if_pos ⟨a1,a2,a3⟩]
        exact ⟨_,rfl,.inl ⟨by simp [a3],i.Num.toNat,rfl,by omega,by simp; omega⟩⟩
       .rw [Aj (show i.Num>=0 from a1),Aj a2,if_neg (fun h=>a3 h.2.2)]
        exact ⟨_,rfl,.inr ⟨B2 (by omega),fun d h=>by cases h⟩⟩
      .rw [Aj (show i.Num>=0 from a1),Ap a2,if_neg (fun h=>a2 h.2.1)]
       exact ⟨_,rfl,.inr ⟨rfl,fun d h=>by cases h⟩⟩
     .rw [Ap (show ¬i.Num>=0 from a1),if_neg (fun h=>a1 h.1)]
      exact ⟨_,rfl,.inr ⟨rfl,fun d h=>by cases h⟩⟩
    .simp only [B2 N,cond_false,if_neg N]
     by_cases U:t.Kind=5
     .simp only [Da U,cond_true,if_pos U]
      by_cases h0:i.Num=0
      .simp only [C4 h0,cond_false,if_pos h0]
       have key:∀(m j acc:Nat),j+m=i.Kids.length->acc<=6->∃z,An (S:=(Int×Int)) (E:=((Int×Bool)⊕Int)) (fun (v8,v9)=>
         bif (decide (v9<(i.Kids.length:Int))) then (
         (Ae i.Kids v9).bind fun x=>
         (J9 data t x.Num).bind fun v12=>
         bif (!v12.2) then some (.inr (.inl (0,false)))
         else (
         (Mz k data v12.1 x.Kids).bind fun D=>
         bif (!D.2) then some (.inr (.inl (0,false)))
         else (
         bif (decide ((Ac (v8+(Ac (1+D.1))))>(6:Int))) then some (.inr (.inl (0,false)))
         else some (.inl ((Ac (v8+(Ac (1+D.1)))),(Ac (v9+1)))))))
         else some (.inr (.inr v8))) ((acc:Int),(j:Int))=some z/\(match z with | .inl p=>p=(0,false)/\∀d,(E3 data (i.Kids.drop j) t).map (acc + ·)=some d->6<d | .inr v=>∃d:Nat,(E3 data (i.Kids.drop j) t).map (acc + ·)=some d/\d<=6/\v=d):=by
        intro m
        induction m with
        | zero=>
         intro j acc hj g
         have:j=i.Kids.length:=by omega
         subst this
         exact ⟨.inr (acc:Int),E6 (by simp),acc,by simp [E3],g,rfl⟩
        | succ m y=>
         intro j acc hj g
         have he:i.Kids[j]? = some i.Kids[j]:=B0 (by omega)
         generalize i.Kids[j]=e at he
         have a6:=Hf (Br he)
         have a8:=Eg e
         rw [Ke he,Rp]
         cases hp:E2 data t e.Num with
         | none=>
          refine ⟨.inl (0,false),E6 ?_,rfl,fun d h=>by simp at h⟩
          simp only [Aj (by omega:(j:Int)<(i.Kids.length:Int)),cond_true,Bv rfl he,Ad,Ul M hs t ht e.Num,hp,okL,Bool.not_false]
         | some c=>
          obtain ⟨q,I,l⟩:=J e.Kids c (by omega) (by omega) (Ro hp).1
          rcases l with ⟨l,a,A,q4,X⟩ | ⟨l,A⟩
          .have V:Ac ((acc:Int)+Ac (1+q.1))=((acc+(1+a):Nat):Int):=by
            rw [X,show Ac (1+(a:Int))=((1+a:Nat):Int) by rw [Ac,Bl] <;> omega,Ac,Bl] <;> omega
           by_cases hb:acc+(1+a)<=6
           .obtain ⟨z,s,z2⟩:=y (j+1) (acc+(1+a)) (by omega) hb
            refine ⟨z,?_,?_⟩
            .rw [J1 (s':=(((acc+(1+a):Nat):Int),((j+1:Nat):Int)))]
             .exact s
             .simp only [Aj (by omega:(j:Int)<(i.Kids.length:Int)),cond_true,Bv rfl he,Ad,Ul M hs t ht e.Num,hp,okL,De,cond_false,I,l,V,Ap (by omega:¬((acc+(1+a):Nat):Int)>6),Di (show j<i.Kids.length by omega) (by omega)]
            .have G:∀o:Option Nat,(((some a:Option Nat).bind fun a=>o.map (1+a + ·)).map (acc + ·))=o.map (acc+(1+a) + ·):=by
              intro o; cases o <;> simp [Nat.add_assoc]
             rw [Ad,A,G]
             exact z2
           .refine ⟨.inl (0,false),E6 ?_,rfl,fun d h=>?_⟩
            .simp only [Aj (by omega:(j:Int)<(i.Kids.length:Int)),cond_true,Bv rfl he,Ad,Ul M hs t ht e.Num,hp,okL,De,cond_false,I,l,V,Aj (by omega:((acc+(1+a):Nat):Int)>6)]
            .rw [Ad,A,Ad] at h
             cases B:E3 data (i.Kids.drop (j+1)) t with
             | none=>rw [B] at h; cases h
             | some b=>rw [B] at h; simp at h; omega
          .refine ⟨.inl (0,false),E6 ?_,rfl,fun d h=>?_⟩
           .simp only [Aj (by omega:(j:Int)<(i.Kids.length:Int)),cond_true,Bv rfl he,Ad,Ul M hs t ht e.Num,hp,okL,De,cond_false,I,l,Bool.not_false]
           .rw [Ad] at h
            cases ha:C8 data e.Kids c with
            | none=>rw [ha] at h; cases h
            | some a=>
             rw [ha,Ad] at h
             have:=A a ha
             cases B:E3 data (i.Kids.drop (j+1)) t with
             | none=>rw [B] at h; cases h
             | some b=>rw [B] at h; simp at h; omega
       obtain ⟨z,s,z2⟩:=key i.Kids.length 0 0 (by omega) (by omega)
       have s:An _ ((0:Int),(0:Int))=some z:=s
       rw [s,Ad]
       have G:∀o:Option Nat,o.map (0 + ·)=o:=by intro o; cases o <;> simp
       rw [List.drop_zero,G] at z2
       match z,z2 with
       | .inl p,z2=>exact ⟨_,rfl,.inr ⟨by rw [z2.1],z2.2⟩⟩
       | .inr v,z2=>
        obtain ⟨d,d1,d2,d3⟩:=z2
        exact ⟨_,rfl,.inl ⟨rfl,d,d1,d2,d3⟩⟩
      .simp only [Cy h0,cond_true,if_neg h0]
       exact ⟨_,rfl,.inr ⟨rfl,fun d h=>by cases h⟩⟩
     .simp only [B2 U,cond_false,if_neg U]
      by_cases h0:i.Num=0
      .simp only [Da h0,cond_true]
       by_cases a3:i.Kids.length=0
       .rw [if_pos ⟨h0,a3⟩]
        exact ⟨_,rfl,.inl ⟨by simp [a3],0,rfl,by omega,rfl⟩⟩
       .rw [if_neg (fun h=>a3 h.2)]
        exact ⟨_,rfl,.inr ⟨B2 (by omega),fun d h=>by cases h⟩⟩
      .simp only [B2 h0,cond_false]
       rw [if_neg (fun h=>h0 h.1)]
       exact ⟨_,rfl,.inr ⟨rfl,fun d h=>by cases h⟩⟩
  .intro f c hk hi ht
   have Z:=Ia f
   rw [Mz]
   by_cases hl:c.length=f.length
   .rw [C4 (by omega)]
    simp only [cond_false]
    have key:∀(m j acc:Nat),j+m=f.length->acc<=6*j->∃z,An (S:=(Int×Int)) (E:=((Int×Bool)⊕Int)) (fun (v5,L)=>
      bif (decide (L<(c.length:Int))) then (
      (Ae c L).bind fun v7=>
      (Ae f L).bind fun v9=>
      (Mw k data v7 v9).bind fun x=>
      bif (!x.2) then some (.inr (.inl (0,false)))
      else some (.inl ((Ac (v5+x.1)),(Ac (L+1)))))
      else some (.inr (.inr v5))) ((acc:Int),(j:Int))=some z/\(match z with | .inl p=>p=(0,false)/\∀d,(C8 data (f.drop j) (c.drop j)).map (acc + ·)=some d->6<d | .inr v=>∃d:Nat,(C8 data (f.drop j) (c.drop j)).map (acc + ·)=some d/\v=d):=by
     intro m
     induction m with
     | zero=>
      intro j acc hj g
      have:j=c.length:=by omega
      subst this
      refine ⟨.inr (acc:Int),E6 (by simp),acc,?_,rfl⟩
      rw [List.drop_of_length_le (by omega),List.drop_of_length_le (by omega)]
      simp [C8]
     | succ m y=>
      intro j acc hj g
      have he:f[j]? = some f[j]:=B0 (by omega)
      generalize f[j]=e at he
      have hu:c[j]? = some c[j]:=B0 (by omega)
      generalize c[j]=u at hu
      have a6:=Hf (Br he)
      rw [Ke he,Ke hu,Rq]
      obtain ⟨q,I,l⟩:=Y e u (by omega) (by omega) (ht u (Br hu))
      rcases l with ⟨l,a,A,q4,X⟩ | ⟨l,A⟩
      .have V:Ac ((acc:Int)+q.1)=((acc+a:Nat):Int):=by
        rw [X,Ac,Bl] <;> omega
       obtain ⟨z,s,z2⟩:=y (j+1) (acc+a) (by omega) (by omega)
       refine ⟨z,?_,?_⟩
       .rw [J1 (s':=(((acc+a:Nat):Int),((j+1:Nat):Int)))]
        .exact s
        .simp only [Aj (by omega:(j:Int)<(c.length:Int)),cond_true,Bv rfl he,Bv rfl hu,Ad,De,cond_false,I,l,V,Di (show j<f.length by omega) (by omega)]
       .have G:∀o:Option Nat,(((some a:Option Nat).bind fun a=>o.map (a + ·)).map (acc + ·))=o.map (acc+a + ·):=by
         intro o; cases o <;> simp [Nat.add_assoc]
        rw [A,G]
        exact z2
      .refine ⟨.inl (0,false),E6 ?_,rfl,fun d h=>?_⟩
       .simp only [Aj (by omega:(j:Int)<(c.length:Int)),cond_true,Bv rfl he,Bv rfl hu,Ad,I,l,Bool.not_false]
       .cases ha:D9 data e u with
        | none=>rw [ha] at h; cases h
        | some a=>
         rw [ha,Ad] at h
         have:=A a ha
         cases B:C8 data (f.drop (j+1)) (c.drop (j+1)) with
         | none=>rw [B] at h; cases h
         | some b=>rw [B] at h; simp at h; omega
    obtain ⟨z,s,z2⟩:=key f.length 0 0 (by omega) (by omega)
    have s:An _ ((0:Int),(0:Int))=some z:=s
    rw [s,Ad]
    have G:∀o:Option Nat,o.map (0 + ·)=o:=by intro o; cases o <;> simp
    rw [List.drop_zero,List.drop_zero,G] at z2
    match z,z2 with
    | .inl p,z2=>exact ⟨_,rfl,.inr ⟨by rw [z2.1],z2.2⟩⟩
    | .inr v,z2=>
     obtain ⟨d,d1,d3⟩:=z2
     by_cases hd:d<=6
     .exact ⟨_,rfl,.inl ⟨Aj (by omega),d,d1,hd,d3⟩⟩
     .exact ⟨_,rfl,.inr ⟨Ap (by omega),fun e he=>by rw [d1] at he; cases he; omega⟩⟩
   .rw [Cy (by omega),Ya data f c hl]
    exact ⟨_,rfl,.inr ⟨rfl,fun d h=>by cases h⟩⟩
end Go.Ab
namespace Go.Ab
open Go
theorem Aj6 {data:List Ao} (V:Szv data) (hs:He data) (h8:∀x∈data,x.Cons.length<=8):∀k:Nat,
  (∀(i:Az) (t:Af),2*Cm i<=k->Cm i<=1048576->A9 t<=200->Lr k data t i=some (Et (D9 data i t))) /\
  (∀(f:List Az) (c:List Af),2*Db f+1<=k->Db f<=1048576->(∀t∈c,A9 t<=200)->Mx k data c f=some (Et (C8 data f c))):=by
 intro k
 induction k with
 | zero=>exact ⟨fun i t h=>by have:=Eg i; omega,fun f c h=>by omega⟩
 | succ k ih=>
  obtain ⟨a8,M⟩:=ih
  have J:∀o:Option Nat,o.map (0 + ·)=o:=by intro o; cases o <;> simp
  constructor
  .intro i t hk hi ht
   have ag:=Eg i
   have aa:=Ia i.Kids
   rw [Lr,Un]
   by_cases Y:t.Kind=6
   .simp only [Da Y,cond_true,if_pos Y]
    by_cases h0:i.Num=0
    .simp only [C4 h0,cond_false,if_pos h0]
     rw [M i.Kids t.Args (by omega) (by omega) (fun a ha=>by have:=Fx ha; have:=Fm t; omega)]
     rfl
    .simp only [Cy h0,cond_true,if_neg h0]; rfl
   .simp only [B2 Y,cond_false,if_neg Y]
    by_cases X:t.Kind=7
    .simp only [Da X,cond_true,if_pos X]
     by_cases a1:0<=i.Num
     .by_cases a2:i.Num<=6
      .by_cases a3:i.Kids.length=0
       .rw [Ap (by omega),Ap (by omega),Ap (by omega),if_pos ⟨a1,a2,a3⟩,Yb (by omega)]
        simp; omega
       .rw [Ap (by omega),Ap (by omega),Aj (by omega),if_neg (fun h=>a3 h.2.2)]; rfl
      .rw [Ap (by omega),Aj (by omega),if_neg (fun h=>a2 h.2.1)]; rfl
     .rw [Aj (by omega),if_neg (fun h=>a1 h.1)]; rfl
    .simp only [B2 X,cond_false,if_neg X]
     by_cases Z:t.Kind=5
     .simp only [Da Z,cond_true,if_pos Z]
      by_cases h0:i.Num=0
      .simp only [C4 h0,cond_false,if_pos h0,Ad]
       by_cases N:(i.Kids.length:Int)>6
       .rw [Aj N]
        refine congrArg some (Ph fun d hd=>?_).symm
        have:=Aj5 data _ _ _ hd
        omega
       rw [Ap N]
       simp only [cond_false]
       have key:∀(m j acc:Nat),j+m=i.Kids.length->acc<=6->∃z,An (S:=(Int×Int)) (E:=(Int⊕Int)) (fun (G,D)=>
         bif (decide (D<(i.Kids.length:Int))) then (
         (Ae i.Kids D).bind fun v12=>
         (show Option Bool from
         bif (decide (v12.Num<(0:Int))) then some true
         else some (decide (v12.Num>=(8:Int)))).bind fun a6=>
         bif a6 then some (.inr (.inl (-1)))
         else (
         (Mp data t v12.Num).bind fun L=>
         bif (!L.2) then some (.inr (.inl (-1)))
         else (
         (Mx k data L.1 v12.Kids).bind fun B=>
         bif (decide (B<(0:Int))) then some (.inr (.inl (-1)))
         else (
         bif (decide ((Ac ((Ac (G+1))+B))>(6:Int))) then some (.inr (.inl (-1)))
         else some (.inl ((Ac (G+(Ac (1+B)))),(Ac (D+1))))))))
         else some (.inr (.inr G))) ((acc:Int),(j:Int))=some z/\(match z with | .inl v=>v | .inr v=>v)=Et ((E3 data (i.Kids.drop j) t).map (acc + ·)):=by
        intro m
        induction m with
        | zero=>
         intro j acc hj g
         have:j=i.Kids.length:=by omega
         subst this
         refine ⟨.inr (acc:Int),E6 (by simp),?_⟩
         simp [E3,Et,g]
        | succ m s=>
         intro j acc hj g
         have he:i.Kids[j]? = some i.Kids[j]:=B0 (by omega)
         generalize i.Kids[j]=e at he
         have ab:=Hf (Br he)
         have ah:=Eg e
         rw [Ke he,Rp]
         have hb:(bif decide (e.Num<(0:Int)) then some true else some (decide (e.Num>=(8:Int))))=some (decide (e.Num<0\/8<=e.Num)):=by
          by_cases g1:e.Num<0 <;> by_cases g2:8<=e.Num <;> simp [g1,g2]
         cases hp:E2 data t e.Num with
         | none=>
          refine ⟨.inl (-1),E6 ?_,by simp [Et]⟩
          simp only [Aj (by omega:(j:Int)<(i.Kids.length:Int)),cond_true,Bv rfl he,Ad,Um V hs t ht e.Num,hp,okL,Bool.not_false,hb]
          cases decide (e.Num<0\/8<=e.Num) <;> rfl
         | some c=>
          obtain ⟨pz,x,a7,ae,ad⟩:=Ro hp
          have af:=h8 x (E9 a7).2.2.2
          have q:=M e.Kids c (by omega) (by omega) pz
          have hb':decide (e.Num<0\/8<=e.Num)=false:=Ap (by omega)
          rcases Adj (C8 data e.Kids c) with ⟨A,U⟩ | ⟨a,A,U,c3⟩
          .rw [A] at q
           refine ⟨.inl (-1),E6 ?_,?_⟩
           .simp only [Aj (by omega:(j:Int)<(i.Kids.length:Int)),cond_true,Bv rfl he,Ad,Um V hs t ht e.Num,hp,okL,De,cond_false,hb,hb',q]; rfl
           .refine (Ph fun d h=>?_).symm
            rw [Ad] at h
            cases ha:C8 data e.Kids c with
            | none=>rw [ha] at h; cases h
            | some a=>
             rw [ha,Ad] at h
             have:=U a ha
             cases y:E3 data (i.Kids.drop (j+1)) t with
             | none=>rw [y] at h; cases h
             | some b=>rw [y] at h; simp at h; omega
          .rw [c3] at q
           have R:Ac (Ac ((acc:Int)+1)+(a:Int))=((acc+(1+a):Nat):Int):=by
            rw [show Ac ((acc:Int)+1)=((acc+1:Nat):Int) by rw [Ac,Bl] <;> omega,Ac,Bl] <;> omega
           have ac:Ac ((acc:Int)+Ac (1+(a:Int)))=((acc+(1+a):Nat):Int):=by
            rw [show Ac (1+(a:Int))=((1+a:Nat):Int) by rw [Ac,Bl] <;> omega,Ac,Bl] <;> omega
           by_cases I:acc+(1+a)<=6
           .obtain ⟨z,l,z2⟩:=s (j+1) (acc+(1+a)) (by omega) I
            refine ⟨z,?_,?_⟩
            .rw [J1 (s':=(((acc+(1+a):Nat):Int),((j+1:Nat):Int)))]
             .exact l
             .simp only [Aj (by omega:(j:Int)<(i.Kids.length:Int)),cond_true,Bv rfl he,Ad,Um V hs t ht e.Num,hp,okL,De,cond_false,hb,hb',q,R,ac,Ap (by omega:¬(a:Int)<0),Ap (by omega:¬((acc+(1+a):Nat):Int)>6),Di (show j<i.Kids.length by omega) (by omega)]
            .have J:∀o:Option Nat,(((some a:Option Nat).bind fun a=>o.map (1+a + ·)).map (acc + ·))=o.map (acc+(1+a) + ·):=by
              intro o; cases o <;> simp [Nat.add_assoc]
             rw [Ad,A,J]
             exact z2
           .refine ⟨.inl (-1),E6 ?_,?_⟩
            .simp only [Aj (by omega:(j:Int)<(i.Kids.length:Int)),cond_true,Bv rfl he,Ad,Um V hs t ht e.Num,hp,okL,De,cond_false,hb,hb',q,R,Ap (by omega:¬(a:Int)<0),Aj (by omega:((acc+(1+a):Nat):Int)>6)]
            .refine (Ph fun d h=>?_).symm
             rw [Ad,A,Ad] at h
             cases y:E3 data (i.Kids.drop (j+1)) t with
             | none=>rw [y] at h; cases h
             | some b=>rw [y] at h; simp at h; omega
       obtain ⟨z,l,z2⟩:=key i.Kids.length 0 0 (by omega) (by omega)
       have l:An _ ((0:Int),(0:Int))=some z:=l
       erw [l,Ad]
       rw [List.drop_zero,J] at z2
       rw [<-z2]
       cases z <;> rfl
      .simp only [Cy h0,cond_true,if_neg h0]; rfl
     .simp only [B2 Z,cond_false,if_neg Z]
      by_cases h0:i.Num=0
      .simp only [C4 h0,cond_false]
       by_cases a3:i.Kids.length=0
       .rw [if_pos ⟨h0,a3⟩,Ap (by omega)]; rfl
       .rw [if_neg (fun h=>a3 h.2),Aj (by omega)]; rfl
      .simp only [Cy h0,cond_true]
       rw [if_neg (fun h=>h0 h.1)]; rfl
  .intro f c hk hi ht
   have aa:=Ia f
   rw [Mx]
   by_cases hl:c.length=f.length
   .rw [C4 (by omega)]
    simp only [cond_false]
    have key:∀(m j acc:Nat),j+m=f.length->acc<=6->∃z,An (S:=(Int×Int)) (E:=(Int⊕Int)) (fun (v4,v5)=>
      bif (decide (v5<(c.length:Int))) then (
      (Ae c v5).bind fun v6=>
      (Ae f v5).bind fun v7=>
      (Lr k data v6 v7).bind fun v8=>
      bif (decide (v8<(0:Int))) then some (.inr (.inl (-1)))
      else (
      bif (decide ((Ac (v4+v8))>(6:Int))) then some (.inr (.inl (-1)))
      else some (.inl ((Ac (v4+v8)),(Ac (v5+1))))))
      else some (.inr (.inr v4))) ((acc:Int),(j:Int))=some z/\(match z with | .inl v=>v | .inr v=>v)=Et ((C8 data (f.drop j) (c.drop j)).map (acc + ·)):=by
     intro m
     induction m with
     | zero=>
      intro j acc hj g
      have:j=c.length:=by omega
      subst this
      refine ⟨.inr (acc:Int),E6 (by simp),?_⟩
      rw [List.drop_of_length_le (by omega),List.drop_of_length_le (by omega)]
      simp [C8,Et,g]
     | succ m s=>
      intro j acc hj g
      have he:f[j]? = some f[j]:=B0 (by omega)
      generalize f[j]=e at he
      have hu:c[j]? = some c[j]:=B0 (by omega)
      generalize c[j]=u at hu
      have ab:=Hf (Br he)
      rw [Ke he,Ke hu,Rq]
      have q:=a8 e u (by omega) (by omega) (ht u (Br hu))
      rcases Adj (D9 data e u) with ⟨A,U⟩ | ⟨a,A,U,c3⟩
      .rw [A] at q
       refine ⟨.inl (-1),E6 ?_,?_⟩
       .simp only [Aj (by omega:(j:Int)<(c.length:Int)),cond_true,Bv rfl he,Bv rfl hu,Ad,q]; rfl
       .refine (Ph fun d h=>?_).symm
        cases ha:D9 data e u with
        | none=>rw [ha] at h; cases h
        | some a=>
         rw [ha,Ad] at h
         have:=U a ha
         cases y:C8 data (f.drop (j+1)) (c.drop (j+1)) with
         | none=>rw [y] at h; cases h
         | some b=>rw [y] at h; simp at h; omega
      .rw [c3] at q
       have R:Ac ((acc:Int)+(a:Int))=((acc+a:Nat):Int):=by rw [Ac,Bl] <;> omega
       by_cases I:acc+a<=6
       .obtain ⟨z,l,z2⟩:=s (j+1) (acc+a) (by omega) I
        refine ⟨z,?_,?_⟩
        .rw [J1 (s':=(((acc+a:Nat):Int),((j+1:Nat):Int)))]
         .exact l
         .simp only [Aj (by omega:(j:Int)<(c.length:Int)),cond_true,Bv rfl he,Bv rfl hu,Ad,cond_false,q,R,Ap (by omega:¬(a:Int)<0),Ap (by omega:¬((acc+a:Nat):Int)>6),Di (show j<f.length by omega) (by omega)]
        .have J:∀o:Option Nat,(((some a:Option Nat).bind fun a=>o.map (a + ·)).map (acc + ·))=o.map (acc+a + ·):=by
          intro o; cases o <;> simp [Nat.add_assoc]
         rw [A,J]
         exact z2
       .refine ⟨.inl (-1),E6 ?_,?_⟩
        .simp only [Aj (by omega:(j:Int)<(c.length:Int)),cond_true,Bv rfl he,Bv rfl hu,Ad,cond_false,q,R,Ap (by omega:¬(a:Int)<0),Aj (by omega:((acc+a:Nat):Int)>6)]
        .refine (Ph fun d h=>?_).symm
         rw [A,Ad] at h
         cases y:C8 data (f.drop (j+1)) (c.drop (j+1)) with
         | none=>rw [y] at h; cases h
         | some b=>rw [y] at h; simp at h; omega
    obtain ⟨z,l,z2⟩:=key f.length 0 0 (by omega) (by omega)
    have l:An _ ((0:Int),(0:Int))=some z:=l
    rw [l,Ad]
    rw [List.drop_zero,List.drop_zero,J] at z2
    rw [<-z2]
    cases z <;> rfl
   .rw [Cy (by omega),Ya data f c hl]; rfl
theorem Gu.cons8 {data:List Ao} (h:Gu data):∀x∈data,x.Cons.length<=8:=by
 intro x hx
 obtain ⟨d,hd⟩:=List.getElem?_of_mem hx
 exact (h.2.1 d x hd).2.2.2.1
theorem Auk {data:List Ao} (b:Gu data) (hs:He data) (t:Af) (i:Az) (ht:A9 t<=200) (hi:Cm i<=1048576):Qy data t i=some (Et (D9 data i t)):=by
 unfold Qy
 rw [(Aj6 b.szv hs b.cons8 4000000).1 i t (by omega) hi ht]; rfl
end Go.Ab
namespace Go.Ab
open Go
def I64 (n:Int):Prop:= -9223372036854775808<=n/\n<=9223372036854775807
def ti (n:Int):List Int:=(Lib.itoa n).map fun c=>(c.toNat:Int)
def L0 (c:Int):Bool:=c==45||(decide (48<=c)&&decide (c<=57))
theorem Nd {d:Nat} (h:d<10):(UInt8.ofNat (48+d)).toNat=48+d:=by
 rw [UInt8.toNat_ofNat']; omega
theorem Yc:∀(n u:Nat),u<=n->∀c∈Lib.decDigits u,48<=c.toNat/\c.toNat<=57:=by
 intro n
 induction n with
 | zero=>
  intro u hu c hc
  rw [Lib.decDigits,dif_pos (by omega)] at hc
  simp only [List.mem_singleton] at hc
  subst hc; rw [Nd (by omega)]; omega
 | succ n ih=>
  intro u hu c hc
  rw [Lib.decDigits] at hc
  split at hc
  .simp only [List.mem_singleton] at hc
   subst hc; rw [Nd (by omega)]; omega
  .rcases List.mem_append.1 hc with h | h
   .exact ih (u / 10) (by omega) c h
   .simp only [List.mem_singleton] at h
    subst h; rw [Nd (by omega)]; omega
def Yd (l:List UInt8):Nat:=l.foldl (fun a c=>10*a+(c.toNat-48)) 0
theorem Aj7:∀(n u:Nat),u<=n->Yd (Lib.decDigits u)=u:=by
 intro n
 induction n with
 | zero=>
  intro u hu
  rw [Lib.decDigits,dif_pos (by omega)]
  simp only [Yd,List.foldl_cons,List.foldl_nil]
  rw [Nd (by omega)]; omega
 | succ n ih=>
  intro u hu
  rw [Lib.decDigits]
  split
  .simp only [Yd,List.foldl_cons,List.foldl_nil]
   rw [Nd (by omega)]; omega
  .have:=ih (u / 10) (by omega)
   unfold Yd at *
   rw [List.foldl_append,this]
   simp only [List.foldl_cons,List.foldl_nil]
   rw [Nd (by omega)]; omega
theorem Aj8 {u v:Nat} (h:Lib.decDigits u=Lib.decDigits v):u=v:=by
 rw [<-Aj7 u u (Nat.le_refl _),h,Aj7 v v (Nat.le_refl _)]
theorem Aul (u:Nat):Lib.decDigits u≠[]:=by
 rw [Lib.decDigits]; split <;> simp
theorem Aum {m n:Int} (h:Lib.itoa m=Lib.itoa n):m=n:=by
 have b:∀u v:Nat,45::Lib.decDigits u≠Lib.decDigits v:=by
  intro u v e
  have:=Yc v v (Nat.le_refl _) 45 (by rw [<-e]; simp)
  exact absurd this (by decide)
 unfold Lib.itoa at h
 split at h <;> split at h
 .have:=Aj8 (List.cons.inj h).2; omega
 .exact absurd h (b _ _)
 .exact absurd h.symm (b _ _)
 .have:=Aj8 h; omega
theorem L1 (n:Int):∀c∈ti n,L0 c=true:=by
 intro c hc
 unfold ti at hc
 obtain ⟨b,hb,rfl⟩:=List.mem_map.1 hc
 have key:b=45\/(48<=b.toNat/\b.toNat<=57):=by
  unfold Lib.itoa at hb
  split at hb
  .rcases List.mem_cons.1 hb with h | h
   .exact .inl h
   .exact .inr (Yc _ _ (Nat.le_refl _) b h)
  .exact .inr (Yc _ _ (Nat.le_refl _) b hb)
 unfold L0
 rcases key with rfl | ⟨h1,h2⟩
 .decide
 .rw [Bool.or_eq_true,C7,decide_eq_true_eq,decide_eq_true_eq]; right; omega
theorem Pi (n:Int):ti n≠[]:=by
 unfold ti Lib.itoa
 split
 .simp
 .simpa using Aul _
theorem Adk {m n:Int} (h:ti m=ti n):m=n:=by
 unfold ti at h
 have:∀l m:List UInt8,l.map (fun c=>(c.toNat:Int))=m.map (fun c=>(c.toNat:Int))->l=m:=by
  intro l
  induction l with
  | nil=>intro m h; cases m with | nil=>rfl | cons=>simp at h
  | cons x xs ih=>
   intro m h
   cases m with
   | nil=>simp at h
   | cons y ys=>
    simp only [List.map_cons,List.cons.injEq] at h
    rw [ih ys h.2,UInt8.toNat.inj (by omega:x.toNat=y.toNat)]
 exact Aum (this _ _ h)
theorem Ib {n:Int} (h:I64 n):(ti n).length<=21:=by
 unfold ti; rw [List.length_map]; exact Lib.itoa_length_le n h.1 h.2
def Pj (X:List Int):Prop:=∀c m,X=c::m->L0 c=false/\c≠40
def Ye (X:List Int):Prop:=∀c m,X=c::m->L0 c=false
theorem Adl:∀(a b X Y:List Int),(∀c∈a,L0 c=true)->(∀c∈b,L0 c=true)->Ye X->Ye Y->a++X=b++Y->a=b/\X=Y
 | [],[],_,_,_,_,_,_,h=>⟨rfl,h⟩
 | [],y::b,X,Y,_,hb,g,_,h=>by
  have:=g y (b++Y) h
  rw [hb y (by simp)] at this; cases this
 | x::a,[],X,Y,ha,_,_,f,h=>by
  have:=f x (a++X) h.symm
  rw [ha x (by simp)] at this; cases this
 | x::a,y::b,X,Y,ha,hb,g,f,h=>by
  simp only [List.cons_append,List.cons.injEq] at h
  obtain ⟨j,i⟩:=Adl a b X Y (fun c hc=>ha c (by simp [hc])) (fun c hc=>hb c (by simp [hc])) g f h.2
  exact ⟨by rw [h.1,j],i⟩
mutual
def wx:Az->List Int
 | ⟨n,kids⟩=>ti n++(if kids.length=0 then [] else 40::(wxs kids++[41]))
def wxs:List Az->List Int
 | []=>[]
 | x::xs=>wx x++44::wxs xs
end
theorem Adm (i:Az):wx i=ti i.Num++(if i.Kids.length=0 then [] else 40::(wxs i.Kids++[41])):=by cases i; simp only [wx]
theorem Aj9 (l m:List Az):wxs (l++m)=wxs l++wxs m:=by
 induction l with
 | nil=>simp [wxs]
 | cons x xs ih=>simp only [List.cons_append,wxs,ih,List.append_assoc]
theorem Aka (b:List Az) (X:List Int) (f:Pj X):Ye ((if b.length=0 then [] else 40::(wxs b++[41]))++X):=by
 intro c m h
 by_cases hk:b.length=0
 .rw [if_pos hk,List.nil_append] at h
  exact (f c m h).1
 .rw [if_neg hk,List.cons_append] at h
  cases h; decide
theorem Akb (X:List Int):Pj (44::X):=by intro c m h; cases h; exact ⟨by decide,by decide⟩
theorem Akc:Pj []:=by intro c m h; cases h
mutual
theorem Akd:∀(i j:Az) (X Y:List Int),Pj X->Pj Y->wx i++X=wx j++Y->i=j/\X=Y
 | ⟨n,k⟩,⟨n',k'⟩,X,Y,hX,hY,h=>by
  simp only [wx,List.append_assoc] at h
  obtain ⟨e1,e2⟩:=Adl _ _ _ _ (L1 n) (L1 n') (Aka k X hX) (Aka k' Y hY) h
  have e1:=Adk e1
  subst e1
  by_cases hk:k.length=0
  .by_cases hk':k'.length=0
   .rw [if_pos hk,if_pos hk'] at e2
    rw [List.length_eq_zero_iff.1 hk,List.length_eq_zero_iff.1 hk']
    exact ⟨rfl,e2⟩
   .rw [if_pos hk,if_neg hk',List.nil_append,List.cons_append] at e2
    exact absurd rfl (hX _ _ e2).2
  .by_cases hk':k'.length=0
   .rw [if_neg hk,if_pos hk',List.nil_append,List.cons_append] at e2
    exact absurd rfl (hY _ _ e2.symm).2
   .rw [if_neg hk,if_neg hk',List.cons_append,List.cons_append,List.append_assoc,List.append_assoc] at e2
    obtain ⟨e3,e4⟩:=Ake k k' X Y hX hY (List.cons.inj e2).2
    rw [e3]; exact ⟨rfl,e4⟩
theorem Ake:∀(l m:List Az) (X Y:List Int),Pj X->Pj Y->wxs l++([41]++X)=wxs m++([41]++Y)->l=m/\X=Y
 | [],[],X,Y,_,_,h=>by
  simp only [wxs,List.nil_append,List.cons_append,List.cons.injEq,true_and] at h
  exact ⟨rfl,h⟩
 | [],y::ys,X,Y,_,_,h=>by
  exfalso
  cases ht:ti y.Num with
  | nil=>exact Pi _ ht
  | cons c r=>
   have hc:=L1 y.Num c (by rw [ht]; simp)
   simp only [wxs,Adm y,ht,List.nil_append,List.cons_append,List.cons.injEq] at h
   rw [<-h.1] at hc; exact absurd hc (by decide)
 | x::xs,[],X,Y,_,_,h=>by
  exfalso
  cases ht:ti x.Num with
  | nil=>exact Pi _ ht
  | cons c r=>
   have hc:=L1 x.Num c (by rw [ht]; simp)
   simp only [wxs,Adm x,ht,List.nil_append,List.cons_append,List.cons.injEq] at h
   rw [h.1] at hc; exact absurd hc (by decide)
 | x::xs,y::ys,X,Y,hX,hY,h=>by
  simp only [wxs,List.append_assoc,List.cons_append] at h
  obtain ⟨e1,e2⟩:=Akd x y _ _ (Akb _) (Akb _) h
  obtain ⟨e3,e4⟩:=Ake xs ys X Y hX hY (by simpa using e2)
  exact ⟨by rw [e1,e3],e4⟩
end
mutual
def iR:Az->Prop
 | ⟨n,l⟩=>I64 n/\iRs l
def iRs:List Az->Prop
 | []=>True
 | x::xs=>iR x/\iRs xs
end
theorem Pk (i:Az):iR i↔I64 i.Num/\iRs i.Kids:=by cases i; simp only [iR]
theorem Pl {l:List Az} (h:iRs l) {a:Az} (ha:a∈l):iR a:=by
 induction l with
 | nil=>cases ha
 | cons x xs ih=>
  simp only [iRs] at h
  rcases List.mem_cons.1 ha with rfl | ha
  .exact h.1
  .exact ih h.2 ha
mutual
theorem Akf:∀i:Az,iR i->(wx i).length+1<=24*Cm i
 | ⟨n,l⟩,h=>by
  simp only [iR] at h
  have h1:=Yf l h.2
  have h2:=Ib h.1
  simp only [wx,Cm,List.length_append]
  by_cases hl:l.length=0
  .rw [if_pos hl]; simp; omega
  .rw [if_neg hl]; simp; omega
theorem Yf:∀l:List Az,iRs l->(wxs l).length<=24*Db l
 | [],_=>by simp [wxs,Db]
 | x::xs,h=>by
  simp only [iRs] at h
  have h1:=Akf x h.1
  have h2:=Yf xs h.2
  have h3:=Eg x
  simp only [wxs,Db,List.length_append,List.length_cons]; omega
end
theorem Akg (l m:List Az):Db (l++m)=Db l+Db m:=by
 induction l with
 | nil=>simp [Db]
 | cons x xs ih=>simp only [List.cons_append,Db,ih]; omega
theorem Aun (l m:List Az):iRs (l++m)↔iRs l/\iRs m:=by
 induction l with
 | nil=>simp [iRs]
 | cons x xs ih=>simp only [List.cons_append,iRs,ih,and_assoc]
theorem Yg {n:Int} (h:I64 n):Lb n=some ⟨(Lib.itoa n).toArray⟩:=by unfold Lb; rw [if_pos (show _/\_ from h)]
theorem Auo (n:Int):Fe ⟨(Lib.itoa n).toArray⟩=ti n:=by unfold Fe ti; simp
theorem Aup:∀(k:Nat) (i:Az) (b:List Int),Cm i<=k->iR i->b.length+24*Cm i<=1099511627776->Ox k i b=some (b++wx i):=by
 intro k
 induction k with
 | zero=>intro i b h; have:=Eg i; omega
 | succ k ih=>
  intro i b h c hb
  have hi:=Eg i
  have A:=Ia i.Kids
  have c:=(Pk i).1 c
  have D:=Ib c.1
  rw [Ox,Adm]
  simp only [Fg,Yg c.1,Ad,Cl,Rf,Auo]
  rw [Ds (by omega)]
  simp only [Ad]
  by_cases h0:i.Kids.length=0
  .rw [Ap (by omega),if_pos h0]; simp
  .rw [Aj (by omega),if_neg h0]
   simp only [cond_true,Rb,Rf,Ad]
   rw [Ds (by simp; omega),Ad]
   have g:=Yf i.Kids c.2
   have l:∀j,(wxs (i.Kids.take j)).length<=24*Db i.Kids:=fun j=>by
    have:=Aj9 (i.Kids.take j) (i.Kids.drop j)
    rw [List.take_append_drop] at this
    rw [this,List.length_append] at g; omega
   refine Im i.Kids (fun j=>((j:Int),b++ti i.Num++[40]++wxs (i.Kids.take j))) (by simp [wxs]) (by omega) ?_ ?_
   .intro j x hj hx h1 h2 h3
    have B:=Hf (Br hx)
    have f:=Pl c.2 (Br hx)
    have z:=Akf x f
    have q:=l (j+1)
    have e:wxs (i.Kids.take (j+1))=wxs (i.Kids.take j)++(wx x++[44]):=by rw [Dk hx,Aj9]; simp [wxs]
    rw [e] at q
    simp only [List.length_append,List.length_cons,List.length_nil] at q
    simp only [h1,h2,h3,cond_true,Ad]
    have y:Db (i.Kids.take j)+Cm x<=Db i.Kids:=by
     have s:=Akg (i.Kids.take (j+1)) (i.Kids.drop (j+1))
     rw [List.take_append_drop,Dk hx,Akg] at s
     simp only [Db] at s; omega
    have u:(wxs (i.Kids.take j)).length<=24*Db (i.Kids.take j):=Yf _ (by
     have:=(Aun (i.Kids.take j) (i.Kids.drop j)).1 (by rw [List.take_append_drop]; exact c.2)
     exact this.1)
    rw [ih x _ (by omega) f (by simp; omega)]
    simp only [Ad]
    rw [Ds (by simp; omega),e]
    simp
   .intro h1
    refine ⟨b++ti i.Num++[40]++wxs i.Kids,by simp,?_⟩
    rw [Ds (by simp; omega)]
    simp
def Kf (v:Int) (i:Az):List Int:=118::(ti v++58::wx i)
def K2 (v:Int) (i:Az):ByteArray:=⟨(Ct (Kf v i)).toArray⟩
mutual
theorem Akh:∀i:Az,∀c∈wx i,0<=c/\c<256
 | ⟨n,l⟩,c,h=>by
  simp only [wx,List.mem_append] at h
  rcases h with h | h
  .have:=L1 n c h
   simp only [L0,Bool.or_eq_true,C7,beq_iff_eq,decide_eq_true_eq] at this
   omega
  .by_cases hl:l.length=0
   .rw [if_pos hl] at h; cases h
   .rw [if_neg hl] at h
    simp only [List.mem_cons,List.mem_append,List.not_mem_nil,or_false] at h
    rcases h with h | h | h
    .omega
    .exact Aki l c h
    .omega
theorem Aki:∀l:List Az,∀c∈wxs l,0<=c/\c<256
 | [],c,h=>by simp [wxs] at h
 | x::xs,c,h=>by
  simp only [wxs,List.mem_append,List.mem_cons] at h
  rcases h with h | h | h
  .exact Akh x c h
  .omega
  .exact Aki xs c h
end
theorem Yh (v:Int) (i:Az):∀c∈Kf v i,0<=c/\c<256:=by
 intro c h
 simp only [Kf,List.mem_cons,List.mem_append] at h
 rcases h with h | h | h | h
 .omega
 .have:=L1 v c h
  simp only [L0,Bool.or_eq_true,C7,beq_iff_eq,decide_eq_true_eq] at this
  omega
 .omega
 .exact Akh i c h
theorem Adn:∀l m:List Int,(∀c∈l,0<=c/\c<256)->(∀c∈m,0<=c/\c<256)->Ct l=Ct m->l=m
 | [],[],_,_,_=>rfl
 | [],_::_,_,_,h=>by simp [Ct] at h
 | _::_,[],_,_,h=>by simp [Ct] at h
 | x::xs,y::ys,h1,h2,h=>by
  simp only [Ct,List.map_cons,List.cons.injEq] at h
  have hx:=h1 x (by simp)
  have hy:=h2 y (by simp)
  have e:x.toNat=y.toNat:=by
   have:=congrArg UInt8.toNat h.1
   rw [UInt8.toNat_ofNat',UInt8.toNat_ofNat'] at this
   omega
  rw [Adn xs ys (fun c hc=>h1 c (by simp [hc])) (fun c hc=>h2 c (by simp [hc])) h.2,show x=y by omega]
theorem Auq {v w:Int} {i j:Az} (h:K2 v i=K2 w j):v=w/\i=j:=by
 unfold K2 at h
 have h1:(Ct (Kf v i)).toArray=(Ct (Kf w j)).toArray:=by injection h
 have h2:Ct (Kf v i)=Ct (Kf w j):=by simpa using congrArg Array.toList h1
 have h3:=Adn _ _ (Yh v i) (Yh w j) h2
 simp only [Kf,List.cons.injEq,true_and] at h3
 have b:∀X:List Int,Ye (58::X):=fun X c m e=>by cases e; decide
 obtain ⟨k,g⟩:=Adl _ _ _ _ (L1 v) (L1 w) (b _) (b _) h3
 obtain ⟨f,_⟩:=Akd i j [] [] Akc Akc (by simpa using (List.cons.inj g).2)
 exact ⟨Adk k,f⟩
theorem Aur (l:List UInt8):Fe ⟨l.toArray⟩=l.map fun b=>(b.toNat:Int):=by unfold Fe; simp
theorem Aus (v:Int) (i:Az) (c:I64 v) (g:iR i) (hi:Cm i<=1048576):Ou v i=some (K2 v i):=by
 have l:=Ib c
 have f:(Lib.itoa v).length=(ti v).length:=by unfold ti; simp
 unfold Ou
 have k:Bb (ByteArray.mk #[118]) ⟨(Lib.itoa v).toArray⟩=some ⟨(118::Lib.itoa v).toArray⟩:=by
  unfold Bb
  rw [if_pos]
  .congr 1
  .show 1+(Lib.itoa v).toArray.size<=9223372036854775807
   rw [List.size_toArray]; omega
 have j:Bb ⟨(118::Lib.itoa v).toArray⟩ (ByteArray.mk #[58])=some ⟨(118::(Lib.itoa v++[58])).toArray⟩:=by
  unfold Bb
  rw [if_pos]
  .congr 1
  .show (118::Lib.itoa v).toArray.size+1<=9223372036854775807
   rw [List.size_toArray,List.length_cons]; omega
 simp only [Fg,Yg c,Ad,k,j,Fu,Ss,Aur]
 rw [Ds (by simp; omega)]
 simp only [Ad]
 rw [Aup 4000000 i _ (by omega) g (by simp; omega)]
 simp only [Ad,Hm]
 have h:([]++(118::(Lib.itoa v++[58])).map fun b=>(b.toNat:Int))++wx i=Kf v i:=by
  unfold Kf ti; simp
 rw [h]
 unfold F3 K2
 rw [if_pos (Yh v i)]; rfl
end Go.Ab
namespace Go.Ab
open Go
mutual
theorem Akj (data:List Ao):∀(i:Az) (t:Af) (d:Nat),D9 data i t=some d->d<=6*Cm i
 | ⟨n,kids⟩,t,d,h=>by
  rw [Un] at h
  simp only [Cm]
  simp only at h
  split at h
  .split at h
   .have:=Uo data kids _ d h; omega
   .cases h
  .split at h
   .split at h
    .cases h; omega
    .cases h
   .split at h
    .split at h
     .have:=Akk data kids _ d h; omega
     .cases h
    .split at h
     .cases h; omega
     .cases h
theorem Uo (data:List Ao):∀(is:List Az) (ts:List Af) (d:Nat),C8 data is ts=some d->d<=6*Db is
 | [],[],d,h=>by simp only [C8] at h; cases h; omega
 | i::is,t::ts,d,h=>by
  rw [Rq] at h
  cases h1:D9 data i t with
  | none=>rw [h1] at h; cases h
  | some a=>
   rw [h1,Ad] at h
   cases h2:C8 data is ts with
   | none=>rw [h2] at h; cases h
   | some b=>
    rw [h2] at h
    cases h
    have:=Akj data i t a h1
    have:=Uo data is ts b h2
    simp only [Db]; omega
 | [],_::_,d,h=>by simp only [C8] at h; cases h
 | _::_,[],d,h=>by simp only [C8] at h; cases h
theorem Akk (data:List Ao):∀(es:List Az) (t:Af) (d:Nat),E3 data es t=some d->d<=6*Db es
 | [],t,d,h=>by simp only [E3] at h; cases h; omega
 | ⟨n,kids⟩::es,t,d,h=>by
  rw [Rp] at h
  simp only at h
  cases h1:E2 data t n with
  | none=>rw [h1] at h; cases h
  | some ts=>
   rw [h1,Ad] at h
   cases h2:C8 data kids ts with
   | none=>rw [h2] at h; cases h
   | some a=>
    rw [h2,Ad] at h
    cases h3:E3 data es t with
    | none=>rw [h3] at h; cases h
    | some b=>
     rw [h3] at h
     cases h
     have:=Uo data kids ts a h2
     have:=Akk data es t b h3
     simp only [Db,Cm]; omega
end
def Rr (data:List Ao) (e:Az) (t:Af):Option Nat:=(E2 data t e.Num).bind fun b=>(C8 data e.Kids b).map (1 + ·)
theorem Aut (data:List Ao) (e:Az) (es:List Az) (t:Af):E3 data (e::es) t=(Rr data e t).bind fun a=>(E3 data es t).map (a + ·):=by
 rw [Rp]; unfold Rr
 cases E2 data t e.Num with
 | none=>rfl
 | some b=>simp only [Ad]; cases C8 data e.Kids b <;> rfl
theorem Auu (data:List Ao) (e:Az) (t:Af) (d:Nat) (h:Rr data e t=some d):d<=6*Cm e:=by
 unfold Rr at h
 cases h1:E2 data t e.Num with
 | none=>rw [h1] at h; cases h
 | some b=>
  rw [h1,Ad] at h
  cases h2:C8 data e.Kids b with
  | none=>rw [h2] at h; cases h
  | some a=>
   rw [h2] at h
   cases h
   have:=Uo data _ b a h2
   have:=Eg e
   show 1+a<=_
   omega
def Dg (v:Int) (o:Option Nat):Prop:=(v = -1/\∀d,o=some d->6<d)\/∃d:Nat,o=some d/\v=d
theorem Dg.clip {v:Int} {o:Option Nat} (h:Dg v o):(if v>6 then -1 else v)=Et o:=by
 rcases h with ⟨rfl,h⟩ | ⟨d,rfl,rfl⟩
 .rw [if_neg (by omega),Ph h]
 .by_cases hd:6<d
  .rw [if_pos (by omega),Adi hd]
  .rw [if_neg (by omega),Yb (by omega)]
theorem Yi {o p:Option Nat} {acc:Nat} {d:Nat} (h:(o.bind fun a=>p.map (a + ·)).map (acc + ·)=some d):∃a b,o=some a/\p=some b/\d=acc+(a+b):=by
 cases o with
 | none=>cases h
 | some a=>
  cases p with
  | none=>cases h
  | some b=>exact ⟨a,b,rfl,rfl,by simp at h; omega⟩
theorem Auv {data:List Ao} (hz:Szv data) (hs:He data) (b1:List (ByteArray×Int)) (b2:List (ByteArray×List Dh)) (vars:List Af) (N M:Int) (L:List Af):∀k:Nat,
  (∀(i:Az) (t:Af),3*Cm i<=k->Cm i<=1048576->A9 t<=200->∃v,Mv k t i b1 b2 data vars N M L=some v/\Dg v (D9 data i t)) /\
  (∀(g:List Az) (f:List Af),3*Db g+1<=k->Db g<=1048576->(∀t∈f,A9 t<=200)->∃v,Oy k f g b1 b2 data vars N M L=some v/\Dg v (C8 data g f)) /\
  (∀(e:Az) (t:Af),3*Cm e<=k->Cm e<=1048576->A9 t<=200->∃v,Oz k t e b1 b2 data vars N M L=some v/\Dg v (Rr data e t)):=by
 intro k
 induction k with
 | zero=>exact ⟨fun i t h=>by have:=Eg i; omega,fun g f h=>by omega,fun i t h=>by have:=Eg i; omega⟩
 | succ k ih=>
  obtain ⟨a6,R,a7⟩:=ih
  have D:∀o:Option Nat,o.map (0 + ·)=o:=by intro o; cases o <;> simp
  have c:∀d:Nat,(none:Option Nat)=some d->6<d:=fun d h=>by cases h
  refine ⟨?_,?_,?_⟩
  .intro i t hk hi ht
   have af:=Eg i
   have U:=Ia i.Kids
   rw [Mv,Un]
   by_cases Z:t.Kind=6
   .simp only [Da Z,cond_true,if_pos Z]
    by_cases h0:i.Num=0
    .simp only [Da h0,cond_true,if_pos h0]
     obtain ⟨p,p1,p2⟩:=R i.Kids t.Args (by omega) (by omega) (fun a ha=>by have:=Fx ha; have:=Fm t; omega)
     rw [p1]
     exact ⟨p,rfl,p2⟩
    .simp only [B2 h0,cond_false,if_neg h0]
     exact ⟨_,rfl,.inl ⟨rfl,c⟩⟩
   .simp only [B2 Z,cond_false,if_neg Z]
    by_cases Y:t.Kind=7
    .simp only [Da Y,cond_true,if_pos Y]
     by_cases a1:0<=i.Num
     .by_cases a2:i.Num<=6
      .by_cases a3:i.Kids.length=0
       .rw [Aj (show i.Num>=0 from a1),Aj a2,if_pos ⟨a1,a2,a3⟩,Da (by omega)]
        exact ⟨_,rfl,.inr ⟨i.Num.toNat,rfl,by omega⟩⟩
       .rw [Aj (show i.Num>=0 from a1),Aj a2,if_neg (fun h=>a3 h.2.2),B2 (by omega)]
        exact ⟨_,rfl,.inl ⟨rfl,c⟩⟩
      .rw [Aj (show i.Num>=0 from a1),Ap a2,if_neg (fun h=>a2 h.2.1)]
       exact ⟨_,rfl,.inl ⟨rfl,c⟩⟩
     .rw [Ap (show ¬i.Num>=0 from a1),if_neg (fun h=>a1 h.1)]
      exact ⟨_,rfl,.inl ⟨rfl,c⟩⟩
    .simp only [B2 Y,cond_false,if_neg Y]
     by_cases h5:t.Kind=5
     .simp only [Da h5,cond_true,if_pos h5]
      by_cases h0:i.Num=0
      .simp only [C4 h0,cond_false,if_pos h0]
       have key:∀(m j acc:Nat),j+m=i.Kids.length->acc<=10000000->∃z,An (S:=(Int×Int)) (E:=(Int⊕Int)) (fun (G,v8)=>
         bif (decide (v8<(i.Kids.length:Int))) then (
         (Ae i.Kids v8).bind fun v9=>
         (Oz k t v9 b1 b2 data vars N M L).bind fun I=>
         bif (decide (I<(0:Int))) then some (.inr (.inl (-1)))
         else (
         bif (decide (G>(6:Int))) then some (.inr (.inl (-1)))
         else some (.inl ((Ac (G+I)),(Ac (v8+1))))))
         else some (.inr (.inr G))) ((acc:Int),(j:Int))=some z/\Dg (match z with | .inl v=>v | .inr v=>v) ((E3 data (i.Kids.drop j) t).map (acc + ·)):=by
        intro m
        induction m with
        | zero=>
         intro j acc hj A
         have:j=i.Kids.length:=by omega
         subst this
         exact ⟨.inr (acc:Int),E6 (by simp),.inr ⟨acc,by simp [E3],rfl⟩⟩
        | succ m s=>
         intro j acc hj A
         have he:i.Kids[j]? = some i.Kids[j]:=B0 (by omega)
         generalize i.Kids[j]=e at he
         have ac:=Hf (Br he)
         rw [Ke he,Aut]
         obtain ⟨v,B,v2⟩:=a7 e t (by omega) (by omega) ht
         rcases v2 with ⟨rfl,v2⟩ | ⟨a,a1,rfl⟩
         .refine ⟨.inl (-1),E6 ?_,.inl ⟨rfl,fun d h=>?_⟩⟩
          .simp only [Aj (by omega:(j:Int)<(i.Kids.length:Int)),cond_true,Bv rfl he,Ad,B]; rfl
          .obtain ⟨a,b,ha,hb,rfl⟩:=Yi h
           have:=v2 a ha; omega
         .have V:=Auu data e t a a1
          by_cases hb:acc>6
          .refine ⟨.inl (-1),E6 ?_,.inl ⟨rfl,fun d h=>?_⟩⟩
           .simp only [Aj (by omega:(j:Int)<(i.Kids.length:Int)),cond_true,Bv rfl he,Ad,B,Ap (by omega:¬(a:Int)<0),Aj (by omega:(acc:Int)>6),cond_false]
           .obtain ⟨a,b,ha,hb,rfl⟩:=Yi h
            omega
          .have ew:Ac ((acc:Int)+(a:Int))=((acc+a:Nat):Int):=by rw [Ac,Bl] <;> omega
           obtain ⟨z,q,z2⟩:=s (j+1) (acc+a) (by omega) (by omega)
           refine ⟨z,?_,?_⟩
           .rw [J1 (s':=(((acc+a:Nat):Int),((j+1:Nat):Int)))]
            .exact q
            .simp only [Aj (by omega:(j:Int)<(i.Kids.length:Int)),cond_true,Bv rfl he,Ad,B,Ap (by omega:¬(a:Int)<0),Ap (by omega:¬(acc:Int)>6),cond_false,ew,Di (show j<i.Kids.length by omega) (by omega)]
           .have D:∀o:Option Nat,(((some a:Option Nat).bind fun a=>o.map (a + ·)).map (acc + ·))=o.map (acc+a + ·):=by
             intro o; cases o <;> simp [Nat.add_assoc]
            rw [a1,D]
            exact z2
       obtain ⟨z,q,z2⟩:=key i.Kids.length 0 0 (by omega) (by omega)
       have q:An _ ((0:Int),(0:Int))=some z:=q
       rw [q,Ad]
       rw [List.drop_zero,D] at z2
       cases z with
       | inl v=>exact ⟨v,rfl,z2⟩
       | inr v=>exact ⟨v,rfl,z2⟩
      .simp only [Cy h0,cond_true,if_neg h0]
       exact ⟨_,rfl,.inl ⟨rfl,c⟩⟩
     .simp only [B2 h5,cond_false,if_neg h5]
      by_cases h0:i.Num=0
      .simp only [Da h0,cond_true]
       by_cases a3:i.Kids.length=0
       .rw [if_pos ⟨h0,a3⟩,Da (by omega)]
        exact ⟨_,rfl,.inr ⟨0,rfl,rfl⟩⟩
       .rw [if_neg (fun h=>a3 h.2),B2 (by omega)]
        exact ⟨_,rfl,.inl ⟨rfl,c⟩⟩
      .simp only [B2 h0,cond_false]
       rw [if_neg (fun h=>h0 h.1)]
       exact ⟨_,rfl,.inl ⟨rfl,c⟩⟩
  .intro g f hk hi ht
   have U:=Ia g
   rw [Oy]
   by_cases hl:f.length=g.length
   .rw [C4 (by omega)]
    simp only [cond_false]
    have key:∀(m j acc:Nat),j+m=g.length->acc<=10000000->∃z,An (S:=(Int×Int)) (E:=(Int⊕Int)) (fun (v5,X)=>
      bif (decide (X<(f.length:Int))) then (
      (Ae f X).bind fun G=>
      (Ae g X).bind fun v9=>
      (Mv k G v9 b1 b2 data vars N M L).bind fun J=>
      bif (decide (J<(0:Int))) then some (.inr (.inl (-1)))
      else (
      bif (decide (v5>(6:Int))) then some (.inr (.inl (-1)))
      else some (.inl ((Ac (v5+J)),(Ac (X+1))))))
      else some (.inr (.inr v5))) ((acc:Int),(j:Int))=some z/\Dg (match z with | .inl v=>v | .inr v=>v) ((C8 data (g.drop j) (f.drop j)).map (acc + ·)):=by
     intro m
     induction m with
     | zero=>
      intro j acc hj A
      have:j=f.length:=by omega
      subst this
      refine ⟨.inr (acc:Int),E6 (by simp),.inr ⟨acc,?_,rfl⟩⟩
      rw [List.drop_of_length_le (by omega),List.drop_of_length_le (by omega)]
      simp [C8]
     | succ m s=>
      intro j acc hj A
      have he:g[j]? = some g[j]:=B0 (by omega)
      generalize g[j]=e at he
      have hu:f[j]? = some f[j]:=B0 (by omega)
      generalize f[j]=u at hu
      have ac:=Hf (Br he)
      rw [Ke he,Ke hu,Rq]
      obtain ⟨v,B,v2⟩:=a6 e u (by omega) (by omega) (ht u (Br hu))
      rcases v2 with ⟨rfl,v2⟩ | ⟨a,a1,rfl⟩
      .refine ⟨.inl (-1),E6 ?_,.inl ⟨rfl,fun d h=>?_⟩⟩
       .simp only [Aj (by omega:(j:Int)<(f.length:Int)),cond_true,Bv rfl he,Bv rfl hu,Ad,B]; rfl
       .obtain ⟨a,b,ha,hb,rfl⟩:=Yi h
        have:=v2 a ha; omega
      .have V:=Akj data e u a a1
       by_cases hb:acc>6
       .refine ⟨.inl (-1),E6 ?_,.inl ⟨rfl,fun d h=>?_⟩⟩
        .simp only [Aj (by omega:(j:Int)<(f.length:Int)),cond_true,Bv rfl he,Bv rfl hu,Ad,B,Ap (by omega:¬(a:Int)<0),Aj (by omega:(acc:Int)>6),cond_false]
        .obtain ⟨a,b,ha,hb,rfl⟩:=Yi h
         omega
       .have ew:Ac ((acc:Int)+(a:Int))=((acc+a:Nat):Int):=by rw [Ac,Bl] <;> omega
        obtain ⟨z,q,z2⟩:=s (j+1) (acc+a) (by omega) (by omega)
        refine ⟨z,?_,?_⟩
        .rw [J1 (s':=(((acc+a:Nat):Int),((j+1:Nat):Int)))]
         .exact q
         .simp only [Aj (by omega:(j:Int)<(f.length:Int)),cond_true,Bv rfl he,Bv rfl hu,Ad,B,Ap (by omega:¬(a:Int)<0),Ap (by omega:¬(acc:Int)>6),cond_false,ew,Di (show j<g.length by omega) (by omega)]
        .have D:∀o:Option Nat,(((some a:Option Nat).bind fun a=>o.map (a + ·)).map (acc + ·))=o.map (acc+a + ·):=by
          intro o; cases o <;> simp [Nat.add_assoc]
         rw [a1,D]
         exact z2
    obtain ⟨z,q,z2⟩:=key g.length 0 0 (by omega) (by omega)
    have q:An _ ((0:Int),(0:Int))=some z:=q
    rw [q,Ad]
    rw [List.drop_zero,List.drop_zero,D] at z2
    cases z with
    | inl v=>exact ⟨v,rfl,z2⟩
    | inr v=>exact ⟨v,rfl,z2⟩
   .rw [Cy (by omega),Ya data g f hl]
    exact ⟨_,rfl,.inl ⟨rfl,c⟩⟩
  .intro e t hk he ht
   have ag:=Eg e
   rw [Oz]
   unfold Rr E2
   rw [Aj4 hz t ht e.Num,Ad]
   cases hf:Iq data t e.Num with
   | none=>exact ⟨-1,rfl,.inl ⟨rfl,c⟩⟩
   | some l=>
    have ad:=X9 hf
    obtain ⟨x,y,_,hx,_,hy,hl,ab⟩:=Pf hf
    obtain ⟨y6,_⟩:=hz x (E9 hx).2.2.2 y (E9 hy).2.2.2
    have ae:l.length<=6:=by rw [hl]; simpa using y6
    have aa:∀a∈Fo l (Fi data t.Num e.Num),A9 a<=200:=(Ro (show E2 data t e.Num=some _ by unfold E2; rw [hf]; rfl)).1
    obtain ⟨v,B,v2⟩:=R e.Kids (Fo l (Fi data t.Num e.Num)) (by omega) (by omega) aa
    have hd:Dg (if v<0 then -1 else 1+v) (((some l).map fun l=>Fo l (Fi data t.Num e.Num)).bind fun f=>(C8 data e.Kids f).map (1 + ·)):=by
     rw [Option.map_some,Ad]
     rcases v2 with ⟨rfl,v2⟩ | ⟨a,a1,rfl⟩
     .refine .inl ⟨rfl,fun d h=>?_⟩
      cases ha:C8 data e.Kids (Fo l (Fi data t.Num e.Num)) with
      | none=>rw [ha] at h; cases h
      | some a=>rw [ha] at h; have:=v2 a ha; simp at h; omega
     .rw [a1,if_neg (by omega)]
      exact .inr ⟨1+a,rfl,by omega⟩
    have a8:v = -1\/(0<=v/\v<=10000000):=by
     rcases v2 with ⟨rfl,v2⟩ | ⟨a,a1,rfl⟩
     .exact .inl rfl
     .have:=Uo data _ _ a a1; right; omega
    refine ⟨_,?_,hd⟩
    simp only [okL,De,cond_false,Ac7 data t.Num e.Num hs,Ad]
    refine Im (Fi data t.Num e.Num) (fun j=>((j:Int),Fo (l.take j) ((Fi data t.Num e.Num).take j))) (by simp [Fo]) (by omega) ?_ ?_
    .intro j b hj hb h1 h2 h3
     have ha:l[j]? = some l[j]:=B0 (by omega)
     generalize l[j]=a at ha
     have U:=Adg (l.take j) ((Fi data t.Num e.Num).take j)
     have:(l.take j).length<=6:=by simp; omega
     simp only [h1,h2,h3,cond_true,Ad,Bv rfl ha,Adf ha hb]
     rw [Ds (by simp; omega)]
     cases b <;> simp
    .intro h1
     refine ⟨Fo l (Fi data t.Num e.Num),?_,?_⟩
     .simp only [h1]
      rw [List.take_of_length_le (by omega),List.take_of_length_le (Nat.le_refl _)]; rfl
     .rw [B,Ad]
      rcases a8 with h | h
      .subst h; rfl
      .rw [Ap (by omega),if_neg (by omega)]
       simp only [cond_false]
       rw [Ac,Bl] <;> omega
def tyX (vars:List Af) (res:Af) (v:Int):Option Af:=if v = -1 then some res else Ae vars v
def Fj (data:List Ao) (vars:List Af) (res:Af) (o:List (ByteArray×Int)):Prop:=∀p∈o,∀v i t,p.1=K2 v i->tyX vars res v=some t->p.2=Et (D9 data i t)
theorem Akl {α:Type}:∀(o:List (ByteArray×α)) (s:ByteArray) (v:α),∀p∈Ey o s v,p∈o\/p=(s,v)
 | [],s,v,p,h=>by simp only [Ey,List.mem_singleton] at h; exact .inr h
 | q::o,s,v,p,h=>by
  unfold Ey at h
  cases hq:(s==q.1) with
  | true=>
   rw [hq] at h
   simp only [cond_true,List.mem_cons] at h
   rcases h with h | h
   .exact .inr h
   .exact .inl (by simp [h])
  | false=>
   rw [hq] at h
   simp only [cond_false,List.mem_cons] at h
   rcases h with h | h
   .exact .inl (by simp [h])
   .rcases Akl o s v p h with h | h
    .exact .inl (by simp [h])
    .exact .inr h
theorem Auw {data:List Ao} (G:Szv data) (hs:He data) (b1:List (ByteArray×Int)) (b2:List (ByteArray×List Dh)) (vars:List Af) (res:Af) (f:Fj data vars res b1)
  (v:Int) (i:Az) (t:Af) (ht:tyX vars res v=some t) (b:A9 t<=200) (I:I64 v) (J:iR i) (hi:Cm i<=1048576) :
  ∃u,Kv v i b1 b2 data vars res.Kind res.Num res.Args=some (Et (D9 data i t),u)/\Fj data vars res u:=by
 unfold Kv
 rw [Aus v i I J hi,Ad]
 cases g:Ew b1 (K2 v i) with
 | true=>
  refine ⟨b1,?_,f⟩
  have:H5 b1 (K2 v i) 0=Et (D9 data i t):=by
   unfold H5
   unfold Ew at g
   rw [List.any_eq_true] at g
   obtain ⟨p,D,B⟩:=g
   cases j:b1.find? (fun p=>K2 v i==p.1) with
   | none=>exact absurd B (by have:=List.find?_eq_none.1 j p D; simpa using this)
   | some q=>
    have hq:=List.find?_some j
    exact f q (List.mem_of_find?_eq_some j) v i t ((Ada _ _).1 hq).symm ht
  simp only [cond_true,Ad,De,cond_false,this]
 | false=>
  obtain ⟨w,y,x⟩:=(Auv G hs b1 b2 vars res.Kind res.Num res.Args 4000000).1 i t (by omega) hi b
  have c:Li v b1 b2 data vars res.Kind res.Num res.Args=some t:=by
   unfold Li
   unfold tyX at ht
   by_cases h:v = -1
   .rw [if_pos h] at ht; cases ht
    have L:(Af.mk res.Kind res.Num res.Args)=res:=by cases res; rfl
    rw [Da h,L]; rfl
   .rw [if_neg h] at ht
    rw [B2 h,ht]; rfl
  have k:(bif decide (w>6) then some (-1) else some w:Option Int)=some (Et (D9 data i t)):=by
   rw [<-x.clip]
   by_cases h:w>6
   .rw [Aj h,if_pos h]; rfl
   .rw [Ap h,if_neg h]; rfl
  refine ⟨Ey b1 (K2 v i) (Et (D9 data i t)),?_,?_⟩
  .simp only [cond_false,Ad,Bool.not_false,cond_true,c,y,k]
  .intro p hp z E A s l
   rcases Akl _ _ _ p hp with h | h
   .exact f p h z E A s l
   .subst h
    obtain ⟨rfl,rfl⟩:=Auq s
    rw [ht] at l; cases l; rfl
end Go.Ab
namespace Go.Ab
open Go
def Dl (a b:Int):Int:=if a<b then -1 else if a>b then 1 else 0
def C9 (a b:Int):Int:=if a=0 then b else a
theorem Eu {a b:Int}:Dl a b=0↔a=b:=by unfold Dl; split <;> (try split) <;> omega
theorem L2 (a b:Int):Jc a b=some (Dl a b):=by
 unfold Jc Tn Dl
 simp only [Ad,bne_self_eq_false,cond_false]
 by_cases h:a<b
 .rw [Aj h,if_pos h]; rfl
 .rw [Ap h,if_neg h]
  by_cases h':a>b
  .rw [Aj h',if_pos h']; rfl
  .rw [Ap h',if_neg h']; rfl
theorem Akm (a b:Int):Tm a b=some (Dl a b):=L2 a b
theorem Rs (a b:Int):Kw [a,b]=some (C9 a b):=by
 unfold Kw C9
 by_cases ha:a=0
 .rw [if_pos ha]
  by_cases hb:b=0
  .refine Gj 2 (fun j=>(j:Int)) rfl ?_ ⟨.inr (),rfl,by rw [hb]⟩
   intro j hj
   match j,hj with
   | 0,_=>subst ha; rfl
   | 1,_=>subst hb; rfl
  .refine Gj 1 (fun j=>(j:Int)) rfl ?_ ⟨.inl b,?_,rfl⟩
   .intro j hj
    match j,hj with
    | 0,_=>subst ha; rfl
   .show (bif (b != 0) then _ else _)=_
    rw [Cy hb]; rfl
 .rw [if_neg ha]
  refine Gj 0 (fun j=>(j:Int)) rfl (fun j hj=>by omega) ⟨.inl a,?_,rfl⟩
  show (bif (a != 0) then _ else _)=_
  rw [Cy ha]; rfl
theorem Yj (a b:Int) (h:a≠b):Q5 (decide (a<b))=some (Dl a b):=by
 unfold Q5 Dl
 by_cases h':a<b
 .rw [Aj h',if_pos h']; rfl
 .rw [Ap h',if_neg h',if_pos (by omega)]; rfl
theorem Yk (a b:Int) (h:a≠b):Ow (decide (a<b))=some (Dl a b):=Yj a b h
theorem Yl (a b:Int) (h:a≠b):Ol (decide (a<b))=some (Dl a b):=Yj a b h
def Dy {α:Type} (g:α->α->Int):List α->List α->Int
 | x::xs,y::ys=>C9 (g x y) (Dy g xs ys)
 | _,_=>0
theorem Up {α:Type} (g:α->α->Int) (l m:List α) {step:Int->Option (Int⊕(Int⊕Unit))} (f:l.length=m.length) (hb:l.length<4611686018427387904)
  (hs:∀(j:Nat) (x y:α),l[j]? = some x->m[j]? = some y->decide ((j:Int)<(l.length:Int))=true->Ae l (j:Int)=some x->Ae m (j:Int)=some y->decide ((j:Int)>=(m.length:Int))=false->Ac ((j:Int)+1)=((j+1:Nat):Int) ->
   step (j:Int)=if g x y=0 then some (.inl ((j+1:Nat):Int)) else some (.inr (.inl (g x y))))
  (he:decide ((l.length:Int)<(l.length:Int))=false->step (l.length:Int)=some (.inr (.inr ()))) :
  ∃z,An step 0=some z/\(match z with | .inl r=>r=Dy g l m/\r≠0 | .inr _=>Dy g l m=0):=by
 have key:∀(n j:Nat),j+n=l.length->∃z,An step (j:Int)=some z/\(match z with | .inl r=>r=Dy g (l.drop j) (m.drop j)/\r≠0 | .inr _=>Dy g (l.drop j) (m.drop j)=0):=by
  intro n
  induction n with
  | zero=>
   intro j hj
   have:j=l.length:=by omega
   subst this
   refine ⟨.inr (),E6 (he (by simp)),?_⟩
   rw [List.drop_of_length_le (by omega)]; simp [Dy]
  | succ n ih=>
   intro j hj
   have hx:l[j]? = some l[j]:=B0 (by omega)
   have hy:m[j]? = some m[j]:=B0 (by omega)
   generalize l[j]=x at hx
   generalize m[j]=y at hy
   have h:=hs j x y hx hy (Aj (by omega)) (Bv rfl hx) (Bv rfl hy) (Ap (by omega)) (Di (show j<l.length by omega) hb)
   rw [Ke hx,Ke hy]
   by_cases b:g x y=0
   .rw [if_pos b] at h
    obtain ⟨z,c,z2⟩:=ih (j+1) (by omega)
    refine ⟨z,by rw [J1 h]; exact c,?_⟩
    have e:Dy g (x::l.drop (j+1)) (y::m.drop (j+1))=Dy g (l.drop (j+1)) (m.drop (j+1)):=by simp only [Dy,C9,b,if_true]
    cases z with
    | inl r=>simp only [e]; exact z2
    | inr u=>simp only [e]; exact z2
   .rw [if_neg b] at h
    refine ⟨.inl (g x y),E6 h,?_,b⟩
    simp only [Dy,C9,b,if_false]
 exact key l.length 0 (by omega)
theorem Ym {α:Type} (f:α->α->Option Int) (g:α->α->Int) (l m:List α) (A:l.length=m.length) (hb:l.length<4611686018427387904) (B:∀(j:Nat) (x y:α),l[j]? = some x->m[j]? = some y->f x y=some (g x y)) :
  ((An (S:=Int) (E:=(Int⊕Unit)) (fun b=>
   bif (decide (b<(l.length:Int))) then (
   (Ae l b).bind fun s=>
   bif (decide (b>=(m.length:Int))) then some (.inr (.inl 1))
   else (
   (Ae m b).bind fun v9=>
   (f s v9).bind fun c=>
   bif (c != (0:Int)) then some (.inr (.inl c))
   else some (.inl (Ac (b+1)))))
   else some (.inr (.inr ()))) 0).bind fun z=>
   match z with
   | .inl k=>some k
   | .inr _=>bif (decide ((l.length:Int)<(m.length:Int))) then some (-1) else some 0)=some (Dy g l m):=by
 refine Uc (Up g l m A hb ?_ (fun h=>by simp only [h]; rfl)) ?_
 .intro j x y hx hy h1 h2 h3 h4 D
  simp only [h1,h2,h3,h4,D,cond_true,cond_false,Ad,B j x y hx hy]
  by_cases i:g x y=0
  .rw [C4 i,if_pos i]; rfl
  .rw [Cy i,if_neg i]; rfl
 .rintro (r | u) q
  .rw [q.1]
  .simp only
   rw [Ap (by omega),show Dy g l m=0 from q]; rfl
def Jj (x y:Dd):Int:=C9 (Dl x.Var y.Var) (Dl x.Coef y.Coef)
def Jk (a b:C2):Int:=if a.Terms.length=b.Terms.length then C9 (Dy Jj a.Terms b.Terms) (Dl a.Const b.Const) else Dl a.Terms.length b.Terms.length
theorem Akn (a b:C2) (ha:a.Terms.length<1099511627776):J8 a b=some (Jk a b):=by
 unfold J8 Jk
 rw [L2,Ad]
 by_cases h:a.Terms.length=b.Terms.length
 .rw [C4 (Eu.2 (by omega)),if_pos h]
  simp only [cond_false]
  have:=Ym Tl Jj a.Terms b.Terms h (by omega) (fun j x y _ _=>by
   unfold Tl Jj
   rw [L2,Akm]; simp only [Ad,Rs])
  rw [show W7 a.Terms b.Terms=_ from this,Ad,Akm]
  simp only [Ad,Rs]
 .rw [Cy (fun e=>h (by have:=Eu.1 e; omega)),if_neg h]; rfl
theorem Ako (a b:C2) (ha:a.Terms.length<1099511627776):Lq a b=some (Jk a b):=by
 unfold Lq Jk
 by_cases h:a.Terms.length=b.Terms.length
 .rw [C4 (by omega),if_pos h]
  simp only [cond_false]
  refine Uc (Up Jj a.Terms b.Terms h (by omega) ?_ (fun h=>by simp only [h]; rfl)) ?_
  .intro j x y hx hy h1 h2 h3 h4 g
   simp only [h1,h2,h3,g,cond_true,Ad]
   by_cases c:x.Var=y.Var
   .rw [C4 c]
    by_cases hc:x.Coef=y.Coef
    .rw [C4 hc]
     rw [if_pos (by unfold Jj; rw [Eu.2 c,Eu.2 hc]; rfl)]; rfl
    .rw [Cy hc,Yk _ _ hc]
     have e:Jj x y=Dl x.Coef y.Coef:=by unfold Jj; rw [Eu.2 c]; rfl
     rw [e,if_neg (fun e=>hc (Eu.1 e))]; rfl
   .rw [Cy c,Yk _ _ c]
    have e:Jj x y=Dl x.Var y.Var:=by unfold Jj C9; rw [if_neg (fun e=>c (Eu.1 e))]
    rw [e,if_neg (fun e=>c (Eu.1 e))]; rfl
  .rintro (r | u) f
   .obtain ⟨rfl,h0⟩:=f
    unfold C9; rw [if_neg h0]
   .have f:Dy Jj a.Terms b.Terms=0:=f
    rw [f]
    simp only [C9,if_true]
    by_cases hc:a.Const=b.Const
    .rw [C4 hc,Eu.2 hc]; rfl
    .rw [Cy hc,Yk _ _ hc]; rfl
 .rw [Cy (by omega),if_neg h,Yk _ _ (by omega)]; rfl
mutual
def Hg:Az->Az->Int
 | ⟨n,k⟩,j=>if n=j.Num then (if k.length=j.Kids.length then Pm k j.Kids else Dl k.length j.Kids.length) else Dl n j.Num
def Pm:List Az->List Az->Int
 | x::xs,y::ys=>C9 (Hg x y) (Pm xs ys)
 | [],_=>0
 | _::_,[]=>0
end
theorem Ado (i j:Az):Hg i j=if i.Num=j.Num then (if i.Kids.length=j.Kids.length then Pm i.Kids j.Kids else Dl i.Kids.length j.Kids.length) else Dl i.Num j.Num:=by cases i; simp only [Hg]
theorem Yn:∀l m:List Az,Pm l m=Dy Hg l m
 | x::xs,y::ys=>by simp only [Pm,Dy,Yn xs ys]
 | [],_=>by simp [Pm,Dy]
 | _::_,[]=>by simp [Pm,Dy]
theorem Aux:∀(n k:Nat) (i j:Az),Cm i<=n->2*n<=k->n<1099511627776->Mr k i j=some (Hg i j):=by
 intro n
 induction n with
 | zero=>intro k i j h; have:=Eg i; omega
 | succ n ih=>
  intro k i j h hk c
  obtain ⟨k,rfl⟩:∃b,k=b+2:=⟨k-2,by omega⟩
  have hi:=Eg i
  have f:=Ia i.Kids
  rw [Mr,Ado,L2,L2]
  simp only [Ad,Rs]
  by_cases h1:i.Num=j.Num
  .rw [if_pos h1]
   by_cases h2:i.Kids.length=j.Kids.length
   .rw [if_pos h2,C4 (by unfold C9; rw [Eu.2 h1,Eu.2 (by omega)]; rfl),Yn]
    simp only [cond_false]
    have:=Ym (Mr k) Hg i.Kids j.Kids h2 (by omega) (fun q x y hx hy=>ih k x y (by have:=Hf (Br hx); omega) (by omega) (by omega))
    rw [To]
    refine Eq.trans (congrArg (fun q=>Option.bind q _) this) rfl
   .have e:C9 (Dl i.Num j.Num) (Dl (i.Kids.length:Int) (j.Kids.length:Int))=Dl i.Kids.length j.Kids.length:=by unfold C9; rw [Eu.2 h1]; rfl
    rw [if_neg h2,e,Cy (fun e=>h2 (by have:=Eu.1 e; omega))]; rfl
  .have e:C9 (Dl i.Num j.Num) (Dl (i.Kids.length:Int) (j.Kids.length:Int))=Dl i.Num j.Num:=by unfold C9; rw [if_neg (fun e=>h1 (Eu.1 e))]
   rw [if_neg h1,e,Cy (fun e=>h1 (Eu.1 e))]; rfl
theorem Auy:∀(n k:Nat) (i j:Az),Cm i<=n->2*n<=k->n<1099511627776->Mu k i j=some (Hg i j):=by
 intro n
 induction n with
 | zero=>intro k i j h; have:=Eg i; omega
 | succ n ih=>
  intro k i j h hk A
  obtain ⟨k,rfl⟩:∃l,k=l+2:=⟨k-2,by omega⟩
  have hi:=Eg i
  have B:=Ia i.Kids
  rw [Mu,Ado]
  by_cases h1:i.Num=j.Num
  .rw [if_pos h1,C4 h1]
   simp only [cond_false]
   rw [Tq]
   by_cases h2:i.Kids.length=j.Kids.length
   .rw [if_pos h2,C4 (by omega),Yn]
    simp only [cond_false]
    have:=Up Hg i.Kids j.Kids h2 (by omega) (step:=fun v5=>bif (decide (v5<(i.Kids.length:Int))) then ((Ae i.Kids v5).bind fun g=>(Ae j.Kids v5).bind fun f=>(Mu k g f).bind fun v8=>bif (v8 != (0:Int)) then some (.inr (.inl v8)) else some (.inl (Ac (v5+1)))) else some (.inr (.inr ()))) (fun q x y hx hy h1 h2 h3 h4 s=>by
     simp only [h1,h2,h3,s,cond_true,Ad,ih k x y (by have:=Hf (Br hx); omega) (by omega) (by omega)]
     by_cases b:Hg x y=0
     .rw [C4 b,if_pos b]; rfl
     .rw [Cy b,if_neg b]; rfl) (fun h=>by simp only [h]; rfl)
    obtain ⟨z,c,z2⟩:=this
    rw [c,Ad]
    cases z with
    | inl r=>rw [z2.1]; rfl
    | inr u=>rw [show Dy Hg i.Kids j.Kids=0 from z2]; rfl
   .rw [if_neg h2,Cy (by omega),Yj _ _ (by omega)]; rfl
  .rw [if_neg h1,Cy h1,Yj _ _ h1]; rfl
def Jl (x y:Cd):Int:=C9 (Dl x.Var y.Var) (Hg x.Index y.Index)
def Kg (x y:B1):Int:=C9 (Jk x.Lin y.Lin) (Dl x.Deg y.Deg)
def Ic (a b:B8):Int :=
 if a.Factors.length=b.Factors.length then
  C9 (Dy Jl a.Factors b.Factors) (if a.Atoms.length=b.Atoms.length then Dy Kg a.Atoms b.Atoms else Dl a.Atoms.length b.Atoms.length)
 else Dl a.Factors.length b.Factors.length
structure MSz (m:B8):Prop where
 nf:m.Factors.length<=1048576
 na:m.Atoms.length<=1048576
 fi:∀f∈m.Factors,Cm f.Index<=1048576
 fr:∀f∈m.Factors,iR f.Index/\I64 f.Var
 al:∀a∈m.Atoms,a.Lin.Terms.length<=1048576
theorem Auz (a b:B8) (ha:MSz a):Mm a b=some (Ic a b):=by
 have h1:=ha.nf
 have h2:=ha.na
 unfold Mm Ic
 rw [L2,Ad]
 by_cases h:a.Factors.length=b.Factors.length
 .rw [C4 (Eu.2 (by omega)),if_pos h]
  simp only [cond_false]
  have:=Ym Tc Jl a.Factors b.Factors h (by omega) (fun j x y hx hy=>by
   unfold Tc Jl
   rw [L2,Aux 1048576 4000000 x.Index y.Index (ha.fi x (Br hx)) (by omega) (by omega)]; simp only [Ad,Rs])
  rw [show Wu a.Factors b.Factors=_ from this,Ad,L2]
  simp only [Ad,Rs]
  by_cases h0:Dy Jl a.Factors b.Factors=0
  .simp only [h0,C9,if_true]
   by_cases h':a.Atoms.length=b.Atoms.length
   .rw [C4 (Eu.2 (by omega)),if_pos h']
    simp only [cond_false]
    have:=Ym Td Kg a.Atoms b.Atoms h' (by omega) (fun j x y hx hy=>by
     unfold Td Kg
     rw [L2,Akn x.Lin y.Lin (by have:=ha.al x (Br hx); omega)]; simp only [Ad,Rs])
    rw [show Wv a.Atoms b.Atoms=_ from this]; rfl
   .rw [Cy (fun e=>h' (by have:=Eu.1 e; omega)),if_neg h']; rfl
  .simp only [C9,if_neg h0]
   rw [Cy h0]; rfl
 .rw [Cy (fun e=>h (by have:=Eu.1 e; omega)),if_neg h]; rfl
theorem Au0 (a b:B8) (ha:MSz a):Qs a b=some (Ic a b):=by
 have h1:=ha.nf
 have h2:=ha.na
 unfold Qs Ic
 by_cases h:a.Factors.length=b.Factors.length
 .rw [C4 (by omega),if_pos h]
  simp only [cond_false]
  refine Uc (Up Jl a.Factors b.Factors h (by omega) ?_ (fun h=>by simp only [h]; rfl)) ?_
  .intro j x y hx hy h1 h2 h3 h4 g
   simp only [h1,h2,h3,g,cond_true,Ad,Auy 1048576 4000000 x.Index y.Index (ha.fi x (Br hx)) (by omega) (by omega)]
   by_cases c:x.Var=y.Var
   .rw [C4 c]
    have e:Jl x y=Hg x.Index y.Index:=by unfold Jl C9; rw [if_pos (Eu.2 c)]
    rw [e]
    by_cases hc:Hg x.Index y.Index=0
    .rw [C4 hc,if_pos hc]; rfl
    .rw [Cy hc,if_neg hc]; rfl
   .rw [Cy c,Yl _ _ c]
    have e:Jl x y=Dl x.Var y.Var:=by unfold Jl C9; rw [if_neg (fun e=>c (Eu.1 e))]
    rw [e,if_neg (fun e=>c (Eu.1 e))]; rfl
  .rintro (r | u) f
   .obtain ⟨rfl,h0⟩:=f
    unfold C9; rw [if_neg h0]
   .have f:Dy Jl a.Factors b.Factors=0:=f
    rw [f]
    simp only [C9,if_true]
    by_cases h':a.Atoms.length=b.Atoms.length
    .rw [C4 (by omega),if_pos h']
     simp only [cond_false]
     refine Uc (Up Kg a.Atoms b.Atoms h' (by omega) ?_ (fun h=>by simp only [h]; rfl)) ?_
     .intro j x y hx hy h1 h2 h3 h4 g
      simp only [h1,h2,h3,g,cond_true,Ad,Ako x.Lin y.Lin (by have:=ha.al x (Br hx); omega)]
      by_cases c:Jk x.Lin y.Lin=0
      .rw [C4 c]
       have e:Kg x y=Dl x.Deg y.Deg:=by unfold Kg C9; rw [if_pos c]
       rw [e]
       by_cases hc:x.Deg=y.Deg
       .rw [C4 hc,if_pos (Eu.2 hc)]; rfl
       .rw [Cy hc,Yl _ _ hc,if_neg (fun e=>hc (Eu.1 e))]; rfl
      .have e:Kg x y=Jk x.Lin y.Lin:=by unfold Kg C9; rw [if_neg c]
       rw [Cy c,e,if_neg c]; rfl
     .rintro (r | u) f
      .rw [f.1]
      .rw [show Dy Kg a.Atoms b.Atoms=0 from f]
    .rw [Cy (by omega),if_neg h',Yl _ _ (by omega)]; rfl
 .rw [Cy (by omega),if_neg h,Yl _ _ (by omega)]; rfl
def Kh {α:Type} (f:α->Int) (l:List α) (x:α) (j:Nat):Bool:=j==0||(match l[j-1]? with | some y=>decide (f y<f x) | none=>false)
def Rt (l:List Dd) (x:Dd) (j:Nat):Bool:=decide (-1<=x.Var/\x.Var<3000/\x.Coef≠0/\-1048576<=x.Coef/\x.Coef<=1048576)&&Kh (·.Var) l x j
def Ho (a:C2):Bool:=decide (-1048576<=a.Const/\a.Const<=1048576/\a.Terms.length<=16)&&a.Terms.zipIdx.all (fun q=>Rt a.Terms q.1 q.2)
theorem Akp (n:Int):Qu n=some (decide (-1048576<=n/\n<=1048576)):=by
 unfold Qu
 by_cases h:(-1048576:Int)<=n <;> simp [h]
theorem Au1 (n:Int):S8 n=some (decide (-1<=n/\n<3000)):=by
 unfold S8
 by_cases h:(-1:Int)<=n <;> simp [h]
theorem Adp {α S E:Type} (f:α->Int) (l:List α) {x:α} {j:Nat} (hx:l[j]? = some x) (i:l.length<4611686018427387904) (c b:Option (S⊕E)) :
  (bif decide ((j:Int)>0) then ((Ae l (Ac ((j:Int)-1))).bind fun g=>bif decide (f g>=f x) then c else b) else b)=bif Kh f l x j then b else c:=by
 have hj:=Fh hx
 unfold Kh
 by_cases h:j=0
 .subst h; rfl
 .rw [Aj (by omega)]
  have e:Ac ((j:Int)-1)=((j-1:Nat):Int):=by rw [Ac,Bl] <;> omega
  have hy:l[j-1]? = some l[j-1]:=B0 (by omega)
  rw [e,Bv rfl hy,hy]
  have h0:(j==0)=false:=by simpa using h
  simp only [cond_true,Ad,h0,Bool.false_or]
  by_cases hc:f l[j-1]<f x
  .rw [Ap (by omega),Aj hc]; rfl
  .rw [Aj (by omega),Ap hc]; rfl
theorem Akq (a:C2):Ll a=some (Ho a):=by
 unfold Ll Ho
 rw [Akp]
 simp only [Ad]
 by_cases h1 : -1048576<=a.Const/\a.Const<=1048576
 .rw [Aj h1]
  by_cases h2:a.Terms.length<=16
  .rw [Ap (by omega:¬(a.Terms.length:Int)>16),Aj ⟨h1.1,h1.2,h2⟩]
   simp only [De,cond_false,Ad,Bool.true_and]
   refine (Pa a.Terms (fun q=>Rt a.Terms q.1 q.2) (fun j=>(j:Int)) rfl (by omega) (rt:=true) (rf:=false) ?_ ?_).trans (by rw [Lv])
   .intro j x hx _ h1 h2 h3
    simp only [h1,h2,h3,cond_true,Ad,Au1,Akp,Adp (·.Var) a.Terms hx (by omega),Rt]
    by_cases g1 : -1<=x.Var/\x.Var<3000
    .by_cases g2:x.Coef=0
     .rw [Aj g1,Da g2,Ap (fun h=>h.2.2.1 g2)]
      exact ⟨(fun h=>by cases h),fun _=>⟨.inl false,rfl,rfl⟩⟩
     .by_cases g3 : -1048576<=x.Coef/\x.Coef<=1048576
      .rw [Aj g1,B2 g2,Aj g3,Aj ⟨g1.1,g1.2,g2,g3.1,g3.2⟩]
       cases Kh (·.Var) a.Terms x j with
       | true=>exact ⟨fun _=>rfl,fun h=>by cases h⟩
       | false=>exact ⟨(fun h=>by cases h),fun _=>⟨.inl false,rfl,rfl⟩⟩
      .rw [Aj g1,B2 g2,Ap g3,Ap (fun h=>g3 h.2.2.2)]
       exact ⟨(fun h=>by cases h),fun _=>⟨.inl false,rfl,rfl⟩⟩
    .rw [Ap g1,Ap (fun h=>g1 ⟨h.1,h.2.1⟩)]
     exact ⟨(fun h=>by cases h),fun _=>⟨.inl false,rfl,rfl⟩⟩
   .intro h _
    exact ⟨.inr (),by simp only [h]; rfl,rfl⟩
  .rw [Aj (by omega:(a.Terms.length:Int)>16),Ap (fun h=>h2 h.2.2)]; rfl
 .rw [Ap h1,Ap (fun h : -1048576<=a.Const/\a.Const<=1048576/\a.Terms.length<=16=>h1 ⟨h.1,h.2.1⟩)]; rfl
theorem Akr (a:C2):Mj a=some (Ho a):=by
 unfold Mj Ho
 by_cases h2:a.Terms.length<=16
 .rw [Ap (by omega:¬(a.Terms.length:Int)>16)]
  by_cases h1 : -1048576<=a.Const
  .rw [Ap (by omega:¬a.Const < -1048576)]
   by_cases h3:a.Const<=1048576
   .rw [Ap (by omega:¬a.Const>1048576),Aj ⟨h1,h3,h2⟩]
    simp only [cond_false,Ad,Bool.true_and]
    refine (Pa a.Terms (fun q=>Rt a.Terms q.1 q.2) (fun j=>(j:Int)) rfl (by omega) (rt:=true) (rf:=false) ?_ ?_).trans (by rw [Lv])
    .intro j x hx _ h1 h2 h3
     simp only [h1,h2,h3,cond_true,Ad,Adp (·.Var) a.Terms hx (by omega),Rt]
     by_cases g1:x.Var < -1
     .rw [Aj g1,Ap (fun h=>by omega)]
      exact ⟨(fun h=>by cases h),fun _=>⟨.inl false,rfl,rfl⟩⟩
     by_cases g2:x.Var>=3000
     .rw [Ap g1,Aj g2,Ap (fun h=>by omega)]
      exact ⟨(fun h=>by cases h),fun _=>⟨.inl false,rfl,rfl⟩⟩
     by_cases g3:x.Coef=0
     .rw [Ap g1,Ap g2,Da g3,Ap (fun h=>by omega)]
      exact ⟨(fun h=>by cases h),fun _=>⟨.inl false,rfl,rfl⟩⟩
     by_cases g4:x.Coef < -1048576
     .rw [Ap g1,Ap g2,B2 g3,Aj g4,Ap (fun h=>by omega)]
      exact ⟨(fun h=>by cases h),fun _=>⟨.inl false,rfl,rfl⟩⟩
     by_cases g5:x.Coef>1048576
     .rw [Ap g1,Ap g2,B2 g3,Ap g4,Aj g5,Ap (fun h=>by omega)]
      exact ⟨(fun h=>by cases h),fun _=>⟨.inl false,rfl,rfl⟩⟩
     rw [Ap g1,Ap g2,B2 g3,Ap g4,Ap g5,Aj (by omega)]
     cases Kh (·.Var) a.Terms x j with
     | true=>exact ⟨fun _=>rfl,fun h=>by cases h⟩
     | false=>exact ⟨(fun h=>by cases h),fun _=>⟨.inl false,rfl,rfl⟩⟩
    .intro h _
     exact ⟨.inr (),by simp only [h]; rfl,rfl⟩
   .rw [Aj (by omega:a.Const>1048576),Ap (fun h : -1048576<=a.Const/\a.Const<=1048576/\a.Terms.length<=16=>by omega)]; rfl
  .rw [Aj (by omega:a.Const < -1048576),Ap (fun h : -1048576<=a.Const/\a.Const<=1048576/\a.Terms.length<=16=>by omega)]; rfl
 .rw [Aj (by omega:(a.Terms.length:Int)>16),Ap (fun h : -1048576<=a.Const/\a.Const<=1048576/\a.Terms.length<=16=>by omega)]; rfl
end Go.Ab
namespace Go.Ab
open Go
structure Nf (data:List Ao) (vars:List Af) (res:Af):Prop where
 vd:Gu data
 sh:He data
 sz:∀v t,tyX vars res v=some t->A9 t<=200
 nv:vars.length<=3000
theorem Aks (vars:List Af) (res:Af) (v:Int):(tyX vars res v).isSome=decide (-1<=v/\v<vars.length):=by
 unfold tyX
 by_cases h:v = -1
 .rw [if_pos h]; subst h; rw [Aj (by omega)]; rfl
 .rw [if_neg h]
  cases hx:Ae vars v with
  | none=>rcases Nb hx with h' | h' <;> rw [Ap (by omega)] <;> rfl
  | some t=>have:=E9 hx; rw [Aj (by omega)]; rfl
section
variable (b1:List (ByteArray×Int)) (b2:List (ByteArray×List Dh)) (data:List Ao) (vars:List Af) (res:Af)
theorem Akt (v:Int) (f c:Int) (b:List Af):Of v b1 b2 data vars f c b=some (tyX vars res v).isSome:=by
 rw [Aks]
 unfold Of
 by_cases h:v>=-1
 .rw [Aj h]
  by_cases h':v<(vars.length:Int)
  .rw [Aj h',Aj ⟨h,h'⟩]; rfl
  .rw [Ap h',Ap (fun g=>h' g.2)]; rfl
 .rw [Ap h,Ap (fun g : -1<=v/\v<(vars.length:Int)=>h g.1)]; rfl
theorem Aku {v:Int} {t:Af} (ht:tyX vars res v=some t):Li v b1 b2 data vars res.Kind res.Num res.Args=some t:=by
 unfold Li
 unfold tyX at ht
 by_cases h:v = -1
 .rw [if_pos h] at ht; cases ht
  have b:(Af.mk res.Kind res.Num res.Args)=res:=by cases res; rfl
  rw [Da h,b]; rfl
 .rw [if_neg h] at ht
  rw [B2 h,ht]; rfl
def Ru (t:Dd):Bool:=match tyX vars res t.Var with | some u=>u.Kind==1 | none=>false
def Jm (l:C2):Bool:=l.Terms.all (Ru vars res)
theorem Au2 (l:C2) (c:l.Terms.length<=1048576):Ob l b1 b2 data vars res.Kind res.Num res.Args=some (Jm vars res l):=by
 unfold Ob Wq Wy
 have key:=Ai2 l.Terms (fun t=>!Ru vars res t) (by omega) (J:=fun z=>match z with | .inl b=>some b | .inr _=>some (-1)) (step:=fun v3=>bif (decide (v3<(l.Terms.length:Int))) then ((Ae l.Terms v3).bind fun v4=>(Qv v4 b1 b2 data vars res.Kind res.Num res.Args).bind fun v5=>bif v5 then some (.inr (.inl v3)) else some (.inl (Ac (v3+1)))) else some (.inr (.inr ()))) (by
  intro j x hx h1 h2 h3
  have e:Qv x b1 b2 data vars res.Kind res.Num res.Args=some (!Ru vars res x):=by
   unfold Qv Ru
   rw [Akt b1 b2 data vars res,Ad]
   cases ht:tyX vars res x.Var with
   | none=>rfl
   | some t=>rw [Aku b1 b2 data vars res ht]; rfl
  simp only [h1,h2,h3,cond_true,Ad,e]) (fun h=>by simp only [h]; rfl) (fun _=>rfl) rfl
 obtain ⟨i,i1,i2⟩:=key
 erw [i1]
 simp only [Ad,i2]
 congr 1
 unfold Jm
 rw [List.any_eq_not_all_not]; simp
theorem Adq (x:Ck) (v:Int):Ld x v=some (match tyX x.Vars x.Res v with | some t=>(t,true) | none=>(⟨0,0,[]⟩,false)):=by
 unfold Ld tyX
 by_cases h:v = -1
 .rw [Da h,if_pos h]; rfl
 .rw [B2 h,if_neg h]
  cases hx:Ae x.Vars v with
  | none=>
   rcases Nb hx with h' | h'
   .simp only [Aj h',cond_true,cond_false,Ad]
   .by_cases h0:v<0
    .simp only [Aj h0,cond_true,cond_false,Ad]
    .simp only [Ap h0,Aj (show v>=(x.Vars.length:Int) from h'),cond_true,cond_false,Ad]
  | some t=>
   obtain ⟨a1,a2,_⟩:=E9 hx
   simp only [Ap (by omega:¬v<0),Ap (by omega:¬v>=(x.Vars.length:Int)),cond_false,Ad]
theorem Au3 (x:Ck) (l:C2) (b:l.Terms.length<=1048576):Ok x l=some (Jm x.Vars x.Res l):=by
 unfold Ok
 refine (M8 l.Terms (Ru x.Vars x.Res) (fun j=>(j:Int)) rfl (by omega) (rt:=true) (rf:=false) ?_ ?_).trans (by rw [Lv]; rfl)
 .intro j t ht h1 h2 h3
  simp only [h1,h2,h3,cond_true,Ad,Adq]
  unfold Ru
  cases hu:tyX x.Vars x.Res t.Var with
  | none=>exact ⟨(fun h=>by cases h),fun _=>⟨.inl false,rfl,rfl⟩⟩
  | some u=>
   simp only [De,cond_false]
   by_cases hk:u.Kind=1
   .rw [Da hk,C4 hk]
    exact ⟨fun _=>rfl,fun h=>by cases h⟩
   .rw [B2 hk,Cy hk]
    exact ⟨(fun h=>by cases h),fun _=>⟨.inl false,rfl,rfl⟩⟩
 .intro h; exact ⟨.inr (),by simp only [h]; rfl,rfl⟩
def Ea (f:Cd):Int:=match tyX vars res f.Var with | some t=>Et (D9 data f.Index t) | none => -1
theorem Adr (f:Cd) : -1<=Ea data vars res f/\Ea data vars res f<=6:=by
 unfold Ea
 cases tyX vars res f.Var with
 | none=>simp
 | some t=>rcases Adj (D9 data f.Index t) with ⟨h,_⟩ | ⟨d,_,h2,h⟩ <;> simp only [h] <;> omega
def Ki (m:B8):Bool:=m.Factors.all (fun f=>decide (0<=Ea data vars res f))&&m.Atoms.all (fun a=>decide (0<=a.Deg)&&Jm vars res a.Lin)
def Dm (l:List Cd):Int:=(l.map (Ea data vars res)).sum
def Ec (l:List B1):Int:=(l.map (·.Deg)).sum
def Rv (l:List B1) (x:B1) (j:Nat):Bool:=j==0||(match l[j-1]? with | some y=>decide (Jk y.Lin x.Lin<0) | none=>false)
def L3 (l:List Cd) (f:Cd) (j:Nat):Bool:=decide (1<=Ea data vars res f)&&Kh (·.Var) l f j
def Jo (l:List B1) (a:B1) (j:Nat):Bool:=decide (1<=a.Deg)&&Ho a.Lin && !(a.Lin.Terms.length==0)&&Jm vars res a.Lin&&Rv l a j
def Gv (m:B8):Bool:=m.Factors.zipIdx.all (fun q=>L3 data vars res m.Factors q.1 q.2)&&m.Atoms.zipIdx.all (fun q=>Jo vars res m.Atoms q.1 q.2)&&decide (Dm data vars res m.Factors+Ec m.Atoms<=6)
variable {b1 data vars res}
theorem Ads (hc:Nf data vars res) (i:Fj data vars res b1) (f:Cd) (g:I64 f.Var) (h:iR f.Index) (hi:Cm f.Index<=1048576) (b:(tyX vars res f.Var).isSome=true) :
  ∃c,Kv f.Var f.Index b1 b2 data vars res.Kind res.Num res.Args=some (Ea data vars res f,c)/\Fj data vars res c:=by
 cases ht:tyX vars res f.Var with
 | none=>rw [ht] at b; cases b
 | some t=>
  obtain ⟨c,h1,h2⟩:=Auw hc.vd.szv hc.sh b1 b2 vars res i f.Var f.Index t ht (hc.sz _ _ ht) g h hi
  refine ⟨c,?_,h2⟩
  rw [h1]; unfold Ea; rw [ht]
theorem Au4 (hc:Nf data vars res) (V:Fj data vars res b1) (m:B8) (l:MSz m) :
  ∃s,Ta m b1 b2 data vars res.Kind res.Num res.Args=some (Ki data vars res m,s)/\Fj data vars res s:=by
 have X:=l.nf
 have ha:=l.na
 unfold Ta
 refine Aci (fun s=>(Ki data vars res m,s)) ?_
 obtain ⟨r,U,N⟩:=Ud (M:=List (ByteArray×Int)) (R:=Bool×List (ByteArray×Int)) m.Factors (fun q=>decide (0<=Ea data vars res q.1)) (fun j o=>((j:Int),o)) (Fj data vars res)
  (fun r=>Fj data vars res r.2/\r.1=m.Atoms.all (fun a=>decide (0<=a.Deg)&&Jm vars res a.Lin)) (fun r=>Fj data vars res r.2/\r.1=false) b1
  (s0:=((0:Int),b1))
  (step:=(fun (A,x)=>
   bif (decide (A<(m.Factors.length:Int))) then (
   (Ae m.Factors A).bind fun v8=>
   (Of v8.Var x b2 data vars res.Kind res.Num res.Args).bind fun B=>
   bif (!B) then some (.inr (.inl (false,x)))
   else (
   (Kv v8.Var v8.Index x b2 data vars res.Kind res.Num res.Args).bind fun g=>
   bif (decide (g.1<(0:Int))) then some (.inr (.inl (false,g.2)))
   else some (.inl ((Ac (A+1)),g.2))))
   else some (.inr (.inr x)):Int×List (ByteArray×Int)->Option ((Int×List (ByteArray×Int))⊕((Bool×List (ByteArray×Int))⊕List (ByteArray×Int)))))
  (J:=(fun z=>match z with
   | .inl (L,I)=>some (L,I)
   | .inr b=>(An (S:=Int) (E:=((Bool×(List (ByteArray×Int)))⊕Unit)) (fun c=>
     bif (decide (c<(m.Atoms.length:Int))) then (
     (Ae m.Atoms c).bind fun u=>
     bif (decide (u.Deg<(0:Int))) then some (.inr (.inl (false,b)))
     else (
     (Ob u.Lin b b2 data vars res.Kind res.Num res.Args).bind fun v21=>
     bif (!v21) then some (.inr (.inl (false,b)))
     else some (.inl (Ac (c+1)))))
     else some (.inr (.inr ()))) 0).bind fun z=>match z with
      | .inl (G,D)=>some (G,D)
      | .inr _=>some (true,b)))
  rfl V (by omega) (by
   intro j f o y hx _ h1 h2 h3
   have k:=Br hx
   simp only [h1,h2,h3,cond_true,Ad,Akt o b2 data vars res]
   cases i:(tyX vars res f.Var).isSome with
   | false=>
    have e:Ea data vars res f = -1:=by
     unfold Ea
     cases ht:tyX vars res f.Var with
     | none=>rfl
     | some t=>rw [ht] at i; cases i
    rw [e]
    exact ⟨(fun h=>by cases h),fun _=>⟨_,rfl,_,rfl,y,rfl⟩⟩
   | true=>
    obtain ⟨s,d1,d2⟩:=Ads b2 hc y f (l.fr f k).2 (l.fr f k).1 (l.fi f k) i
    simp only [De,cond_false,d1,Ad]
    by_cases h0:0<=Ea data vars res f
    .rw [Aj h0,Ap (by omega)]
     exact ⟨fun _=>⟨s,rfl,d2⟩,fun h=>by cases h⟩
    .rw [Ap h0,Aj (by omega)]
     exact ⟨(fun h=>by cases h),fun _=>⟨_,rfl,_,rfl,d2,rfl⟩⟩) (by
   intro o y h1 _
   refine ⟨.inr o,by simp only [h1]; rfl,?_⟩
   refine ⟨(m.Atoms.all (fun a=>decide (0<=a.Deg)&&Jm vars res a.Lin),o),?_,y,rfl⟩
   refine (M8 m.Atoms (fun a=>decide (0<=a.Deg)&&Jm vars res a.Lin) (fun j=>(j:Int)) rfl (by omega) (rt:=(true,o)) (rf:=(false,o)) ?_ ?_).trans (by cases m.Atoms.all (fun a=>decide (0<=a.Deg)&&Jm vars res a.Lin) <;> rfl)
   .intro j a hx h1 h2 h3
    simp only [h1,h2,h3,cond_true,Ad,Au2 o b2 data vars res a.Lin (l.al a (Br hx))]
    by_cases h0:0<=a.Deg
    .rw [Aj h0,Ap (by omega)]
     cases Jm vars res a.Lin with
     | true=>exact ⟨fun _=>rfl,fun h=>by cases h⟩
     | false=>exact ⟨(fun h=>by cases h),fun _=>⟨_,rfl,rfl⟩⟩
    .rw [Ap h0,Aj (by omega)]
     exact ⟨(fun h=>by cases h),fun _=>⟨_,rfl,rfl⟩⟩
   .intro h; exact ⟨.inr (),by simp only [h]; rfl,rfl⟩)
 refine ⟨r,U,r.2,?_,?_⟩
 .unfold Ki
  rw [<-Xt]
  rcases N with ⟨h1,h2,h3⟩ | ⟨h1,h2,h3⟩
  .rw [h1,Bool.true_and,<-h3]
  .rw [h1,Bool.false_and,<-h3]
 .rcases N with ⟨h1,h2,h3⟩ | ⟨h1,h2,h3⟩ <;> exact h2
theorem Akv (g:Cd->Int) {l:List Cd} {j:Nat} {x:Cd} (h:l[j]? = some x):((l.take (j+1)).map g).sum=((l.take j).map g).sum+g x:=by
 rw [Dk h]; simp
theorem Akw {l:List B1} {j:Nat} {x:B1} (h:l[j]? = some x):Ec (l.take (j+1))=Ec (l.take j)+x.Deg:=by
 unfold Ec; rw [Dk h]; simp
theorem Au5 (hc:Nf data vars res) (A:Fj data vars res b1) (m:B8) (k:MSz m) (hp:Ki data vars res m=true) :
  ∃p:Int×List (ByteArray×Int),Tb m b1 b2 data vars res.Kind res.Num res.Args=some p/\(decide (p.1>6) = !decide (Dm data vars res m.Factors+Ec m.Atoms<=6))/\Fj data vars res p.2:=by
 have D:=k.nf
 have ha:=k.na
 unfold Ki at hp
 rw [C7,List.all_eq_true,List.all_eq_true] at hp
 unfold Tb
 refine Eb (fun (v5,u,g)=>∃j:Nat,u=j/\j<=m.Factors.length/\Fj data vars res g/\0<=v5/\v5<=12/\(v5=Dm data vars res (m.Factors.take j)\/(6<v5/\6<Dm data vars res (m.Factors.take j)))) (fun (_,u,_)=>m.Factors.length-u.toNat)
  (fun (v5,g)=>Fj data vars res g/\0<=v5/\v5<=12/\(v5=Dm data vars res m.Factors\/(6<v5/\6<Dm data vars res m.Factors))) ⟨0,rfl,by omega,A,by omega,by omega,.inl (by simp [Dm])⟩ ?_ ?_
 .rintro ⟨v5,u,g⟩ ⟨j,rfl,hj,q,h0,h12,l⟩
  rcases Nat.lt_or_ge j m.Factors.length with h | h
  .have hx:m.Factors[j]? = some m.Factors[j]:=B0 h
   generalize m.Factors[j]=f at hx
   have c:=Br hx
   have hd:=hp.1 f c
   rw [decide_eq_true_eq] at hd
   have B:=(Adr data vars res f).2
   have es:Dm data vars res (m.Factors.take (j+1))=Dm data vars res (m.Factors.take j)+Ea data vars res f:=Akv _ hx
   simp only [Aj (by omega:(j:Int)<(m.Factors.length:Int)),cond_true,Bv rfl hx,Ad,Di h (by omega)]
   by_cases s:v5<=6
   .have x:(tyX vars res f.Var).isSome=true:=by
     unfold Ea at hd
     cases ht:tyX vars res f.Var with
     | none=>rw [ht] at hd; have hd:(0:Int)<=-1:=hd; omega
     | some t=>rfl
    obtain ⟨E,d1,d2⟩:=Ads b2 hc q f (k.fr f c).2 (k.fr f c).1 (k.fi f c) x
    rw [Aj s]
    simp only [cond_true,d1,Ad]
    have b:Ac (v5+Ea data vars res f)=v5+Ea data vars res f:=by rw [Ac,Bl] <;> omega
    exact .inl ⟨_,rfl,⟨j+1,rfl,by omega,d2,by simp only [b]; omega,by simp only [b]; omega,by simp only [b,es]; omega⟩,by simp; omega⟩
   .rw [Ap s]
    exact .inl ⟨_,rfl,⟨j+1,rfl,by omega,q,h0,h12,by simp only [es]; omega⟩,by simp; omega⟩
  .have:j=m.Factors.length:=by omega
   subst this
   rw [List.take_length] at l
   exact .inr ⟨(v5,g),by simp,q,h0,h12,l⟩
 .rintro ⟨v5,g⟩ ⟨q,h0,h12,l⟩
  simp only
  refine Eb (fun (v,i)=>∃j:Nat,i=j/\j<=m.Atoms.length/\0<=v/\v<=13/\(v=Dm data vars res m.Factors+Ec (m.Atoms.take j)\/(6<v/\6<Dm data vars res m.Factors+Ec (m.Atoms.take j)))) (fun (_,i)=>m.Atoms.length-i.toNat)
   (fun v=>(v=Dm data vars res m.Factors+Ec m.Atoms\/(6<v/\6<Dm data vars res m.Factors+Ec m.Atoms))) ⟨0,rfl,by omega,h0,by omega,by simpa [Ec] using l⟩ ?_ ?_
  .rintro ⟨v,i⟩ ⟨j,rfl,hj,g0,g13,z⟩
   rcases Nat.lt_or_ge j m.Atoms.length with h | h
   .have hx:m.Atoms[j]? = some m.Atoms[j]:=B0 h
    generalize m.Atoms[j]=a at hx
    have hd:=hp.2 a (Br hx)
    rw [C7,decide_eq_true_eq] at hd
    have es:=Akw hx
    simp only [Aj (by omega:(j:Int)<(m.Atoms.length:Int)),cond_true,Bv rfl hx,Ad,Di h (by omega)]
    by_cases s:v<=6
    .rw [Aj s]
     simp only [cond_true]
     by_cases y:7<a.Deg
     .rw [if_pos y]
      have b:Ac (v+7)=v+7:=by rw [Ac,Bl] <;> omega
      exact .inl ⟨_,rfl,⟨j+1,rfl,by omega,by simp only [b]; omega,by simp only [b]; omega,by simp only [b,es]; omega⟩,by simp; omega⟩
     .rw [if_neg y]
      have b:Ac (v+a.Deg)=v+a.Deg:=by rw [Ac,Bl] <;> omega
      exact .inl ⟨_,rfl,⟨j+1,rfl,by omega,by simp only [b]; omega,by simp only [b]; omega,by simp only [b,es]; omega⟩,by simp; omega⟩
    .rw [Ap s]
     exact .inl ⟨_,rfl,⟨j+1,rfl,by omega,g0,g13,by simp only [es]; omega⟩,by simp; omega⟩
   .have:j=m.Atoms.length:=by omega
    subst this
    rw [List.take_length] at z
    exact .inr ⟨v,by simp,z⟩
  .intro v l
   refine ⟨(v,g),rfl,?_,q⟩
   by_cases h:Dm data vars res m.Factors+Ec m.Atoms<=6
   .rw [Aj h,Ap (by simp only; omega)]; rfl
   .rw [Ap h,Aj (by simp only; omega)]; rfl
end
end Go.Ab
namespace Go.Ab
open Go
theorem Akx {S E:Type} (F:C2->C2->Option Int) (l:List B1) (g:∀y∈l,∀x,F y.Lin x=some (Jk y.Lin x)) {x:B1} {j:Nat} (hx:l[j]? = some x) (i:l.length<4611686018427387904) (c b:Option (S⊕E)) :
  (bif decide ((j:Int)>0) then ((Ae l (Ac ((j:Int)-1))).bind fun f=>(F f.Lin x.Lin).bind fun v28=>bif decide (v28>=0) then c else b) else b)=bif Rv l x j then b else c:=by
 have hj:=Fh hx
 unfold Rv
 by_cases h:j=0
 .subst h; rfl
 .rw [Aj (by omega)]
  have e:Ac ((j:Int)-1)=((j-1:Nat):Int):=by rw [Ac,Bl] <;> omega
  have hy:l[j-1]? = some l[j-1]:=B0 (by omega)
  rw [e,Bv rfl hy,hy]
  have h0:(j==0)=false:=by simpa using h
  simp only [cond_true,Ad,h0,Bool.false_or,g _ (List.getElem_mem (by omega:j-1<l.length))]
  by_cases hc:Jk l[j-1].Lin x.Lin<0
  .rw [Ap (by omega),Aj hc]; rfl
  .rw [Aj (by omega),Ap hc]; rfl
section
variable {b1:List (ByteArray×Int)} (b2:List (ByteArray×List Dh)) {data:List Ao} {vars:List Af} {res:Af}
def Uq (data:List Ao) (vars:List Af) (res:Af) (l:List Cd) (f:Cd) (j:Nat):Bool:=!(Ea data vars res f==0)&&Kh (·.Var) l f j
def Ng (l:List B1) (a:B1) (j:Nat):Bool:=!(a.Deg==0)&&Ho a.Lin && !(a.Lin.Terms.length==0)&&Rv l a j
theorem Aky (m:B8):Gv data vars res m=(Ki data vars res m&&decide (Dm data vars res m.Factors+Ec m.Atoms<=6)&&m.Factors.zipIdx.all (fun q=>Uq data vars res m.Factors q.1 q.2)&&m.Atoms.zipIdx.all (fun q=>Ng m.Atoms q.1 q.2)):=by
 rw [Bool.eq_iff_iff]
 unfold Gv Ki
 rw [<-Xt m.Factors (fun f=>decide (0<=Ea data vars res f)),<-Xt m.Atoms (fun a=>decide (0<=a.Deg)&&Jm vars res a.Lin)]
 simp only [C7,List.all_eq_true,L3,Jo,Uq,Ng,decide_eq_true_eq,Bool.not_eq_true',beq_eq_false_iff_ne,ne_eq]
 constructor
 .rintro ⟨⟨h1,h2⟩,h3⟩
  refine ⟨⟨⟨⟨fun q hq=>?_,fun q hq=>?_⟩,h3⟩,fun q hq=>?_⟩,fun q hq=>?_⟩
  .have:=(h1 q hq).1; omega
  .have:=h2 q hq; exact ⟨by omega,this.1.2⟩
  .have:=h1 q hq; exact ⟨by omega,this.2⟩
  .have:=h2 q hq; exact ⟨⟨⟨by omega,this.1.1.1.2⟩,this.1.1.2⟩,this.2⟩
 .rintro ⟨⟨⟨⟨h1,h2⟩,h3⟩,h4⟩,b⟩
  refine ⟨⟨fun q hq=>?_,fun q hq=>?_⟩,h3⟩
  .have:=h1 q hq; have g:=h4 q hq; exact ⟨by omega,g.2⟩
  .have:=h2 q hq; have g:=b q hq; exact ⟨⟨⟨⟨by omega,g.1.1.2⟩,g.1.2⟩,this.2⟩,g.2⟩
theorem Au6 (hc:Nf data vars res) (hm:Fj data vars res b1) (m:B8) (k:MSz m) :
  ∃B,Ql m b1 b2 data vars res.Kind res.Num res.Args=some (Gv data vars res m,B)/\Fj data vars res B:=by
 have hf:=k.nf
 have ha:=k.na
 rw [Aky]
 unfold Ql
 obtain ⟨b,p1,p2⟩:=Au4 b2 hc hm m k
 rw [p1]
 cases hp:Ki data vars res m with
 | false=>exact ⟨b,rfl,p2⟩
 | true=>
  obtain ⟨q,q1,q2,q3⟩:=Au5 b2 hc p2 m k hp
  simp only [Ad,De,cond_false,q1,q2]
  cases hs:decide (Dm data vars res m.Factors+Ec m.Atoms<=6) with
  | false=>exact ⟨q.2,rfl,q3⟩
  | true=>
   simp only [De,cond_false,Bool.true_and]
   have Y:∀f∈m.Factors,(tyX vars res f.Var).isSome=true:=by
    intro f c
    unfold Ki at hp
    rw [C7,List.all_eq_true] at hp
    have hd:=hp.1 f c
    rw [decide_eq_true_eq] at hd
    unfold Ea at hd
    cases ht:tyX vars res f.Var with
    | none=>rw [ht] at hd; have hd:(0:Int)<=-1:=hd; omega
    | some t=>rfl
   obtain ⟨r,r1,r2⟩:=Ud (M:=List (ByteArray×Int)) (R:=Bool×List (ByteArray×Int)) m.Factors (fun q=>Uq data vars res m.Factors q.1 q.2) (fun j o=>((j:Int),o)) (Fj data vars res)
    (fun r=>Fj data vars res r.2/\r.1=m.Atoms.zipIdx.all (fun q=>Ng m.Atoms q.1 q.2)) (fun r=>Fj data vars res r.2/\r.1=false) q.2
    (s0:=((0:Int),q.2))
    (step:=(fun (v9,u)=>
     bif (decide (v9<(m.Factors.length:Int))) then (
     (Ae m.Factors v9).bind fun l=>
     (Kv l.Var l.Index u b2 data vars res.Kind res.Num res.Args).bind fun g=>
     bif (g.1==(0:Int)) then some (.inr (.inl (false,g.2)))
     else (
     bif (decide (v9>(0:Int))) then (
     (Ae m.Factors (Ac (v9-1))).bind fun L=>
     bif (decide (L.Var>=l.Var)) then some (.inr (.inl (false,g.2)))
     else some (.inl ((Ac (v9+1)),g.2)))
     else some (.inl ((Ac (v9+1)),g.2))))
     else some (.inr (.inr u)):Int×List (ByteArray×Int)->Option ((Int×List (ByteArray×Int))⊕((Bool×List (ByteArray×Int))⊕List (ByteArray×Int)))))
    (J:=(fun z=>match z with
     | .inl (X,V)=>some (X,V)
     | .inr s=>(An (S:=Int) (E:=((Bool×(List (ByteArray×Int)))⊕Unit)) (fun v22=>
       bif (decide (v22<(m.Atoms.length:Int))) then (
       (Ae m.Atoms v22).bind fun i=>
       (show Option Bool from
       bif (i.Deg==(0:Int)) then some true
       else (
       (Ll i.Lin).bind fun I=>
       bif (!I) then some true
       else some ((i.Lin.Terms.length:Int)==(0:Int)))).bind fun G=>
       bif G then some (.inr (.inl (false,s)))
       else (
       bif (decide (v22>(0:Int))) then (
       (Ae m.Atoms (Ac (v22-1))).bind fun D=>
       (J8 D.Lin i.Lin).bind fun v28=>
       bif (decide (v28>=(0:Int))) then some (.inr (.inl (false,s)))
       else some (.inl (Ac (v22+1))))
       else some (.inl (Ac (v22+1)))))
       else some (.inr (.inr ()))) 0).bind fun z=>match z with
        | .inl (U,N)=>some (U,N)
        | .inr _=>some (true,s)))
    rfl q3 (by omega) (by
     intro j f o Z hx _ h1 h2 h3
     have c:=Br hx
     obtain ⟨B,d1,d2⟩:=Ads b2 hc Z f (k.fr f c).2 (k.fr f c).1 (k.fi f c) (Y f c)
     simp only [h1,h2,h3,cond_true,Ad,d1,Adp (·.Var) m.Factors hx (by omega),Uq]
     cases (Ea data vars res f==0) with
     | true=>exact ⟨(fun h=>by cases h),fun _=>⟨_,rfl,_,rfl,d2,rfl⟩⟩
     | false=>
      cases Kh (·.Var) m.Factors f j with
      | true=>exact ⟨fun _=>⟨B,rfl,d2⟩,fun h=>by cases h⟩
      | false=>exact ⟨(fun h=>by cases h),fun _=>⟨_,rfl,_,rfl,d2,rfl⟩⟩) (by
     intro o Z h1 _
     refine ⟨.inr o,by simp only [h1]; rfl,?_⟩
     refine ⟨(m.Atoms.zipIdx.all (fun q=>Ng m.Atoms q.1 q.2),o),?_,Z,rfl⟩
     refine (Pa m.Atoms (fun q=>Ng m.Atoms q.1 q.2) (fun j=>(j:Int)) rfl (by omega) (rt:=(true,o)) (rf:=(false,o)) ?_ ?_).trans (by cases m.Atoms.zipIdx.all (fun q=>Ng m.Atoms q.1 q.2) <;> rfl)
     .intro j a hx _ h1 h2 h3
      have A:((a.Lin.Terms.length:Int)==(0:Int))=(a.Lin.Terms.length==0):=Ajh a.Lin.Terms 0
      simp only [h1,h2,h3,cond_true,Ad,Akq,Akx J8 m.Atoms (fun y hy x=>Akn y.Lin x (by have:=k.al y hy; omega)) hx (by omega),Ng,A]
      cases (a.Deg==0) with
      | true=>exact ⟨(fun h=>by cases h),fun _=>⟨_,rfl,rfl⟩⟩
      | false=>
       cases Ho a.Lin with
       | false=>exact ⟨(fun h=>by cases h),fun _=>⟨_,rfl,rfl⟩⟩
       | true=>
        cases (a.Lin.Terms.length==0) with
        | true=>exact ⟨(fun h=>by cases h),fun _=>⟨_,rfl,rfl⟩⟩
        | false=>
         cases Rv m.Atoms a j with
         | true=>exact ⟨fun _=>rfl,fun h=>by cases h⟩
         | false=>exact ⟨(fun h=>by cases h),fun _=>⟨_,rfl,rfl⟩⟩
     .intro h _; exact ⟨.inr (),by simp only [h]; rfl,rfl⟩)
   refine ⟨r.2,?_,?_⟩
   .have e:some r=some (m.Factors.zipIdx.all (fun q=>Uq data vars res m.Factors q.1 q.2)&&m.Atoms.zipIdx.all (fun q=>Ng m.Atoms q.1 q.2),r.2):=by
     rcases r2 with ⟨h1,h2,h3⟩ | ⟨h1,h2,h3⟩
     .rw [h1,Bool.true_and,<-h3]
     .rw [h1,Bool.false_and,<-h3]
    rw [<-e]
    exact r1
   .rcases r2 with ⟨h1,h2,h3⟩ | ⟨h1,h2,h3⟩ <;> exact h2
theorem Akz (l:List Cd):Dm data vars res l<=6*l.length/\-(l.length:Int)<=Dm data vars res l:=by
 induction l with
 | nil=>simp [Dm]
 | cons x xs ih=>
  have:=Adr data vars res x
  unfold Dm at *
  simp only [List.map_cons,List.sum_cons,List.length_cons]
  omega
theorem Ak0 (l:List Cd) (h:∀f∈l,0<=Ea data vars res f):0<=Dm data vars res l:=by
 induction l with
 | nil=>simp [Dm]
 | cons x xs ih=>
  have h1:=h x (by simp)
  have h2:=ih (fun f b=>h f (by simp [b]))
  unfold Dm at *
  simp only [List.map_cons,List.sum_cons]
  omega
theorem Ur (l:List B1) (h:∀a∈l,0<=a.Deg):0<=Ec l/\((∀a∈l,a.Deg<=6)->Ec l<=6*l.length)/\∀a∈l,a.Deg<=Ec l:=by
 induction l with
 | nil=>simp [Ec]
 | cons x xs ih=>
  have h1:=h x (by simp)
  obtain ⟨i1,i2,i3⟩:=ih (fun f b=>h f (by simp [b]))
  unfold Ec at *
  simp only [List.map_cons,List.sum_cons,List.length_cons]
  refine ⟨by omega,fun g=>?_,fun a ha=>?_⟩
  .have:=g x (by simp)
   have:=i2 (fun a ha=>g a (by simp [ha]))
   omega
  .rcases List.mem_cons.1 ha with rfl | ha
   .omega
   .have:=i3 a ha; omega
end
theorem Au7 {x:Ck} (hc:Nf x.Data x.Vars x.Res) (m:B8) (V:MSz m):∃v,S3 x m=some v/\decide (v<0) = !Gv x.Data x.Vars x.Res m:=by
 have hf:=V.nf
 have ha:=V.na
 unfold S3
 have a1:∀n,m.Factors.zipIdx.all (fun q=>L3 x.Data x.Vars x.Res m.Factors q.1 q.2)=true->0<=Dm x.Data x.Vars x.Res (m.Factors.take n):=by
  intro n h
  refine Ak0 _ (fun f hf=>?_)
  obtain ⟨j,hj⟩:=List.getElem?_of_mem (List.mem_of_mem_take hf)
  have:=Hb h hj
  simp only [L3,C7,decide_eq_true_eq] at this
  omega
 have a6:m.Factors.zipIdx.all (fun q=>L3 x.Data x.Vars x.Res m.Factors q.1 q.2)=false->Gv x.Data x.Vars x.Res m=false:=by
  intro h; unfold Gv; rw [h]; rfl
 obtain ⟨r,r1,r2⟩:=Ud (M:=Unit) (R:=Int) m.Factors (fun q=>L3 x.Data x.Vars x.Res m.Factors q.1 q.2) (fun j _=>(Dm x.Data x.Vars x.Res (m.Factors.take j),(j:Int))) (fun _=>True)
  (fun v=>decide (v<0) = !Gv x.Data x.Vars x.Res m) (fun v=>v = -1) ()
  (s0:=((0:Int),(0:Int)))
  (step:=(fun (v9,l)=>
   bif (decide (l<(m.Factors.length:Int))) then (
   (Ae m.Factors l).bind fun D=>
   (Ld x D.Var).bind fun U=>
   (show Option Bool from
   bif (!U.2) then some true
   else (
   bif (decide (l>(0:Int))) then (
   (Ae m.Factors (Ac (l-1))).bind fun B=>
   some (decide (B.Var>=D.Var)))
   else some false)).bind fun a8=>
   bif a8 then some (.inr (.inl (-1)))
   else (
   (Qy x.Data U.1 D.Index).bind fun N=>
   bif (decide (N<(1:Int))) then some (.inr (.inl (-1)))
   else some (.inl ((Ac (v9+N)),(Ac (l+1))))))
   else some (.inr (.inr v9)):Int×Int->Option ((Int×Int)⊕(Int⊕Int))))
  (J:=(fun z=>match z with
   | .inl aa=>some aa
   | .inr a7=>(An (S:=(Int×Int)) (E:=(Int⊕Int)) (fun (v24,g)=>
     bif (decide (g<(m.Atoms.length:Int))) then (
     (Ae m.Atoms g).bind fun c=>
     (Mj c.Lin).bind fun v28=>
     bif (!v28) then some (.inr (.inl (-1)))
     else (
     bif ((c.Lin.Terms.length:Int)==(0:Int)) then some (.inr (.inl (-1)))
     else (
     (Ok x c.Lin).bind fun A=>
     bif (!A) then some (.inr (.inl (-1)))
     else (
     bif (decide (g>(0:Int))) then (
     (Ae m.Atoms (Ac (g-1))).bind fun u=>
     (Lq u.Lin c.Lin).bind fun v31=>
     bif (decide (v31>=(0:Int))) then some (.inr (.inl (-1)))
     else (
     bif (decide (c.Deg<(1:Int))) then some (.inr (.inl (-1)))
     else (
     bif (decide (c.Deg>(6:Int))) then some (.inr (.inl (-1)))
     else some (.inl ((Ac (v24+c.Deg)),(Ac (g+1)))))))
     else (
     bif (decide (c.Deg<(1:Int))) then some (.inr (.inl (-1)))
     else (
     bif (decide (c.Deg>(6:Int))) then some (.inr (.inl (-1)))
     else some (.inl ((Ac (v24+c.Deg)),(Ac (g+1))))))))))
     else some (.inr (.inr v24))) (a7,0)).bind fun z=>match z with
      | .inl G=>some G
      | .inr k=>bif (decide (k>(6:Int))) then some (-1) else some k))
  (by simp [Dm]) trivial (by omega) (by
   intro j f _ _ hx _ h1 h2 h3
   have ae:=Br hx
   have hj:=Fh hx
   have ab:(bif decide ((j:Int)>0) then ((Ae m.Factors (Ac ((j:Int)-1))).bind fun B=>some (decide (B.Var>=f.Var))) else some false)=some (!Kh (·.Var) m.Factors f j):=by
    unfold Kh
    by_cases h:j=0
    .subst h; rfl
    .rw [Aj (by omega)]
     have e:Ac ((j:Int)-1)=((j-1:Nat):Int):=by rw [Ac,Bl] <;> omega
     have hy:m.Factors[j-1]? = some m.Factors[j-1]:=B0 (by omega)
     rw [e,Bv rfl hy,hy]
     have h0:(j==0)=false:=by simpa using h
     simp only [cond_true,Ad,h0,Bool.false_or]
     by_cases hc:m.Factors[j-1].Var<f.Var
     .rw [Ap (by omega),Aj hc]; rfl
     .rw [Aj (by omega),Ap hc]; rfl
   have es:Dm x.Data x.Vars x.Res (m.Factors.take (j+1))=Dm x.Data x.Vars x.Res (m.Factors.take j)+Ea x.Data x.Vars x.Res f:=Akv _ hx
   have hb:=Akz (data:=x.Data) (vars:=x.Vars) (res:=x.Res) (m.Factors.take j)
   have aj:(m.Factors.take j).length<=1048576:=by simp; omega
   have ah:=Adr x.Data x.Vars x.Res f
   simp only [h1,h2,h3,cond_true,Ad,Adq,L3,es]
   cases ht:tyX x.Vars x.Res f.Var with
   | none=>
    have e:Ea x.Data x.Vars x.Res f = -1:=by unfold Ea; rw [ht]
    rw [e]
    exact ⟨(fun h=>by cases h),fun _=>⟨.inl (-1),rfl,_,rfl,rfl⟩⟩
   | some t=>
    have e:Ea x.Data x.Vars x.Res f=Et (D9 x.Data f.Index t):=by unfold Ea; rw [ht]
    simp only [De,cond_false,ab,Ad,Auk hc.vd hc.sh t f.Index (hc.sz _ _ ht) (V.fi f ae),<-e]
    cases af:Kh (·.Var) m.Factors f j with
    | false=>exact ⟨(fun h=>by simp at h),fun _=>⟨.inl (-1),rfl,_,rfl,rfl⟩⟩
    | true=>
     simp only [De,cond_false,Bool.and_true]
     by_cases h1:1<=Ea x.Data x.Vars x.Res f
     .rw [Aj h1,Ap (by omega)]
      refine ⟨fun _=>⟨(),?_,trivial⟩,fun h=>by cases h⟩
      simp only [cond_false]
      rw [show Ac (Dm x.Data x.Vars x.Res (m.Factors.take j)+Ea x.Data x.Vars x.Res f)=Dm x.Data x.Vars x.Res (m.Factors.take j)+Ea x.Data x.Vars x.Res f by rw [Ac,Bl] <;> omega]
     .rw [Ap h1,Aj (by omega)]
      exact ⟨(fun h=>by cases h),fun _=>⟨.inl (-1),rfl,_,rfl,rfl⟩⟩) (by
   intro _ _ h1 s
   have ad:=a1 m.Factors.length s
   have ai:=Akz (data:=x.Data) (vars:=x.Vars) (res:=x.Res) m.Factors
   rw [List.take_length] at ad
   refine ⟨.inr (Dm x.Data x.Vars x.Res m.Factors),by simp,?_⟩
   obtain ⟨w,w1,w2⟩:=Ud (M:=Unit) (R:=Int) m.Atoms (fun q=>Jo x.Vars x.Res m.Atoms q.1 q.2&&decide (q.1.Deg<=6)) (fun j _=>(Dm x.Data x.Vars x.Res m.Factors+Ec (m.Atoms.take j),(j:Int))) (fun _=>True)
    (fun v=>decide (v<0) = !decide (Dm x.Data x.Vars x.Res m.Factors+Ec m.Atoms<=6)) (fun v=>v = -1) ()
    (s0:=(Dm x.Data x.Vars x.Res m.Factors,(0:Int)))
    (step:=(fun (v24,g)=>
     bif (decide (g<(m.Atoms.length:Int))) then (
     (Ae m.Atoms g).bind fun c=>
     (Mj c.Lin).bind fun v28=>
     bif (!v28) then some (.inr (.inl (-1)))
     else (
     bif ((c.Lin.Terms.length:Int)==(0:Int)) then some (.inr (.inl (-1)))
     else (
     (Ok x c.Lin).bind fun A=>
     bif (!A) then some (.inr (.inl (-1)))
     else (
     bif (decide (g>(0:Int))) then (
     (Ae m.Atoms (Ac (g-1))).bind fun u=>
     (Lq u.Lin c.Lin).bind fun v31=>
     bif (decide (v31>=(0:Int))) then some (.inr (.inl (-1)))
     else (
     bif (decide (c.Deg<(1:Int))) then some (.inr (.inl (-1)))
     else (
     bif (decide (c.Deg>(6:Int))) then some (.inr (.inl (-1)))
     else some (.inl ((Ac (v24+c.Deg)),(Ac (g+1)))))))
     else (
     bif (decide (c.Deg<(1:Int))) then some (.inr (.inl (-1)))
     else (
     bif (decide (c.Deg>(6:Int))) then some (.inr (.inl (-1)))
     else some (.inl ((Ac (v24+c.Deg)),(Ac (g+1))))))))))
     else some (.inr (.inr v24)):Int×Int->Option ((Int×Int)⊕(Int⊕Int))))
    (J:=(fun z=>match z with
      | .inl G=>some G
      | .inr k=>bif (decide (k>(6:Int))) then some (-1) else some k))
    (by simp [Ec]) trivial (by omega) (by
     intro j a _ _ hx I h1 h2 h3
     have X:((a.Lin.Terms.length:Int)==(0:Int))=(a.Lin.Terms.length==0):=Ajh a.Lin.Terms 0
     have es:=Akw hx
     have ak:0<=Ec (m.Atoms.take j)/\Ec (m.Atoms.take j)<=6*1048576:=by
      have Y:∀b∈m.Atoms.take j,1<=b.Deg/\b.Deg<=6:=by
       intro b hb
       obtain ⟨i,hi⟩:=List.getElem?_of_mem hb
       have ac:=Fh hi
       have Z:i<j:=by simp at ac; omega
       rw [List.getElem?_take_of_lt Z] at hi
       have:=I i b Z hi
       simp only [Jo,C7,decide_eq_true_eq] at this
       omega
      obtain ⟨k1,k2,_⟩:=Ur (m.Atoms.take j) (fun b hb=>by have:=Y b hb; omega)
      have:=k2 (fun b hb=>(Y b hb).2)
      have hl:(m.Atoms.take j).length<=1048576:=by simp; omega
      omega
     simp only [h1,h2,h3,cond_true,Ad,Akr,Au3 x a.Lin (V.al a (Br hx)),Akx Lq m.Atoms (fun y hy x=>Ako y.Lin x (by have:=V.al y hy; omega)) hx (by omega),Jo,X,es]
     cases Ho a.Lin with
     | false=>exact ⟨(fun h=>by simp at h),fun _=>⟨.inl (-1),rfl,_,rfl,rfl⟩⟩
     | true=>
      cases (a.Lin.Terms.length==0) with
      | true=>exact ⟨(fun h=>by simp at h),fun _=>⟨.inl (-1),rfl,_,rfl,rfl⟩⟩
      | false=>
       cases Jm x.Vars x.Res a.Lin with
       | false=>exact ⟨(fun h=>by simp at h),fun _=>⟨.inl (-1),rfl,_,rfl,rfl⟩⟩
       | true=>
        simp only [De,cond_false,Bool.not_false,Bool.and_true]
        cases Rv m.Atoms a j with
        | false=>exact ⟨(fun h=>by simp at h),fun _=>⟨.inl (-1),rfl,_,rfl,rfl⟩⟩
        | true=>
         simp only [cond_true,Bool.and_true]
         by_cases g1:a.Deg<1
         .rw [Aj g1,Ap (by omega:¬1<=a.Deg)]
          exact ⟨(fun h=>by simp at h),fun _=>⟨.inl (-1),rfl,_,rfl,rfl⟩⟩
         .by_cases g2:a.Deg>6
          .rw [Ap g1,Aj g2,Ap (by omega:¬a.Deg<=6)]
           exact ⟨(fun h=>by simp at h),fun _=>⟨.inl (-1),rfl,_,rfl,rfl⟩⟩
          .rw [Ap g1,Ap g2,Aj (by omega:a.Deg<=6),Aj (by omega:1<=a.Deg)]
           refine ⟨fun _=>⟨(),?_,trivial⟩,fun h=>by cases h⟩
           simp only [cond_false]
           rw [show Ac (Dm x.Data x.Vars x.Res m.Factors+Ec (m.Atoms.take j)+a.Deg)=Dm x.Data x.Vars x.Res m.Factors+(Ec (m.Atoms.take j)+a.Deg) by rw [Ac,Bl] <;> omega]) (by
     intro _ _ h1 L
     refine ⟨.inr (Dm x.Data x.Vars x.Res m.Factors+Ec m.Atoms),by simp,?_⟩
     have am:0<=Ec m.Atoms:=(Ur m.Atoms (fun b hb=>by
      obtain ⟨i,hi⟩:=List.getElem?_of_mem hb
      have:=Hb L hi
      simp only [Jo,C7,decide_eq_true_eq] at this
      omega)).1
     simp only
     by_cases h6:Dm x.Data x.Vars x.Res m.Factors+Ec m.Atoms<=6
     .rw [Ap (by omega),Aj h6]
      exact ⟨_,rfl,Ap (by omega)⟩
     .rw [Aj (by omega),Ap h6]
      exact ⟨_,rfl,rfl⟩)
   refine ⟨w,w1,?_⟩
   unfold Gv
   rw [s,Bool.true_and]
   rcases w2 with ⟨g1,g2⟩ | ⟨g1,g2⟩
   .have ga:m.Atoms.zipIdx.all (fun q=>Jo x.Vars x.Res m.Atoms q.1 q.2)=true:=Xs fun j a hj=>by
     have:=Hb g1 hj
     simp only [C7] at this
     exact this.1
    rw [ga,Bool.true_and,g2]
   .rw [g2]
    cases ga:m.Atoms.zipIdx.all (fun q=>Jo x.Vars x.Res m.Atoms q.1 q.2) with
    | false=>rfl
    | true=>
     have hgt:¬Dm x.Data x.Vars x.Res m.Factors+Ec m.Atoms<=6:=by
      intro ag
      have:m.Atoms.zipIdx.all (fun q=>Jo x.Vars x.Res m.Atoms q.1 q.2&&decide (q.1.Deg<=6))=true:=Xs fun j a hj=>by
       have gj:=Hb ga hj
       have hpos:∀b∈m.Atoms,0<=b.Deg:=fun b hb=>by
        obtain ⟨i,hi⟩:=List.getElem?_of_mem hb
        have:=Hb ga hi
        simp only [Jo,C7,decide_eq_true_eq] at this
        omega
       have:=(Ur m.Atoms hpos).2.2 a (Br hj)
       simp only [gj,Bool.true_and,decide_eq_true_eq]
       omega
      rw [this] at g1; cases g1
     rw [Ap hgt]; rfl)
 refine ⟨r,r1,?_⟩
 rcases r2 with ⟨h1,h2⟩ | ⟨h1,h2⟩
 .exact h2
 .rw [h2,a6 h1]; rfl
end Go.Ab
