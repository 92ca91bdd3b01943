/- Plain laws: what the plain functions answer. -/
import Derived.Test.YtidkdnlhdbbbjaaGreatDoorAsPl1
import Derived.KernelRfl
namespace Go.Ab
open Go
mutual
theorem Akd (data:List A3):∀(i:Bp) (t:Ai) (d:Nat),Ig data i t=some d->d<=6*Dl i
 | ⟨n,kids⟩,t,d,h=>by
  rw [Ajy] at h
  simp only [Dl]
  simp only at h
  split at h
  .split at h
   .have:=U6 data kids _ d h; omega
   .cases h
  .split at h
   .split at h
    .cases h; omega
    .cases h
   .split at h
    .split at h
     .have:=Ake data kids _ d h; omega
     .cases h
    .split at h
     .cases h; omega
     .cases h
theorem U6 (data:List A3):∀(is:List Bp) (ts:List Ai) (d:Nat),Fr data is ts=some d->d<=6*Fj is
 | [],[],d,h=>by simp only [Fr] at h; cases h; omega
 | i::is,t::ts,d,h=>by
  rw [Adf] at h
  cases h1:Ig data i t with
  | none=>rw [h1] at h; cases h
  | some a=>
   rw [h1,Ad] at h
   cases h2:Fr data is ts with
   | none=>rw [h2] at h; cases h
   | some b=>
    rw [h2] at h
    cases h
    have:=Akd data i t a h1
    have:=U6 data is ts b h2
    simp only [Fj]; omega
 | [],_::_,d,h=>by simp only [Fr] at h; cases h
 | _::_,[],d,h=>by simp only [Fr] at h; cases h
theorem Ake (data:List A3):∀(es:List Bp) (t:Ai) (d:Nat),Jl data es t=some d->d<=6*Fj es
 | [],t,d,h=>by simp only [Jl] at h; cases h; omega
 | ⟨n,kids⟩::es,t,d,h=>by
  rw [Ajz] at h
  simp only at h
  cases h1:Ks data t n with
  | none=>rw [h1] at h; cases h
  | some ts=>
   rw [h1,Ad] at h
   cases h2:Fr data kids ts with
   | none=>rw [h2] at h; cases h
   | some a=>
    rw [h2,Ad] at h
    cases h3:Jl data es t with
    | none=>rw [h3] at h; cases h
    | some b=>
     rw [h3] at h
     cases h
     have:=U6 data kids ts a h2
     have:=Ake data es t b h3
     simp only [Fj,Dl]; omega
end
def R0 (data:List A3) (e:Bp) (t:Ai):Option Nat:=(Ks data t e.Num).bind fun ts=>(Fr data e.Kids ts).map (1 + ·)
theorem Auv (data:List A3) (e:Bp) (es:List Bp) (t:Ai):Jl data (e::es) t=(R0 data e t).bind fun a=>(Jl data es t).map (a + ·):=by
 rw [Ajz]; unfold R0
 cases Ks data t e.Num with
 | none=>rfl
 | some ts=>simp only [Ad]; cases Fr data e.Kids ts <;> rfl
theorem Auw (data:List A3) (e:Bp) (t:Ai) (d:Nat) (h:R0 data e t=some d):d<=6*Dl e:=by
 unfold R0 at h
 cases h1:Ks data t e.Num with
 | none=>rw [h1] at h; cases h
 | some ts=>
  rw [h1,Ad] at h
  cases h2:Fr data e.Kids ts with
  | none=>rw [h2] at h; cases h
  | some a=>
   rw [h2] at h
   cases h
   have:=U6 data _ ts a h2
   have:=Gt e
   show 1+a<=_
   omega
def Dg (v:Int) (o:Option Nat):Prop:=(v = -1/\∀d,o=some d->6<d)\/∃d:Nat,o=some d/\v=d
theorem Dg.clip {v:Int} {o:Option Nat} (h:Dg v o):(if v>6 then -1 else v)=I2 o:=by
 rcases h with ⟨rfl,h⟩ | ⟨d,rfl,rfl⟩
 .rw [if_neg (by omega),Aul h]
 .by_cases hd:6<d
  .rw [if_pos (by omega),Adg hd]
  .rw [if_neg (by omega),Aj1 (by omega)]
theorem Y7 {o p:Option Nat} {acc:Nat} {d:Nat} (h:(o.bind fun a=>p.map (a + ·)).map (acc + ·)=some d):∃a b,o=some a/\p=some b/\d=acc+(a+b):=by
 cases o with
 | none=>cases h
 | some a=>
  cases p with
  | none=>cases h
  | some b=>exact ⟨a,b,rfl,rfl,by simp at h; omega⟩
theorem Aux {data:List A3} (hz:Szv data) (hs:U3 data) (b1:List (ByteArray×Int)) (b2:List (ByteArray×List Dd)) (vars:List Ai) (N M:Int) (L:List Ai):∀k:Nat,
  (∀(i:Bp) (t:Ai),3*Dl i<=k->Dl i<=1048576->Bu t<=200->∃v,Nb k t i b1 b2 data vars N M L=some v/\Dg v (Ig data i t)) /\
  (∀(f:List Bp) (ts:List Ai),3*Fj f+1<=k->Fj f<=1048576->(∀t∈ts,Bu t<=200)->∃v,O4 k ts f b1 b2 data vars N M L=some v/\Dg v (Fr data f ts)) /\
  (∀(e:Bp) (t:Ai),3*Dl e<=k->Dl e<=1048576->Bu t<=200->∃v,O5 k t e b1 b2 data vars N M L=some v/\Dg v (R0 data e t)):=by
 intro k
 induction k with
 | zero=>exact ⟨fun i t h=>by have:=Gt i; omega,fun f ts h=>by omega,fun i t h=>by have:=Gt i; omega⟩
 | succ k ih=>
  obtain ⟨a6,R,a7⟩:=ih
  have D:∀o:Option Nat,o.map (0 + ·)=o:=by intro o; cases o <;> simp
  have c:∀d:Nat,(none:Option Nat)=some d->6<d:=fun d h=>by cases h
  refine ⟨?_,?_,?_⟩
  .intro i t hk hi ht
   have af:=Gt i
   have U:=Ry i.Kids
   rw [Nb,Ajy]
   by_cases Z:t.Kind=6
   .simp only [Fa Z,cond_true,if_pos Z]
    by_cases h0:i.Num=0
    .simp only [Fa h0,cond_true,if_pos h0]
     obtain ⟨p,p1,p2⟩:=R i.Kids t.Args (by omega) (by omega) (fun a ha=>by have:=Kr ha; have:=J1 t; omega)
     rw [p1]
     exact ⟨p,rfl,p2⟩
    .simp only [C6 h0,cond_false,if_neg h0]
     exact ⟨_,rfl,.inl ⟨rfl,c⟩⟩
   .simp only [C6 Z,cond_false,if_neg Z]
    by_cases Y:t.Kind=7
    .simp only [Fa Y,cond_true,if_pos Y]
     by_cases a1:0<=i.Num
     .by_cases a2:i.Num<=6
      .by_cases a3:i.Kids.length=0
       .rw [Am (show i.Num>=0 from a1),Am a2,if_pos ⟨a1,a2,a3⟩,Fa (by omega)]
        exact ⟨_,rfl,.inr ⟨i.Num.toNat,rfl,by omega⟩⟩
       .rw [Am (show i.Num>=0 from a1),Am a2,if_neg (fun h=>a3 h.2.2),C6 (by omega)]
        exact ⟨_,rfl,.inl ⟨rfl,c⟩⟩
      .rw [Am (show i.Num>=0 from a1),As a2,if_neg (fun h=>a2 h.2.1)]
       exact ⟨_,rfl,.inl ⟨rfl,c⟩⟩
     .rw [As (show ¬i.Num>=0 from a1),if_neg (fun h=>a1 h.1)]
      exact ⟨_,rfl,.inl ⟨rfl,c⟩⟩
    .simp only [C6 Y,cond_false,if_neg Y]
     by_cases h5:t.Kind=5
     .simp only [Fa h5,cond_true,if_pos h5]
      by_cases h0:i.Num=0
      .simp only [Ek h0,cond_false,if_pos h0]
       have key:∀(m j acc:Nat),j+m=i.Kids.length->acc<=10000000->∃z,Al (S:=(Int×Int)) (E:=(Int⊕Int)) (fun (G,v8)=>
         bif (decide (v8<(i.Kids.length:Int))) then (
         (Ag i.Kids v8).bind fun v9=>
         (O5 k t v9 b1 b2 data vars N M L).bind fun I=>
         bif (decide (I<(0:Int))) then some (.inr (.inl (-1)))
         else (
         bif (decide (G>(6:Int))) then some (.inr (.inl (-1)))
         else some (.inl ((Ac (G+I)),(Ac (v8+1))))))
         else some (.inr (.inr G))) ((acc:Int),(j:Int))=some z/\Dg (match z with | .inl v=>v | .inr v=>v) ((Jl data (i.Kids.drop j) t).map (acc + ·)):=by
        intro m
        induction m with
        | zero=>
         intro j acc hj A
         have:j=i.Kids.length:=by omega
         subst this
         exact ⟨.inr (acc:Int),Em (by simp),.inr ⟨acc,by simp [Jl],rfl⟩⟩
        | succ m s=>
         intro j acc hj A
         have g:i.Kids[j]? = some i.Kids[j]:=Cp (by omega)
         generalize i.Kids[j]=e at g
         have ac:=Pj (Cw g)
         rw [I3 g,Auv]
         obtain ⟨v,B,v2⟩:=a7 e t (by omega) (by omega) ht
         rcases v2 with ⟨rfl,v2⟩ | ⟨a,a1,rfl⟩
         .refine ⟨.inl (-1),Em ?_,.inl ⟨rfl,fun d h=>?_⟩⟩
          .simp only [Am (by omega:(j:Int)<(i.Kids.length:Int)),cond_true,Cj rfl g,Ad,B]; rfl
          .obtain ⟨a,b,ha,hb,rfl⟩:=Y7 h
           have:=v2 a ha; omega
         .have V:=Auw data e t a a1
          by_cases hb:acc>6
          .refine ⟨.inl (-1),Em ?_,.inl ⟨rfl,fun d h=>?_⟩⟩
           .simp only [Am (by omega:(j:Int)<(i.Kids.length:Int)),cond_true,Cj rfl g,Ad,B,As (by omega:¬(a:Int)<0),Am (by omega:(acc:Int)>6),cond_false]
           .obtain ⟨a,b,ha,hb,rfl⟩:=Y7 h
            omega
          .have ew:Ac ((acc:Int)+(a:Int))=((acc+a:Nat):Int):=by rw [Ac,Bs] <;> omega
           obtain ⟨z,q,z2⟩:=s (j+1) (acc+a) (by omega) (by omega)
           refine ⟨z,?_,?_⟩
           .rw [Jd (s':=(((acc+a:Nat):Int),((j+1:Nat):Int)))]
            .exact q
            .simp only [Am (by omega:(j:Int)<(i.Kids.length:Int)),cond_true,Cj rfl g,Ad,B,As (by omega:¬(a:Int)<0),As (by omega:¬(acc:Int)>6),cond_false,ew,Dr (show j<i.Kids.length by omega) (by omega)]
           .have D:∀o:Option Nat,(((some a:Option Nat).bind fun a=>o.map (a + ·)).map (acc + ·))=o.map (acc+a + ·):=by
             intro o; cases o <;> simp [Nat.add_assoc]
            rw [a1,D]
            exact z2
       obtain ⟨z,q,z2⟩:=key i.Kids.length 0 0 (by omega) (by omega)
       have q:Al _ ((0:Int),(0:Int))=some z:=q
       rw [q,Ad]
       rw [List.drop_zero,D] at z2
       cases z with
       | inl v=>exact ⟨v,rfl,z2⟩
       | inr v=>exact ⟨v,rfl,z2⟩
      .simp only [Dx h0,cond_true,if_neg h0]
       exact ⟨_,rfl,.inl ⟨rfl,c⟩⟩
     .simp only [C6 h5,cond_false,if_neg h5]
      by_cases h0:i.Num=0
      .simp only [Fa h0,cond_true]
       by_cases a3:i.Kids.length=0
       .rw [if_pos ⟨h0,a3⟩,Fa (by omega)]
        exact ⟨_,rfl,.inr ⟨0,rfl,rfl⟩⟩
       .rw [if_neg (fun h=>a3 h.2),C6 (by omega)]
        exact ⟨_,rfl,.inl ⟨rfl,c⟩⟩
      .simp only [C6 h0,cond_false]
       rw [if_neg (fun h=>h0 h.1)]
       exact ⟨_,rfl,.inl ⟨rfl,c⟩⟩
  .intro f ts hk hi ht
   have U:=Ry f
   rw [O4]
   by_cases hl:ts.length=f.length
   .rw [Ek (by omega)]
    simp only [cond_false]
    have key:∀(m j acc:Nat),j+m=f.length->acc<=10000000->∃z,Al (S:=(Int×Int)) (E:=(Int⊕Int)) (fun (v5,X)=>
      bif (decide (X<(ts.length:Int))) then (
      (Ag ts X).bind fun G=>
      (Ag f X).bind fun v9=>
      (Nb k G v9 b1 b2 data vars N M L).bind fun J=>
      bif (decide (J<(0:Int))) then some (.inr (.inl (-1)))
      else (
      bif (decide (v5>(6:Int))) then some (.inr (.inl (-1)))
      else some (.inl ((Ac (v5+J)),(Ac (X+1))))))
      else some (.inr (.inr v5))) ((acc:Int),(j:Int))=some z/\Dg (match z with | .inl v=>v | .inr v=>v) ((Fr data (f.drop j) (ts.drop j)).map (acc + ·)):=by
     intro m
     induction m with
     | zero=>
      intro j acc hj A
      have:j=ts.length:=by omega
      subst this
      refine ⟨.inr (acc:Int),Em (by simp),.inr ⟨acc,?_,rfl⟩⟩
      rw [List.drop_of_length_le (by omega),List.drop_of_length_le (by omega)]
      simp [Fr]
     | succ m s=>
      intro j acc hj A
      have g:f[j]? = some f[j]:=Cp (by omega)
      generalize f[j]=e at g
      have hu:ts[j]? = some ts[j]:=Cp (by omega)
      generalize ts[j]=u at hu
      have ac:=Pj (Cw g)
      rw [I3 g,I3 hu,Adf]
      obtain ⟨v,B,v2⟩:=a6 e u (by omega) (by omega) (ht u (Cw hu))
      rcases v2 with ⟨rfl,v2⟩ | ⟨a,a1,rfl⟩
      .refine ⟨.inl (-1),Em ?_,.inl ⟨rfl,fun d h=>?_⟩⟩
       .simp only [Am (by omega:(j:Int)<(ts.length:Int)),cond_true,Cj rfl g,Cj rfl hu,Ad,B]; rfl
       .obtain ⟨a,b,ha,hb,rfl⟩:=Y7 h
        have:=v2 a ha; omega
      .have V:=Akd data e u a a1
       by_cases hb:acc>6
       .refine ⟨.inl (-1),Em ?_,.inl ⟨rfl,fun d h=>?_⟩⟩
        .simp only [Am (by omega:(j:Int)<(ts.length:Int)),cond_true,Cj rfl g,Cj rfl hu,Ad,B,As (by omega:¬(a:Int)<0),Am (by omega:(acc:Int)>6),cond_false]
        .obtain ⟨a,b,ha,hb,rfl⟩:=Y7 h
         omega
       .have ew:Ac ((acc:Int)+(a:Int))=((acc+a:Nat):Int):=by rw [Ac,Bs] <;> omega
        obtain ⟨z,q,z2⟩:=s (j+1) (acc+a) (by omega) (by omega)
        refine ⟨z,?_,?_⟩
        .rw [Jd (s':=(((acc+a:Nat):Int),((j+1:Nat):Int)))]
         .exact q
         .simp only [Am (by omega:(j:Int)<(ts.length:Int)),cond_true,Cj rfl g,Cj rfl hu,Ad,B,As (by omega:¬(a:Int)<0),As (by omega:¬(acc:Int)>6),cond_false,ew,Dr (show j<f.length by omega) (by omega)]
        .have D:∀o:Option Nat,(((some a:Option Nat).bind fun a=>o.map (a + ·)).map (acc + ·))=o.map (acc+a + ·):=by
          intro o; cases o <;> simp [Nat.add_assoc]
         rw [a1,D]
         exact z2
    obtain ⟨z,q,z2⟩:=key f.length 0 0 (by omega) (by omega)
    have q:Al _ ((0:Int),(0:Int))=some z:=q
    rw [q,Ad]
    rw [List.drop_zero,List.drop_zero,D] at z2
    cases z with
    | inl v=>exact ⟨v,rfl,z2⟩
    | inr v=>exact ⟨v,rfl,z2⟩
   .rw [Dx (by omega),Aj0 data f ts hl]
    exact ⟨_,rfl,.inl ⟨rfl,c⟩⟩
  .intro e t hk g ht
   have ag:=Gt e
   rw [O5]
   unfold R0 Ks
   rw [Auf hz t ht e.Num,Ad]
   cases hf:Nn data t e.Num with
   | none=>exact ⟨-1,rfl,.inl ⟨rfl,c⟩⟩
   | some l=>
    have ad:=Aug hf
    obtain ⟨x,y,_,hx,_,hy,hl,ab⟩:=Ade hf
    obtain ⟨y6,_⟩:=hz x (Jk hx).2.2.2 y (Jk hy).2.2.2
    have ae:l.length<=6:=by rw [hl]; simpa using y6
    have aa:∀a∈I1 l (Ie data t.Num e.Num),Bu a<=200:=(Auj (show Ks data t e.Num=some _ by unfold Ks; rw [hf]; rfl)).1
    obtain ⟨v,B,v2⟩:=R e.Kids (I1 l (Ie data t.Num e.Num)) (by omega) (by omega) aa
    have hd:Dg (if v<0 then -1 else 1+v) (((some l).map fun l=>I1 l (Ie data t.Num e.Num)).bind fun ts=>(Fr data e.Kids ts).map (1 + ·)):=by
     rw [Option.map_some,Ad]
     rcases v2 with ⟨rfl,v2⟩ | ⟨a,a1,rfl⟩
     .refine .inl ⟨rfl,fun d h=>?_⟩
      cases ha:Fr data e.Kids (I1 l (Ie data t.Num e.Num)) with
      | none=>rw [ha] at h; cases h
      | some a=>rw [ha] at h; have:=v2 a ha; simp at h; omega
     .rw [a1,if_neg (by omega)]
      exact .inr ⟨1+a,rfl,by omega⟩
    have a8:v = -1\/(0<=v/\v<=10000000):=by
     rcases v2 with ⟨rfl,v2⟩ | ⟨a,a1,rfl⟩
     .exact .inl rfl
     .have:=U6 data _ _ a a1; right; omega
    refine ⟨_,?_,hd⟩
    simp only [okL,bnt,cond_false,Aje data t.Num e.Num hs,Ad]
    refine Iy (Ie data t.Num e.Num) (fun j=>((j:Int),I1 (l.take j) ((Ie data t.Num e.Num).take j))) (by simp [I1]) (by omega) ?_ ?_
    .intro j b hj hb h1 h2 h3
     have ha:l[j]? = some l[j]:=Cp (by omega)
     generalize l[j]=a at ha
     have U:=Aui (l.take j) ((Ie data t.Num e.Num).take j)
     have:(l.take j).length<=6:=by simp; omega
     simp only [h1,h2,h3,cond_true,Ad,Cj rfl ha,Auh ha hb]
     rw [Du (by simp; omega)]
     cases b <;> simp
    .intro h1
     refine ⟨I1 l (Ie data t.Num e.Num),?_,?_⟩
     .simp only [h1]
      rw [List.take_of_length_le (by omega),List.take_of_length_le (Nat.le_refl _)]; rfl
     .rw [B,Ad]
      rcases a8 with h | h
      .subst h; rfl
      .rw [As (by omega),if_neg (by omega)]
       simp only [cond_false]
       rw [Ac,Bs] <;> omega
def tyX (vars:List Ai) (res:Ai) (v:Int):Option Ai:=if v = -1 then some res else Ag vars v
def Fb (data:List A3) (vars:List Ai) (res:Ai) (o:List (ByteArray×Int)):Prop:=∀p∈o,∀v i t,p.1=Lk v i->tyX vars res v=some t->p.2=I2 (Ig data i t)
theorem Akf {α:Type}:∀(o:List (ByteArray×α)) (s:ByteArray) (v:α),∀p∈Eu o s v,p∈o\/p=(s,v)
 | [],s,v,p,h=>by simp only [Eu,List.mem_singleton] at h; exact .inr h
 | q::o,s,v,p,h=>by
  unfold Eu at h
  cases hq:(s==q.1) with
  | true=>
   rw [hq] at h
   simp only [cond_true,List.mem_cons] at h
   rcases h with h | h
   .exact .inr h
   .exact .inl (by simp [h])
  | false=>
   rw [hq] at h
   simp only [cond_false,List.mem_cons] at h
   rcases h with h | h
   .exact .inl (by simp [h])
   .rcases Akf o s v p h with h | h
    .exact .inl (by simp [h])
    .exact .inr h
theorem Auy {data:List A3} (I:Szv data) (L:U3 data) (b1:List (ByteArray×Int)) (b2:List (ByteArray×List Dd)) (vars:List Ai) (res:Ai) (f:Fb data vars res b1)
  (v:Int) (i:Bp) (t:Ai) (ht:tyX vars res v=some t) (b:Bu t<=200) (J:I64 v) (M:iR i) (s:Dl i<=1048576) :
  ∃x,Lb v i b1 b2 data vars res.Kind res.Num res.Args=some (I2 (Ig data i t),x)/\Fb data vars res x:=by
 unfold Lb
 rw [Akc v i J M s,Ad]
 cases g:Ei b1 (Lk v i) with
 | true=>
  refine ⟨b1,?_,f⟩
  have:Hc b1 (Lk v i) 0=I2 (Ig data i t):=by
   unfold Hc
   unfold Ei at g
   rw [List.any_eq_true] at g
   obtain ⟨p,E,D⟩:=g
   cases j:b1.find? (fun p=>Lk v i==p.1) with
   | none=>exact absurd D (by have:=List.find?_eq_none.1 j p E; simpa using this)
   | some q=>
    have hq:=List.find?_some j
    exact f q (List.mem_of_find?_eq_some j) v i t ((Pi _ _).1 hq).symm ht
  simp only [cond_true,Ad,bnt,cond_false,this]
 | false=>
  obtain ⟨w,z,y⟩:=(Aux I L b1 b2 vars res.Kind res.Num res.Args 4000000).1 i t (by omega) s b
  have c:Mz v b1 b2 data vars res.Kind res.Num res.Args=some t:=by
   unfold Mz
   unfold tyX at ht
   by_cases h:v = -1
   .rw [if_pos h] at ht; cases ht
    have N:(Ai.mk res.Kind res.Num res.Args)=res:=by cases res; rfl
    rw [Fa h,N]; rfl
   .rw [if_neg h] at ht
    rw [C6 h,ht]; rfl
  have k:(bif decide (w>6) then some (-1) else some w:Option Int)=some (I2 (Ig data i t)):=by
   rw [<-y.clip]
   by_cases h:w>6
   .rw [Am h,if_pos h]; rfl
   .rw [As h,if_neg h]; rfl
  refine ⟨Eu b1 (Lk v i) (I2 (Ig data i t)),?_,?_⟩
  .simp only [cond_false,Ad,Bool.not_false,cond_true,c,z,k]
  .intro p hp A G B u l
   rcases Akf _ _ _ p hp with h | h
   .exact f p h A G B u l
   .subst h
    obtain ⟨rfl,rfl⟩:=Aut u
    rw [ht] at l; cases l; rfl
end Go.Ab
namespace Go.Ab
open Go
def Df (a b:Int):Int:=if a<b then -1 else if a>b then 1 else 0
def Dh (a b:Int):Int:=if a=0 then b else a
theorem E3 {a b:Int}:Df a b=0↔a=b:=by unfold Df; split <;> (try split) <;> omega
theorem Ll (a b:Int):Jg a b=some (Df a b):=by
 unfold Jg T3 Df
 simp only [Ad,bne_self_eq_false,cond_false]
 by_cases h:a<b
 .rw [Am h,if_pos h]; rfl
 .rw [As h,if_neg h]
  by_cases h':a>b
  .rw [Am h',if_pos h']; rfl
  .rw [As h',if_neg h']; rfl
theorem Akg (a b:Int):T7 a b=some (Df a b):=Ll a b
theorem R3 (a b:Int):K9 [a,b]=some (Dh a b):=by
 unfold K9 Dh
 by_cases ha:a=0
 .rw [if_pos ha]
  by_cases hb:b=0
  .refine G5 2 (fun j=>(j:Int)) rfl ?_ ⟨.inr (),rfl,by rw [hb]⟩
   intro j hj
   match j,hj with
   | 0,_=>subst ha; rfl
   | 1,_=>subst hb; rfl
  .refine G5 1 (fun j=>(j:Int)) rfl ?_ ⟨.inl b,?_,rfl⟩
   .intro j hj
    match j,hj with
    | 0,_=>subst ha; rfl
   .show (bif (b != 0) then _ else _)=_
    rw [Dx hb]; rfl
 .rw [if_neg ha]
  refine G5 0 (fun j=>(j:Int)) rfl (fun j hj=>by omega) ⟨.inl a,?_,rfl⟩
  show (bif (a != 0) then _ else _)=_
  rw [Dx ha]; rfl
theorem Y8 (a b:Int) (h:a≠b):Qs (decide (a<b))=some (Df a b):=by
 unfold Qs Df
 by_cases h':a<b
 .rw [Am h',if_pos h']; rfl
 .rw [As h',if_neg h',if_pos (by omega)]; rfl
theorem Y9 (a b:Int) (h:a≠b):Oi (decide (a<b))=some (Df a b):=Y8 a b h
theorem Za (a b:Int) (h:a≠b):Oc (decide (a<b))=some (Df a b):=Y8 a b h
def D4 {α:Type} (g:α->α->Int):List α->List α->Int
 | x::xs,y::ys=>Dh (g x y) (D4 g xs ys)
 | _,_=>0
theorem U7 {α:Type} (g:α->α->Int) (l m:List α) {step:Int->Option (Int⊕(Int⊕Unit))} (k:l.length=m.length) (hb:l.length<4611686018427387904)
  (f:∀(j:Nat) (x y:α),l[j]? = some x->m[j]? = some y->decide ((j:Int)<(l.length:Int))=true->Ag l (j:Int)=some x->Ag m (j:Int)=some y->decide ((j:Int)>=(m.length:Int))=false->Ac ((j:Int)+1)=((j+1:Nat):Int) ->
   step (j:Int)=if g x y=0 then some (.inl ((j+1:Nat):Int)) else some (.inr (.inl (g x y))))
  (i:decide ((l.length:Int)<(l.length:Int))=false->step (l.length:Int)=some (.inr (.inr ()))) :
  ∃z,Al step 0=some z/\(match z with | .inl r=>r=D4 g l m/\r≠0 | .inr _=>D4 g l m=0):=by
 have key:∀(n j:Nat),j+n=l.length->∃z,Al step (j:Int)=some z/\(match z with | .inl r=>r=D4 g (l.drop j) (m.drop j)/\r≠0 | .inr _=>D4 g (l.drop j) (m.drop j)=0):=by
  intro n
  induction n with
  | zero=>
   intro j hj
   have:j=l.length:=by omega
   subst this
   refine ⟨.inr (),Em (i (by simp)),?_⟩
   rw [List.drop_of_length_le (by omega)]; simp [D4]
  | succ n ih=>
   intro j hj
   have hx:l[j]? = some l[j]:=Cp (by omega)
   have hy:m[j]? = some m[j]:=Cp (by omega)
   generalize l[j]=x at hx
   generalize m[j]=y at hy
   have h:=f j x y hx hy (Am (by omega)) (Cj rfl hx) (Cj rfl hy) (As (by omega)) (Dr (show j<l.length by omega) hb)
   rw [I3 hx,I3 hy]
   by_cases b:g x y=0
   .rw [if_pos b] at h
    obtain ⟨z,c,z2⟩:=ih (j+1) (by omega)
    refine ⟨z,by rw [Jd h]; exact c,?_⟩
    have e:D4 g (x::l.drop (j+1)) (y::m.drop (j+1))=D4 g (l.drop (j+1)) (m.drop (j+1)):=by simp only [D4,Dh,b,if_true]
    cases z with
    | inl r=>simp only [e]; exact z2
    | inr u=>simp only [e]; exact z2
   .rw [if_neg b] at h
    refine ⟨.inl (g x y),Em h,?_,b⟩
    simp only [D4,Dh,b,if_false]
 exact key l.length 0 (by omega)
theorem Zb {α:Type} (f:α->α->Option Int) (g:α->α->Int) (l m:List α) (A:l.length=m.length) (hb:l.length<4611686018427387904) (B:∀(j:Nat) (x y:α),l[j]? = some x->m[j]? = some y->f x y=some (g x y)) :
  ((Al (S:=Int) (E:=(Int⊕Unit)) (fun b=>
   bif (decide (b<(l.length:Int))) then (
   (Ag l b).bind fun s=>
   bif (decide (b>=(m.length:Int))) then some (.inr (.inl 1))
   else (
   (Ag m b).bind fun v9=>
   (f s v9).bind fun c=>
   bif (c != (0:Int)) then some (.inr (.inl c))
   else some (.inl (Ac (b+1)))))
   else some (.inr (.inr ()))) 0).bind fun z=>
   match z with
   | .inl k=>some k
   | .inr _=>bif (decide ((l.length:Int)<(m.length:Int))) then some (-1) else some 0)=some (D4 g l m):=by
 refine Uv (U7 g l m A hb ?_ (fun h=>by simp only [h]; rfl)) ?_
 .intro j x y hx hy h1 h2 h3 G D
  simp only [h1,h2,h3,G,D,cond_true,cond_false,Ad,B j x y hx hy]
  by_cases i:g x y=0
  .rw [Ek i,if_pos i]; rfl
  .rw [Dx i,if_neg i]; rfl
 .rintro (r | u) q
  .rw [q.1]
  .simp only
   rw [As (by omega),show D4 g l m=0 from q]; rfl
def J3 (x y:Ba):Int:=Dh (Df x.Var y.Var) (Df x.Coef y.Coef)
def Fc (a b:Bf):Int:=if a.Terms.length=b.Terms.length then Dh (D4 J3 a.Terms b.Terms) (Df a.Const b.Const) else Df a.Terms.length b.Terms.length
theorem Zc (a b:Bf) (ha:a.Terms.length<1099511627776):Jy a b=some (Fc a b):=by
 unfold Jy Fc
 rw [Ll,Ad]
 by_cases h:a.Terms.length=b.Terms.length
 .rw [Ek (E3.2 (by omega)),if_pos h]
  simp only [cond_false]
  have:=Zb T6 J3 a.Terms b.Terms h (by omega) (fun j x y _ _=>by
   unfold T6 J3
   rw [Ll,Akg]; simp only [Ad,R3])
  rw [show Xn a.Terms b.Terms=_ from this,Ad,Akg]
  simp only [Ad,R3]
 .rw [Dx (fun e=>h (by have:=E3.1 e; omega)),if_neg h]; rfl
theorem Auz (a b:Bf) (ha:a.Terms.length<1099511627776):Td a b=some (Fc a b):=by
 unfold Td Fc
 by_cases h:a.Terms.length=b.Terms.length
 .rw [Ek (by omega),if_pos h]
  simp only [cond_false]
  refine Uv (U7 J3 a.Terms b.Terms h (by omega) ?_ (fun h=>by simp only [h]; rfl)) ?_
  .intro j x y hx hy h1 h2 h3 i g
   simp only [h1,h2,h3,g,cond_true,Ad]
   by_cases c:x.Var=y.Var
   .rw [Ek c]
    by_cases hc:x.Coef=y.Coef
    .rw [Ek hc]
     rw [if_pos (by unfold J3; rw [E3.2 c,E3.2 hc]; rfl)]; rfl
    .rw [Dx hc,Y9 _ _ hc]
     have e:J3 x y=Df x.Coef y.Coef:=by unfold J3; rw [E3.2 c]; rfl
     rw [e,if_neg (fun e=>hc (E3.1 e))]; rfl
   .rw [Dx c,Y9 _ _ c]
    have e:J3 x y=Df x.Var y.Var:=by unfold J3 Dh; rw [if_neg (fun e=>c (E3.1 e))]
    rw [e,if_neg (fun e=>c (E3.1 e))]; rfl
  .rintro (r | u) f
   .obtain ⟨rfl,h0⟩:=f
    unfold Dh; rw [if_neg h0]
   .have f:D4 J3 a.Terms b.Terms=0:=f
    rw [f]
    simp only [Dh,if_true]
    by_cases hc:a.Const=b.Const
    .rw [Ek hc,E3.2 hc]; rfl
    .rw [Dx hc,Y9 _ _ hc]; rfl
 .rw [Dx (by omega),if_neg h,Y9 _ _ (by omega)]; rfl
mutual
def Hk:Bp->Bp->Int
 | ⟨n,k⟩,j=>if n=j.Num then (if k.length=j.Kids.length then Pl k j.Kids else Df k.length j.Kids.length) else Df n j.Num
def Pl:List Bp->List Bp->Int
 | x::xs,y::ys=>Dh (Hk x y) (Pl xs ys)
 | [],_=>0
 | _::_,[]=>0
end
theorem Adn (i j:Bp):Hk i j=if i.Num=j.Num then (if i.Kids.length=j.Kids.length then Pl i.Kids j.Kids else Df i.Kids.length j.Kids.length) else Df i.Num j.Num:=by cases i; simp only [Hk]
theorem Zd:∀l m:List Bp,Pl l m=D4 Hk l m
 | x::xs,y::ys=>by simp only [Pl,D4,Zd xs ys]
 | [],_=>by simp [Pl,D4]
 | _::_,[]=>by simp [Pl,D4]
theorem Au0:∀(n k:Nat) (i j:Bp),Dl i<=n->2*n<=k->n<1099511627776->M4 k i j=some (Hk i j):=by
 intro n
 induction n with
 | zero=>intro k i j h; have:=Gt i; omega
 | succ n ih=>
  intro k i j h hk c
  obtain ⟨k,rfl⟩:∃b,k=b+2:=⟨k-2,by omega⟩
  have g:=Gt i
  have f:=Ry i.Kids
  rw [M4,Adn,Ll,Ll]
  simp only [Ad,R3]
  by_cases h1:i.Num=j.Num
  .rw [if_pos h1]
   by_cases h2:i.Kids.length=j.Kids.length
   .rw [if_pos h2,Ek (by unfold Dh; rw [E3.2 h1,E3.2 (by omega)]; rfl),Zd]
    simp only [cond_false]
    have:=Zb (M4 k) Hk i.Kids j.Kids h2 (by omega) (fun q x y hx hy=>ih k x y (by have:=Pj (Cw hx); omega) (by omega) (by omega))
    rw [T5]
    refine Eq.trans (congrArg (fun q=>Option.bind q _) this) rfl
   .have e:Dh (Df i.Num j.Num) (Df (i.Kids.length:Int) (j.Kids.length:Int))=Df i.Kids.length j.Kids.length:=by unfold Dh; rw [E3.2 h1]; rfl
    rw [if_neg h2,e,Dx (fun e=>h2 (by have:=E3.1 e; omega))]; rfl
  .have e:Dh (Df i.Num j.Num) (Df (i.Kids.length:Int) (j.Kids.length:Int))=Df i.Num j.Num:=by unfold Dh; rw [if_neg (fun e=>h1 (E3.1 e))]
   rw [if_neg h1,e,Dx (fun e=>h1 (E3.1 e))]; rfl
theorem Au1:∀(n k:Nat) (i j:Bp),Dl i<=n->2*n<=k->n<1099511627776->M1 k i j=some (Hk i j):=by
 intro n
 induction n with
 | zero=>intro k i j h; have:=Gt i; omega
 | succ n ih=>
  intro k i j h hk A
  obtain ⟨k,rfl⟩:∃l,k=l+2:=⟨k-2,by omega⟩
  have D:=Gt i
  have B:=Ry i.Kids
  rw [M1,Adn]
  by_cases h1:i.Num=j.Num
  .rw [if_pos h1,Ek h1]
   simp only [cond_false]
   rw [Tn]
   by_cases h2:i.Kids.length=j.Kids.length
   .rw [if_pos h2,Ek (by omega),Zd]
    simp only [cond_false]
    have:=U7 Hk i.Kids j.Kids h2 (by omega) (step:=fun v5=>bif (decide (v5<(i.Kids.length:Int))) then ((Ag i.Kids v5).bind fun g=>(Ag j.Kids v5).bind fun f=>(M1 k g f).bind fun v8=>bif (v8 != (0:Int)) then some (.inr (.inl v8)) else some (.inl (Ac (v5+1)))) else some (.inr (.inr ()))) (fun q x y hx hy h1 h2 h3 E s=>by
     simp only [h1,h2,h3,s,cond_true,Ad,ih k x y (by have:=Pj (Cw hx); omega) (by omega) (by omega)]
     by_cases b:Hk x y=0
     .rw [Ek b,if_pos b]; rfl
     .rw [Dx b,if_neg b]; rfl) (fun h=>by simp only [h]; rfl)
    obtain ⟨z,c,z2⟩:=this
    rw [c,Ad]
    cases z with
    | inl r=>rw [z2.1]; rfl
    | inr u=>rw [show D4 Hk i.Kids j.Kids=0 from z2]; rfl
   .rw [if_neg h2,Dx (by omega),Y8 _ _ (by omega)]; rfl
  .rw [if_neg h1,Dx h1,Y8 _ _ h1]; rfl
def J4 (x y:B8):Int:=Dh (Df x.Var y.Var) (Hk x.Index y.Index)
def Ku (x y:A6):Int:=Dh (Fc x.Lin y.Lin) (Df x.Deg y.Deg)
def Cz (a b:Bd):Int :=
 if a.Factors.length=b.Factors.length then
  Dh (D4 J4 a.Factors b.Factors) (if a.Atoms.length=b.Atoms.length then D4 Ku a.Atoms b.Atoms else Df a.Atoms.length b.Atoms.length)
 else Df a.Factors.length b.Factors.length
structure MSz (m:Bd):Prop where
 nf:m.Factors.length<=1048576
 na:m.Atoms.length<=1048576
 fi:∀f∈m.Factors,Dl f.Index<=1048576
 fr:∀f∈m.Factors,iR f.Index/\I64 f.Var
 al:∀a∈m.Atoms,a.Lin.Terms.length<=1048576
theorem Akh (a b:Bd) (ha:MSz a):M3 a b=some (Cz a b):=by
 have h1:=ha.nf
 have h2:=ha.na
 unfold M3 Cz
 rw [Ll,Ad]
 by_cases h:a.Factors.length=b.Factors.length
 .rw [Ek (E3.2 (by omega)),if_pos h]
  simp only [cond_false]
  have:=Zb Tt J4 a.Factors b.Factors h (by omega) (fun j x y hx hy=>by
   unfold Tt J4
   rw [Ll,Au0 1048576 4000000 x.Index y.Index (ha.fi x (Cw hx)) (by omega) (by omega)]; simp only [Ad,R3])
  rw [show Xh a.Factors b.Factors=_ from this,Ad,Ll]
  simp only [Ad,R3]
  by_cases h0:D4 J4 a.Factors b.Factors=0
  .simp only [h0,Dh,if_true]
   by_cases h':a.Atoms.length=b.Atoms.length
   .rw [Ek (E3.2 (by omega)),if_pos h']
    simp only [cond_false]
    have:=Zb Tu Ku a.Atoms b.Atoms h' (by omega) (fun j x y hx hy=>by
     unfold Tu Ku
     rw [Ll,Zc x.Lin y.Lin (by have:=ha.al x (Cw hx); omega)]; simp only [Ad,R3])
    rw [show Xi a.Atoms b.Atoms=_ from this]; rfl
   .rw [Dx (fun e=>h' (by have:=E3.1 e; omega)),if_neg h']; rfl
  .simp only [Dh,if_neg h0]
   rw [Dx h0]; rfl
 .rw [Dx (fun e=>h (by have:=E3.1 e; omega)),if_neg h]; rfl
theorem Au2 (a b:Bd) (ha:MSz a):Tb a b=some (Cz a b):=by
 have h1:=ha.nf
 have h2:=ha.na
 unfold Tb Cz
 by_cases h:a.Factors.length=b.Factors.length
 .rw [Ek (by omega),if_pos h]
  simp only [cond_false]
  refine Uv (U7 J4 a.Factors b.Factors h (by omega) ?_ (fun h=>by simp only [h]; rfl)) ?_
  .intro j x y hx hy h1 h2 h3 i g
   simp only [h1,h2,h3,g,cond_true,Ad,Au1 1048576 4000000 x.Index y.Index (ha.fi x (Cw hx)) (by omega) (by omega)]
   by_cases c:x.Var=y.Var
   .rw [Ek c]
    have e:J4 x y=Hk x.Index y.Index:=by unfold J4 Dh; rw [if_pos (E3.2 c)]
    rw [e]
    by_cases hc:Hk x.Index y.Index=0
    .rw [Ek hc,if_pos hc]; rfl
    .rw [Dx hc,if_neg hc]; rfl
   .rw [Dx c,Za _ _ c]
    have e:J4 x y=Df x.Var y.Var:=by unfold J4 Dh; rw [if_neg (fun e=>c (E3.1 e))]
    rw [e,if_neg (fun e=>c (E3.1 e))]; rfl
  .rintro (r | u) f
   .obtain ⟨rfl,h0⟩:=f
    unfold Dh; rw [if_neg h0]
   .have f:D4 J4 a.Factors b.Factors=0:=f
    rw [f]
    simp only [Dh,if_true]
    by_cases h':a.Atoms.length=b.Atoms.length
    .rw [Ek (by omega),if_pos h']
     simp only [cond_false]
     refine Uv (U7 Ku a.Atoms b.Atoms h' (by omega) ?_ (fun h=>by simp only [h]; rfl)) ?_
     .intro j x y hx hy h1 h2 h3 i g
      simp only [h1,h2,h3,g,cond_true,Ad,Auz x.Lin y.Lin (by have:=ha.al x (Cw hx); omega)]
      by_cases c:Fc x.Lin y.Lin=0
      .rw [Ek c]
       have e:Ku x y=Df x.Deg y.Deg:=by unfold Ku Dh; rw [if_pos c]
       rw [e]
       by_cases hc:x.Deg=y.Deg
       .rw [Ek hc,if_pos (E3.2 hc)]; rfl
       .rw [Dx hc,Za _ _ hc,if_neg (fun e=>hc (E3.1 e))]; rfl
      .have e:Ku x y=Fc x.Lin y.Lin:=by unfold Ku Dh; rw [if_neg c]
       rw [Dx c,e,if_neg c]; rfl
     .rintro (r | u) f
      .rw [f.1]
      .rw [show D4 Ku a.Atoms b.Atoms=0 from f]
    .rw [Dx (by omega),if_neg h',Za _ _ (by omega)]; rfl
 .rw [Dx (by omega),if_neg h,Za _ _ (by omega)]; rfl
def Nq {α:Type} (f:α->Int) (l:List α) (x:α) (j:Nat):Bool:=j==0||(match l[j-1]? with | some y=>decide (f y<f x) | none=>false)
def Me (l:List Ba) (x:Ba) (j:Nat):Bool:=decide (-1<=x.Var/\x.Var<3000/\x.Coef≠0/\-1048576<=x.Coef/\x.Coef<=1048576)&&Nq (·.Var) l x j
def C4 (a:Bf):Bool:=decide (-1048576<=a.Const/\a.Const<=1048576/\a.Terms.length<=16)&&a.Terms.zipIdx.all (fun q=>Me a.Terms q.1 q.2)
theorem Aki (n:Int):Qp n=some (decide (-1048576<=n/\n<=1048576)):=by
 unfold Qp
 by_cases h:(-1048576:Int)<=n <;> simp [h]
theorem Au3 (n:Int):Ti n=some (decide (-1<=n/\n<3000)):=by
 unfold Ti
 by_cases h:(-1:Int)<=n <;> simp [h]
theorem Akj {α S E:Type} (f:α->Int) (l:List α) {x:α} {j:Nat} (hx:l[j]? = some x) (i:l.length<4611686018427387904) (c b:Option (S⊕E)) :
  (bif decide ((j:Int)>0) then ((Ag l (Ac ((j:Int)-1))).bind fun g=>bif decide (f g>=f x) then c else b) else b)=bif Nq f l x j then b else c:=by
 have hj:=Ez hx
 unfold Nq
 by_cases h:j=0
 .subst h; rfl
 .rw [Am (by omega)]
  have e:Ac ((j:Int)-1)=((j-1:Nat):Int):=by rw [Ac,Bs] <;> omega
  have hy:l[j-1]? = some l[j-1]:=Cp (by omega)
  rw [e,Cj rfl hy,hy]
  have h0:(j==0)=false:=by simpa using h
  simp only [cond_true,Ad,h0,Bool.false_or]
  by_cases hc:f l[j-1]<f x
  .rw [As (by omega),Am hc]; rfl
  .rw [Am (by omega),As hc]; rfl
theorem Kv (a:Bf):Ho a=some (C4 a):=by
 unfold Ho C4
 rw [Aki]
 simp only [Ad]
 by_cases h1 : -1048576<=a.Const/\a.Const<=1048576
 .rw [Am h1]
  by_cases h2:a.Terms.length<=16
  .rw [As (by omega:¬(a.Terms.length:Int)>16),Am ⟨h1.1,h1.2,h2⟩]
   simp only [bnt,cond_false,Ad,Bool.true_and]
   refine (Uu a.Terms (fun q=>Me a.Terms q.1 q.2) (fun j=>(j:Int)) rfl (by omega) (rt:=true) (rf:=false) ?_ ?_).trans (by rw [Yo])
   .intro j x hx _ h1 h2 h3
    simp only [h1,h2,h3,cond_true,Ad,Au3,Aki,Akj (·.Var) a.Terms hx (by omega),Me]
    by_cases g1 : -1<=x.Var/\x.Var<3000
    .by_cases g2:x.Coef=0
     .rw [Am g1,Fa g2,As (fun h=>h.2.2.1 g2)]
      exact ⟨(fun h=>by cases h),fun _=>⟨.inl false,rfl,rfl⟩⟩
     .by_cases g3 : -1048576<=x.Coef/\x.Coef<=1048576
      .rw [Am g1,C6 g2,Am g3,Am ⟨g1.1,g1.2,g2,g3.1,g3.2⟩]
       cases Nq (·.Var) a.Terms x j with
       | true=>exact ⟨fun _=>rfl,fun h=>by cases h⟩
       | false=>exact ⟨(fun h=>by cases h),fun _=>⟨.inl false,rfl,rfl⟩⟩
      .rw [Am g1,C6 g2,As g3,As (fun h=>g3 h.2.2.2)]
       exact ⟨(fun h=>by cases h),fun _=>⟨.inl false,rfl,rfl⟩⟩
    .rw [As g1,As (fun h=>g1 ⟨h.1,h.2.1⟩)]
     exact ⟨(fun h=>by cases h),fun _=>⟨.inl false,rfl,rfl⟩⟩
   .intro h _
    exact ⟨.inr (),by simp only [h]; rfl,rfl⟩
  .rw [Am (by omega:(a.Terms.length:Int)>16),As (fun h=>h2 h.2.2)]; rfl
 .rw [As h1,As (fun h : -1048576<=a.Const/\a.Const<=1048576/\a.Terms.length<=16=>h1 ⟨h.1,h.2.1⟩)]; rfl
end Go.Ab
namespace Go.Ab
open Go
structure R4 (data:List A3) (vars:List Ai) (res:Ai):Prop where
 vd:Lj data
 sh:U3 data
 sz:∀v t,tyX vars res v=some t->Bu t<=200
 nv:vars.length<=3000
theorem Au4 (vars:List Ai) (res:Ai) (v:Int):(tyX vars res v).isSome=decide (-1<=v/\v<vars.length):=by
 unfold tyX
 by_cases h:v = -1
 .rw [if_pos h]; subst h; rw [Am (by omega)]; rfl
 .rw [if_neg h]
  cases hx:Ag vars v with
  | none=>rcases U2 hx with h' | h' <;> rw [As (by omega)] <;> rfl
  | some t=>have:=Jk hx; rw [Am (by omega)]; rfl
section
variable (b1:List (ByteArray×Int)) (b2:List (ByteArray×List Dd)) (data:List A3) (vars:List Ai) (res:Ai)
theorem Akk (v:Int) (f c:Int) (b:List Ai):Om v b1 b2 data vars f c b=some (tyX vars res v).isSome:=by
 rw [Au4]
 unfold Om
 by_cases h:v>=-1
 .rw [Am h]
  by_cases h':v<(vars.length:Int)
  .rw [Am h',Am ⟨h,h'⟩]; rfl
  .rw [As h',As (fun g=>h' g.2)]; rfl
 .rw [As h,As (fun g : -1<=v/\v<(vars.length:Int)=>h g.1)]; rfl
theorem Au5 {v:Int} {t:Ai} (ht:tyX vars res v=some t):Mz v b1 b2 data vars res.Kind res.Num res.Args=some t:=by
 unfold Mz
 unfold tyX at ht
 by_cases h:v = -1
 .rw [if_pos h] at ht; cases ht
  have b:(Ai.mk res.Kind res.Num res.Args)=res:=by cases res; rfl
  rw [Fa h,b]; rfl
 .rw [if_neg h] at ht
  rw [C6 h,ht]; rfl
def Jn (t:Ba):Bool:=match tyX vars res t.Var with | some u=>u.Kind==1 | none=>false
def Ds (l:Bf):Bool:=l.Terms.all (Jn vars res)
theorem Ado (l:Bf) (c:l.Terms.length<=1048576):Of l b1 b2 data vars res.Kind res.Num res.Args=some (Ds vars res l):=by
 unfold Of Xl Xo
 have key:=Air l.Terms (fun t=>!Jn vars res t) (by omega) (J:=fun z=>match z with | .inl b=>some b | .inr _=>some (-1)) (step:=fun v3=>bif (decide (v3<(l.Terms.length:Int))) then ((Ag l.Terms v3).bind fun v4=>(Qz v4 b1 b2 data vars res.Kind res.Num res.Args).bind fun v5=>bif v5 then some (.inr (.inl v3)) else some (.inl (Ac (v3+1)))) else some (.inr (.inr ()))) (by
  intro j x hx h1 h2 h3
  have e:Qz x b1 b2 data vars res.Kind res.Num res.Args=some (!Jn vars res x):=by
   unfold Qz Jn
   rw [Akk b1 b2 data vars res,Ad]
   cases ht:tyX vars res x.Var with
   | none=>rfl
   | some t=>rw [Au5 b1 b2 data vars res ht]; rfl
  simp only [h1,h2,h3,cond_true,Ad,e]) (fun h=>by simp only [h]; rfl) (fun _=>rfl) rfl
 obtain ⟨i,i1,i2⟩:=key
 erw [i1]
 simp only [Ad,i2]
 congr 1
 unfold Ds
 rw [List.any_eq_not_all_not]; simp
def Fs (f:B8):Int:=match tyX vars res f.Var with | some t=>I2 (Ig data f.Index t) | none => -1
theorem Au6 (f:B8) : -1<=Fs data vars res f/\Fs data vars res f<=6:=by
 unfold Fs
 cases tyX vars res f.Var with
 | none=>simp
 | some t=>rcases Auk (Ig data f.Index t) with ⟨h,_⟩ | ⟨d,_,h2,h⟩ <;> simp only [h] <;> omega
def Mf (m:Bd):Bool:=m.Factors.all (fun f=>decide (0<=Fs data vars res f))&&m.Atoms.all (fun a=>decide (0<=a.Deg)&&Ds vars res a.Lin)
def F0 (l:List B8):Int:=(l.map (Fs data vars res)).sum
def Cl (l:List A6):Int:=(l.map (·.Deg)).sum
def Pm (l:List A6) (x:A6) (j:Nat):Bool:=j==0||(match l[j-1]? with | some y=>decide (Fc y.Lin x.Lin<0) | none=>false)
def Ze (l:List B8) (f:B8) (j:Nat):Bool:=decide (1<=Fs data vars res f)&&Nq (·.Var) l f j
def Mh (l:List A6) (a:A6) (j:Nat):Bool:=decide (1<=a.Deg)&&C4 a.Lin && !(a.Lin.Terms.length==0)&&Ds vars res a.Lin&&Pm l a j
def I4 (m:Bd):Bool:=m.Factors.zipIdx.all (fun q=>Ze data vars res m.Factors q.1 q.2)&&m.Atoms.zipIdx.all (fun q=>Mh vars res m.Atoms q.1 q.2)&&decide (F0 data vars res m.Factors+Cl m.Atoms<=6)
variable {b1 data vars res}
theorem Adp (hc:R4 data vars res) (i:Fb data vars res b1) (f:B8) (g:I64 f.Var) (h:iR f.Index) (j:Dl f.Index<=1048576) (b:(tyX vars res f.Var).isSome=true) :
  ∃c,Lb f.Var f.Index b1 b2 data vars res.Kind res.Num res.Args=some (Fs data vars res f,c)/\Fb data vars res c:=by
 cases ht:tyX vars res f.Var with
 | none=>rw [ht] at b; cases b
 | some t=>
  obtain ⟨c,h1,h2⟩:=Auy hc.vd.szv hc.sh b1 b2 vars res i f.Var f.Index t ht (hc.sz _ _ ht) g h j
  refine ⟨c,?_,h2⟩
  rw [h1]; unfold Fs; rw [ht]
theorem Au7 (hc:R4 data vars res) (V:Fb data vars res b1) (m:Bd) (l:MSz m) :
  ∃s,T0 m b1 b2 data vars res.Kind res.Num res.Args=some (Mf data vars res m,s)/\Fb data vars res s:=by
 have X:=l.nf
 have ha:=l.na
 unfold T0
 refine Yf (fun s=>(Mf data vars res m,s)) ?_
 obtain ⟨r,U,N⟩:=Ack (M:=List (ByteArray×Int)) (R:=Bool×List (ByteArray×Int)) m.Factors (fun q=>decide (0<=Fs data vars res q.1)) (fun j o=>((j:Int),o)) (Fb data vars res)
  (fun r=>Fb data vars res r.2/\r.1=m.Atoms.all (fun a=>decide (0<=a.Deg)&&Ds vars res a.Lin)) (fun r=>Fb data vars res r.2/\r.1=false) b1
  (s0:=((0:Int),b1))
  (step:=(fun (A,x)=>
   bif (decide (A<(m.Factors.length:Int))) then (
   (Ag m.Factors A).bind fun v8=>
   (Om v8.Var x b2 data vars res.Kind res.Num res.Args).bind fun B=>
   bif (!B) then some (.inr (.inl (false,x)))
   else (
   (Lb v8.Var v8.Index x b2 data vars res.Kind res.Num res.Args).bind fun g=>
   bif (decide (g.1<(0:Int))) then some (.inr (.inl (false,g.2)))
   else some (.inl ((Ac (A+1)),g.2))))
   else some (.inr (.inr x)):Int×List (ByteArray×Int)->Option ((Int×List (ByteArray×Int))⊕((Bool×List (ByteArray×Int))⊕List (ByteArray×Int)))))
  (J:=(fun z=>match z with
   | .inl (L,I)=>some (L,I)
   | .inr b=>(Al (S:=Int) (E:=((Bool×(List (ByteArray×Int)))⊕Unit)) (fun c=>
     bif (decide (c<(m.Atoms.length:Int))) then (
     (Ag m.Atoms c).bind fun u=>
     bif (decide (u.Deg<(0:Int))) then some (.inr (.inl (false,b)))
     else (
     (Of u.Lin b b2 data vars res.Kind res.Num res.Args).bind fun v21=>
     bif (!v21) then some (.inr (.inl (false,b)))
     else some (.inl (Ac (c+1)))))
     else some (.inr (.inr ()))) 0).bind fun z=>match z with
      | .inl (G,D)=>some (G,D)
      | .inr _=>some (true,b)))
  rfl V (by omega) (by
   intro j f o y hx _ h1 h2 h3
   have k:=Cw hx
   simp only [h1,h2,h3,cond_true,Ad,Akk o b2 data vars res]
   cases i:(tyX vars res f.Var).isSome with
   | false=>
    have e:Fs data vars res f = -1:=by
     unfold Fs
     cases ht:tyX vars res f.Var with
     | none=>rfl
     | some t=>rw [ht] at i; cases i
    rw [e]
    exact ⟨(fun h=>by cases h),fun _=>⟨_,rfl,_,rfl,y,rfl⟩⟩
   | true=>
    obtain ⟨s,d1,d2⟩:=Adp b2 hc y f (l.fr f k).2 (l.fr f k).1 (l.fi f k) i
    simp only [bnt,cond_false,d1,Ad]
    by_cases h0:0<=Fs data vars res f
    .rw [Am h0,As (by omega)]
     exact ⟨fun _=>⟨s,rfl,d2⟩,fun h=>by cases h⟩
    .rw [As h0,Am (by omega)]
     exact ⟨(fun h=>by cases h),fun _=>⟨_,rfl,_,rfl,d2,rfl⟩⟩) (by
   intro o y h1 _
   refine ⟨.inr o,by simp only [h1]; rfl,?_⟩
   refine ⟨(m.Atoms.all (fun a=>decide (0<=a.Deg)&&Ds vars res a.Lin),o),?_,y,rfl⟩
   refine (Yn m.Atoms (fun a=>decide (0<=a.Deg)&&Ds vars res a.Lin) (fun j=>(j:Int)) rfl (by omega) (rt:=(true,o)) (rf:=(false,o)) ?_ ?_).trans (by cases m.Atoms.all (fun a=>decide (0<=a.Deg)&&Ds vars res a.Lin) <;> rfl)
   .intro j a hx h1 h2 h3
    simp only [h1,h2,h3,cond_true,Ad,Ado o b2 data vars res a.Lin (l.al a (Cw hx))]
    by_cases h0:0<=a.Deg
    .rw [Am h0,As (by omega)]
     cases Ds vars res a.Lin with
     | true=>exact ⟨fun _=>rfl,fun h=>by cases h⟩
     | false=>exact ⟨(fun h=>by cases h),fun _=>⟨_,rfl,rfl⟩⟩
    .rw [As h0,Am (by omega)]
     exact ⟨(fun h=>by cases h),fun _=>⟨_,rfl,rfl⟩⟩
   .intro h; exact ⟨.inr (),by simp only [h]; rfl,rfl⟩)
 refine ⟨r,U,r.2,?_,?_⟩
 .unfold Mf
  rw [<-Ym]
  rcases N with ⟨h1,h2,h3⟩ | ⟨h1,h2,h3⟩
  .rw [h1,Bool.true_and,<-h3]
  .rw [h1,Bool.false_and,<-h3]
 .rcases N with ⟨h1,h2,h3⟩ | ⟨h1,h2,h3⟩ <;> exact h2
theorem Au8 (g:B8->Int) {l:List B8} {j:Nat} {x:B8} (h:l[j]? = some x):((l.take (j+1)).map g).sum=((l.take j).map g).sum+g x:=by
 rw [Dy h]; simp
theorem Au9 {l:List A6} {j:Nat} {x:A6} (h:l[j]? = some x):Cl (l.take (j+1))=Cl (l.take j)+x.Deg:=by
 unfold Cl; rw [Dy h]; simp
theorem Ava (hc:R4 data vars res) (A:Fb data vars res b1) (m:Bd) (k:MSz m) (hp:Mf data vars res m=true) :
  ∃p:Int×List (ByteArray×Int),M9 m b1 b2 data vars res.Kind res.Num res.Args=some p/\(decide (p.1>6) = !decide (F0 data vars res m.Factors+Cl m.Atoms<=6))/\Fb data vars res p.2:=by
 have D:=k.nf
 have ha:=k.na
 unfold Mf at hp
 rw [Dq,List.all_eq_true,List.all_eq_true] at hp
 unfold M9
 refine E8 (fun (v5,u,g)=>∃j:Nat,u=j/\j<=m.Factors.length/\Fb data vars res g/\0<=v5/\v5<=12/\(v5=F0 data vars res (m.Factors.take j)\/(6<v5/\6<F0 data vars res (m.Factors.take j)))) (fun (_,u,_)=>m.Factors.length-u.toNat)
  (fun (v5,g)=>Fb data vars res g/\0<=v5/\v5<=12/\(v5=F0 data vars res m.Factors\/(6<v5/\6<F0 data vars res m.Factors))) ⟨0,rfl,by omega,A,by omega,by omega,.inl (by simp [F0])⟩ ?_ ?_
 .rintro ⟨v5,u,g⟩ ⟨j,rfl,hj,q,h0,h12,l⟩
  rcases Nat.lt_or_ge j m.Factors.length with h | h
  .have hx:m.Factors[j]? = some m.Factors[j]:=Cp h
   generalize m.Factors[j]=f at hx
   have c:=Cw hx
   have hd:=hp.1 f c
   rw [decide_eq_true_eq] at hd
   have B:=(Au6 data vars res f).2
   have es:F0 data vars res (m.Factors.take (j+1))=F0 data vars res (m.Factors.take j)+Fs data vars res f:=Au8 _ hx
   simp only [Am (by omega:(j:Int)<(m.Factors.length:Int)),cond_true,Cj rfl hx,Ad,Dr h (by omega)]
   by_cases s:v5<=6
   .have x:(tyX vars res f.Var).isSome=true:=by
     unfold Fs at hd
     cases ht:tyX vars res f.Var with
     | none=>rw [ht] at hd; have hd:(0:Int)<=-1:=hd; omega
     | some t=>rfl
    obtain ⟨E,d1,d2⟩:=Adp b2 hc q f (k.fr f c).2 (k.fr f c).1 (k.fi f c) x
    rw [Am s]
    simp only [cond_true,d1,Ad]
    have b:Ac (v5+Fs data vars res f)=v5+Fs data vars res f:=by rw [Ac,Bs] <;> omega
    exact .inl ⟨_,rfl,⟨j+1,rfl,by omega,d2,by simp only [b]; omega,by simp only [b]; omega,by simp only [b,es]; omega⟩,by simp; omega⟩
   .rw [As s]
    exact .inl ⟨_,rfl,⟨j+1,rfl,by omega,q,h0,h12,by simp only [es]; omega⟩,by simp; omega⟩
  .have:j=m.Factors.length:=by omega
   subst this
   rw [List.take_length] at l
   exact .inr ⟨(v5,g),by simp,q,h0,h12,l⟩
 .rintro ⟨v5,g⟩ ⟨q,h0,h12,l⟩
  simp only
  refine E8 (fun (v,i)=>∃j:Nat,i=j/\j<=m.Atoms.length/\0<=v/\v<=13/\(v=F0 data vars res m.Factors+Cl (m.Atoms.take j)\/(6<v/\6<F0 data vars res m.Factors+Cl (m.Atoms.take j)))) (fun (_,i)=>m.Atoms.length-i.toNat)
   (fun v=>(v=F0 data vars res m.Factors+Cl m.Atoms\/(6<v/\6<F0 data vars res m.Factors+Cl m.Atoms))) ⟨0,rfl,by omega,h0,by omega,by simpa [Cl] using l⟩ ?_ ?_
  .rintro ⟨v,i⟩ ⟨j,rfl,hj,g0,g13,z⟩
   rcases Nat.lt_or_ge j m.Atoms.length with h | h
   .have hx:m.Atoms[j]? = some m.Atoms[j]:=Cp h
    generalize m.Atoms[j]=a at hx
    have hd:=hp.2 a (Cw hx)
    rw [Dq,decide_eq_true_eq] at hd
    have es:=Au9 hx
    simp only [Am (by omega:(j:Int)<(m.Atoms.length:Int)),cond_true,Cj rfl hx,Ad,Dr h (by omega)]
    by_cases s:v<=6
    .rw [Am s]
     simp only [cond_true]
     by_cases y:7<a.Deg
     .rw [if_pos y]
      have b:Ac (v+7)=v+7:=by rw [Ac,Bs] <;> omega
      exact .inl ⟨_,rfl,⟨j+1,rfl,by omega,by simp only [b]; omega,by simp only [b]; omega,by simp only [b,es]; omega⟩,by simp; omega⟩
     .rw [if_neg y]
      have b:Ac (v+a.Deg)=v+a.Deg:=by rw [Ac,Bs] <;> omega
      exact .inl ⟨_,rfl,⟨j+1,rfl,by omega,by simp only [b]; omega,by simp only [b]; omega,by simp only [b,es]; omega⟩,by simp; omega⟩
    .rw [As s]
     exact .inl ⟨_,rfl,⟨j+1,rfl,by omega,g0,g13,by simp only [es]; omega⟩,by simp; omega⟩
   .have:j=m.Atoms.length:=by omega
    subst this
    rw [List.take_length] at z
    exact .inr ⟨v,by simp,z⟩
  .intro v l
   refine ⟨(v,g),rfl,?_,q⟩
   by_cases h:F0 data vars res m.Factors+Cl m.Atoms<=6
   .rw [Am h,As (by simp only; omega)]; rfl
   .rw [As h,Am (by simp only; omega)]; rfl
end
end Go.Ab
namespace Go.Ab
open Go
theorem Avb {S E:Type} (F:Bf->Bf->Option Int) (l:List A6) (g:∀y∈l,∀x,F y.Lin x=some (Fc y.Lin x)) {x:A6} {j:Nat} (hx:l[j]? = some x) (i:l.length<4611686018427387904) (c b:Option (S⊕E)) :
  (bif decide ((j:Int)>0) then ((Ag l (Ac ((j:Int)-1))).bind fun f=>(F f.Lin x.Lin).bind fun v28=>bif decide (v28>=0) then c else b) else b)=bif Pm l x j then b else c:=by
 have hj:=Ez hx
 unfold Pm
 by_cases h:j=0
 .subst h; rfl
 .rw [Am (by omega)]
  have e:Ac ((j:Int)-1)=((j-1:Nat):Int):=by rw [Ac,Bs] <;> omega
  have hy:l[j-1]? = some l[j-1]:=Cp (by omega)
  rw [e,Cj rfl hy,hy]
  have h0:(j==0)=false:=by simpa using h
  simp only [cond_true,Ad,h0,Bool.false_or,g _ (List.getElem_mem (by omega:j-1<l.length))]
  by_cases hc:Fc l[j-1].Lin x.Lin<0
  .rw [As (by omega),Am hc]; rfl
  .rw [Am (by omega),As hc]; rfl
section
variable {b1:List (ByteArray×Int)} (b2:List (ByteArray×List Dd)) {data:List A3} {vars:List Ai} {res:Ai}
def U8 (data:List A3) (vars:List Ai) (res:Ai) (l:List B8) (f:B8) (j:Nat):Bool:=!(Fs data vars res f==0)&&Nq (·.Var) l f j
def Nr (l:List A6) (a:A6) (j:Nat):Bool:=!(a.Deg==0)&&C4 a.Lin && !(a.Lin.Terms.length==0)&&Pm l a j
theorem Avc (m:Bd):I4 data vars res m=(Mf data vars res m&&decide (F0 data vars res m.Factors+Cl m.Atoms<=6)&&m.Factors.zipIdx.all (fun q=>U8 data vars res m.Factors q.1 q.2)&&m.Atoms.zipIdx.all (fun q=>Nr m.Atoms q.1 q.2)):=by
 rw [Bool.eq_iff_iff]
 unfold I4 Mf
 rw [<-Ym m.Factors (fun f=>decide (0<=Fs data vars res f)),<-Ym m.Atoms (fun a=>decide (0<=a.Deg)&&Ds vars res a.Lin)]
 simp only [Dq,List.all_eq_true,Ze,Mh,U8,Nr,decide_eq_true_eq,Bool.not_eq_true',beq_eq_false_iff_ne,ne_eq]
 constructor
 .rintro ⟨⟨h1,h2⟩,h3⟩
  refine ⟨⟨⟨⟨fun q hq=>?_,fun q hq=>?_⟩,h3⟩,fun q hq=>?_⟩,fun q hq=>?_⟩
  .have:=(h1 q hq).1; omega
  .have:=h2 q hq; exact ⟨by omega,this.1.2⟩
  .have:=h1 q hq; exact ⟨by omega,this.2⟩
  .have:=h2 q hq; exact ⟨⟨⟨by omega,this.1.1.1.2⟩,this.1.1.2⟩,this.2⟩
 .rintro ⟨⟨⟨⟨h1,h2⟩,h3⟩,c⟩,b⟩
  refine ⟨⟨fun q hq=>?_,fun q hq=>?_⟩,h3⟩
  .have:=h1 q hq; have g:=c q hq; exact ⟨by omega,g.2⟩
  .have:=h2 q hq; have g:=b q hq; exact ⟨⟨⟨⟨by omega,g.1.1.2⟩,g.1.2⟩,this.2⟩,g.2⟩
theorem Avd (hc:R4 data vars res) (hm:Fb data vars res b1) (m:Bd) (i:MSz m) :
  ∃A,Qt m b1 b2 data vars res.Kind res.Num res.Args=some (I4 data vars res m,A)/\Fb data vars res A:=by
 have hf:=i.nf
 have ha:=i.na
 rw [Avc]
 unfold Qt
 obtain ⟨b,p1,Z⟩:=Au7 b2 hc hm m i
 rw [p1]
 cases hp:Mf data vars res m with
 | false=>exact ⟨b,rfl,Z⟩
 | true=>
  obtain ⟨q,q1,q2,Y⟩:=Ava b2 hc Z m i hp
  simp only [Ad,bnt,cond_false,q1,q2]
  cases hs:decide (F0 data vars res m.Factors+Cl m.Atoms<=6) with
  | false=>exact ⟨q.2,rfl,Y⟩
  | true=>
   simp only [bnt,cond_false,Bool.true_and]
   have U:∀f∈m.Factors,(tyX vars res f.Var).isSome=true:=by
    intro f c
    unfold Mf at hp
    rw [Dq,List.all_eq_true] at hp
    have hd:=hp.1 f c
    rw [decide_eq_true_eq] at hd
    unfold Fs at hd
    cases ht:tyX vars res f.Var with
    | none=>rw [ht] at hd; have hd:(0:Int)<=-1:=hd; omega
    | some t=>rfl
   obtain ⟨r,r1,X⟩:=Ack (M:=List (ByteArray×Int)) (R:=Bool×List (ByteArray×Int)) m.Factors (fun q=>U8 data vars res m.Factors q.1 q.2) (fun j o=>((j:Int),o)) (Fb data vars res)
    (fun r=>Fb data vars res r.2/\r.1=m.Atoms.zipIdx.all (fun q=>Nr m.Atoms q.1 q.2)) (fun r=>Fb data vars res r.2/\r.1=false) q.2
    (s0:=((0:Int),q.2))
    (step:=(fun (v9,s)=>
     bif (decide (v9<(m.Factors.length:Int))) then (
     (Ag m.Factors v9).bind fun k=>
     (Lb k.Var k.Index s b2 data vars res.Kind res.Num res.Args).bind fun g=>
     bif (g.1==(0:Int)) then some (.inr (.inl (false,g.2)))
     else (
     bif (decide (v9>(0:Int))) then (
     (Ag m.Factors (Ac (v9-1))).bind fun D=>
     bif (decide (D.Var>=k.Var)) then some (.inr (.inl (false,g.2)))
     else some (.inl ((Ac (v9+1)),g.2)))
     else some (.inl ((Ac (v9+1)),g.2))))
     else some (.inr (.inr s)):Int×List (ByteArray×Int)->Option ((Int×List (ByteArray×Int))⊕((Bool×List (ByteArray×Int))⊕List (ByteArray×Int)))))
    (J:=(fun z=>match z with
     | .inl (N,L)=>some (N,L)
     | .inr l=>(Al (S:=Int) (E:=((Bool×(List (ByteArray×Int)))⊕Unit)) (fun v22=>
       bif (decide (v22<(m.Atoms.length:Int))) then (
       (Ag m.Atoms v22).bind fun v23=>
       (show Option Bool from
       bif (v23.Deg==(0:Int)) then some true
       else (
       (Ho v23.Lin).bind fun v25=>
       bif (!v25) then some true
       else some ((v23.Lin.Terms.length:Int)==(0:Int)))).bind fun v26=>
       bif v26 then some (.inr (.inl (false,l)))
       else (
       bif (decide (v22>(0:Int))) then (
       (Ag m.Atoms (Ac (v22-1))).bind fun B=>
       (Jy B.Lin v23.Lin).bind fun v28=>
       bif (decide (v28>=(0:Int))) then some (.inr (.inl (false,l)))
       else some (.inl (Ac (v22+1))))
       else some (.inl (Ac (v22+1)))))
       else some (.inr (.inr ()))) 0).bind fun z=>match z with
        | .inl (I,G)=>some (I,G)
        | .inr _=>some (true,l)))
    rfl Y (by omega) (by
     intro j f o V hx _ h1 h2 h3
     have c:=Cw hx
     obtain ⟨A,d1,d2⟩:=Adp b2 hc V f (i.fr f c).2 (i.fr f c).1 (i.fi f c) (U f c)
     simp only [h1,h2,h3,cond_true,Ad,d1,Akj (·.Var) m.Factors hx (by omega),U8]
     cases (Fs data vars res f==0) with
     | true=>exact ⟨(fun h=>by cases h),fun _=>⟨_,rfl,_,rfl,d2,rfl⟩⟩
     | false=>
      cases Nq (·.Var) m.Factors f j with
      | true=>exact ⟨fun _=>⟨A,rfl,d2⟩,fun h=>by cases h⟩
      | false=>exact ⟨(fun h=>by cases h),fun _=>⟨_,rfl,_,rfl,d2,rfl⟩⟩) (by
     intro o V h1 _
     refine ⟨.inr o,by simp only [h1]; rfl,?_⟩
     refine ⟨(m.Atoms.zipIdx.all (fun q=>Nr m.Atoms q.1 q.2),o),?_,V,rfl⟩
     refine (Uu m.Atoms (fun q=>Nr m.Atoms q.1 q.2) (fun j=>(j:Int)) rfl (by omega) (rt:=(true,o)) (rf:=(false,o)) ?_ ?_).trans (by cases m.Atoms.zipIdx.all (fun q=>Nr m.Atoms q.1 q.2) <;> rfl)
     .intro j a hx _ h1 h2 h3
      have u:((a.Lin.Terms.length:Int)==(0:Int))=(a.Lin.Terms.length==0):=Atj a.Lin.Terms 0
      simp only [h1,h2,h3,cond_true,Ad,Kv,Avb Jy m.Atoms (fun y hy x=>Zc y.Lin x (by have:=i.al y hy; omega)) hx (by omega),Nr,u]
      cases (a.Deg==0) with
      | true=>exact ⟨(fun h=>by cases h),fun _=>⟨_,rfl,rfl⟩⟩
      | false=>
       cases C4 a.Lin with
       | false=>exact ⟨(fun h=>by cases h),fun _=>⟨_,rfl,rfl⟩⟩
       | true=>
        cases (a.Lin.Terms.length==0) with
        | true=>exact ⟨(fun h=>by cases h),fun _=>⟨_,rfl,rfl⟩⟩
        | false=>
         cases Pm m.Atoms a j with
         | true=>exact ⟨fun _=>rfl,fun h=>by cases h⟩
         | false=>exact ⟨(fun h=>by cases h),fun _=>⟨_,rfl,rfl⟩⟩
     .intro h _; exact ⟨.inr (),by simp only [h]; rfl,rfl⟩)
   refine ⟨r.2,?_,?_⟩
   .have e:some r=some (m.Factors.zipIdx.all (fun q=>U8 data vars res m.Factors q.1 q.2)&&m.Atoms.zipIdx.all (fun q=>Nr m.Atoms q.1 q.2),r.2):=by
     rcases X with ⟨h1,h2,h3⟩ | ⟨h1,h2,h3⟩
     .rw [h1,Bool.true_and,<-h3]
     .rw [h1,Bool.false_and,<-h3]
    rw [<-e]
    exact r1
   .rcases X with ⟨h1,h2,h3⟩ | ⟨h1,h2,h3⟩ <;> exact h2
theorem Ave (l:List B8) (h:∀f∈l,0<=Fs data vars res f):0<=F0 data vars res l:=by
 induction l with
 | nil=>simp [F0]
 | cons x xs ih=>
  have h1:=h x (by simp)
  have h2:=ih (fun f b=>h f (by simp [b]))
  unfold F0 at *
  simp only [List.map_cons,List.sum_cons]
  omega
theorem Akl (l:List A6) (h:∀a∈l,0<=a.Deg):0<=Cl l/\((∀a∈l,a.Deg<=6)->Cl l<=6*l.length)/\∀a∈l,a.Deg<=Cl l:=by
 induction l with
 | nil=>simp [Cl]
 | cons x xs ih=>
  have h1:=h x (by simp)
  obtain ⟨i1,i2,i3⟩:=ih (fun f b=>h f (by simp [b]))
  unfold Cl at *
  simp only [List.map_cons,List.sum_cons,List.length_cons]
  refine ⟨by omega,fun g=>?_,fun a ha=>?_⟩
  .have:=g x (by simp)
   have:=i2 (fun a ha=>g a (by simp [ha]))
   omega
  .rcases List.mem_cons.1 ha with rfl | ha
   .omega
   .have:=i3 a ha; omega
end
end Go.Ab
namespace Go.Ab
open Go
theorem Avf {α:Type} [DecidableEq α] (l m:List α) (b:l.length=m.length):(decide (l=m))=l.zipIdx.all (fun q=>decide (m[q.2]? = some q.1)):=by
 rw [Bool.eq_iff_iff,decide_eq_true_eq]
 constructor
 .rintro rfl
  exact Aiq fun j x hx=>by simpa using hx
 .intro h
  apply List.ext_getElem?
  intro j
  cases hx:l[j]? with
  | none=>rw [List.getElem?_eq_none_iff] at hx; rw [List.getElem?_eq_none (by omega)]
  | some x=>have:=J0 h hx; rw [decide_eq_true_eq] at this; rw [this]
theorem Avg {R:Type} (l m:List Int) (b:l.length<1099511627776) (h:l.length=m.length) {J:Bool⊕Unit->Option R} {rt rf:R} (h1:J (.inl false)=some rf) (h2:J (.inr ())=some rt) :
  (Al (S:=Int) (E:=(Bool⊕Unit)) (fun v3=>bif (decide (v3<(l.length:Int))) then ((Ag l v3).bind fun v4=>(Ag m v3).bind fun v5=>bif (v4 != v5) then some (.inr (.inl false)) else some (.inl (Ac (v3+1)))) else some (.inr (.inr ()))) 0).bind J=some (bif decide (l=m) then rt else rf):=by
 rw [Avf l m h]
 refine Uu l (fun q=>decide (m[q.2]? = some q.1)) (fun j=>(j:Int)) rfl (by omega) (rt:=rt) (rf:=rf) ?_ ?_
 .intro j x hx _ g1 g2 g3
  have hj:j<m.length:=by have:=Ez hx; omega
  have hy:m[j]? = some m[j]:=Cp hj
  generalize m[j]=y at hy
  simp only [g1,g2,g3,cond_true,Ad,Cj rfl hy,hy,Option.some.injEq]
  by_cases e:x=y
  .rw [Ek e,Am e.symm]
   exact ⟨fun _=>rfl,fun h=>by cases h⟩
  .rw [Dx e,As (fun h=>e h.symm)]
   exact ⟨(fun h=>by cases h),fun _=>⟨.inl false,rfl,h1⟩⟩
 .intro h _; exact ⟨.inr (),by simp only [h]; rfl,h2⟩
theorem Akm (l m:List Int) (b:l.length<1099511627776):K8 l m=some (decide (l=m)):=by
 unfold K8
 by_cases h:l.length=m.length
 .rw [Ek (by omega)]
  simp only [cond_false]
  refine (Avg l m b h (rt:=true) (rf:=false) ?_ ?_).trans (by rw [Yo]) <;> rfl
 .rw [Dx (by omega),As (fun e=>h (by rw [e]))]; rfl
def R5 (a b:Ap):Bool:=a.Neg==b.Neg&&decide (a.Num=b.Num)&&decide (a.Den=b.Den)
theorem Akn (a b:Ap):R5 a b=true↔a=b:=by
 unfold R5
 simp only [Dq,beq_iff_eq,decide_eq_true_eq]
 constructor
 .rintro ⟨⟨h1,h2⟩,h3⟩; cases a; cases b; simp_all
 .rintro rfl; simp
def U9 (c:Ap):Bool:=R5 (Bh (sv c) (nv c) (dv c)) c && !(nv c==0)
structure TSz (t:Aj):Prop where
 co:RB 1048576 t.Coef
 mo:MSz t.Mono
def Pn (l:List Aj) (x:Aj) (j:Nat):Bool:=j==0||(match l[j-1]? with | some y=>decide (Cz y.Mono x.Mono<0) | none=>false)
def R6 (data:List A3) (vars:List Ai) (res:Ai) (l:List Aj) (t:Aj) (j:Nat):Bool:=U9 t.Coef&&I4 data vars res t.Mono&&Pn l t j
def I5 (data:List A3) (vars:List Ai) (res:Ai) (p:List Aj):Bool:=decide (p.length<=1000)&&p.zipIdx.all (fun q=>R6 data vars res p q.1 q.2)
theorem Avh {S E:Type} (F:Bd->Bd->Option Int) (l:List Aj) (g:∀y∈l,∀x,F y.Mono x=some (Cz y.Mono x)) {x:Aj} {j:Nat} (hx:l[j]? = some x) (i:l.length<4611686018427387904) (c b:Option (S⊕E)) :
  (bif decide ((j:Int)>0) then ((Ag l (Ac ((j:Int)-1))).bind fun f=>(F f.Mono x.Mono).bind fun v28=>bif decide (v28>=0) then c else b) else b)=bif Pn l x j then b else c:=by
 have hj:=Ez hx
 unfold Pn
 by_cases h:j=0
 .subst h; rfl
 .rw [Am (by omega)]
  have e:Ac ((j:Int)-1)=((j-1:Nat):Int):=by rw [Ac,Bs] <;> omega
  have hy:l[j-1]? = some l[j-1]:=Cp (by omega)
  rw [e,Cj rfl hy,hy]
  have h0:(j==0)=false:=by simpa using h
  simp only [cond_true,Ad,h0,Bool.false_or,g _ (List.getElem_mem (by omega:j-1<l.length))]
  by_cases hc:Cz l[j-1].Mono x.Mono<0
  .rw [As (by omega),Am hc]; rfl
  .rw [Am (by omega),As hc]; rfl
theorem Avi (s:Bool) (n:Nat):(Hj s n==0)=(n==0):=by
 unfold Hj
 by_cases h:n=0
 .rw [if_pos h]; subst h; rfl
 .rw [if_neg h]
  have:(n==0)=false:=by simpa using h
  rw [this]; cases s <;> rfl
theorem Ako {data:List A3} {vars:List Ai} {res:Ai} (hc:R4 data vars res) {b1:List (ByteArray×Int)} (b2:List (ByteArray×List Dd)) (V:Fb data vars res b1) (p:List Aj) (U:∀t∈p,TSz t) :
  ∃B,Tf p b1 b2 data vars res.Kind res.Num res.Args=some (I5 data vars res p,B)/\Fb data vars res B:=by
 unfold Tf I5
 by_cases A:p.length<=1000
 .rw [As (by omega),Am A,Bool.true_and]
  simp only [cond_false]
  obtain ⟨r,X,S⟩:=Ack (M:=List (ByteArray×Int)) (R:=Bool×List (ByteArray×Int)) p (fun q=>R6 data vars res p q.1 q.2) (fun j o=>((j:Int),o)) (Fb data vars res)
   (fun r=>Fb data vars res r.2/\r.1=true) (fun r=>Fb data vars res r.2/\r.1=false) b1
   (s0:=((0:Int),b1))
   (step:=(fun (b,g)=>
    bif (decide (b<(p.length:Int))) then (
    (Ag p b).bind fun v12=>
    (L1 v12.Coef).bind fun f=>
    (show Option Bool from
    bif (f.Neg==v12.Coef.Neg) then (
    (K8 f.Num v12.Coef.Num).bind fun i=>
    bif i then (
    (K8 f.Den v12.Coef.Den).bind fun v17=>
    some v17)
    else some false)
    else some false).bind fun E=>
    bif (!E) then some (.inr (.inl (false,g)))
    else (
    (Hf f).bind fun D=>
    bif (D==(0:Int)) then some (.inr (.inl (false,g)))
    else (
    (Qt v12.Mono g b2 data vars res.Kind res.Num res.Args).bind fun v20=>
    bif (!v20.1) then some (.inr (.inl (false,v20.2)))
    else (
    bif (decide (b>(0:Int))) then (
    (Ag p (Ac (b-1))).bind fun v21=>
    (M3 v21.Mono v12.Mono).bind fun v22=>
    bif (decide (v22>=(0:Int))) then some (.inr (.inl (false,v20.2)))
    else some (.inl ((Ac (b+1)),v20.2)))
    else some (.inl ((Ac (b+1)),v20.2))))))
    else some (.inr (.inr g)):Int×List (ByteArray×Int)->Option ((Int×List (ByteArray×Int))⊕((Bool×List (ByteArray×Int))⊕List (ByteArray×Int)))))
   (J:=(fun z=>match z with
    | .inl (I,G)=>some (I,G)
    | .inr L=>some (true,L)))
   rfl V (by omega) (by
    intro j t o u hx _ h1 h2 h3
    have c:=U t (Cw hx)
    obtain ⟨B,d1,d2⟩:=Avd b2 hc u t.Mono c.mo
    have s:∀l:List Int,l=(Bh (sv t.Coef) (nv t.Coef) (dv t.Coef)).Num\/l=(Bh (sv t.Coef) (nv t.Coef) (dv t.Coef)).Den->l.length<1099511627776:=by
     intro l A
     have q:=Lh (sv t.Coef) (nv t.Coef) (dv t.Coef) 1048577 c.co.nv c.co.dv (by omega)
     have:=q.nl
     have:=q.dl
     rcases A with rfl | rfl <;> omega
    have k:(bif ((Bh (sv t.Coef) (nv t.Coef) (dv t.Coef)).Neg==t.Coef.Neg) then ((K8 (Bh (sv t.Coef) (nv t.Coef) (dv t.Coef)).Num t.Coef.Num).bind fun i=>bif i then ((K8 (Bh (sv t.Coef) (nv t.Coef) (dv t.Coef)).Den t.Coef.Den).bind fun v17=>some v17) else some false) else some false)=some (R5 (Bh (sv t.Coef) (nv t.Coef) (dv t.Coef)) t.Coef):=by
     unfold R5
     rw [Akm _ _ (s _ (.inl rfl)),Akm _ _ (s _ (.inr rfl))]
     cases ((Bh (sv t.Coef) (nv t.Coef) (dv t.Coef)).Neg==t.Coef.Neg) <;> cases decide ((Bh (sv t.Coef) (nv t.Coef) (dv t.Coef)).Num=t.Coef.Num) <;> rfl
    simp only [h1,h2,h3,cond_true,Ad,Acq t.Coef 1048576 c.co (by omega),k,Avh M3 p (fun y hy x=>Akh y.Mono x (U y hy).mo) hx (by omega),R6,U9]
    cases N:R5 (Bh (sv t.Coef) (nv t.Coef) (dv t.Coef)) t.Coef with
    | false=>exact ⟨(fun h=>by cases h),fun _=>⟨_,rfl,_,rfl,u,rfl⟩⟩
    | true=>
     have e:=(Akn _ _).1 N
     simp only [bnt,cond_false,Bool.true_and]
     rw [e,Acr t.Coef 1048576 c.co (by omega),Ad,Avi]
     cases (nv t.Coef==0) with
     | true=>exact ⟨(fun h=>by cases h),fun _=>⟨_,rfl,_,rfl,u,rfl⟩⟩
     | false=>
      simp only [cond_false,d1,Ad,Bool.not_false,Bool.true_and]
      cases I4 data vars res t.Mono with
      | false=>exact ⟨(fun h=>by cases h),fun _=>⟨_,rfl,_,rfl,d2,rfl⟩⟩
      | true=>
       cases Pn p t j with
       | true=>exact ⟨fun _=>⟨B,rfl,d2⟩,fun h=>by cases h⟩
       | false=>exact ⟨(fun h=>by cases h),fun _=>⟨_,rfl,_,rfl,d2,rfl⟩⟩) (by
    intro o u h1 _
    exact ⟨.inr o,by simp only [h1]; rfl,_,rfl,u,rfl⟩)
  refine ⟨r.2,?_,?_⟩
  .have e:some r=some (p.zipIdx.all (fun q=>R6 data vars res p q.1 q.2),r.2):=by
    rcases S with ⟨h1,h2,h3⟩ | ⟨h1,h2,h3⟩
    .rw [h1,<-h3]
    .rw [h1,<-h3]
   rw [<-e]
   exact X
  .rcases S with ⟨h1,h2,h3⟩ | ⟨h1,h2,h3⟩ <;> exact h2
 .rw [Am (by omega),As A]
  exact ⟨b1,rfl,V⟩
structure CSz (x:Bw):Prop where
 ds:DSz x.Data
 nv:x.Vars.length<=1048576
 vs:∀t∈x.Vars,Bu t<=1048576
 rs:Bu x.Res<=1048576
def J5 (data:List A3) (t:Ai):Bool:=Fq data 0 t&&decide (Bu t<=200)
def Ft (x:Bw):Prop:=x.Vars.length<=3000/\Lj x.Data/\J5 x.Data x.Res=true/\x.Vars.all (J5 x.Data)=true
theorem Ft.ctx {x:Bw} (h:Ft x) (c:CSz x):R4 x.Data x.Vars x.Res:=by
 refine ⟨h.2.1,c.ds.sz.short,fun v t ht=>?_,h.1⟩
 have good:∀t,J5 x.Data t=true->Bu t<=200:=fun t h=>by
  simp only [J5,Dq,decide_eq_true_eq] at h; exact h.2
 unfold tyX at ht
 by_cases b:v = -1
 .rw [if_pos b] at ht; cases ht; exact good _ h.2.2.1
 .rw [if_neg b] at ht
  exact good t (List.all_eq_true.1 h.2.2.2 t (Jk ht).2.2.2)
theorem Akp (x:Bw) (g:CSz x) (p:List Aj) (hp:∀t∈p,TSz t):∃b,Oa x p=some b/\(b=true↔Ft x/\I5 x.Data x.Vars x.Res p=true):=by
 obtain ⟨b,b1,b2⟩:=Ajr g.ds
 have I:=g.nv
 have G:=g.rs
 unfold Oa Je
 rw [b1,U1 x.Data x.Res 0 (by omega)]
 by_cases y:x.Vars.length<=3000
 .rw [As (by omega)]
  simp only [cond_false,Ad]
  cases b with
  | false=>exact ⟨false,rfl,by simp; intro h; have:=b2.2 h.2.1; cases this⟩
  | true=>
   have E:=b2.1 rfl
   simp only [bnt,cond_false]
   cases s:(Fq x.Data 0 x.Res&&decide (Bu x.Res<=200)) with
   | false=>exact ⟨false,rfl,by simp; intro h; have:=h.2.2.1; rw [show J5 x.Data x.Res=false from s] at this; cases this⟩
   | true=>
    simp only [bnt,cond_false,Ad]
    rw [Option.bind_assoc]
    refine E8 (fun i=>∃j:Nat,i=j/\j<=x.Vars.length/\(x.Vars.take j).all (J5 x.Data)=true) (fun i=>x.Vars.length-i.toNat)
     (fun z=>match z with | .inl r=>r=false/\¬Ft x | .inr _=>Ft x) ⟨0,rfl,by omega,by simp⟩ ?_ ?_
    .rintro i ⟨j,rfl,hj,c⟩
     rcases Nat.lt_or_ge j x.Vars.length with h | h
     .have ht:x.Vars[j]? = some x.Vars[j]:=Cp h
      generalize x.Vars[j]=t at ht
      have:=g.vs t (Cw ht)
      simp only [Am (by omega:(j:Int)<(x.Vars.length:Int)),cond_true,Cj rfl ht,Ad,U1 x.Data t 0 (by omega),Dr h (by omega)]
      rw [show (Fq x.Data 0 t&&decide (Bu t<=200))=J5 x.Data t from rfl]
      cases A:J5 x.Data t with
      | true=>exact .inl ⟨_,rfl,⟨j+1,rfl,by omega,by rw [Dy ht,List.all_append,c]; simp [A]⟩,by simp; omega⟩
      | false=>
       refine .inr ⟨.inl false,rfl,rfl,fun L=>?_⟩
       have:=List.all_eq_true.1 L.2.2.2 t (Cw ht)
       rw [A] at this; cases this
     .have:j=x.Vars.length:=by omega
      subst this
      rw [List.take_length] at c
      exact .inr ⟨.inr (),by simp,y,E,s,c⟩
    .rintro (r | u) f
     .obtain ⟨rfl,f⟩:=f
      exact ⟨false,rfl,by simp [f]⟩
     .have B:Ft x:=f
      have J:Fb x.Data x.Vars x.Res []:=fun q h=>by cases h
      obtain ⟨D,l,M⟩:=Ako (B.ctx g) [] J p hp
      cases k:I5 x.Data x.Vars x.Res p with
      | true=>
       rw [k] at l
       refine ⟨true,?_,by simp [B]⟩
       simp only
       rw [Option.bind_assoc]
       refine G5 1 (fun j=>match j with | 0=>((0:Int),[]) | _=>((1:Int),D)) rfl ?_ ⟨.inr D,rfl,rfl⟩
       intro j hj
       match j,hj with
       | 0,_=>
        show (bif decide ((0:Int)<1) then _ else _)=_
        simp only [Am (by omega:(0:Int)<1),cond_true]
        rw [show Ag [p] 0=some p from rfl,Ad,l]; rfl
      | false=>
       rw [k] at l
       refine ⟨false,?_,by simp⟩
       simp only
       rw [Option.bind_assoc]
       refine G5 0 (fun _=>((0:Int),[])) rfl (fun j hj=>by omega) ⟨.inl false,?_,rfl⟩
       show (bif decide ((0:Int)<1) then _ else _)=_
       simp only [Am (by omega:(0:Int)<1),cond_true]
       rw [show Ag [p] 0=some p from rfl,Ad,l]; rfl
 .rw [Am (by omega)]
  exact ⟨false,rfl,by simp; intro h; exact absurd h.1 y⟩
end Go.Ab
namespace Go.Ab
open Go
end Go.Ab
namespace Go.Ab
open Go
end Go.Ab
namespace Go.Ab
open Go
end Go.Ab
namespace Go.Ab
open Go
end Go.Ab
namespace Go.Ab
open Go
theorem Avj {data:List A3} {vars:List Ai} {res:Ai} {m:Bd} (h:I4 data vars res m=true):(∀f∈m.Factors,∃t,tyX vars res f.Var=some t)/\m.Factors.length<=6:=by
 unfold I4 at h
 simp only [Dq,decide_eq_true_eq] at h
 obtain ⟨⟨h1,h2⟩,h3⟩:=h
 have b:∀f∈m.Factors,1<=Fs data vars res f:=by
  intro f b
  obtain ⟨j,hj⟩:=List.getElem?_of_mem b
  have:=J0 h1 hj
  simp only [Ze,Dq,decide_eq_true_eq] at this
  exact this.1
 have ha:0<=Cl m.Atoms:=(Akl m.Atoms (fun a ha=>by
  obtain ⟨j,hj⟩:=List.getElem?_of_mem ha
  have:=J0 h2 hj
  simp only [Mh,Dq,decide_eq_true_eq] at this
  omega)).1
 refine ⟨fun f c=>?_,?_⟩
 .have:=b f c
  unfold Fs at this
  cases ht:tyX vars res f.Var with
  | none=>rw [ht] at this; have:(1:Int)<=-1:=this; omega
  | some t=>exact ⟨t,rfl⟩
 .have key:∀l:List B8,(∀f∈l,1<=Fs data vars res f)->(l.length:Int)<=F0 data vars res l:=by
   intro l
   induction l with
   | nil=>intro _; simp [F0]
   | cons f fs ih=>
    intro i
    have h1:=i f (by simp)
    have h2:=ih (fun g k=>i g (by simp [k]))
    unfold F0 at *
    simp only [List.map_cons,List.sum_cons,List.length_cons]; omega
  have:=key m.Factors b
  omega
theorem Avk (a b:Ap) (j k:Nat) (ha:RB j a) (hb:RB k b) (hj:j<34359738000) (hk:k<34359738000):∃c,Lw a b=some c/\Oj a b=some c/\RB (j+k+3) c:=by
 refine ⟨_,Acv a b j k ha hb (by omega) (by omega),Ai6 a b j k ha hb (by omega) (by omega),?_⟩
 have h1:=ha.nv
 have h2:=ha.dv
 have h3:=hb.nv
 have s:=hb.dv
 have q:=Hi (nv a) (dv b)
 have l:=Hi (nv b) (dv a)
 have i:=Hi (dv a) (dv b)
 have f:Hr (sv a) (nv a) (dv a) (sv b) (nv b) (dv b)<=nv a*dv b+nv b*dv a:=by
  unfold Hr
  split
  .omega
  .split <;> omega
 have h:=G4 f
 have g:=Yl (nv a*dv b) (nv b*dv a)
 exact Lh _ _ _ _ (by omega) (by omega) (by omega)
end Go.Ab
namespace Go.Ab
open Go
end Go.Ab
namespace Go.Ab
open Go
theorem Avl (k:Nat):RB k ⟨false,[],[]⟩:=⟨(fun _ h=>by cases h),(fun _ h=>by cases h),by simp,by simp⟩
end Go.Ab
namespace Go.Ab
open Go
end Go.Ab
namespace Go.Ab
open Go
def sg (s:Bool) (n:Nat):Int:=if s then -(n:Int) else n
def rq (a:Ap):Rat:=mkRat (sg (sv a) (nv a)) (dv a)
def I6 (a:Ap):Prop:=a=Bh (sv a) (nv a) (dv a)
theorem Mi (s:Bool) (n d:Nat) (hd:d≠0):rq (Bh s n d)=mkRat (sg s n) d:=by
 obtain ⟨g,f,h1,h2,h3,i⟩:=Yy s n d hd
 unfold rq
 rw [Rat.mkRat_eq_iff (Ev _) hd]
 generalize nv (Bh s n d)=b at *
 generalize dv (Bh s n d)=j at *
 generalize sv (Bh s n d)=s' at *
 by_cases c:n=0
 .have:b=0:=by
   rcases Nat.eq_zero_or_pos b with h | h
   .exact h
   .have:=Nat.mul_pos (Nat.pos_of_ne_zero f) h; omega
  subst this; subst c
  cases s <;> cases s' <;> simp [sg]
 .rw [h3 c,h1,h2]
  cases s <;> simp only [sg,if_true,if_false,Bool.false_eq_true,Int.natCast_mul] <;> grind
theorem Va (s:Bool) (n d:Nat) (hd:d≠0):I6 (Bh s n d):=by
 obtain ⟨g,b,h1,h2,h3,i⟩:=Yy s n d hd
 unfold I6
 generalize hc:Bh s n d=c at h1 h2 h3 i
 have e:=Pe s (nv c) (dv c) g b
 rw [<-h1,<-h2,hc] at e
 by_cases f:n=0
 .have h0:nv c=0:=by
   rcases Nat.eq_zero_or_pos (nv c) with h | h
   .exact h
   .have:=Nat.mul_pos (Nat.pos_of_ne_zero b) h; omega
  rw [h0,Rt] at e ⊢
  exact e
 .rw [h3 f]; exact e
theorem Akq (n m:Int) {d e:Nat} (hd:d≠0) (g:e≠0):mkRat n d<mkRat m e↔n*e<m*d:=by
 have c:(0:Rat)<(d:Rat):=Rat.natCast_pos.2 (by omega)
 have b:(0:Rat)<(e:Rat):=Rat.natCast_pos.2 (by omega)
 rw [Rat.mkRat_eq_div,Rat.mkRat_eq_div,Rat.div_lt_iff c]
 rw [<-Rat.mul_lt_mul_right b]
 have f:(m:Rat) / (e:Rat)*(d:Rat)*(e:Rat)=(m:Rat)*(d:Rat):=by grind
 rw [f]
 have a1:(n:Rat)*(e:Rat)=((n*(e:Int):Int):Rat):=by rw [Rat.intCast_mul]; rfl
 have a2:(m:Rat)*(d:Rat)=((m*(d:Int):Int):Rat):=by rw [Rat.intCast_mul]; rfl
 rw [a1,a2,Rat.intCast_lt_intCast]
theorem Akr {a b:Ap} (ha:I6 a) (hb:I6 b) (h:rq a=rq b):a=b:=by
 unfold rq at h
 rw [Rat.mkRat_eq_iff (Ev _) (Ev _)] at h
 rw [ha,hb]
 have q:=Ev a
 have l:=Ev b
 generalize nv a=n at *
 generalize dv a=d at *
 generalize sv a=s at *
 generalize nv b=m at *
 generalize dv b=e at *
 generalize sv b=t at *
 have f:n*e=m*d/\(n≠0->s=t):=by
  have c:n≠0->0<n*e:=fun h=>Nat.mul_pos (by omega) (by omega)
  have g:m≠0->0<m*d:=fun h=>Nat.mul_pos (by omega) (by omega)
  have x:((n*e:Nat):Int)=(n:Int)*e:=by simp
  have u:((m*d:Nat):Int)=(m:Int)*d:=by simp
  cases s <;> cases t <;> simp only [sg,if_true,if_false,Bool.false_eq_true,Int.neg_mul] at h
  .exact ⟨by omega,fun _=>rfl⟩
  .have:n*e=0/\m*d=0:=by omega
   refine ⟨by omega,fun i=>?_⟩
   have:=c i; omega
  .have:n*e=0/\m*d=0:=by omega
   refine ⟨by omega,fun i=>?_⟩
   have:=c i; omega
  .exact ⟨by omega,fun _=>rfl⟩
 have k:=Pe s n d e l
 have j:=Pe t m e d q
 rw [<-k,<-j,Nat.mul_comm e n,f.1,Nat.mul_comm e d,Nat.mul_comm m d]
 refine Ai0 fun h0=>f.2 ?_
 rintro rfl
 rw [Nat.zero_mul] at f
 have:=f.1
 rw [Nat.mul_comm d m] at h0
 omega
theorem Avm (j:Bool) (c g:Nat) (i:Bool) (b f:Nat):sg (Kq j c g i b f) (Hr j c g i b f)=sg j c*f+sg i b*g:=by
 unfold Kq Hr sg
 have l:((c*f:Nat):Int)=(c:Int)*f:=by simp
 have k:((b*g:Nat):Int)=(b:Int)*g:=by simp
 cases j <;> cases i <;> simp only [if_true,if_false,Bool.false_eq_true,Bool.true_eq_false,Int.neg_mul]
 .omega
 .by_cases h:b*g<=c*f
  .simp only [if_pos h]; simp only [if_false,Bool.false_eq_true]; omega
  .simp only [if_neg h]; simp only [if_true]; omega
 .by_cases h:b*g<=c*f
  .simp only [if_pos h]; simp only [if_true]; omega
  .simp only [if_neg h]; simp only [if_false,Bool.false_eq_true]; omega
 .omega
theorem Avn {a b:Ap} {j k:Nat} (ha:RB j a) (hb:RB k b) (hj:j<34359738000) (hk:k<34359738000):∃c,Lw a b=some c/\Oj a b=some c/\RB (j+k+3) c/\I6 c/\rq c=rq a+rq b:=by
 obtain ⟨c,h1,h2,h3⟩:=Avk a b j k ha hb hj hk
 have e:=Acv a b j k ha hb (by omega) (by omega)
 rw [h1] at e
 have e:=Option.some.inj e
 have hd:dv a*dv b≠0:=Nat.mul_ne_zero (Ev a) (Ev b)
 refine ⟨c,h1,h2,h3,?_,?_⟩
 .rw [e]; exact Va _ _ _ hd
 .rw [e,Mi _ _ _ hd,Avm,rq,rq,Rat.mkRat_add_mkRat _ _ (Ev a) (Ev b)]
theorem Avo (s t:Bool) (n m:Nat):sg (s != t) (n*m)=sg s n*sg t m:=by
 unfold sg
 cases s <;> cases t <;> simp [Int.neg_mul,Int.mul_neg]
theorem Adq {a b:Ap} {j k:Nat} (ha:RB j a) (hb:RB k b) (hj:j<34359738000) (hk:k<34359738000):∃c,G0 a b=some c/\RB (j+k+2) c/\I6 c/\rq c=rq a*rq b:=by
 have hd:dv a*dv b≠0:=Nat.mul_ne_zero (Ev a) (Ev b)
 have h1:=ha.nv
 have h2:=ha.dv
 have h3:=hb.nv
 have h:=hb.dv
 have g:=Hi (nv a) (nv b)
 have f:=Hi (dv a) (dv b)
 refine ⟨_,Acu a b j k ha hb (by omega) (by omega),Lh _ _ _ _ (by omega) (by omega) (by omega),Va _ _ _ hd,?_⟩
 rw [Mi _ _ _ hd,Avo,rq,rq,Rat.mkRat_mul_mkRat]
def Ns (x:Rat):Int:=if x<0 then -1 else if 0<x then 1 else 0
theorem Avp (a:Ap):rq a<0↔Hj (sv a) (nv a) = -1:=by
 have e:(0:Rat)=mkRat 0 1:=by simp
 rw [rq,e,Akq _ _ (Ev a) (by decide)]
 unfold sg Hj
 split <;> split <;> simp <;> omega
theorem Avq (a:Ap):0<rq a↔Hj (sv a) (nv a)=1:=by
 have e:(0:Rat)=mkRat 0 1:=by simp
 rw [rq,e,Akq _ _ (by decide) (Ev a)]
 unfold sg Hj
 split <;> split <;> simp <;> omega
theorem Avr (a:Ap):Hj (sv a) (nv a)=Ns (rq a):=by
 have h1:=Avp a
 have h2:=Avq a
 have h3:Hj (sv a) (nv a) = -1\/Hj (sv a) (nv a)=0\/Hj (sv a) (nv a)=1:=by unfold Hj; split <;> (try split) <;> simp
 unfold Ns
 split
 .rename_i h; exact h1.1 h
 .rename_i h
  split
  .rename_i h'; exact h2.1 h'
  .rename_i h'
   rcases h3 with h3 | h3 | h3
   .exact (h (h1.2 h3)).elim
   .exact h3
   .exact (h' (h2.2 h3)).elim
theorem Aks {a:Ap} {k:Nat} (h:RB k a) (hk:k<34359738000):Hf a=some (Ns (rq a))/\Ql a=some (Ns (rq a)):=by
 rw [<-Avr]
 exact ⟨Acr a k h (by omega),Ai7 a k h (by omega)⟩
end Go.Ab
namespace Go.Ab
open Go
structure D5 {α:Type} (S:α->Prop) (g:α->α->Int):Prop where
 zero:∀a b,S a->S b->(g a b=0↔a=b)
 anti:∀a b,S a->S b->g b a = - g a b
 trans:∀a b c,S a->S b->S c->g a b<0->g b c<0->g a c<0
theorem D5.cmpI:D5 (fun _:Int=>True) Df:=by
 refine ⟨fun a b _ _=>E3,fun a b _ _=>?_,fun a b c _ _ _=>?_⟩
 .unfold Go.Ab.Df; split <;> split <;> (try split) <;> (try split) <;> omega
 .unfold Go.Ab.Df; intro h1 h2; split at h1 <;> (try split at h1) <;> split at h2 <;> (try split at h2) <;> first | omega | (rw [if_pos (by omega)]; decide)
theorem Akt {x y:Int}:Dh x y<0↔x<0\/(x=0/\y<0):=by unfold Dh; split <;> omega
theorem Aku {x y:Int}:Dh x y=0↔x=0/\y=0:=by unfold Dh; split <;> omega
theorem D5.or {α β γ:Type} {S:α->Prop} {s:β->Prop} {l:γ->Prop} {j:β->β->Int} {i:γ->γ->Int} (p:α->β) (q:α->γ) (g:∀a b,p a=p b->q a=q b->a=b) (h1:D5 s j) (h2:D5 l i) (f:∀a,S a->s (p a)/\l (q a)) :
  D5 S (fun a b=>Dh (j (p a) (p b)) (i (q a) (q b))):=by
 refine ⟨fun a b ha hb=>?_,fun a b ha hb=>?_,fun a b c ha hb hc=>?_⟩
 .rw [Aku,h1.zero _ _ (f a ha).1 (f b hb).1,h2.zero _ _ (f a ha).2 (f b hb).2]
  exact ⟨fun h=>g a b h.1 h.2,fun h=>by subst h; exact ⟨rfl,rfl⟩⟩
 .show Dh (j (p b) (p a)) (i (q b) (q a)) = - Dh (j (p a) (p b)) (i (q a) (q b))
  have z:=h1.anti _ _ (f a ha).1 (f b hb).1
  have y:=h2.anti _ _ (f a ha).2 (f b hb).2
  rw [z,y]; unfold Dh; split <;> split <;> omega
 .show Dh _ _<0->Dh _ _<0->Dh _ _<0
  simp only [Akt]
  have u:=h1.zero _ _ (f a ha).1 (f b hb).1
  have z2:=h1.zero _ _ (f b hb).1 (f c hc).1
  have t1:=h1.trans _ _ _ (f a ha).1 (f b hb).1 (f c hc).1
  have t2:=h2.trans _ _ _ (f a ha).2 (f b hb).2 (f c hc).2
  rintro (h | ⟨h,h'⟩) (k | ⟨k,x⟩)
  .exact .inl (t1 h k)
  .rw [<-z2.1 k]; exact .inl h
  .rw [u.1 h]; exact .inl k
  .rw [<-z2.1 k,h]; exact .inr ⟨rfl,t2 h' x⟩
theorem D5.mono {α:Type} {S i:α->Prop} {g:α->α->Int} (h:D5 S g) (f:∀a,i a->S a):D5 i g :=
 ⟨fun a b ha hb=>h.zero a b (f a ha) (f b hb),fun a b ha hb=>h.anti a b (f a ha) (f b hb),fun a b c ha hb hc=>h.trans a b c (f a ha) (f b hb) (f c hc)⟩
theorem D5.congr {α:Type} {S:α->Prop} {g c:α->α->Int} (h:D5 S g) (e:∀a b,c a b=g a b):D5 S c:=by
 have:c=g:=funext fun a=>funext fun b=>e a b
 rw [this]; exact h
def LL {α:Type} (g:α->α->Int) (l m:List α):Int:=if l.length=m.length then D4 g l m else Go.Ab.Df l.length m.length
theorem Akv {α:Type} {S:α->Prop} {g:α->α->Int} (h:D5 S g):∀l m:List α,l.length=m.length->(∀x∈l,S x)->(∀x∈m,S x)->(D4 g l m=0↔l=m)
 | [],[],_,_,_=>by simp [D4]
 | x::xs,y::ys,b,h1,h2=>by
  simp only [D4,Aku,h.zero x y (h1 x (by simp)) (h2 y (by simp)),Akv h xs ys (by simpa using b) (fun z c=>h1 z (by simp [c])) (fun z c=>h2 z (by simp [c])),List.cons.injEq]
 | [],_::_,b,_,_=>by simp at b
 | _::_,[],b,_,_=>by simp at b
theorem Akw {α:Type} {S:α->Prop} {g:α->α->Int} (h:D5 S g):∀l m:List α,l.length=m.length->(∀x∈l,S x)->(∀x∈m,S x)->D4 g m l = - D4 g l m
 | [],[],_,_,_=>by simp [D4]
 | x::xs,y::ys,b,h1,h2=>by
  simp only [D4,h.anti x y (h1 x (by simp)) (h2 y (by simp)),Akw h xs ys (by simpa using b) (fun z c=>h1 z (by simp [c])) (fun z c=>h2 z (by simp [c]))]
  unfold Dh; split <;> split <;> omega
 | [],_::_,b,_,_=>by simp at b
 | _::_,[],b,_,_=>by simp at b
theorem Akx {α:Type} {S:α->Prop} {g:α->α->Int} (h:D5 S g):∀l m n:List α,l.length=m.length->m.length=n.length->(∀x∈l,S x)->(∀x∈m,S x)->(∀x∈n,S x)->D4 g l m<0->D4 g m n<0->D4 g l n<0
 | [],[],_,_,_,_,_,_=>by intro h; simp [D4] at h
 | x::xs,y::ys,z::j,f,i,h1,h2,h3=>by
  simp only [D4,Akt]
  have k:=h.zero x y (h1 x (by simp)) (h2 y (by simp))
  have z2:=h.zero y z (h2 y (by simp)) (h3 z (by simp))
  have t1:=h.trans x y z (h1 x (by simp)) (h2 y (by simp)) (h3 z (by simp))
  have t2:=Akx h xs ys j (by simpa using f) (by simpa using i) (fun z c=>h1 z (by simp [c])) (fun z c=>h2 z (by simp [c])) (fun z c=>h3 z (by simp [c]))
  rintro (a | ⟨a,s⟩) (b | ⟨b,q⟩)
  .exact .inl (t1 a b)
  .rw [<-z2.1 b]; exact .inl a
  .rw [k.1 a]; exact .inl b
  .rw [<-z2.1 b,a]; exact .inr ⟨rfl,t2 s q⟩
 | _::_,_::_,[],_,i,_,_,_=>by simp at i
 | [],_::_,_,f,_,_,_,_=>by simp at f
 | _::_,[],_,f,_,_,_,_=>by simp at f
theorem D5.ll {α:Type} {S:α->Prop} {g:α->α->Int} (h:D5 S g):D5 (fun l=>∀x∈l,S x) (LL g):=by
 have c:=D5.cmpI
 refine ⟨fun a b ha hb=>?_,fun a b ha hb=>?_,fun x y z hx hy q=>?_⟩
 .unfold LL
  split
  .rename_i i; exact Akv h a b i ha hb
  .rename_i i
   rw [E3]
   exact ⟨fun e=>(i (by omega)).elim,fun e=>(i (by rw [e])).elim⟩
 .unfold LL
  by_cases i:a.length=b.length
  .rw [if_pos i,if_pos i.symm]; exact Akw h a b i ha hb
  .rw [if_neg i,if_neg (fun e=>i e.symm)]; exact c.anti _ _ trivial trivial
 .unfold LL
  intro h1 h2
  have neg:∀a b:Int,Go.Ab.Df a b<0->a<b:=by intro a b h; unfold Go.Ab.Df at h; split at h <;> (try split at h) <;> omega
  have f:∀a b:Int,a<b->Go.Ab.Df a b<0:=by intro a b h; unfold Go.Ab.Df; rw [if_pos h]; decide
  by_cases k:x.length=y.length
  .rw [if_pos k] at h1
   by_cases j:y.length=z.length
   .rw [if_pos j] at h2; rw [if_pos (by omega)]; exact Akx h x y z k j hx hy q h1 h2
   .rw [if_neg j] at h2; rw [if_neg (by omega)]
    have:=neg _ _ h2; exact f _ _ (by omega)
  .rw [if_neg k] at h1
   have:=neg _ _ h1
   by_cases j:y.length=z.length
   .rw [if_neg (by omega)]; exact f _ _ (by omega)
   .rw [if_neg j] at h2
    have:=neg _ _ h2
    rw [if_neg (by omega)]; exact f _ _ (by omega)
theorem Aky {α:Type} (g:α->α->Int) (l m:List α) (y:Int):Dh (LL g l m) y=if l.length=m.length then Dh (D4 g l m) y else Go.Ab.Df l.length m.length:=by
 unfold LL
 by_cases h:l.length=m.length
 .rw [if_pos h,if_pos h]
 .rw [if_neg h,if_neg h]
  unfold Dh
  rw [if_neg (fun e=>h (by have:=E3.1 e; omega))]
theorem Avs:D5 (fun _=>True) J3 :=
 (D5.or (S:=fun _=>True) (fun t:Ba=>t.Var) (fun t=>t.Coef) (fun a b h1 h2=>by cases a; cases b; cases h1; cases h2; rfl) D5.cmpI D5.cmpI (fun _ _=>⟨trivial,trivial⟩)).congr fun _ _=>rfl
theorem Hm:D5 (fun _=>True) Fc :=
 (D5.or (S:=fun _=>True) (fun t:Bf=>t.Terms) (fun t=>t.Const) (fun a b h1 h2=>by cases a; cases b; cases h1; cases h2; rfl) Avs.ll D5.cmpI (fun _ _=>⟨fun _ _=>trivial,trivial⟩)).congr fun a b=>by
  show Fc a b=Dh (LL J3 a.Terms b.Terms) (Go.Ab.Df a.Const b.Const)
  rw [Aky]; rfl
theorem Avt (i j:Bp):Hk i j=Dh (Go.Ab.Df i.Num j.Num) (LL Hk i.Kids j.Kids):=by
 rw [Adn,Zd]
 unfold Dh LL
 by_cases h:i.Num=j.Num
 .rw [if_pos h,if_pos (E3.2 h)]
 .rw [if_neg h,if_neg (fun e=>h (E3.1 e))]
theorem Adr:∀n:Nat,D5 (fun i=>Dl i<=n) Hk:=by
 intro n
 induction n with
 | zero=>exact ⟨fun a _ ha=>by have:=Gt a; omega,fun a _ ha=>by have:=Gt a; omega,fun a _ _ ha=>by have:=Gt a; omega⟩
 | succ n ih=>
  refine (D5.or (S:=fun i=>Dl i<=n+1) (fun i:Bp=>i.Num) (fun i=>i.Kids) (fun a b h1 h2=>by cases a; cases b; cases h1; cases h2; rfl) D5.cmpI ih.ll ?_).congr Avt
  intro i c
  refine ⟨trivial,fun x hx=>?_⟩
  have h1:=Pj hx
  have h2:=Gt i
  show Dl x<=n
  omega
theorem Avu:D5 (fun _=>True) Hk :=
 ⟨fun a b _ _=>(Adr (max (Dl a) (Dl b))).zero a b (by show Dl a<=_; omega) (by show Dl b<=_; omega),fun a b _ _=>(Adr (max (Dl a) (Dl b))).anti a b (by show Dl a<=_; omega) (by show Dl b<=_; omega),
  fun a b c _ _ _=>(Adr (max (Dl a) (max (Dl b) (Dl c)))).trans a b c (by show Dl a<=_; omega) (by show Dl b<=_; omega) (by show Dl c<=_; omega)⟩
theorem Avv:D5 (fun _=>True) J4 :=
 (D5.or (S:=fun _=>True) (fun t:B8=>t.Var) (fun t=>t.Index) (fun a b h1 h2=>by cases a; cases b; cases h1; cases h2; rfl) D5.cmpI Avu (fun _ _=>⟨trivial,trivial⟩)).congr fun _ _=>rfl
theorem Avw:D5 (fun _=>True) Ku :=
 (D5.or (S:=fun _=>True) (fun t:A6=>t.Lin) (fun t=>t.Deg) (fun a b h1 h2=>by cases a; cases b; cases h1; cases h2; rfl) Hm D5.cmpI (fun _ _=>⟨trivial,trivial⟩)).congr fun _ _=>rfl
theorem Ads:D5 (fun _=>True) Cz :=
 (D5.or (S:=fun _=>True) (fun t:Bd=>t.Factors) (fun t=>t.Atoms) (fun a b h1 h2=>by cases a; cases b; cases h1; cases h2; rfl) Avv.ll Avw.ll (fun _ _=>⟨fun _ _=>trivial,fun _ _=>trivial⟩)).congr fun a b=>by
  show Cz a b=Dh (LL J4 a.Factors b.Factors) (LL Ku a.Atoms b.Atoms)
  rw [Aky]; rfl
theorem Kw {a b:Bd}:Cz a b=0↔a=b:=Ads.zero a b trivial trivial
theorem R7 (a b:Bd):Cz b a = - Cz a b:=Ads.anti a b trivial trivial
theorem R8 {a b c:Bd} (h:Cz a b<0) (h':Cz b c<0):Cz a c<0:=Ads.trans a b c trivial trivial trivial h h'
end Go.Ab
namespace Go.Ab
open Go
theorem Adt (m:Bd):Cz m m=0:=Kw.2 rfl
theorem Adu {a b:Bd}:0<Cz a b↔Cz b a<0:=by rw [R7 a b]; omega
def cf:List Aj->Bd->Rat
 | [],_=>0
 | t::p,m=>(if Cz t.Mono m=0 then rq t.Coef else 0)+cf p m
def ltT (t u:Aj):Prop:=Cz t.Mono u.Mono<0
structure CP (p:List Aj):Prop where
 srt:p.Pairwise ltT
 coe:∀t∈p,I6 t.Coef/\rq t.Coef≠0
theorem CP.tail {t:Aj} {p:List Aj} (h:CP (t::p)):CP p:=⟨(List.pairwise_cons.1 h.srt).2,fun u hu=>h.coe u (by simp [hu])⟩
theorem CP.head {t:Aj} {p:List Aj} (h:CP (t::p)):∀u∈p,Cz t.Mono u.Mono<0:=(List.pairwise_cons.1 h.srt).1
theorem CP.nil:CP []:=⟨List.Pairwise.nil,fun _ h=>by cases h⟩
theorem CP.cons {t:Aj} {p:List Aj} (h:CP p) (h1:∀u∈p,Cz t.Mono u.Mono<0) (h2:I6 t.Coef) (h3:rq t.Coef≠0):CP (t::p) :=
 ⟨List.pairwise_cons.2 ⟨h1,h.srt⟩,fun u hu=>by
  rcases List.mem_cons.1 hu with rfl | hu
  .exact ⟨h2,h3⟩
  .exact h.coe u hu⟩
theorem Akz {p:List Aj} {m:Bd} (h:∀t∈p,Cz t.Mono m≠0):cf p m=0:=by
 induction p with
 | nil=>rfl
 | cons t p ih=>
  simp only [cf]
  rw [if_neg (h t (by simp)),ih (fun u hu=>h u (by simp [hu]))]; grind
theorem Po {p:List Aj} {m:Bd} (h:∀t∈p,Cz m t.Mono<0):cf p m=0 :=
 Akz fun t ht e=>by have:=h t ht; rw [R7,e] at this; omega
theorem Pp {t:Aj} {p:List Aj} (h:CP (t::p)):cf (t::p) t.Mono=rq t.Coef:=by
 simp only [cf]
 rw [if_pos (Adt _),Po h.head]; grind
theorem Adv {t:Aj} {p:List Aj} {m:Bd} (h:Cz t.Mono m≠0):cf (t::p) m=cf p m:=by
 simp only [cf]; rw [if_neg h]; grind
theorem R9 (p q:List Aj) (m:Bd):cf (p++q) m=cf p m+cf q m:=by
 induction p with
 | nil=>simp only [List.nil_append,cf]; grind
 | cons t p ih=>simp only [List.cons_append,cf,ih]; grind
theorem Zf {p:List Aj} (h:CP p) {t:Aj} (ht:t∈p):cf p t.Mono=rq t.Coef:=by
 induction p with
 | nil=>cases ht
 | cons u p ih=>
  rcases List.mem_cons.1 ht with rfl | ht
  .exact Pp h
  .have:=h.head t ht
   rw [Adv (by omega)]; exact ih h.tail ht
theorem CP.ext:∀{p q:List Aj},CP p->CP q->(∀m,cf p m=cf q m)->p=q
 | [],[],_,_,_=>rfl
 | [],u::q,_,h2,h=>by
  have:=h u.Mono
  rw [Pp h2] at this
  exact ((h2.coe u (by simp)).2 this.symm).elim
 | t::p,[],h1,_,h=>by
  have:=h t.Mono
  rw [Pp h1] at this
  exact ((h1.coe t (by simp)).2 this).elim
 | t::p,u::q,h1,h2,h=>by
  have b:Cz t.Mono u.Mono=0:=by
   rcases Int.lt_trichotomy (Cz t.Mono u.Mono) 0 with k | k | k
   .have e:=h t.Mono
    rw [Pp h1,Po (p:=u::q)] at e
    .exact ((h1.coe t (by simp)).2 e).elim
    .intro w hw
     rcases List.mem_cons.1 hw with rfl | hw
     .exact k
     .exact R8 k (h2.head w hw)
   .exact k
   .have k:=Adu.1 k
    have e:=h u.Mono
    rw [Pp h2,Po (p:=t::p)] at e
    .exact ((h2.coe u (by simp)).2 e.symm).elim
    .intro w hw
     rcases List.mem_cons.1 hw with rfl | hw
     .exact k
     .exact R8 k (h1.head w hw)
  have c:=Kw.1 b
  have hc:t.Coef=u.Coef:=by
   refine Akr (h1.coe t (by simp)).1 (h2.coe u (by simp)).1 ?_
   have e:=h t.Mono
   rw [Pp h1,c,Pp h2] at e
   exact e
  have ht:t=u:=by cases t; cases u; simp_all
  subst ht
  congr 1
  refine CP.ext h1.tail h2.tail fun m=>?_
  by_cases e:Cz t.Mono m=0
  .rw [<-Kw.1 e,Po h1.head,Po h2.head]
  .have:=h m
   rwa [Adv e,Adv e] at this
theorem Ak0 (c:Ap):U9 c=true↔I6 c/\rq c≠0:=by
 unfold U9 I6
 rw [Dq,Akn]
 have h:(!(nv c==0))=true↔rq c≠0:=by
  have e:rq c=0↔nv c=0:=by
   unfold rq
   rw [Rat.mkRat_eq_zero (Ev c)]
   unfold sg; split <;> omega
  rw [Ne,e]; simp
 rw [h]
 exact ⟨fun ⟨a,b⟩=>⟨a.symm,b⟩,fun ⟨a,b⟩=>⟨a.symm,b⟩⟩
theorem Avx {l:List Aj} (h:∀(j:Nat) (x y:Aj),l[j]? = some x->l[j+1]? = some y->Cz x.Mono y.Mono<0):l.Pairwise ltT:=by
 induction l with
 | nil=>exact List.Pairwise.nil
 | cons t l ih=>
  have ih:=ih fun j x y hx hy=>h (j+1) x y (by simpa using hx) (by simpa using hy)
  refine List.pairwise_cons.2 ⟨?_,ih⟩
  cases l with
  | nil=>intro u hu; cases hu
  | cons v l=>
   have h0:=h 0 t v rfl rfl
   intro u hu
   rcases List.mem_cons.1 hu with rfl | hu
   .exact h0
   .exact R8 h0 ((List.pairwise_cons.1 ih).1 u hu)
theorem Zg {data:List A3} {vars:List Ai} {res:Ai} {p:List Aj}:I5 data vars res p=true↔p.length<=1000/\CP p/\∀t∈p,I4 data vars res t.Mono=true:=by
 unfold I5
 rw [Dq,decide_eq_true_eq]
 constructor
 .rintro ⟨h1,h2⟩
  have g:∀(j:Nat) (t:Aj),p[j]? = some t->U9 t.Coef=true/\I4 data vars res t.Mono=true/\Pn p t j=true:=by
   intro j t hj
   have:=J0 h2 hj
   simp only [R6,Dq] at this
   exact ⟨this.1.1,this.1.2,this.2⟩
  refine ⟨h1,⟨Avx fun j x y hx hy=>?_,fun t ht=>?_⟩,fun t ht=>?_⟩
  .have:=(g _ _ hy).2.2
   unfold Pn at this
   rw [show j+1-1=j by omega,hx] at this
   simpa using this
  .obtain ⟨j,hj⟩:=List.getElem?_of_mem ht
   exact (Ak0 _).1 (g j t hj).1
  .obtain ⟨j,hj⟩:=List.getElem?_of_mem ht
   exact (g j t hj).2.1
 .rintro ⟨h1,h2,h3⟩
  refine ⟨h1,List.all_eq_true.2 fun q hq=>?_⟩
  have hq:=List.mem_zipIdx' hq
  have hj:p[q.2]? = some q.1:=(Cp hq.1).trans (congrArg some hq.2.symm)
  have c:q.1∈p:=Cw hj
  simp only [R6,Dq]
  refine ⟨⟨(Ak0 _).2 (h2.coe _ c),h3 _ c⟩,?_⟩
  unfold Pn
  by_cases h0:q.2=0
  .rw [h0]; rfl
  .have b:q.2-1<p.length:=by omega
   rw [Cp b]
   have:=List.pairwise_iff_getElem.1 h2.srt (q.2-1) q.2 b hq.1 (by omega)
   rw [<-hq.2] at this
   simp only [Bool.or_eq_true,decide_eq_true_eq]
   exact .inr this
end Go.Ab
namespace Go.Ab
open Go
theorem Avy:∀(k:Nat) (t:Bp),Dl t<=k->k<1099511627776->Ot k t=some t:=by
 intro k
 induction k with
 | zero=>intro t h; have:=Gt t; omega
 | succ k ih=>
  intro t h hk
  have c:=Gt t
  have b:=Ry t.Kids
  rw [Ot]
  refine Iy t.Kids (fun j=>((j:Int),(t.Kids.take j))) rfl (by omega) ?_ ?_
  .intro j x hj hx h1 h2 h3
   have:=Pj (Cw hx)
   simp only [h1,h2,h3,cond_true,Ad,ih x (by omega) (by omega)]
   rw [Du (by simp; omega),Ad,Dy hx]
  .intro h1
   exact ⟨t.Kids,by simp,by cases t; rfl⟩
theorem Avz (m:Bd) (b:MSz m):Tv m=some m:=by
 have g:=b.nf
 have f:=b.na
 unfold Tv
 refine Iy m.Factors (fun j=>((j:Int),(m.Factors.take j))) rfl (by omega) ?_ ?_
 .intro j x hj hx h1 h2 h3
  have c:=Cw hx
  have:=b.fi x c
  simp only [h1,h2,h3,cond_true,Ad,Avy 4000000 x.Index (by omega) (by omega)]
  rw [Du (by simp; omega),Ad,Dy hx]
 .intro h1
  refine ⟨m.Factors,by simp,?_⟩
  dsimp only
  refine Iy m.Atoms (fun j=>((j:Int),(m.Atoms.take j))) rfl (by omega) ?_ ?_
  .intro j x hj hx h1 h2 h3
   have c:=Cw hx
   have:=b.al x c
   simp only [h1,h2,h3,cond_true,Ad,Tl]
   rw [Du (by simp; omega),Ad,Du (by simp; omega),Ad,Dy hx]; rfl
  .intro h1
   exact ⟨m.Atoms,by simp,by cases m; rfl⟩
end Go.Ab
namespace Go.Ab
open Go
structure TB (k:Nat) (t:Aj):Prop where
 co:RB k t.Coef
 mo:MSz t.Mono
theorem TSz.tb {t:Aj} (h:TSz t):TB 1048576 t:=⟨h.co,h.mo⟩
theorem TB.mono {j k:Nat} {t:Aj} (h:TB j t) (hk:j<=k):TB k t:=⟨h.co.mono hk,h.mo⟩
def Pq (c:Ap) (m:Bd):List Aj:=if nv c=0 then [] else [⟨Bh (sv c) (nv c) (dv c),m⟩]
theorem Ak1 (c:Ap):rq c=0↔nv c=0:=by
 unfold rq
 rw [Rat.mkRat_eq_zero (Ev c)]
 unfold sg; split <;> omega
theorem Av0 (c:Ap) (m n:Bd):cf (Pq c m) n=if Cz m n=0 then rq c else 0:=by
 unfold Pq
 split
 .rename_i h
  rw [(Ak1 c).2 h]; simp [cf]
 .simp only [cf,Mi _ _ _ (Ev c)]
  show (if Cz m n=0 then rq c else 0)+0=_
  grind
structure Mg (F:Rat->Rat->Rat) (k:Nat) (p q R:List Aj):Prop where
 cp:CP R
 val:∀m,cf R m=F (cf p m) (cf q m)
 mon:∀t∈R,(∃u∈p,u.Mono=t.Mono)\/(∃u∈q,u.Mono=t.Mono)
 len:R.length<=p.length+q.length
 rb:∀t∈R,RB (k+1) t.Coef
theorem Av1 {k:Nat} {c:Ap} {m:Bd} (hc:RB k c):(∀t∈Pq c m,t.Mono=m/\I6 t.Coef/\rq t.Coef≠0/\RB (k+1) t.Coef)/\(Pq c m).length<=1:=by
 unfold Pq
 split
 .exact ⟨fun _ h=>(by cases h),by simp⟩
 .rename_i h
  refine ⟨fun t ht=>?_,by simp⟩
  simp only [List.mem_singleton] at ht
  subst ht
  exact ⟨rfl,Va _ _ _ (Ev c),by rw [Mi _ _ _ (Ev c)]; exact fun e=>h ((Ak1 c).1 e),Ai4 hc⟩
theorem Mg.step {F:Rat->Rat->Rat} {k:Nat} {p q g f R:List Aj} {c:Ap} {m:Bd} (h:Mg F k g f R) (z:F 0 0=0) (hc:RB k c)
  (s:∀n,Cz m n≠0->cf p n=cf g n/\cf q n=cf f n) (h0:rq c=F (cf p m) (cf q m)) (l:∀u∈g,Cz m u.Mono<0) (j:∀u∈f,Cz m u.Mono<0)
  (x:(∃u∈p,u.Mono=m)\/(∃u∈q,u.Mono=m)) (hp:∀u∈g,u∈p) (hq:∀u∈f,u∈q) (B:g.length+f.length+1<=p.length+q.length):Mg F k p q (Pq c m++R):=by
 obtain ⟨i,A⟩:=Av1 (m:=m) hc
 have y:∀t∈R,Cz m t.Mono<0:=by
  intro t ht
  rcases h.mon t ht with ⟨u,hu,e⟩ | ⟨u,hu,e⟩
  .rw [<-e]; exact l u hu
  .rw [<-e]; exact j u hu
 refine ⟨?_,?_,?_,?_,?_⟩
 .refine ⟨List.pairwise_append.2 ⟨?_,h.cp.srt,?_⟩,?_⟩
  .unfold Pq; split
   .exact List.Pairwise.nil
   .exact List.pairwise_singleton _ _
  .intro a ha b hb
   show Cz a.Mono b.Mono<0
   rw [(i a ha).1]; exact y b hb
  .intro t ht
   rcases List.mem_append.1 ht with ht | ht
   .exact ⟨(i t ht).2.1,(i t ht).2.2.1⟩
   .exact h.cp.coe t ht
 .intro n
  rw [R9,Av0,h.val n]
  by_cases e:Cz m n=0
  .rw [if_pos e]
   have e':=Kw.1 e
   subst e'
   rw [Po l,Po j,z,h0]; grind
  .rw [if_neg e,(s n e).1,(s n e).2]; grind
 .intro t ht
  rcases List.mem_append.1 ht with ht | ht
  .rw [(i t ht).1]; exact x
  .rcases h.mon t ht with ⟨u,hu,e⟩ | ⟨u,hu,e⟩
   .exact .inl ⟨u,hp u hu,e⟩
   .exact .inr ⟨u,hq u hu,e⟩
 .rw [List.length_append]; have:=h.len; omega
 .intro t ht
  rcases List.mem_append.1 ht with ht | ht
  .exact (i t ht).2.2.2
  .exact h.rb t ht
end Go.Ab
namespace Go.Ab
open Go
def Gu (n:Int) (f:Bool):List Int:=if f then (if n<0 then [45] else []) else (if n<0 then [32,45,32] else [32,43,32])
def Hu (n:Int):List Int:=if n.natAbs=1 then [] else ti n.natAbs++[42]
def G6 (v:Int):List Int:=if v = -1 then [114,101,115] else 118::ti v
def tT (f:Bool) (t:Ba):List Int:=Gu t.Coef f++(Hu t.Coef++G6 t.Var)
def Ga:Bool->List Ba->Int->List Int
 | f,[],c=>if c≠0\/f=true then Gu c f++ti c.natAbs else []
 | f,t::ts,c=>tT f t++Ga false ts c
def Vb (l:Bf):List Int:=Ga true l.Terms l.Const
def G7 (X:List Int):Prop:=∀c m,X=c::m->c=97
theorem G7.nil:G7 []:=by intro c m h; cases h
theorem G7.cons (X:List Int):G7 (97::X):=by intro c m h; cases h; rfl
theorem G7.nonum {X:List Int} (h:G7 X):Jm X:=by intro c m e; rw [h c m e]; decide
theorem Adw (n:Nat):∃c m,ti n=c::m/\48<=c/\c<=57:=by
 have b:=Adh (n:Int)
 cases h:ti (n:Int) with
 | nil=>exact (b h).elim
 | cons c m=>
  refine ⟨c,m,rfl,?_⟩
  have hc:c∈ti (n:Int):=by rw [h]; simp
  unfold ti at hc
  obtain ⟨x,hx,rfl⟩:=List.mem_map.1 hc
  have e:Lib.itoa (n:Int)=Lib.decDigits n:=by
   unfold Lib.itoa
   first | rfl | (rw [if_neg (by omega)]; simp) | simp
  rw [e] at hx
  have:=Y3 n n (Nat.le_refl _) x hx
  omega
theorem Ak2 (ts:List Ba) (c:Int) {X:List Int} (b:G7 X):Jm (Ga false ts c++X):=by
 have k:∀(n:Int) (Y:List Int),Jm (Gu n false++Y):=by
  intro n Y c m e
  unfold Gu at e
  simp only [Bool.false_eq_true,if_false] at e
  split at e <;> (cases e; decide)
 cases ts with
 | nil=>
  simp only [Ga]
  split
  .rw [List.append_assoc]; exact k _ _
  .exact b.nonum
 | cons t ts=>simp only [Ga,tT,List.append_assoc]; exact k _ _
theorem Ak3 {v w:Int} {R S:List Int} (c:Jm R) (b:Jm S) (h:G6 v++R=G6 w++S):v=w/\R=S:=by
 unfold G6 at h
 split at h <;> split at h
 .simp only [List.cons_append,List.nil_append,List.cons.injEq,true_and] at h
  exact ⟨by omega,h⟩
 .simp at h
 .simp at h
 .simp only [List.cons_append,List.cons.injEq,true_and] at h
  obtain ⟨g,f⟩:=Md _ _ _ _ (Gf v) (Gf w) c b h
  exact ⟨Pk g,f⟩
theorem Adx (v:Int):∃c m,G6 v=c::m/\(c=114\/c=118):=by
 unfold G6
 split
 .exact ⟨_,_,rfl,.inl rfl⟩
 .exact ⟨_,_,rfl,.inr rfl⟩
theorem Ady (X:List Int):Jm (42::X):=by intro c m e; cases e; decide
theorem Av2 {a b v w:Int} {R S:List Int} (i:Jm R) (g:Jm S) (h:Hu a++(G6 v++R)=Hu b++(G6 w++S)):a.natAbs=b.natAbs/\v=w/\R=S:=by
 unfold Hu at h
 have bad:∀(n:Nat) (u:Int) (X Y:List Int),G6 u++X=ti n++[42]++Y->False:=by
  intro n u X Y e
  obtain ⟨c,m,f,q⟩:=Adx u
  obtain ⟨d,k,l,j⟩:=Adw n
  rw [f,l] at e
  simp only [List.cons_append,List.cons.injEq] at e
  omega
 split at h <;> split at h
 .rename_i h1 h2
  simp only [List.nil_append] at h
  exact ⟨h1.trans h2.symm,Ak3 i g h⟩
 .exact (bad _ _ _ _ h).elim
 .exact (bad _ _ _ _ h.symm).elim
 .simp only [List.append_assoc,List.cons_append,List.nil_append] at h
  obtain ⟨f,q⟩:=Md _ _ _ _ (Gf _) (Gf _) (Ady _) (Ady _) h
  have l:=Pk f
  obtain ⟨j,s⟩:=Ak3 i g (List.cons.inj q).2
  exact ⟨by omega,j,s⟩
def NoM (P:List Int):Prop:=∃c m,P=c::m/\c≠45
theorem NoM.ti (n:Nat) (X:List Int):NoM (Go.Ab.ti n++X):=by
 obtain ⟨c,m,e,h⟩:=Adw n
 exact ⟨c,m++X,by rw [e]; rfl,by omega⟩
theorem NoM.pT (a v:Int) (X:List Int):NoM (Hu a++(G6 v++X)):=by
 unfold Hu
 split
 .obtain ⟨c,m,e,h⟩:=Adx v
  exact ⟨c,m++X,by rw [e]; rfl,by omega⟩
 .rw [List.append_assoc]; exact NoM.ti _ _
theorem Adz {a b:Int} {f:Bool} {P Q:List Int} (i:NoM P) (g:NoM Q) (h:Gu a f++P=Gu b f++Q):(a<0↔b<0)/\P=Q:=by
 obtain ⟨c,m,rfl,hc⟩:=i
 obtain ⟨d,k,rfl,hd⟩:=g
 unfold Gu at h
 cases f with
 | true=>
  simp only [if_true] at h
  split at h <;> split at h
  .rename_i h1 h2; exact ⟨by simp [h1,h2],by simpa using h⟩
  .simp at h; exact (hd h.1.symm).elim
  .simp at h; exact (hc h.1).elim
  .rename_i h1 h2; exact ⟨by simp [h1,h2],by simpa using h⟩
 | false=>
  simp only [Bool.false_eq_true,if_false] at h
  split at h <;> split at h
  .rename_i h1 h2; exact ⟨by simp [h1,h2],by simpa using h⟩
  .simp at h
  .simp at h
  .rename_i h1 h2; exact ⟨by simp [h1,h2],by simpa using h⟩
theorem Ad0 {n:Int} {P X:List Int} (b:G7 X) (h:Gu n false++P=X):False:=by
 unfold Gu at h
 simp only [Bool.false_eq_true,if_false] at h
 split at h
 .have:=b _ _ h.symm; omega
 .have:=b _ _ h.symm; omega
theorem Ak4 {c d:Int} {f:Bool} {u:Ba} {m:List Ba} {X Y:List Int} (b:G7 X) (l:G7 Y) (h:Ga f [] c++X=Ga f (u::m) d++Y):False:=by
 simp only [Ga,tT] at h
 split at h
 .simp only [List.append_assoc] at h
  obtain ⟨_,e⟩:=Adz (NoM.ti _ _) (NoM.pT _ _ _) h
  unfold Hu at e
  split at e
  .obtain ⟨s,m1,k,h1⟩:=Adx u.Var
   obtain ⟨q,m2,g,h2⟩:=Adw c.natAbs
   rw [k,g] at e
   simp only [List.nil_append,List.cons_append,List.cons.injEq] at e
   omega
  .simp only [List.append_assoc,List.cons_append,List.nil_append] at e
   obtain ⟨_,g⟩:=Md _ _ _ _ (Gf _) (Gf _) b.nonum (Ady _) e
   have:=b _ _ g; omega
 .rename_i i
  have j:f=false:=by cases f with | true=>simp at i | false=>rfl
  subst j
  simp only [List.nil_append,List.append_assoc] at h
  exact Ad0 b h.symm
theorem Ak5:∀(l m:List Ba) (f:Bool) (c d:Int) (X Y:List Int),G7 X->G7 Y->Ga f l c++X=Ga f m d++Y->l=m/\c=d/\X=Y
 | [],[],f,c,d,X,Y,g,b,h=>by
  simp only [Ga] at h
  split at h <;> split at h
  .simp only [List.append_assoc] at h
   obtain ⟨y,s⟩:=Adz (NoM.ti _ _) (NoM.ti _ _) h
   obtain ⟨q,i⟩:=Md _ _ _ _ (Gf _) (Gf _) g.nonum b.nonum s
   have x:=Pk q
   exact ⟨rfl,by omega,i⟩
  .rename_i h1 h2
   have j:f=false:=by cases f with | true=>simp at h2 | false=>rfl
   subst j
   simp only [List.append_assoc,List.nil_append] at h
   exact (Ad0 b h).elim
  .rename_i h1 h2
   have j:f=false:=by cases f with | true=>simp at h1 | false=>rfl
   subst j
   simp only [List.append_assoc,List.nil_append] at h
   exact (Ad0 g h.symm).elim
  .rename_i h1 h2
   refine ⟨rfl,?_,by simpa using h⟩
   have a1:c=0:=by by_cases k:c=0; exact k; exact (h1 (.inl k)).elim
   have a2:d=0:=by by_cases k:d=0; exact k; exact (h2 (.inl k)).elim
   omega
 | [],u::m,f,c,d,X,Y,g,b,h=>(Ak4 g b h).elim
 | t::l,[],f,c,d,X,Y,g,b,h=>(Ak4 b g h.symm).elim
 | t::l,u::m,f,c,d,X,Y,g,b,h=>by
  simp only [Ga,tT,List.append_assoc] at h
  obtain ⟨y,s⟩:=Adz (NoM.pT _ _ _) (NoM.pT _ _ _) h
  obtain ⟨q,i,x⟩:=Av2 (Ak2 _ _ g) (Ak2 _ _ b) s
  obtain ⟨B,A,z⟩:=Ak5 l m false c d X Y g b x
  have:t=u:=by
   cases t; cases u
   simp only at y q i
   subst i
   congr 1; omega
  exact ⟨by rw [this,B],A,z⟩
def F7 (a:A6):List Int:=97::(ti a.Deg++58::Vb a.Lin)
def Ff (f:B8):List Int:=Ht f.Var f.Index
def Vc (m:Bd):List Int:=m.Factors.flatMap Ff++m.Atoms.flatMap F7
theorem Zh (l:List A6):G7 (l.flatMap F7):=by
 cases l with
 | nil=>exact G7.nil
 | cons a l=>simp only [List.flatMap_cons,F7,List.cons_append]; exact G7.cons _
theorem Zi (X:List Int):Jm (58::X):=by intro c m e; cases e; decide
theorem Ak6:∀(l m:List A6),l.flatMap F7=m.flatMap F7->l=m
 | [],[],_=>rfl
 | [],b::m,h=>by simp [F7] at h
 | a::l,[],h=>by simp [F7] at h
 | a::l,b::m,h=>by
  simp only [List.flatMap_cons,F7,List.cons_append,List.append_assoc,List.cons.injEq,true_and] at h
  obtain ⟨s,q⟩:=Md _ _ _ _ (Gf _) (Gf _) (Zi _) (Zi _) h
  have k:=(List.cons.inj q).2
  obtain ⟨g,f,j⟩:=Ak5 _ _ true _ _ _ _ (Zh l) (Zh m) k
  have i:=Ak6 l m j
  have c:=Pk s
  obtain ⟨⟨x,t1⟩,d1⟩:=a
  obtain ⟨⟨u,t2⟩,d2⟩:=b
  simp only at g f c
  rw [g,f,c,i]
theorem Ak7 (l:List B8) {X:List Int} (b:G7 X):No (l.flatMap Ff++X):=by
 cases l with
 | nil=>intro c m e; rw [b c m e]; exact ⟨by decide,by decide⟩
 | cons a l=>
  intro c m e
  simp only [List.flatMap_cons,Ff,Ht,List.cons_append] at e
  cases e; exact ⟨by decide,by decide⟩
theorem Ak8:∀(l m:List B8) (X Y:List Int),G7 X->G7 Y->l.flatMap Ff++X=m.flatMap Ff++Y->l=m/\X=Y
 | [],[],X,Y,_,_,h=>⟨rfl,by simpa using h⟩
 | [],b::m,X,Y,f,_,h=>by
  simp only [List.flatMap_cons,List.flatMap_nil,Ff,Ht,List.cons_append,List.nil_append] at h
  have:=f _ _ h; omega
 | a::l,[],X,Y,_,c,h=>by
  simp only [List.flatMap_cons,List.flatMap_nil,Ff,Ht,List.cons_append,List.nil_append] at h
  have:=c _ _ h.symm; omega
 | a::l,b::m,X,Y,f,c,h=>by
  simp only [List.flatMap_cons,Ff,Ht,List.cons_append,List.append_assoc,List.cons.injEq,true_and] at h
  obtain ⟨x,u⟩:=Md _ _ _ _ (Gf _) (Gf _) (Zi _) (Zi _) h
  have s:=(List.cons.inj u).2
  obtain ⟨i,q⟩:=Adj _ _ _ _ (Ak7 l f) (Ak7 m c) s
  obtain ⟨k,j⟩:=Ak8 l m X Y f c q
  have g:=Pk x
  obtain ⟨y,i1⟩:=a
  obtain ⟨v2,i2⟩:=b
  simp only at i g
  exact ⟨by rw [i,g,k],j⟩
theorem Av3 {m n:Bd} (h:Vc m=Vc n):m=n:=by
 obtain ⟨c,f⟩:=Ak8 _ _ _ _ (Zh _) (Zh _) h
 have b:=Ak6 _ _ f
 cases m; cases n
 simp only at c b
 rw [c,b]
def By (l:List Int):Prop:=∀c∈l,0<=c/\c<256
theorem By.app {l m:List Int} (h:By l) (h':By m):By (l++m):=by
 intro c hc
 rcases List.mem_append.1 hc with k | k
 .exact h c k
 .exact h' c k
theorem By.ti (n:Int):By (Go.Ab.ti n):=by
 intro c h
 have:=Gf n c h
 simp only [Mc,Bool.or_eq_true,Dq,beq_iff_eq,decide_eq_true_eq] at this
 omega
theorem By.cons {c:Int} {l:List Int} (hc:0<=c/\c<256) (h:By l):By (c::l):=by
 intro d hd
 rcases List.mem_cons.1 hd with rfl | k
 .exact hc
 .exact h d k
theorem By.nil:By []:=fun c h=>by cases h
theorem By.sgn (n:Int) (f:Bool):By (Gu n f):=by
 unfold Gu
 split <;> split <;> intro c hc <;> simp at hc <;> omega
theorem By.mag (n:Int):By (Hu n):=by
 unfold Hu
 split
 .exact By.nil
 .exact (By.ti _).app (By.cons (by omega) By.nil)
theorem By.var (n:Int):By (G6 n):=by
 unfold G6
 split
 .intro c hc; simp at hc; omega
 .exact By.cons (by omega) (By.ti _)
theorem By.tT (f:Bool) (t:Ba):By (tT f t):=(By.sgn _ _).app ((By.mag _).app (By.var _))
theorem By.lins:∀(l:List Ba) (f:Bool) (c:Int),By (Ga f l c)
 | [],f,c=>by
  simp only [Ga]
  split
  .exact (By.sgn _ _).app (By.ti _)
  .exact By.nil
 | t::l,f,c=>(By.tT f t).app (By.lins l false c)
theorem By.at (a:A6):By (F7 a):=By.cons (by omega) ((By.ti _).app (By.cons (by omega) (By.lins _ _ _)))
theorem By.flat {α:Type} {g:α->List Int} (h:∀a,By (g a)) (l:List α):By (l.flatMap g):=by
 intro c hc
 obtain ⟨a,_,k⟩:=List.mem_flatMap.1 hc
 exact h a c k
theorem By.fac (f:B8):By (Ff f):=Y6 f.Var f.Index
theorem By.mono (m:Bd):By (Vc m):=(By.flat By.fac _).app (By.flat By.at _)
def bs (l:List Int):ByteArray:=⟨(Ew l).toArray⟩
theorem Av4 {l m:List Int} (c:By l) (b:By m) (h:bs l=bs m):l=m:=by
 unfold bs at h
 have h1:(Ew l).toArray=(Ew m).toArray:=by injection h
 have h2:Ew l=Ew m:=by simpa using congrArg Array.toList h1
 exact Adm _ _ c b h2
def I7 (m:Bd):ByteArray:=bs (Vc m)
theorem Ak9 {m n:Bd} (h:I7 m=I7 n):m=n:=Av3 (Av4 (By.mono m) (By.mono n) h)
theorem Zj (l:List Int):(bs l).size=l.length:=by unfold bs Ew; simp [ByteArray.size]
theorem Ala {l:List Int} (h:By l):Kf (bs l)=l:=by
 unfold Kf bs Ew
 simp only [List.map_map]
 conv=>rhs; rw [<-List.map_id l]
 refine List.map_congr_left fun c hc=>?_
 have:=h c hc
 simp only [Function.comp,UInt8.toNat_ofNat',id]
 omega
theorem Av5 (l m:List Int):bs l++bs m=bs (l++m):=by
 apply ByteArray.ext
 rw [ByteArray.data_append]
 unfold bs Ew
 simp
theorem Pr {l m:List Int} (h:l.length+m.length<=9223372036854775807):Ef (bs l) (bs m)=some (bs (l++m)):=by
 unfold Ef
 rw [if_pos (by rw [Zj,Zj]; exact h),Av5]
theorem Zk {n:Int} (h:I64 n):Lr n=some (bs (ti n)):=by
 rw [Adl h]
 congr 2
 congr 1
 unfold Ew ti
 rw [List.map_map]
 conv=>lhs; rw [<-List.map_id (Lib.itoa n)]
 refine List.map_congr_left fun c _=>?_
 simp [Function.comp]
end Go.Ab
namespace Go.Ab
open Go
theorem Zl {S E R α:Type} {step:S->Option (S⊕E)} {s0:S} {J:E->Option R} {r:R} (c:α) (xs:List α) (b:Nat->S) (h0:s0=b 0) (h:xs.length<2305843009213693952)
  (f:∀(j:Nat) (x:α),xs[j]? = some x->decide (((j+1:Nat):Int)<((c::xs).length:Int))=true->Ag (c::xs) ((j+1:Nat):Int)=some x->Ac (((j+1:Nat):Int)+1)=((j+1+1:Nat):Int)->step (b j)=some (.inl (b (j+1))))
  (g:decide (((xs.length+1:Nat):Int)<((c::xs).length:Int))=false->∃e,step (b xs.length)=some (.inr e)/\J e=some r):(Al step s0).bind J=some r:=by
 refine G5 xs.length b h0 (fun j hj=>?_) (g (by simp))
 have hx:xs[j]? = some xs[j]:=Cp hj
 exact f j _ hx (Am (by simp only [List.length_cons]; omega)) (Cj rfl (by simp)) (Dr (n:=xs.length+1) (by omega) (by omega))
theorem bnd {α β:Type} {X:Option α} {a:α} {K:α->Option β} {r:Option β} (h:X=some a) (k:K a=r):X.bind K=r:=by rw [h]; exact k
theorem Kx {l b:List Int} (c:By l) (h:b.length+l.length<=140737488355328):Fo (bs l) b=some ((l.length:Int),b++l):=by
 simp only [Fo,Rm,Ad,Ala c,Zj]
 rw [Du (by omega)]; rfl
theorem Sa {l b:List Int} (c:By l) (h:b.length+l.length<=140737488355328):H8 (bs l) b=some ((l.length:Int),b++l):=by
 simp only [H8,T1,Ad,Ala c,Zj]
 rw [Du (by omega)]; rfl
theorem Sb {b:List Int} (hb:By b):Jx b=some (bs b):=by
 exact if_pos hb
theorem Av6 {b:List Int} (hb:By b):Ya b=some (bs b):=Sb hb
theorem Ad1 (n:Int) (h : -1048576<=n/\n<=1048576):(Hu n).length<=22:=by
 unfold Hu
 split
 .simp
 .have:=Kt (n:=(n.natAbs:Int)) (by unfold I64; omega)
  simp; omega
theorem Zm (n:Int) (f:Bool):(Gu n f).length<=3:=by unfold Gu; split <;> split <;> simp
theorem Av7 {v:Int} (h : -1<=v/\v<3000):(G6 v).length<=22:=by
 unfold G6
 split
 .simp
 .have:=Kt (n:=v) (by unfold I64; omega)
  simp; omega
structure Alb (a:Bf):Prop where
 c : -1048576<=a.Const/\a.Const<=1048576
 n:a.Terms.length<=16
 t:∀t∈a.Terms,(-1<=t.Var/\t.Var<3000)/\(-1048576<=t.Coef/\t.Coef<=1048576)
theorem Ad2 {a:Bf} (h:C4 a=true):Alb a:=by
 unfold C4 at h
 simp only [Dq,decide_eq_true_eq] at h
 refine ⟨⟨h.1.1,h.1.2.1⟩,h.1.2.2,fun t ht=>?_⟩
 obtain ⟨j,hj⟩:=List.getElem?_of_mem ht
 have:=J0 h.2 hj
 simp only [Me,Dq,decide_eq_true_eq] at this
 omega
theorem Ad3 {t:Ba} (f:Bool) (h:(-1<=t.Var/\t.Var<3000)/\(-1048576<=t.Coef/\t.Coef<=1048576)):(tT f t).length<=47:=by
 have:=Zm t.Coef f
 have:=Ad1 t.Coef h.2
 have:=Av7 h.1
 unfold tT
 simp only [List.length_append]; omega
theorem Alc {n:Int} (h : -1048576<=n/\n<=1048576):(if Ac (0-n)>n then Ac (0-n) else n)=(n.natAbs:Int):=by
 rw [Ac,Bs (by omega) (by omega)]; split <;> omega
theorem c45:ByteArray.mk #[45]=bs [45]:=rfl
theorem Av8:ByteArray.mk #[32,45,32]=bs [32,45,32]:=rfl
theorem Av9:ByteArray.mk #[32,43,32]=bs [32,43,32]:=rfl
theorem c42:ByteArray.mk #[42]=bs [42]:=rfl
theorem Ald:ByteArray.mk #[118]=bs [118]:=rfl
theorem c97:ByteArray.mk #[97]=bs [97]:=rfl
theorem c58:ByteArray.mk #[58]=bs [58]:=rfl
theorem Ale:ByteArray.mk #[114,101,115]=bs [114,101,115]:=rfl
theorem Alf:By [45]:=By.cons (by omega) By.nil
theorem by3 (a b c:Int) (ha:0<=a/\a<256) (hb:0<=b/\b<256) (hc:0<=c/\c<256):By [a,b,c]:=By.cons ha (By.cons hb (By.cons hc By.nil))
theorem Alg {n:Int} (f:Bool) {b:List Int} (c : -1048576<=n/\n<=1048576) (hb:b.length<=1099511627776):Uq n f b=some ((n.natAbs:Int),b++Gu n f):=by
 unfold Uq Gu
 rw [Alc c,c45,Av8,Av9]
 rw [Kx Alf (by simp; omega),Kx (by3 _ _ _ (by omega) (by omega) (by omega)) (by simp; omega),Kx (by3 _ _ _ (by omega) (by omega) (by omega)) (by simp; omega)]
 by_cases h:n<0
 .rw [Am h,if_pos h,if_pos h]; cases f <;> rfl
 .rw [As h,if_neg h,if_neg h]; cases f <;> simp
theorem Awa {n:Int} {b:List Int} (c : -1048576<=n/\n<=1048576) (hb:b.length<=1099511627776):Oq n true b=some (if n<0 then .inl ((n.natAbs:Int),b++[45]) else .inr ((n.natAbs:Int),b)):=by
 unfold Oq
 rw [Alc c,c45,Sa Alf (by simp; omega)]
 by_cases h:n<0
 .rw [Am h,if_pos h]; rfl
 .rw [As h,if_neg h]; rfl
theorem Ad4 {n:Nat} (h:n<=1048576):Kk (n:Int) 10=some (bs (ti n)):=by
 unfold Kk W3
 exact Zk (by unfold I64; omega)
theorem Zn {n:Nat} (h:n<=1048576):(ti (n:Int)).length<=21:=Kt (by unfold I64; omega)
theorem Alh {n:Int} {b:List Int} (c : -1048576<=n/\n<=1048576) (hb:b.length<=1099511627776) :
  (bif ((n.natAbs:Int) != (1:Int)) then (Kk (n.natAbs:Int) 10).bind fun v=>(Ef v (ByteArray.mk #[42])).bind fun u=>(Fo u b).bind fun w=>some w.2 else some b)=some (b++Hu n):=by
 have ht:=Zn (n:=n.natAbs) (by omega)
 unfold Hu
 by_cases h:n.natAbs=1
 .rw [Ek (by omega),if_pos h]; simp
 .rw [Dx (by omega),if_neg h,Ad4 (by omega),c42]
  simp only [cond_true,Ad]
  rw [Pr (by simp; omega),Ad,Kx ((By.ti _).app (By.cons (by omega) By.nil)) (by simp; omega)]; rfl
theorem Ad5 {v:Int} {b:List Int} {R:Type} (K:List Int->Option R) (c : -1<=v/\v<3000) (hb:b.length<=1099511627776) :
  (bif (v==(-1)) then (Fo (ByteArray.mk #[114,101,115]) b).bind fun w=>K w.2 else (Gp v).bind fun x=>(Ef (ByteArray.mk #[118]) x).bind fun y=>(Fo y b).bind fun w=>K w.2)=K (b++G6 v):=by
 have ht:=Kt (n:=v) (by unfold I64; omega)
 unfold G6
 by_cases h:v = -1
 .rw [Fa h,if_pos h,Ale,Kx (by3 _ _ _ (by omega) (by omega) (by omega)) (by simp; omega)]; rfl
 .rw [C6 h,if_neg h,Ald]
  simp only [cond_false,Gp]
  rw [Zk (by unfold I64; omega),Ad,Pr (by simp; omega),Ad]
  rw [show [118]++ti v=118::ti v from rfl,Kx (By.cons (by omega) (By.ti _)) (by simp; omega)]; rfl
theorem Zo {α:Type} {g:α->List Int} {l:List α} {j:Nat} {x:α} (h:l[j]? = some x):(l.take (j+1)).flatMap g=(l.take j).flatMap g++g x:=by
 rw [Dy h]; simp
theorem Ali {α:Type} {g:α->List Int} {n:Nat}:∀(l:List α),(∀a∈l,(g a).length<=n)->(l.flatMap g).length<=l.length*n
 | [],_=>by simp
 | a::l,h=>by
  have h1:=h a (by simp)
  have h2:=Ali l fun b hb=>h b (by simp [hb])
  simp only [List.flatMap_cons,List.length_append,List.length_cons,Nat.add_mul]; omega
theorem Ad6 {α:Type} {g:α->List Int} {n:Nat} (l:List α) (j:Nat) (h:∀a∈l,(g a).length<=n):((l.take j).flatMap g).length<=l.length*n:=by
 refine Nat.le_trans (Ali _ fun a ha=>h a (List.mem_of_mem_take ha)) (Nat.mul_le_mul_right _ ?_)
 rw [List.length_take]; omega
theorem Alj:∀(ts:List Ba) (c:Int),Ga false ts c=ts.flatMap (tT false)++Ga false [] c
 | [],c=>by simp
 | t::ts,c=>by
  have:=Alj ts c
  simp only [List.flatMap_cons,List.append_assoc,<-this]; rfl
theorem Awb {a:Bf} (h:C4 a=true) (B:a.Terms≠[]):L3 a=some (bs (Vb a)):=by
 have z:=Ad2 h
 unfold L3
 rw [Kv,h]
 obtain ⟨c,l⟩:=a
 cases l with
 | nil=>exact (B rfl).elim
 | cons t ts=>
  have hc : -1048576<=c/\c<=1048576:=z.c
  have M:ts.length<=15:=by have:=z.n; simp at this; omega
  have ht:(-1<=t.Var/\t.Var<3000)/\(-1048576<=t.Coef/\t.Coef<=1048576):=z.t t (by simp)
  have s:∀u∈ts,(-1<=u.Var/\u.Var<3000)/\(-1048576<=u.Coef/\u.Coef<=1048576):=fun u hu=>z.t u (by simp [hu])
  have x:=fun j=>Ad6 (g:=tT false) (n:=47) ts j (fun u hu=>Ad3 false (s u hu))
  have J:=Ad3 true ht
  simp only [Ad,bnt,cond_false]
  rw [Am (by simp only [List.length_cons]; omega),cond_true]
  refine bnd (a:=((t.Coef.natAbs:Int),tT true t)) ?_ ?_
  .rw [show Ag (t::ts) 0=some t from rfl,Ad,Awa ht.2 (by simp),Ad]
   have G:=Kt (n:=t.Var) (by unfold I64; omega)
   have I:=Zn (n:=t.Coef.natAbs) (by omega)
   have D:=Ad1 t.Coef ht.2
   by_cases q:t.Coef<0
   .rw [if_pos q]
    simp only
    rw [Alh ht.2 (by simp),Ad]
    refine (Ad5 (fun b=>some ((t.Coef.natAbs:Int),b)) ht.1 (by simp; omega)).trans ?_
    simp [tT,Gu,q]
   .rw [if_neg q]
    simp only
    by_cases h1:t.Coef.natAbs=1
    .rw [Ek (by omega)]
     simp only [cond_false]
     by_cases y:t.Var = -1
     .rw [Fa y,Ale,cond_true,Sa (by3 _ _ _ (by omega) (by omega) (by omega)) (by simp)]
      simp [tT,Gu,q,Hu,h1,G6,y]
     .rw [C6 y,cond_false,Ald,Gp,Zk (by unfold I64; omega),Ad,Pr (by simp; omega),Ad,show [118]++ti t.Var=118::ti t.Var from rfl,
       Sa (By.cons (by omega) (By.ti _)) (by simp; omega)]
      simp [tT,Gu,q,Hu,h1,G6,y]
    .rw [Dx (by omega)]
     simp only [cond_true]
     rw [Ad4 (by omega),Ad,c42,Pr (by simp; omega),Ad,Sa ((By.ti _).app (By.cons (by omega) By.nil)) (by simp; omega),Ad]
     refine (Ad5 (fun b=>some ((t.Coef.natAbs:Int),b)) ht.1 (by simp; omega)).trans ?_
     simp [tT,Gu,q,Hu,h1]
  .simp only
   refine Zl t ts (fun j=>(((j+1:Nat):Int),tT true t++(ts.take j).flatMap (tT false))) (by simp [Ac,Bs]) (by omega) ?_ ?_
   .intro j u hu h1 h2 h3
    have f:=s u (Cw hu)
    have:=x j
    have D:=Ad1 u.Coef f.2
    have A:=Zm u.Coef false
    simp only [h1,h2,h3,cond_true,Ad]
    rw [C6 (by omega),Alg false f.2 (by simp only [List.length_append]; omega),Ad,Alh f.2 (by simp only [List.length_append]; omega),Ad]
    refine (Ad5 (R:=(Int×List Int)⊕List Int) (fun b=>some (.inl (((j+1+1:Nat):Int),b))) f.1 (by simp only [List.length_append]; omega)).trans ?_
    rw [Zo hu]
    simp [tT]
   .intro h1
    have h2:=x ts.length
    rw [List.take_length] at h2
    refine ⟨tT true t++ts.flatMap (tT false),by simp only [h1,cond_false,List.take_length],?_⟩
    have E:By (tT true t++ts.flatMap (tT false)):=(By.tT _ _).app (By.flat (By.tT _) _)
    have e:Vb ⟨c,t::ts⟩=tT true t++ts.flatMap (tT false)++Ga false [] c:=by
     have:=Alj ts c
     rw [List.append_assoc,<-this]; rfl
    rw [e]
    have k:((((t::ts).length:Nat):Int)==(0:Int))=false:=C6 (by simp only [List.length_cons]; omega)
    by_cases i:c=0
    .simp only [Ek i,cond_false,k,Ad]
     rw [Sb E]
     simp [Ga,i]
    .have L:=Zn (n:=c.natAbs) (by omega)
     have A:=Zm c false
     simp only [Dx i,cond_true,Ad,k]
     rw [Alg false hc (by simp only [List.length_append]; omega),Ad,Ad4 (by omega),Ad,Kx (By.ti _) (by simp only [List.length_append]; omega),Ad,
      Sb ((E.app (By.sgn _ _)).app (By.ti _))]
     simp [Ga,i]
theorem Alk {a:Bf} (h:Alb a):(Vb a).length<=1024:=by
 have key:∀(l:List Ba) (f:Bool),(∀t∈l,(-1<=t.Var/\t.Var<3000)/\(-1048576<=t.Coef/\t.Coef<=1048576))->(Ga f l a.Const).length<=47*l.length+24:=by
  intro l
  induction l with
  | nil=>
   intro f _
   have h1:=Zn (n:=a.Const.natAbs) (by have:=h.c; omega)
   have h2:=Zm a.Const f
   simp only [Ga]
   split <;> simp <;> omega
  | cons t l ih=>
   intro f b
   have h1:=Ad3 f (b t (by simp))
   have h2:=ih false fun u hu=>b u (by simp [hu])
   simp only [Ga,List.length_append,List.length_cons]; omega
 have:=key a.Terms true h.t
 have:=h.n
 unfold Vb; omega
structure CMo (m:Bd):Prop where
 sz:MSz m
 nf:m.Factors.length<=6
 na:m.Atoms.length<=6
 al:∀a∈m.Atoms,C4 a.Lin=true/\a.Lin.Terms≠[]/\1<=a.Deg/\a.Deg<=6
theorem Zp {R:Type} {a:A6} (K:ByteArray->Option R) (h:C4 a.Lin=true/\a.Lin.Terms≠[]/\1<=a.Deg/\a.Deg<=6) :
  ((Gp a.Deg).bind fun u=>(Ef (ByteArray.mk #[97]) u).bind fun v=>(Ef v (ByteArray.mk #[58])).bind fun w=>(L3 a.Lin).bind fun x=>(Ef w x).bind fun y=>K y)=K (bs (F7 a)):=by
 have h1:=Kt (n:=a.Deg) (by unfold I64; omega)
 have h2:=Alk (Ad2 h.1)
 rw [Gp,Zk (by unfold I64; omega),Ad,c97,Pr (by simp; omega),Ad,c58,Pr (by simp; omega),Ad,Awb h.1 h.2.1,Ad,Pr (by simp; omega),Ad]
 simp [F7]
theorem Vd {a:A6} (h:C4 a.Lin=true/\a.Lin.Terms≠[]/\1<=a.Deg/\a.Deg<=6):(F7 a).length<=1100:=by
 have h1:=Kt (n:=a.Deg) (by unfold I64; omega)
 have h2:=Alk (Ad2 h.1)
 simp [F7]; omega
theorem Ad7 {f:B8} (h:Dl f.Index<=1048576) (b:iR f.Index/\I64 f.Var):(Ff f).length<=33554432:=by
 have h1:=Kt b.2
 have h2:=Adk f.Index b.1
 simp [Ff,Ht]; omega
theorem Awc {m:Bd} (h:CMo m):Tg m=some (I7 m):=by
 obtain ⟨fs,c⟩:=m
 have q:∀f∈fs,Dl f.Index<=1048576/\iR f.Index/\I64 f.Var:=fun f i=>⟨h.sz.fi f i,h.sz.fr f i⟩
 have u:∀a∈c,C4 a.Lin=true/\a.Lin.Terms≠[]/\1<=a.Deg/\a.Deg<=6:=h.al
 have nf:fs.length<=6:=h.nf
 have na:c.length<=6:=h.na
 have A:=fun (l:List B8) (x:∀f∈l,f∈fs) (j:Nat)=>Ad6 (g:=Ff) (n:=33554432) l j (fun f i=>Ad7 (q f (x f i)).1 (q f (x f i)).2)
 have D:=fun (l:List A6) (x:∀a∈l,a∈c) (j:Nat)=>Ad6 (g:=F7) (n:=1100) l j (fun a ha=>Vd (u a (x a ha)))
 have M:∀l:List B8,By (l.flatMap Ff):=fun l=>By.flat By.fac l
 have G:∀l:List A6,By (l.flatMap F7):=fun l=>By.flat By.at l
 have key:∀f:B8,f∈fs->L2 f.Var f.Index=some (bs (Ff f)):=fun f i=>Akc f.Var f.Index (q f i).2.2 (q f i).2.1 (q f i).1
 unfold Tg I7 Vc
 cases fs with
 | nil=>
  rw [As (by simp),cond_false]
  cases c with
  | nil=>
   rw [As (by simp),cond_false]
   rw [Av6 By.nil]; rfl
  | cons a c=>
   have ha:=u a (by simp)
   have y:=Vd ha
   rw [Am (by simp only [List.length_cons]; omega),cond_true,show Ag (a::c) 0=some a from rfl,Ad]
   refine (Zp _ ha).trans ?_
   rw [Sa (By.at a) (by simp; omega),Ad]
   refine Zl a c (fun j=>(((j+1:Nat):Int),[]++F7 a++(c.take j).flatMap F7)) (by simp [Ac,Bs]) (by simp at na; omega) ?_ ?_
   .intro j b hb h1 h2 h3
    have k:=u b (by simp [Cw hb])
    have:=Vd k
    have:=D c (fun b hb=>by simp [hb]) j
    simp at na
    simp only [h1,h2,h3,cond_true,Ad]
    refine (Zp _ k).trans ?_
    rw [Kx (By.at b) (by simp only [List.length_append,List.length_nil]; omega),Ad,Zo hb]
    simp
   .intro h1
    refine ⟨[]++F7 a++c.flatMap F7,by simp only [h1,cond_false,List.take_length],?_⟩
    dsimp only
    rw [Sb ((By.nil.app (By.at a)).app (G c))]
    simp
 | cons f fs=>
  have i:=q f (by simp)
  have L:=Ad7 i.1 i.2
  rw [Am (by simp only [List.length_cons]; omega),cond_true,show Ag (f::fs) 0=some f from rfl,Ad,key f (by simp),Ad,Sa (By.fac f) (by simp; omega),Ad]
  refine Zl f fs (fun j=>(((j+1:Nat):Int),[]++Ff f++(fs.take j).flatMap Ff)) (by simp [Ac,Bs]) (by simp at nf; omega) ?_ ?_
  .intro j g E h1 h2 h3
   have s:g∈f::fs:=by simp [Cw E]
   have:=Ad7 (q g s).1 (q g s).2
   have:=A fs (fun b hb=>by simp [hb]) j
   simp at nf
   simp only [h1,h2,h3,cond_true,Ad]
   rw [key g s,Ad,Kx (By.fac g) (by simp only [List.length_append,List.length_nil]; omega),Ad,Zo E]
   simp
  .intro h1
   have I:=A fs (fun b hb=>by simp [hb]) fs.length
   rw [List.take_length] at I
   simp at nf
   refine ⟨[]++Ff f++fs.flatMap Ff,by simp only [h1,cond_false,List.take_length],?_⟩
   have z:By ([]++Ff f++fs.flatMap Ff):=(By.nil.app (By.fac f)).app (M fs)
   have J:([]++Ff f++fs.flatMap Ff).length<=234881024:=by simp only [List.length_append,List.length_nil]; omega
   have eB:(f::fs).flatMap Ff = []++Ff f++fs.flatMap Ff:=by simp
   rw [eB]
   generalize []++Ff f++fs.flatMap Ff=B at z J
   cases c with
   | nil=>
    rw [As (by simp),cond_false,Sb z]; simp
   | cons a c=>
    have ha:=u a (by simp)
    have y:=Vd ha
    rw [Am (by simp only [List.length_cons]; omega),cond_true,show Ag (a::c) 0=some a from rfl,Ad]
    refine (Zp _ ha).trans ?_
    rw [Kx (By.at a) (by omega),Ad]
    refine Zl a c (fun j=>(((j+1:Nat):Int),B++F7 a++(c.take j).flatMap F7)) (by simp [Ac,Bs]) (by simp at na; omega) ?_ ?_
    .intro j b hb h1 h2 h3
     have k:=u b (by simp [Cw hb])
     have:=Vd k
     have:=D c (fun b hb=>by simp [hb]) j
     simp at na
     simp only [h1,h2,h3,cond_true,Ad]
     refine (Zp _ k).trans ?_
     rw [Kx (By.at b) (by simp only [List.length_append]; omega),Ad,Zo hb]
     simp
    .intro h1
     refine ⟨B++F7 a++c.flatMap F7,by simp only [h1,cond_false,List.take_length],?_⟩
     dsimp only
     rw [Sb ((z.app (By.at a)).app (G c))]
     simp
end Go.Ab
