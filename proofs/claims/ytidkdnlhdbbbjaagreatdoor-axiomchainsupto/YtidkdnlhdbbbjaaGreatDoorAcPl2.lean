/- Plain laws: what the plain functions answer. -/
import Derived.Test.YtidkdnlhdbbbjaaGreatDoorAcPl1
import Derived.KernelRfl
namespace Go.Ab
open Go
mutual
theorem Aju (data:List A4):∀(i:Bo) (t:Ai) (d:Nat),Ic data i t=some d->d<=6*Dk i
 | ⟨n,kids⟩,t,d,h=>by
  rw [Ajf] at h
  simp only [Dk]
  simp only at h
  split at h
  .split at h
   .have:=Uw data kids _ d h; omega
   .cases h
  .split at h
   .split at h
    .cases h; omega
    .cases h
   .split at h
    .split at h
     .have:=Ajv data kids _ d h; omega
     .cases h
    .split at h
     .cases h; omega
     .cases h
theorem Uw (data:List A4):∀(is:List Bo) (ts:List Ai) (d:Nat),Fr data is ts=some d->d<=6*Fj is
 | [],[],d,h=>by simp only [Fr] at h; cases h; omega
 | i::is,t::ts,d,h=>by
  rw [Ac9] at h
  cases h1:Ic data i t with
  | none=>rw [h1] at h; cases h
  | some a=>
   rw [h1,Ae] at h
   cases h2:Fr data is ts with
   | none=>rw [h2] at h; cases h
   | some b=>
    rw [h2] at h
    cases h
    have:=Aju data i t a h1
    have:=Uw data is ts b h2
    simp only [Fj]; omega
 | [],_::_,d,h=>by simp only [Fr] at h; cases h
 | _::_,[],d,h=>by simp only [Fr] at h; cases h
theorem Ajv (data:List A4):∀(es:List Bo) (t:Ai) (d:Nat),Jf data es t=some d->d<=6*Fj es
 | [],t,d,h=>by simp only [Jf] at h; cases h; omega
 | ⟨n,kids⟩::es,t,d,h=>by
  rw [Ajg] at h
  simp only at h
  cases h1:Kk data t n with
  | none=>rw [h1] at h; cases h
  | some ts=>
   rw [h1,Ae] at h
   cases h2:Fr data kids ts with
   | none=>rw [h2] at h; cases h
   | some a=>
    rw [h2,Ae] at h
    cases h3:Jf data es t with
    | none=>rw [h3] at h; cases h
    | some b=>
     rw [h3] at h
     cases h
     have:=Uw data kids ts a h2
     have:=Ajv data es t b h3
     simp only [Fj,Dk]; omega
end
def Rs (data:List A4) (e:Bo) (t:Ai):Option Nat:=(Kk data t e.Num).bind fun ts=>(Fr data e.Kids ts).map (1 + ·)
theorem Atx (data:List A4) (e:Bo) (es:List Bo) (t:Ai):Jf data (e::es) t=(Rs data e t).bind fun a=>(Jf data es t).map (a + ·):=by
 rw [Ajg]; unfold Rs
 cases Kk data t e.Num with
 | none=>rfl
 | some ts=>simp only [Ae]; cases Fr data e.Kids ts <;> rfl
theorem Aty (data:List A4) (e:Bo) (t:Ai) (d:Nat) (h:Rs data e t=some d):d<=6*Dk e:=by
 unfold Rs at h
 cases h1:Kk data t e.Num with
 | none=>rw [h1] at h; cases h
 | some ts=>
  rw [h1,Ae] at h
  cases h2:Fr data e.Kids ts with
  | none=>rw [h2] at h; cases h
  | some a=>
   rw [h2] at h
   cases h
   have:=Uw data _ ts a h2
   have:=Gp e
   show 1+a<=_
   omega
def Dg (v:Int) (o:Option Nat):Prop:=(v = -1/\∀d,o=some d->6<d)\/∃d:Nat,o=some d/\v=d
theorem Dg.clip {v:Int} {o:Option Nat} (h:Dg v o):(if v>6 then -1 else v)=Iz o:=by
 rcases h with ⟨rfl,h⟩ | ⟨d,rfl,rfl⟩
 .rw [if_neg (by omega),Atn h]
 .by_cases hd:6<d
  .rw [if_pos (by omega),Ada hd]
  .rw [if_neg (by omega),Aji (by omega)]
theorem Yz {o p:Option Nat} {acc:Nat} {d:Nat} (h:(o.bind fun a=>p.map (a + ·)).map (acc + ·)=some d):∃a b,o=some a/\p=some b/\d=acc+(a+b):=by
 cases o with
 | none=>cases h
 | some a=>
  cases p with
  | none=>cases h
  | some b=>exact ⟨a,b,rfl,rfl,by simp at h; omega⟩
theorem Atz {data:List A4} (hz:Szv data) (hs:Ut data) (b1:List (ByteArray×Int)) (b2:List (ByteArray×List Dh)) (vars:List Ai) (N M:Int) (L:List Ai):∀k:Nat,
  (∀(i:Bo) (t:Ai),3*Dk i<=k->Dk i<=1048576->Bt t<=200->∃v,M4 k t i b1 b2 data vars N M L=some v/\Dg v (Ic data i t)) /\
  (∀(f:List Bo) (ts:List Ai),3*Fj f+1<=k->Fj f<=1048576->(∀t∈ts,Bt t<=200)->∃v,Ou k ts f b1 b2 data vars N M L=some v/\Dg v (Fr data f ts)) /\
  (∀(e:Bo) (t:Ai),3*Dk e<=k->Dk e<=1048576->Bt t<=200->∃v,Ov k t e b1 b2 data vars N M L=some v/\Dg v (Rs data e t)):=by
 intro k
 induction k with
 | zero=>exact ⟨fun i t h=>by have:=Gp i; omega,fun f ts h=>by omega,fun i t h=>by have:=Gp i; omega⟩
 | succ k ih=>
  obtain ⟨a6,R,a7⟩:=ih
  have D:∀o:Option Nat,o.map (0 + ·)=o:=by intro o; cases o <;> simp
  have c:∀d:Nat,(none:Option Nat)=some d->6<d:=fun d h=>by cases h
  refine ⟨?_,?_,?_⟩
  .intro i t hk hi ht
   have af:=Gp i
   have U:=Rq i.Kids
   rw [M4,Ajf]
   by_cases Z:t.Kind=6
   .simp only [E8 Z,cond_true,if_pos Z]
    by_cases h0:i.Num=0
    .simp only [E8 h0,cond_true,if_pos h0]
     obtain ⟨p,p1,p2⟩:=R i.Kids t.Args (by omega) (by omega) (fun a ha=>by have:=Kj ha; have:=Ju t; omega)
     rw [p1]
     exact ⟨p,rfl,p2⟩
    .simp only [C5 h0,cond_false,if_neg h0]
     exact ⟨_,rfl,.inl ⟨rfl,c⟩⟩
   .simp only [C5 Z,cond_false,if_neg Z]
    by_cases Y:t.Kind=7
    .simp only [E8 Y,cond_true,if_pos Y]
     by_cases a1:0<=i.Num
     .by_cases a2:i.Num<=6
      .by_cases a3:i.Kids.length=0
       .rw [Am (show i.Num>=0 from a1),Am a2,if_pos ⟨a1,a2,a3⟩,E8 (by omega)]
        exact ⟨_,rfl,.inr ⟨i.Num.toNat,rfl,by omega⟩⟩
       .rw [Am (show i.Num>=0 from a1),Am a2,if_neg (fun h=>a3 h.2.2),C5 (by omega)]
        exact ⟨_,rfl,.inl ⟨rfl,c⟩⟩
      .rw [Am (show i.Num>=0 from a1),Av a2,if_neg (fun h=>a2 h.2.1)]
       exact ⟨_,rfl,.inl ⟨rfl,c⟩⟩
     .rw [Av (show ¬i.Num>=0 from a1),if_neg (fun h=>a1 h.1)]
      exact ⟨_,rfl,.inl ⟨rfl,c⟩⟩
    .simp only [C5 Y,cond_false,if_neg Y]
     by_cases h5:t.Kind=5
     .simp only [E8 h5,cond_true,if_pos h5]
      by_cases h0:i.Num=0
      .simp only [D3 h0,cond_false,if_pos h0]
       have key:∀(m j acc:Nat),j+m=i.Kids.length->acc<=10000000->∃z,Al (S:=(Int×Int)) (E:=(Int⊕Int)) (fun (G,v8)=>
         bif (decide (v8<(i.Kids.length:Int))) then (
         (Ag i.Kids v8).bind fun v9=>
         (Ov k t v9 b1 b2 data vars N M L).bind fun I=>
         bif (decide (I<(0:Int))) then some (.inr (.inl (-1)))
         else (
         bif (decide (G>(6:Int))) then some (.inr (.inl (-1)))
         else some (.inl ((Ac (G+I)),(Ac (v8+1))))))
         else some (.inr (.inr G))) ((acc:Int),(j:Int))=some z/\Dg (match z with | .inl v=>v | .inr v=>v) ((Jf data (i.Kids.drop j) t).map (acc + ·)):=by
        intro m
        induction m with
        | zero=>
         intro j acc hj A
         have:j=i.Kids.length:=by omega
         subst this
         exact ⟨.inr (acc:Int),Fg (by simp),.inr ⟨acc,by simp [Jf],rfl⟩⟩
        | succ m s=>
         intro j acc hj A
         have g:i.Kids[j]? = some i.Kids[j]:=Cp (by omega)
         generalize i.Kids[j]=e at g
         have ac:=Pa (Cv g)
         rw [I0 g,Atx]
         obtain ⟨v,B,v2⟩:=a7 e t (by omega) (by omega) ht
         rcases v2 with ⟨rfl,v2⟩ | ⟨a,a1,rfl⟩
         .refine ⟨.inl (-1),Fg ?_,.inl ⟨rfl,fun d h=>?_⟩⟩
          .simp only [Am (by omega:(j:Int)<(i.Kids.length:Int)),cond_true,Ck rfl g,Ae,B]; rfl
          .obtain ⟨a,b,ha,hb,rfl⟩:=Yz h
           have:=v2 a ha; omega
         .have V:=Aty data e t a a1
          by_cases hb:acc>6
          .refine ⟨.inl (-1),Fg ?_,.inl ⟨rfl,fun d h=>?_⟩⟩
           .simp only [Am (by omega:(j:Int)<(i.Kids.length:Int)),cond_true,Ck rfl g,Ae,B,Av (by omega:¬(a:Int)<0),Am (by omega:(acc:Int)>6),cond_false]
           .obtain ⟨a,b,ha,hb,rfl⟩:=Yz h
            omega
          .have ew:Ac ((acc:Int)+(a:Int))=((acc+a:Nat):Int):=by rw [Ac,Bv] <;> omega
           obtain ⟨z,q,z2⟩:=s (j+1) (acc+a) (by omega) (by omega)
           refine ⟨z,?_,?_⟩
           .rw [Kv (s':=(((acc+a:Nat):Int),((j+1:Nat):Int)))]
            .exact q
            .simp only [Am (by omega:(j:Int)<(i.Kids.length:Int)),cond_true,Ck rfl g,Ae,B,Av (by omega:¬(a:Int)<0),Av (by omega:¬(acc:Int)>6),cond_false,ew,Dv (show j<i.Kids.length by omega) (by omega)]
           .have D:∀o:Option Nat,(((some a:Option Nat).bind fun a=>o.map (a + ·)).map (acc + ·))=o.map (acc+a + ·):=by
             intro o; cases o <;> simp [Nat.add_assoc]
            rw [a1,D]
            exact z2
       obtain ⟨z,q,z2⟩:=key i.Kids.length 0 0 (by omega) (by omega)
       have q:Al _ ((0:Int),(0:Int))=some z:=q
       rw [q,Ae]
       rw [List.drop_zero,D] at z2
       cases z with
       | inl v=>exact ⟨v,rfl,z2⟩
       | inr v=>exact ⟨v,rfl,z2⟩
      .simp only [Dq h0,cond_true,if_neg h0]
       exact ⟨_,rfl,.inl ⟨rfl,c⟩⟩
     .simp only [C5 h5,cond_false,if_neg h5]
      by_cases h0:i.Num=0
      .simp only [E8 h0,cond_true]
       by_cases a3:i.Kids.length=0
       .rw [if_pos ⟨h0,a3⟩,E8 (by omega)]
        exact ⟨_,rfl,.inr ⟨0,rfl,rfl⟩⟩
       .rw [if_neg (fun h=>a3 h.2),C5 (by omega)]
        exact ⟨_,rfl,.inl ⟨rfl,c⟩⟩
      .simp only [C5 h0,cond_false]
       rw [if_neg (fun h=>h0 h.1)]
       exact ⟨_,rfl,.inl ⟨rfl,c⟩⟩
  .intro f ts hk hi ht
   have U:=Rq f
   rw [Ou]
   by_cases hl:ts.length=f.length
   .rw [D3 (by omega)]
    simp only [cond_false]
    have key:∀(m j acc:Nat),j+m=f.length->acc<=10000000->∃z,Al (S:=(Int×Int)) (E:=(Int⊕Int)) (fun (v5,X)=>
      bif (decide (X<(ts.length:Int))) then (
      (Ag ts X).bind fun G=>
      (Ag f X).bind fun v9=>
      (M4 k G v9 b1 b2 data vars N M L).bind fun J=>
      bif (decide (J<(0:Int))) then some (.inr (.inl (-1)))
      else (
      bif (decide (v5>(6:Int))) then some (.inr (.inl (-1)))
      else some (.inl ((Ac (v5+J)),(Ac (X+1))))))
      else some (.inr (.inr v5))) ((acc:Int),(j:Int))=some z/\Dg (match z with | .inl v=>v | .inr v=>v) ((Fr data (f.drop j) (ts.drop j)).map (acc + ·)):=by
     intro m
     induction m with
     | zero=>
      intro j acc hj A
      have:j=ts.length:=by omega
      subst this
      refine ⟨.inr (acc:Int),Fg (by simp),.inr ⟨acc,?_,rfl⟩⟩
      rw [List.drop_of_length_le (by omega),List.drop_of_length_le (by omega)]
      simp [Fr]
     | succ m s=>
      intro j acc hj A
      have g:f[j]? = some f[j]:=Cp (by omega)
      generalize f[j]=e at g
      have hu:ts[j]? = some ts[j]:=Cp (by omega)
      generalize ts[j]=u at hu
      have ac:=Pa (Cv g)
      rw [I0 g,I0 hu,Ac9]
      obtain ⟨v,B,v2⟩:=a6 e u (by omega) (by omega) (ht u (Cv hu))
      rcases v2 with ⟨rfl,v2⟩ | ⟨a,a1,rfl⟩
      .refine ⟨.inl (-1),Fg ?_,.inl ⟨rfl,fun d h=>?_⟩⟩
       .simp only [Am (by omega:(j:Int)<(ts.length:Int)),cond_true,Ck rfl g,Ck rfl hu,Ae,B]; rfl
       .obtain ⟨a,b,ha,hb,rfl⟩:=Yz h
        have:=v2 a ha; omega
      .have V:=Aju data e u a a1
       by_cases hb:acc>6
       .refine ⟨.inl (-1),Fg ?_,.inl ⟨rfl,fun d h=>?_⟩⟩
        .simp only [Am (by omega:(j:Int)<(ts.length:Int)),cond_true,Ck rfl g,Ck rfl hu,Ae,B,Av (by omega:¬(a:Int)<0),Am (by omega:(acc:Int)>6),cond_false]
        .obtain ⟨a,b,ha,hb,rfl⟩:=Yz h
         omega
       .have ew:Ac ((acc:Int)+(a:Int))=((acc+a:Nat):Int):=by rw [Ac,Bv] <;> omega
        obtain ⟨z,q,z2⟩:=s (j+1) (acc+a) (by omega) (by omega)
        refine ⟨z,?_,?_⟩
        .rw [Kv (s':=(((acc+a:Nat):Int),((j+1:Nat):Int)))]
         .exact q
         .simp only [Am (by omega:(j:Int)<(ts.length:Int)),cond_true,Ck rfl g,Ck rfl hu,Ae,B,Av (by omega:¬(a:Int)<0),Av (by omega:¬(acc:Int)>6),cond_false,ew,Dv (show j<f.length by omega) (by omega)]
        .have D:∀o:Option Nat,(((some a:Option Nat).bind fun a=>o.map (a + ·)).map (acc + ·))=o.map (acc+a + ·):=by
          intro o; cases o <;> simp [Nat.add_assoc]
         rw [a1,D]
         exact z2
    obtain ⟨z,q,z2⟩:=key f.length 0 0 (by omega) (by omega)
    have q:Al _ ((0:Int),(0:Int))=some z:=q
    rw [q,Ae]
    rw [List.drop_zero,List.drop_zero,D] at z2
    cases z with
    | inl v=>exact ⟨v,rfl,z2⟩
    | inr v=>exact ⟨v,rfl,z2⟩
   .rw [Dq (by omega),Ajh data f ts hl]
    exact ⟨_,rfl,.inl ⟨rfl,c⟩⟩
  .intro e t hk g ht
   have ag:=Gp e
   rw [Ov]
   unfold Rs Kk
   rw [Atg hz t ht e.Num,Ae]
   cases hf:Nf data t e.Num with
   | none=>exact ⟨-1,rfl,.inl ⟨rfl,c⟩⟩
   | some l=>
    have ad:=Ath hf
    obtain ⟨x,y,_,hx,_,hy,hl,ab⟩:=Ac8 hf
    obtain ⟨y6,_⟩:=hz x (Je hx).2.2.2 y (Je hy).2.2.2
    have ae:l.length<=6:=by rw [hl]; simpa using y6
    have aa:∀a∈Iy l (Ib data t.Num e.Num),Bt a<=200:=(Atl (show Kk data t e.Num=some _ by unfold Kk; rw [hf]; rfl)).1
    obtain ⟨v,B,v2⟩:=R e.Kids (Iy l (Ib data t.Num e.Num)) (by omega) (by omega) aa
    have hd:Dg (if v<0 then -1 else 1+v) (((some l).map fun l=>Iy l (Ib data t.Num e.Num)).bind fun ts=>(Fr data e.Kids ts).map (1 + ·)):=by
     rw [Option.map_some,Ae]
     rcases v2 with ⟨rfl,v2⟩ | ⟨a,a1,rfl⟩
     .refine .inl ⟨rfl,fun d h=>?_⟩
      cases ha:Fr data e.Kids (Iy l (Ib data t.Num e.Num)) with
      | none=>rw [ha] at h; cases h
      | some a=>rw [ha] at h; have:=v2 a ha; simp at h; omega
     .rw [a1,if_neg (by omega)]
      exact .inr ⟨1+a,rfl,by omega⟩
    have a8:v = -1\/(0<=v/\v<=10000000):=by
     rcases v2 with ⟨rfl,v2⟩ | ⟨a,a1,rfl⟩
     .exact .inl rfl
     .have:=Uw data _ _ a a1; right; omega
    refine ⟨_,?_,hd⟩
    simp only [okL,bnt,cond_false,Aiv data t.Num e.Num hs,Ae]
    refine Iv (Ib data t.Num e.Num) (fun j=>((j:Int),Iy (l.take j) ((Ib data t.Num e.Num).take j))) (by simp [Iy]) (by omega) ?_ ?_
    .intro j b hj hb h1 h2 h3
     have ha:l[j]? = some l[j]:=Cp (by omega)
     generalize l[j]=a at ha
     have U:=Atj (l.take j) ((Ib data t.Num e.Num).take j)
     have:(l.take j).length<=6:=by simp; omega
     simp only [h1,h2,h3,cond_true,Ae,Ck rfl ha,Ati ha hb]
     rw [Ds (by simp; omega)]
     cases b <;> simp
    .intro h1
     refine ⟨Iy l (Ib data t.Num e.Num),?_,?_⟩
     .simp only [h1]
      rw [List.take_of_length_le (by omega),List.take_of_length_le (Nat.le_refl _)]; rfl
     .rw [B,Ae]
      rcases a8 with h | h
      .subst h; rfl
      .rw [Av (by omega),if_neg (by omega)]
       simp only [cond_false]
       rw [Ac,Bv] <;> omega
def tyX (vars:List Ai) (res:Ai) (v:Int):Option Ai:=if v = -1 then some res else Ag vars v
def E9 (data:List A4) (vars:List Ai) (res:Ai) (o:List (ByteArray×Int)):Prop:=∀p∈o,∀v i t,p.1=Lb v i->tyX vars res v=some t->p.2=Iz (Ic data i t)
theorem Ajw {α:Type}:∀(o:List (ByteArray×α)) (s:ByteArray) (v:α),∀p∈Et o s v,p∈o\/p=(s,v)
 | [],s,v,p,h=>by simp only [Et,List.mem_singleton] at h; exact .inr h
 | q::o,s,v,p,h=>by
  unfold Et at h
  cases hq:(s==q.1) with
  | true=>
   rw [hq] at h
   simp only [cond_true,List.mem_cons] at h
   rcases h with h | h
   .exact .inr h
   .exact .inl (by simp [h])
  | false=>
   rw [hq] at h
   simp only [cond_false,List.mem_cons] at h
   rcases h with h | h
   .exact .inl (by simp [h])
   .rcases Ajw o s v p h with h | h
    .exact .inl (by simp [h])
    .exact .inr h
theorem At0 {data:List A4} (I:Szv data) (L:Ut data) (b1:List (ByteArray×Int)) (b2:List (ByteArray×List Dh)) (vars:List Ai) (res:Ai) (f:E9 data vars res b1)
  (v:Int) (i:Bo) (t:Ai) (ht:tyX vars res v=some t) (b:Bt t<=200) (J:I64 v) (M:iR i) (s:Dk i<=1048576) :
  ∃x,K2 v i b1 b2 data vars res.Kind res.Num res.Args=some (Iz (Ic data i t),x)/\E9 data vars res x:=by
 unfold K2
 rw [Ajt v i J M s,Ae]
 cases g:Ej b1 (Lb v i) with
 | true=>
  refine ⟨b1,?_,f⟩
  have:Hb b1 (Lb v i) 0=Iz (Ic data i t):=by
   unfold Hb
   unfold Ej at g
   rw [List.any_eq_true] at g
   obtain ⟨p,E,D⟩:=g
   cases j:b1.find? (fun p=>Lb v i==p.1) with
   | none=>exact absurd D (by have:=List.find?_eq_none.1 j p E; simpa using this)
   | some q=>
    have hq:=List.find?_some j
    exact f q (List.mem_of_find?_eq_some j) v i t ((O9 _ _).1 hq).symm ht
  simp only [cond_true,Ae,bnt,cond_false,this]
 | false=>
  obtain ⟨w,z,y⟩:=(Atz I L b1 b2 vars res.Kind res.Num res.Args 4000000).1 i t (by omega) s b
  have c:Mv v b1 b2 data vars res.Kind res.Num res.Args=some t:=by
   unfold Mv
   unfold tyX at ht
   by_cases h:v = -1
   .rw [if_pos h] at ht; cases ht
    have N:(Ai.mk res.Kind res.Num res.Args)=res:=by cases res; rfl
    rw [E8 h,N]; rfl
   .rw [if_neg h] at ht
    rw [C5 h,ht]; rfl
  have k:(bif decide (w>6) then some (-1) else some w:Option Int)=some (Iz (Ic data i t)):=by
   rw [<-y.clip]
   by_cases h:w>6
   .rw [Am h,if_pos h]; rfl
   .rw [Av h,if_neg h]; rfl
  refine ⟨Et b1 (Lb v i) (Iz (Ic data i t)),?_,?_⟩
  .simp only [cond_false,Ae,Bool.not_false,cond_true,c,z,k]
  .intro p hp A G B u l
   rcases Ajw _ _ _ p hp with h | h
   .exact f p h A G B u l
   .subst h
    obtain ⟨rfl,rfl⟩:=Atv u
    rw [ht] at l; cases l; rfl
end Go.Ab
namespace Go.Ab
open Go
def De (a b:Int):Int:=if a<b then -1 else if a>b then 1 else 0
def Df (a b:Int):Int:=if a=0 then b else a
theorem E2 {a b:Int}:De a b=0↔a=b:=by unfold De; split <;> (try split) <;> omega
theorem Lc (a b:Int):Ja a b=some (De a b):=by
 unfold Ja Tu De
 simp only [Ae,bne_self_eq_false,cond_false]
 by_cases h:a<b
 .rw [Am h,if_pos h]; rfl
 .rw [Av h,if_neg h]
  by_cases h':a>b
  .rw [Am h',if_pos h']; rfl
  .rw [Av h',if_neg h']; rfl
theorem Ajx (a b:Int):Tx a b=some (De a b):=Lc a b
theorem Rt (a b:Int):K0 [a,b]=some (Df a b):=by
 unfold K0 Df
 by_cases ha:a=0
 .rw [if_pos ha]
  by_cases hb:b=0
  .refine Ho 2 (fun j=>(j:Int)) rfl ?_ ⟨.inr (),rfl,by rw [hb]⟩
   intro j hj
   match j,hj with
   | 0,_=>subst ha; rfl
   | 1,_=>subst hb; rfl
  .refine Ho 1 (fun j=>(j:Int)) rfl ?_ ⟨.inl b,?_,rfl⟩
   .intro j hj
    match j,hj with
    | 0,_=>subst ha; rfl
   .show (bif (b != 0) then _ else _)=_
    rw [Dq hb]; rfl
 .rw [if_neg ha]
  refine Ho 0 (fun j=>(j:Int)) rfl (fun j hj=>by omega) ⟨.inl a,?_,rfl⟩
  show (bif (a != 0) then _ else _)=_
  rw [Dq ha]; rfl
theorem Y0 (a b:Int) (h:a≠b):Qi (decide (a<b))=some (De a b):=by
 unfold Qi De
 by_cases h':a<b
 .rw [Am h',if_pos h']; rfl
 .rw [Av h',if_neg h',if_pos (by omega)]; rfl
theorem Y1 (a b:Int) (h:a≠b):N7 (decide (a<b))=some (De a b):=Y0 a b h
theorem Y2 (a b:Int) (h:a≠b):N3 (decide (a<b))=some (De a b):=Y0 a b h
def D5 {α:Type} (g:α->α->Int):List α->List α->Int
 | x::xs,y::ys=>Df (g x y) (D5 g xs ys)
 | _,_=>0
theorem Ux {α:Type} (g:α->α->Int) (l m:List α) {step:Int->Option (Int⊕(Int⊕Unit))} (k:l.length=m.length) (hb:l.length<4611686018427387904)
  (f:∀(j:Nat) (x y:α),l[j]? = some x->m[j]? = some y->decide ((j:Int)<(l.length:Int))=true->Ag l (j:Int)=some x->Ag m (j:Int)=some y->decide ((j:Int)>=(m.length:Int))=false->Ac ((j:Int)+1)=((j+1:Nat):Int) ->
   step (j:Int)=if g x y=0 then some (.inl ((j+1:Nat):Int)) else some (.inr (.inl (g x y))))
  (i:decide ((l.length:Int)<(l.length:Int))=false->step (l.length:Int)=some (.inr (.inr ()))) :
  ∃z,Al step 0=some z/\(match z with | .inl r=>r=D5 g l m/\r≠0 | .inr _=>D5 g l m=0):=by
 have key:∀(n j:Nat),j+n=l.length->∃z,Al step (j:Int)=some z/\(match z with | .inl r=>r=D5 g (l.drop j) (m.drop j)/\r≠0 | .inr _=>D5 g (l.drop j) (m.drop j)=0):=by
  intro n
  induction n with
  | zero=>
   intro j hj
   have:j=l.length:=by omega
   subst this
   refine ⟨.inr (),Fg (i (by simp)),?_⟩
   rw [List.drop_of_length_le (by omega)]; simp [D5]
  | succ n ih=>
   intro j hj
   have hx:l[j]? = some l[j]:=Cp (by omega)
   have hy:m[j]? = some m[j]:=Cp (by omega)
   generalize l[j]=x at hx
   generalize m[j]=y at hy
   have h:=f j x y hx hy (Am (by omega)) (Ck rfl hx) (Ck rfl hy) (Av (by omega)) (Dv (show j<l.length by omega) hb)
   rw [I0 hx,I0 hy]
   by_cases b:g x y=0
   .rw [if_pos b] at h
    obtain ⟨z,c,z2⟩:=ih (j+1) (by omega)
    refine ⟨z,by rw [Kv h]; exact c,?_⟩
    have e:D5 g (x::l.drop (j+1)) (y::m.drop (j+1))=D5 g (l.drop (j+1)) (m.drop (j+1)):=by simp only [D5,Df,b,if_true]
    cases z with
    | inl r=>simp only [e]; exact z2
    | inr u=>simp only [e]; exact z2
   .rw [if_neg b] at h
    refine ⟨.inl (g x y),Fg h,?_,b⟩
    simp only [D5,Df,b,if_false]
 exact key l.length 0 (by omega)
theorem Y3 {α:Type} (f:α->α->Option Int) (g:α->α->Int) (l m:List α) (A:l.length=m.length) (hb:l.length<4611686018427387904) (B:∀(j:Nat) (x y:α),l[j]? = some x->m[j]? = some y->f x y=some (g x y)) :
  ((Al (S:=Int) (E:=(Int⊕Unit)) (fun b=>
   bif (decide (b<(l.length:Int))) then (
   (Ag l b).bind fun s=>
   bif (decide (b>=(m.length:Int))) then some (.inr (.inl 1))
   else (
   (Ag m b).bind fun v9=>
   (f s v9).bind fun c=>
   bif (c != (0:Int)) then some (.inr (.inl c))
   else some (.inl (Ac (b+1)))))
   else some (.inr (.inr ()))) 0).bind fun z=>
   match z with
   | .inl k=>some k
   | .inr _=>bif (decide ((l.length:Int)<(m.length:Int))) then some (-1) else some 0)=some (D5 g l m):=by
 refine Um (Ux g l m A hb ?_ (fun h=>by simp only [h]; rfl)) ?_
 .intro j x y hx hy h1 h2 h3 G D
  simp only [h1,h2,h3,G,D,cond_true,cond_false,Ae,B j x y hx hy]
  by_cases i:g x y=0
  .rw [D3 i,if_pos i]; rfl
  .rw [Dq i,if_neg i]; rfl
 .rintro (r | u) q
  .rw [q.1]
  .simp only
   rw [Av (by omega),show D5 g l m=0 from q]; rfl
def Jw (x y:Bc):Int:=Df (De x.Var y.Var) (De x.Coef y.Coef)
def Fa (a b:Bn):Int:=if a.Terms.length=b.Terms.length then Df (D5 Jw a.Terms b.Terms) (De a.Const b.Const) else De a.Terms.length b.Terms.length
theorem Y4 (a b:Bn) (ha:a.Terms.length<1099511627776):Jr a b=some (Fa a b):=by
 unfold Jr Fa
 rw [Lc,Ae]
 by_cases h:a.Terms.length=b.Terms.length
 .rw [D3 (E2.2 (by omega)),if_pos h]
  simp only [cond_false]
  have:=Y3 Tw Jw a.Terms b.Terms h (by omega) (fun j x y _ _=>by
   unfold Tw Jw
   rw [Lc,Ajx]; simp only [Ae,Rt])
  rw [show Xf a.Terms b.Terms=_ from this,Ae,Ajx]
  simp only [Ae,Rt]
 .rw [Dq (fun e=>h (by have:=E2.1 e; omega)),if_neg h]; rfl
theorem At1 (a b:Bn) (ha:a.Terms.length<1099511627776):S3 a b=some (Fa a b):=by
 unfold S3 Fa
 by_cases h:a.Terms.length=b.Terms.length
 .rw [D3 (by omega),if_pos h]
  simp only [cond_false]
  refine Um (Ux Jw a.Terms b.Terms h (by omega) ?_ (fun h=>by simp only [h]; rfl)) ?_
  .intro j x y hx hy h1 h2 h3 i g
   simp only [h1,h2,h3,g,cond_true,Ae]
   by_cases c:x.Var=y.Var
   .rw [D3 c]
    by_cases hc:x.Coef=y.Coef
    .rw [D3 hc]
     rw [if_pos (by unfold Jw; rw [E2.2 c,E2.2 hc]; rfl)]; rfl
    .rw [Dq hc,Y1 _ _ hc]
     have e:Jw x y=De x.Coef y.Coef:=by unfold Jw; rw [E2.2 c]; rfl
     rw [e,if_neg (fun e=>hc (E2.1 e))]; rfl
   .rw [Dq c,Y1 _ _ c]
    have e:Jw x y=De x.Var y.Var:=by unfold Jw Df; rw [if_neg (fun e=>c (E2.1 e))]
    rw [e,if_neg (fun e=>c (E2.1 e))]; rfl
  .rintro (r | u) f
   .obtain ⟨rfl,h0⟩:=f
    unfold Df; rw [if_neg h0]
   .have f:D5 Jw a.Terms b.Terms=0:=f
    rw [f]
    simp only [Df,if_true]
    by_cases hc:a.Const=b.Const
    .rw [D3 hc,E2.2 hc]; rfl
    .rw [Dq hc,Y1 _ _ hc]; rfl
 .rw [Dq (by omega),if_neg h,Y1 _ _ (by omega)]; rfl
mutual
def Hi:Bo->Bo->Int
 | ⟨n,k⟩,j=>if n=j.Num then (if k.length=j.Kids.length then Pc k j.Kids else De k.length j.Kids.length) else De n j.Num
def Pc:List Bo->List Bo->Int
 | x::xs,y::ys=>Df (Hi x y) (Pc xs ys)
 | [],_=>0
 | _::_,[]=>0
end
theorem Adh (i j:Bo):Hi i j=if i.Num=j.Num then (if i.Kids.length=j.Kids.length then Pc i.Kids j.Kids else De i.Kids.length j.Kids.length) else De i.Num j.Num:=by cases i; simp only [Hi]
theorem Y5:∀l m:List Bo,Pc l m=D5 Hi l m
 | x::xs,y::ys=>by simp only [Pc,D5,Y5 xs ys]
 | [],_=>by simp [Pc,D5]
 | _::_,[]=>by simp [Pc,D5]
theorem At2:∀(n k:Nat) (i j:Bo),Dk i<=n->2*n<=k->n<1099511627776->Mz k i j=some (Hi i j):=by
 intro n
 induction n with
 | zero=>intro k i j h; have:=Gp i; omega
 | succ n ih=>
  intro k i j h hk c
  obtain ⟨k,rfl⟩:∃b,k=b+2:=⟨k-2,by omega⟩
  have g:=Gp i
  have f:=Rq i.Kids
  rw [Mz,Adh,Lc,Lc]
  simp only [Ae,Rt]
  by_cases h1:i.Num=j.Num
  .rw [if_pos h1]
   by_cases h2:i.Kids.length=j.Kids.length
   .rw [if_pos h2,D3 (by unfold Df; rw [E2.2 h1,E2.2 (by omega)]; rfl),Y5]
    simp only [cond_false]
    have:=Y3 (Mz k) Hi i.Kids j.Kids h2 (by omega) (fun q x y hx hy=>ih k x y (by have:=Pa (Cv hx); omega) (by omega) (by omega))
    rw [Tv]
    refine Eq.trans (congrArg (fun q=>Option.bind q _) this) rfl
   .have e:Df (De i.Num j.Num) (De (i.Kids.length:Int) (j.Kids.length:Int))=De i.Kids.length j.Kids.length:=by unfold Df; rw [E2.2 h1]; rfl
    rw [if_neg h2,e,Dq (fun e=>h2 (by have:=E2.1 e; omega))]; rfl
  .have e:Df (De i.Num j.Num) (De (i.Kids.length:Int) (j.Kids.length:Int))=De i.Num j.Num:=by unfold Df; rw [if_neg (fun e=>h1 (E2.1 e))]
   rw [if_neg h1,e,Dq (fun e=>h1 (E2.1 e))]; rfl
theorem At3:∀(n k:Nat) (i j:Bo),Dk i<=n->2*n<=k->n<1099511627776->Mw k i j=some (Hi i j):=by
 intro n
 induction n with
 | zero=>intro k i j h; have:=Gp i; omega
 | succ n ih=>
  intro k i j h hk A
  obtain ⟨k,rfl⟩:∃l,k=l+2:=⟨k-2,by omega⟩
  have D:=Gp i
  have B:=Rq i.Kids
  rw [Mw,Adh]
  by_cases h1:i.Num=j.Num
  .rw [if_pos h1,D3 h1]
   simp only [cond_false]
   rw [Te]
   by_cases h2:i.Kids.length=j.Kids.length
   .rw [if_pos h2,D3 (by omega),Y5]
    simp only [cond_false]
    have:=Ux Hi i.Kids j.Kids h2 (by omega) (step:=fun v5=>bif (decide (v5<(i.Kids.length:Int))) then ((Ag i.Kids v5).bind fun g=>(Ag j.Kids v5).bind fun f=>(Mw k g f).bind fun v8=>bif (v8 != (0:Int)) then some (.inr (.inl v8)) else some (.inl (Ac (v5+1)))) else some (.inr (.inr ()))) (fun q x y hx hy h1 h2 h3 E s=>by
     simp only [h1,h2,h3,s,cond_true,Ae,ih k x y (by have:=Pa (Cv hx); omega) (by omega) (by omega)]
     by_cases b:Hi x y=0
     .rw [D3 b,if_pos b]; rfl
     .rw [Dq b,if_neg b]; rfl) (fun h=>by simp only [h]; rfl)
    obtain ⟨z,c,z2⟩:=this
    rw [c,Ae]
    cases z with
    | inl r=>rw [z2.1]; rfl
    | inr u=>rw [show D5 Hi i.Kids j.Kids=0 from z2]; rfl
   .rw [if_neg h2,Dq (by omega),Y0 _ _ (by omega)]; rfl
  .rw [if_neg h1,Dq h1,Y0 _ _ h1]; rfl
def Jx (x y:B7):Int:=Df (De x.Var y.Var) (Hi x.Index y.Index)
def Km (x y:A9):Int:=Df (Fa x.Lin y.Lin) (De x.Deg y.Deg)
def Cy (a b:Bh):Int :=
 if a.Factors.length=b.Factors.length then
  Df (D5 Jx a.Factors b.Factors) (if a.Atoms.length=b.Atoms.length then D5 Km a.Atoms b.Atoms else De a.Atoms.length b.Atoms.length)
 else De a.Factors.length b.Factors.length
structure MSz (m:Bh):Prop where
 nf:m.Factors.length<=1048576
 na:m.Atoms.length<=1048576
 fi:∀f∈m.Factors,Dk f.Index<=1048576
 fr:∀f∈m.Factors,iR f.Index/\I64 f.Var
 al:∀a∈m.Atoms,a.Lin.Terms.length<=1048576
theorem Ajy (a b:Bh) (ha:MSz a):My a b=some (Cy a b):=by
 have h1:=ha.nf
 have h2:=ha.na
 unfold My Cy
 rw [Lc,Ae]
 by_cases h:a.Factors.length=b.Factors.length
 .rw [D3 (E2.2 (by omega)),if_pos h]
  simp only [cond_false]
  have:=Y3 Tj Jx a.Factors b.Factors h (by omega) (fun j x y hx hy=>by
   unfold Tj Jx
   rw [Lc,At2 1048576 4000000 x.Index y.Index (ha.fi x (Cv hx)) (by omega) (by omega)]; simp only [Ae,Rt])
  rw [show W8 a.Factors b.Factors=_ from this,Ae,Lc]
  simp only [Ae,Rt]
  by_cases h0:D5 Jx a.Factors b.Factors=0
  .simp only [h0,Df,if_true]
   by_cases h':a.Atoms.length=b.Atoms.length
   .rw [D3 (E2.2 (by omega)),if_pos h']
    simp only [cond_false]
    have:=Y3 Tk Km a.Atoms b.Atoms h' (by omega) (fun j x y hx hy=>by
     unfold Tk Km
     rw [Lc,Y4 x.Lin y.Lin (by have:=ha.al x (Cv hx); omega)]; simp only [Ae,Rt])
    rw [show W9 a.Atoms b.Atoms=_ from this]; rfl
   .rw [Dq (fun e=>h' (by have:=E2.1 e; omega)),if_neg h']; rfl
  .simp only [Df,if_neg h0]
   rw [Dq h0]; rfl
 .rw [Dq (fun e=>h (by have:=E2.1 e; omega)),if_neg h]; rfl
theorem At4 (a b:Bh) (ha:MSz a):Sz a b=some (Cy a b):=by
 have h1:=ha.nf
 have h2:=ha.na
 unfold Sz Cy
 by_cases h:a.Factors.length=b.Factors.length
 .rw [D3 (by omega),if_pos h]
  simp only [cond_false]
  refine Um (Ux Jx a.Factors b.Factors h (by omega) ?_ (fun h=>by simp only [h]; rfl)) ?_
  .intro j x y hx hy h1 h2 h3 i g
   simp only [h1,h2,h3,g,cond_true,Ae,At3 1048576 4000000 x.Index y.Index (ha.fi x (Cv hx)) (by omega) (by omega)]
   by_cases c:x.Var=y.Var
   .rw [D3 c]
    have e:Jx x y=Hi x.Index y.Index:=by unfold Jx Df; rw [if_pos (E2.2 c)]
    rw [e]
    by_cases hc:Hi x.Index y.Index=0
    .rw [D3 hc,if_pos hc]; rfl
    .rw [Dq hc,if_neg hc]; rfl
   .rw [Dq c,Y2 _ _ c]
    have e:Jx x y=De x.Var y.Var:=by unfold Jx Df; rw [if_neg (fun e=>c (E2.1 e))]
    rw [e,if_neg (fun e=>c (E2.1 e))]; rfl
  .rintro (r | u) f
   .obtain ⟨rfl,h0⟩:=f
    unfold Df; rw [if_neg h0]
   .have f:D5 Jx a.Factors b.Factors=0:=f
    rw [f]
    simp only [Df,if_true]
    by_cases h':a.Atoms.length=b.Atoms.length
    .rw [D3 (by omega),if_pos h']
     simp only [cond_false]
     refine Um (Ux Km a.Atoms b.Atoms h' (by omega) ?_ (fun h=>by simp only [h]; rfl)) ?_
     .intro j x y hx hy h1 h2 h3 i g
      simp only [h1,h2,h3,g,cond_true,Ae,At1 x.Lin y.Lin (by have:=ha.al x (Cv hx); omega)]
      by_cases c:Fa x.Lin y.Lin=0
      .rw [D3 c]
       have e:Km x y=De x.Deg y.Deg:=by unfold Km Df; rw [if_pos c]
       rw [e]
       by_cases hc:x.Deg=y.Deg
       .rw [D3 hc,if_pos (E2.2 hc)]; rfl
       .rw [Dq hc,Y2 _ _ hc,if_neg (fun e=>hc (E2.1 e))]; rfl
      .have e:Km x y=Fa x.Lin y.Lin:=by unfold Km Df; rw [if_neg c]
       rw [Dq c,e,if_neg c]; rfl
     .rintro (r | u) f
      .rw [f.1]
      .rw [show D5 Km a.Atoms b.Atoms=0 from f]
    .rw [Dq (by omega),if_neg h',Y2 _ _ (by omega)]; rfl
 .rw [Dq (by omega),if_neg h,Y2 _ _ (by omega)]; rfl
def Pd {α:Type} (f:α->Int) (l:List α) (x:α) (j:Nat):Bool:=j==0||(match l[j-1]? with | some y=>decide (f y<f x) | none=>false)
def Uy (l:List Bc) (x:Bc) (j:Nat):Bool:=decide (-1<=x.Var/\x.Var<3000/\x.Coef≠0/\-1048576<=x.Coef/\x.Coef<=1048576)&&Pd (·.Var) l x j
def Dx (a:Bn):Bool:=decide (-1048576<=a.Const/\a.Const<=1048576/\a.Terms.length<=16)&&a.Terms.zipIdx.all (fun q=>Uy a.Terms q.1 q.2)
theorem Ajz (n:Int):Qg n=some (decide (-1048576<=n/\n<=1048576)):=by
 unfold Qg
 by_cases h:(-1048576:Int)<=n <;> simp [h]
theorem At5 (n:Int):S8 n=some (decide (-1<=n/\n<3000)):=by
 unfold S8
 by_cases h:(-1:Int)<=n <;> simp [h]
theorem Aj0 {α S E:Type} (f:α->Int) (l:List α) {x:α} {j:Nat} (hx:l[j]? = some x) (i:l.length<4611686018427387904) (c b:Option (S⊕E)) :
  (bif decide ((j:Int)>0) then ((Ag l (Ac ((j:Int)-1))).bind fun g=>bif decide (f g>=f x) then c else b) else b)=bif Pd f l x j then b else c:=by
 have hj:=Ey hx
 unfold Pd
 by_cases h:j=0
 .subst h; rfl
 .rw [Am (by omega)]
  have e:Ac ((j:Int)-1)=((j-1:Nat):Int):=by rw [Ac,Bv] <;> omega
  have hy:l[j-1]? = some l[j-1]:=Cp (by omega)
  rw [e,Ck rfl hy,hy]
  have h0:(j==0)=false:=by simpa using h
  simp only [cond_true,Ae,h0,Bool.false_or]
  by_cases hc:f l[j-1]<f x
  .rw [Av (by omega),Am hc]; rfl
  .rw [Am (by omega),Av hc]; rfl
theorem Ld (a:Bn):Hm a=some (Dx a):=by
 unfold Hm Dx
 rw [Ajz]
 simp only [Ae]
 by_cases h1 : -1048576<=a.Const/\a.Const<=1048576
 .rw [Am h1]
  by_cases h2:a.Terms.length<=16
  .rw [Av (by omega:¬(a.Terms.length:Int)>16),Am ⟨h1.1,h1.2,h2⟩]
   simp only [bnt,cond_false,Ae,Bool.true_and]
   refine (Ul a.Terms (fun q=>Uy a.Terms q.1 q.2) (fun j=>(j:Int)) rfl (by omega) (rt:=true) (rf:=false) ?_ ?_).trans (by rw [Yg])
   .intro j x hx _ h1 h2 h3
    simp only [h1,h2,h3,cond_true,Ae,At5,Ajz,Aj0 (·.Var) a.Terms hx (by omega),Uy]
    by_cases g1 : -1<=x.Var/\x.Var<3000
    .by_cases g2:x.Coef=0
     .rw [Am g1,E8 g2,Av (fun h=>h.2.2.1 g2)]
      exact ⟨(fun h=>by cases h),fun _=>⟨.inl false,rfl,rfl⟩⟩
     .by_cases g3 : -1048576<=x.Coef/\x.Coef<=1048576
      .rw [Am g1,C5 g2,Am g3,Am ⟨g1.1,g1.2,g2,g3.1,g3.2⟩]
       cases Pd (·.Var) a.Terms x j with
       | true=>exact ⟨fun _=>rfl,fun h=>by cases h⟩
       | false=>exact ⟨(fun h=>by cases h),fun _=>⟨.inl false,rfl,rfl⟩⟩
      .rw [Am g1,C5 g2,Av g3,Av (fun h=>g3 h.2.2.2)]
       exact ⟨(fun h=>by cases h),fun _=>⟨.inl false,rfl,rfl⟩⟩
    .rw [Av g1,Av (fun h=>g1 ⟨h.1,h.2.1⟩)]
     exact ⟨(fun h=>by cases h),fun _=>⟨.inl false,rfl,rfl⟩⟩
   .intro h _
    exact ⟨.inr (),by simp only [h]; rfl,rfl⟩
  .rw [Am (by omega:(a.Terms.length:Int)>16),Av (fun h=>h2 h.2.2)]; rfl
 .rw [Av h1,Av (fun h : -1048576<=a.Const/\a.Const<=1048576/\a.Terms.length<=16=>h1 ⟨h.1,h.2.1⟩)]; rfl
end Go.Ab
namespace Go.Ab
open Go
structure Ru (data:List A4) (vars:List Ai) (res:Ai):Prop where
 vd:La data
 sh:Ut data
 sz:∀v t,tyX vars res v=some t->Bt t<=200
 nv:vars.length<=3000
theorem At6 (vars:List Ai) (res:Ai) (v:Int):(tyX vars res v).isSome=decide (-1<=v/\v<vars.length):=by
 unfold tyX
 by_cases h:v = -1
 .rw [if_pos h]; subst h; rw [Am (by omega)]; rfl
 .rw [if_neg h]
  cases hx:Ag vars v with
  | none=>rcases Us hx with h' | h' <;> rw [Av (by omega)] <;> rfl
  | some t=>have:=Je hx; rw [Am (by omega)]; rfl
section
variable (b1:List (ByteArray×Int)) (b2:List (ByteArray×List Dh)) (data:List A4) (vars:List Ai) (res:Ai)
theorem Aj1 (v:Int) (f c:Int) (b:List Ai):Ob v b1 b2 data vars f c b=some (tyX vars res v).isSome:=by
 rw [At6]
 unfold Ob
 by_cases h:v>=-1
 .rw [Am h]
  by_cases h':v<(vars.length:Int)
  .rw [Am h',Am ⟨h,h'⟩]; rfl
  .rw [Av h',Av (fun g=>h' g.2)]; rfl
 .rw [Av h,Av (fun g : -1<=v/\v<(vars.length:Int)=>h g.1)]; rfl
theorem At7 {v:Int} {t:Ai} (ht:tyX vars res v=some t):Mv v b1 b2 data vars res.Kind res.Num res.Args=some t:=by
 unfold Mv
 unfold tyX at ht
 by_cases h:v = -1
 .rw [if_pos h] at ht; cases ht
  have b:(Ai.mk res.Kind res.Num res.Args)=res:=by cases res; rfl
  rw [E8 h,b]; rfl
 .rw [if_neg h] at ht
  rw [C5 h,ht]; rfl
def Lf (t:Bc):Bool:=match tyX vars res t.Var with | some u=>u.Kind==1 | none=>false
def F7 (l:Bn):Bool:=l.Terms.all (Lf vars res)
theorem Aj2 (l:Bn) (c:l.Terms.length<=1048576):N6 l b1 b2 data vars res.Kind res.Num res.Args=some (F7 vars res l):=by
 unfold N6 Xc Xg
 have key:=Ah8 l.Terms (fun t=>!Lf vars res t) (by omega) (J:=fun z=>match z with | .inl b=>some b | .inr _=>some (-1)) (step:=fun v3=>bif (decide (v3<(l.Terms.length:Int))) then ((Ag l.Terms v3).bind fun v4=>(Qq v4 b1 b2 data vars res.Kind res.Num res.Args).bind fun v5=>bif v5 then some (.inr (.inl v3)) else some (.inl (Ac (v3+1)))) else some (.inr (.inr ()))) (by
  intro j x hx h1 h2 h3
  have e:Qq x b1 b2 data vars res.Kind res.Num res.Args=some (!Lf vars res x):=by
   unfold Qq Lf
   rw [Aj1 b1 b2 data vars res,Ae]
   cases ht:tyX vars res x.Var with
   | none=>rfl
   | some t=>rw [At7 b1 b2 data vars res ht]; rfl
  simp only [h1,h2,h3,cond_true,Ae,e]) (fun h=>by simp only [h]; rfl) (fun _=>rfl) rfl
 obtain ⟨i,i1,i2⟩:=key
 erw [i1]
 simp only [Ae,i2]
 congr 1
 unfold F7
 rw [List.any_eq_not_all_not]; simp
def Fs (f:B7):Int:=match tyX vars res f.Var with | some t=>Iz (Ic data f.Index t) | none => -1
theorem At8 (f:B7) : -1<=Fs data vars res f/\Fs data vars res f<=6:=by
 unfold Fs
 cases tyX vars res f.Var with
 | none=>simp
 | some t=>rcases Atm (Ic data f.Index t) with ⟨h,_⟩ | ⟨d,_,h2,h⟩ <;> simp only [h] <;> omega
def Mb (m:Bh):Bool:=m.Factors.all (fun f=>decide (0<=Fs data vars res f))&&m.Atoms.all (fun a=>decide (0<=a.Deg)&&F7 vars res a.Lin)
def Fz (l:List B7):Int:=(l.map (Fs data vars res)).sum
def Dy (l:List A9):Int:=(l.map (·.Deg)).sum
def Pe (l:List A9) (x:A9) (j:Nat):Bool:=j==0||(match l[j-1]? with | some y=>decide (Fa y.Lin x.Lin<0) | none=>false)
def Y6 (l:List B7) (f:B7) (j:Nat):Bool:=decide (1<=Fs data vars res f)&&Pd (·.Var) l f j
def Nh (l:List A9) (a:A9) (j:Nat):Bool:=decide (1<=a.Deg)&&Dx a.Lin && !(a.Lin.Terms.length==0)&&F7 vars res a.Lin&&Pe l a j
def Jh (m:Bh):Bool:=m.Factors.zipIdx.all (fun q=>Y6 data vars res m.Factors q.1 q.2)&&m.Atoms.zipIdx.all (fun q=>Nh vars res m.Atoms q.1 q.2)&&decide (Fz data vars res m.Factors+Dy m.Atoms<=6)
variable {b1 data vars res}
theorem Adi (hc:Ru data vars res) (i:E9 data vars res b1) (f:B7) (g:I64 f.Var) (h:iR f.Index) (j:Dk f.Index<=1048576) (b:(tyX vars res f.Var).isSome=true) :
  ∃c,K2 f.Var f.Index b1 b2 data vars res.Kind res.Num res.Args=some (Fs data vars res f,c)/\E9 data vars res c:=by
 cases ht:tyX vars res f.Var with
 | none=>rw [ht] at b; cases b
 | some t=>
  obtain ⟨c,h1,h2⟩:=At0 hc.vd.szv hc.sh b1 b2 vars res i f.Var f.Index t ht (hc.sz _ _ ht) g h j
  refine ⟨c,?_,h2⟩
  rw [h1]; unfold Fs; rw [ht]
theorem At9 (hc:Ru data vars res) (V:E9 data vars res b1) (m:Bh) (l:MSz m) :
  ∃s,Tq m b1 b2 data vars res.Kind res.Num res.Args=some (Mb data vars res m,s)/\E9 data vars res s:=by
 have X:=l.nf
 have ha:=l.na
 unfold Tq
 refine X7 (fun s=>(Mb data vars res m,s)) ?_
 obtain ⟨r,U,N⟩:=Ace (M:=List (ByteArray×Int)) (R:=Bool×List (ByteArray×Int)) m.Factors (fun q=>decide (0<=Fs data vars res q.1)) (fun j o=>((j:Int),o)) (E9 data vars res)
  (fun r=>E9 data vars res r.2/\r.1=m.Atoms.all (fun a=>decide (0<=a.Deg)&&F7 vars res a.Lin)) (fun r=>E9 data vars res r.2/\r.1=false) b1
  (s0:=((0:Int),b1))
  (step:=(fun (A,x)=>
   bif (decide (A<(m.Factors.length:Int))) then (
   (Ag m.Factors A).bind fun v8=>
   (Ob v8.Var x b2 data vars res.Kind res.Num res.Args).bind fun B=>
   bif (!B) then some (.inr (.inl (false,x)))
   else (
   (K2 v8.Var v8.Index x b2 data vars res.Kind res.Num res.Args).bind fun g=>
   bif (decide (g.1<(0:Int))) then some (.inr (.inl (false,g.2)))
   else some (.inl ((Ac (A+1)),g.2))))
   else some (.inr (.inr x)):Int×List (ByteArray×Int)->Option ((Int×List (ByteArray×Int))⊕((Bool×List (ByteArray×Int))⊕List (ByteArray×Int)))))
  (J:=(fun z=>match z with
   | .inl (L,I)=>some (L,I)
   | .inr b=>(Al (S:=Int) (E:=((Bool×(List (ByteArray×Int)))⊕Unit)) (fun c=>
     bif (decide (c<(m.Atoms.length:Int))) then (
     (Ag m.Atoms c).bind fun u=>
     bif (decide (u.Deg<(0:Int))) then some (.inr (.inl (false,b)))
     else (
     (N6 u.Lin b b2 data vars res.Kind res.Num res.Args).bind fun v21=>
     bif (!v21) then some (.inr (.inl (false,b)))
     else some (.inl (Ac (c+1)))))
     else some (.inr (.inr ()))) 0).bind fun z=>match z with
      | .inl (G,D)=>some (G,D)
      | .inr _=>some (true,b)))
  rfl V (by omega) (by
   intro j f o y hx _ h1 h2 h3
   have k:=Cv hx
   simp only [h1,h2,h3,cond_true,Ae,Aj1 o b2 data vars res]
   cases i:(tyX vars res f.Var).isSome with
   | false=>
    have e:Fs data vars res f = -1:=by
     unfold Fs
     cases ht:tyX vars res f.Var with
     | none=>rfl
     | some t=>rw [ht] at i; cases i
    rw [e]
    exact ⟨(fun h=>by cases h),fun _=>⟨_,rfl,_,rfl,y,rfl⟩⟩
   | true=>
    obtain ⟨s,d1,d2⟩:=Adi b2 hc y f (l.fr f k).2 (l.fr f k).1 (l.fi f k) i
    simp only [bnt,cond_false,d1,Ae]
    by_cases h0:0<=Fs data vars res f
    .rw [Am h0,Av (by omega)]
     exact ⟨fun _=>⟨s,rfl,d2⟩,fun h=>by cases h⟩
    .rw [Av h0,Am (by omega)]
     exact ⟨(fun h=>by cases h),fun _=>⟨_,rfl,_,rfl,d2,rfl⟩⟩) (by
   intro o y h1 _
   refine ⟨.inr o,by simp only [h1]; rfl,?_⟩
   refine ⟨(m.Atoms.all (fun a=>decide (0<=a.Deg)&&F7 vars res a.Lin),o),?_,y,rfl⟩
   refine (Yf m.Atoms (fun a=>decide (0<=a.Deg)&&F7 vars res a.Lin) (fun j=>(j:Int)) rfl (by omega) (rt:=(true,o)) (rf:=(false,o)) ?_ ?_).trans (by cases m.Atoms.all (fun a=>decide (0<=a.Deg)&&F7 vars res a.Lin) <;> rfl)
   .intro j a hx h1 h2 h3
    simp only [h1,h2,h3,cond_true,Ae,Aj2 o b2 data vars res a.Lin (l.al a (Cv hx))]
    by_cases h0:0<=a.Deg
    .rw [Am h0,Av (by omega)]
     cases F7 vars res a.Lin with
     | true=>exact ⟨fun _=>rfl,fun h=>by cases h⟩
     | false=>exact ⟨(fun h=>by cases h),fun _=>⟨_,rfl,rfl⟩⟩
    .rw [Av h0,Am (by omega)]
     exact ⟨(fun h=>by cases h),fun _=>⟨_,rfl,rfl⟩⟩
   .intro h; exact ⟨.inr (),by simp only [h]; rfl,rfl⟩)
 refine ⟨r,U,r.2,?_,?_⟩
 .unfold Mb
  rw [<-Ye]
  rcases N with ⟨h1,h2,h3⟩ | ⟨h1,h2,h3⟩
  .rw [h1,Bool.true_and,<-h3]
  .rw [h1,Bool.false_and,<-h3]
 .rcases N with ⟨h1,h2,h3⟩ | ⟨h1,h2,h3⟩ <;> exact h2
theorem Aua (g:B7->Int) {l:List B7} {j:Nat} {x:B7} (h:l[j]? = some x):((l.take (j+1)).map g).sum=((l.take j).map g).sum+g x:=by
 rw [D4 h]; simp
theorem Aub {l:List A9} {j:Nat} {x:A9} (h:l[j]? = some x):Dy (l.take (j+1))=Dy (l.take j)+x.Deg:=by
 unfold Dy; rw [D4 h]; simp
theorem Auc (hc:Ru data vars res) (A:E9 data vars res b1) (m:Bh) (k:MSz m) (hp:Mb data vars res m=true) :
  ∃p:Int×List (ByteArray×Int),Qt m b1 b2 data vars res.Kind res.Num res.Args=some p/\(decide (p.1>6) = !decide (Fz data vars res m.Factors+Dy m.Atoms<=6))/\E9 data vars res p.2:=by
 have D:=k.nf
 have ha:=k.na
 unfold Mb at hp
 rw [bae,List.all_eq_true,List.all_eq_true] at hp
 unfold Qt
 refine Fe (fun (v5,u,g)=>∃j:Nat,u=j/\j<=m.Factors.length/\E9 data vars res g/\0<=v5/\v5<=12/\(v5=Fz data vars res (m.Factors.take j)\/(6<v5/\6<Fz data vars res (m.Factors.take j)))) (fun (_,u,_)=>m.Factors.length-u.toNat)
  (fun (v5,g)=>E9 data vars res g/\0<=v5/\v5<=12/\(v5=Fz data vars res m.Factors\/(6<v5/\6<Fz data vars res m.Factors))) ⟨0,rfl,by omega,A,by omega,by omega,.inl (by simp [Fz])⟩ ?_ ?_
 .rintro ⟨v5,u,g⟩ ⟨j,rfl,hj,q,h0,h12,l⟩
  rcases Nat.lt_or_ge j m.Factors.length with h | h
  .have hx:m.Factors[j]? = some m.Factors[j]:=Cp h
   generalize m.Factors[j]=f at hx
   have c:=Cv hx
   have hd:=hp.1 f c
   rw [decide_eq_true_eq] at hd
   have B:=(At8 data vars res f).2
   have es:Fz data vars res (m.Factors.take (j+1))=Fz data vars res (m.Factors.take j)+Fs data vars res f:=Aua _ hx
   simp only [Am (by omega:(j:Int)<(m.Factors.length:Int)),cond_true,Ck rfl hx,Ae,Dv h (by omega)]
   by_cases s:v5<=6
   .have x:(tyX vars res f.Var).isSome=true:=by
     unfold Fs at hd
     cases ht:tyX vars res f.Var with
     | none=>rw [ht] at hd; have hd:(0:Int)<=-1:=hd; omega
     | some t=>rfl
    obtain ⟨E,d1,d2⟩:=Adi b2 hc q f (k.fr f c).2 (k.fr f c).1 (k.fi f c) x
    rw [Am s]
    simp only [cond_true,d1,Ae]
    have b:Ac (v5+Fs data vars res f)=v5+Fs data vars res f:=by rw [Ac,Bv] <;> omega
    exact .inl ⟨_,rfl,⟨j+1,rfl,by omega,d2,by simp only [b]; omega,by simp only [b]; omega,by simp only [b,es]; omega⟩,by simp; omega⟩
   .rw [Av s]
    exact .inl ⟨_,rfl,⟨j+1,rfl,by omega,q,h0,h12,by simp only [es]; omega⟩,by simp; omega⟩
  .have:j=m.Factors.length:=by omega
   subst this
   rw [List.take_length] at l
   exact .inr ⟨(v5,g),by simp,q,h0,h12,l⟩
 .rintro ⟨v5,g⟩ ⟨q,h0,h12,l⟩
  simp only
  refine Fe (fun (v,i)=>∃j:Nat,i=j/\j<=m.Atoms.length/\0<=v/\v<=13/\(v=Fz data vars res m.Factors+Dy (m.Atoms.take j)\/(6<v/\6<Fz data vars res m.Factors+Dy (m.Atoms.take j)))) (fun (_,i)=>m.Atoms.length-i.toNat)
   (fun v=>(v=Fz data vars res m.Factors+Dy m.Atoms\/(6<v/\6<Fz data vars res m.Factors+Dy m.Atoms))) ⟨0,rfl,by omega,h0,by omega,by simpa [Dy] using l⟩ ?_ ?_
  .rintro ⟨v,i⟩ ⟨j,rfl,hj,g0,g13,z⟩
   rcases Nat.lt_or_ge j m.Atoms.length with h | h
   .have hx:m.Atoms[j]? = some m.Atoms[j]:=Cp h
    generalize m.Atoms[j]=a at hx
    have hd:=hp.2 a (Cv hx)
    rw [bae,decide_eq_true_eq] at hd
    have es:=Aub hx
    simp only [Am (by omega:(j:Int)<(m.Atoms.length:Int)),cond_true,Ck rfl hx,Ae,Dv h (by omega)]
    by_cases s:v<=6
    .rw [Am s]
     simp only [cond_true]
     by_cases y:7<a.Deg
     .rw [if_pos y]
      have b:Ac (v+7)=v+7:=by rw [Ac,Bv] <;> omega
      exact .inl ⟨_,rfl,⟨j+1,rfl,by omega,by simp only [b]; omega,by simp only [b]; omega,by simp only [b,es]; omega⟩,by simp; omega⟩
     .rw [if_neg y]
      have b:Ac (v+a.Deg)=v+a.Deg:=by rw [Ac,Bv] <;> omega
      exact .inl ⟨_,rfl,⟨j+1,rfl,by omega,by simp only [b]; omega,by simp only [b]; omega,by simp only [b,es]; omega⟩,by simp; omega⟩
    .rw [Av s]
     exact .inl ⟨_,rfl,⟨j+1,rfl,by omega,g0,g13,by simp only [es]; omega⟩,by simp; omega⟩
   .have:j=m.Atoms.length:=by omega
    subst this
    rw [List.take_length] at z
    exact .inr ⟨v,by simp,z⟩
  .intro v l
   refine ⟨(v,g),rfl,?_,q⟩
   by_cases h:Fz data vars res m.Factors+Dy m.Atoms<=6
   .rw [Am h,Av (by simp only; omega)]; rfl
   .rw [Av h,Am (by simp only; omega)]; rfl
end
end Go.Ab
namespace Go.Ab
open Go
theorem Aud {S E:Type} (F:Bn->Bn->Option Int) (l:List A9) (g:∀y∈l,∀x,F y.Lin x=some (Fa y.Lin x)) {x:A9} {j:Nat} (hx:l[j]? = some x) (i:l.length<4611686018427387904) (c b:Option (S⊕E)) :
  (bif decide ((j:Int)>0) then ((Ag l (Ac ((j:Int)-1))).bind fun f=>(F f.Lin x.Lin).bind fun v28=>bif decide (v28>=0) then c else b) else b)=bif Pe l x j then b else c:=by
 have hj:=Ey hx
 unfold Pe
 by_cases h:j=0
 .subst h; rfl
 .rw [Am (by omega)]
  have e:Ac ((j:Int)-1)=((j-1:Nat):Int):=by rw [Ac,Bv] <;> omega
  have hy:l[j-1]? = some l[j-1]:=Cp (by omega)
  rw [e,Ck rfl hy,hy]
  have h0:(j==0)=false:=by simpa using h
  simp only [cond_true,Ae,h0,Bool.false_or,g _ (List.getElem_mem (by omega:j-1<l.length))]
  by_cases hc:Fa l[j-1].Lin x.Lin<0
  .rw [Av (by omega),Am hc]; rfl
  .rw [Am (by omega),Av hc]; rfl
section
variable {b1:List (ByteArray×Int)} (b2:List (ByteArray×List Dh)) {data:List A4} {vars:List Ai} {res:Ai}
def Uz (data:List A4) (vars:List Ai) (res:Ai) (l:List B7) (f:B7) (j:Nat):Bool:=!(Fs data vars res f==0)&&Pd (·.Var) l f j
def Ni (l:List A9) (a:A9) (j:Nat):Bool:=!(a.Deg==0)&&Dx a.Lin && !(a.Lin.Terms.length==0)&&Pe l a j
theorem Aue (m:Bh):Jh data vars res m=(Mb data vars res m&&decide (Fz data vars res m.Factors+Dy m.Atoms<=6)&&m.Factors.zipIdx.all (fun q=>Uz data vars res m.Factors q.1 q.2)&&m.Atoms.zipIdx.all (fun q=>Ni m.Atoms q.1 q.2)):=by
 rw [Bool.eq_iff_iff]
 unfold Jh Mb
 rw [<-Ye m.Factors (fun f=>decide (0<=Fs data vars res f)),<-Ye m.Atoms (fun a=>decide (0<=a.Deg)&&F7 vars res a.Lin)]
 simp only [bae,List.all_eq_true,Y6,Nh,Uz,Ni,decide_eq_true_eq,Bool.not_eq_true',beq_eq_false_iff_ne,ne_eq]
 constructor
 .rintro ⟨⟨h1,h2⟩,h3⟩
  refine ⟨⟨⟨⟨fun q hq=>?_,fun q hq=>?_⟩,h3⟩,fun q hq=>?_⟩,fun q hq=>?_⟩
  .have:=(h1 q hq).1; omega
  .have:=h2 q hq; exact ⟨by omega,this.1.2⟩
  .have:=h1 q hq; exact ⟨by omega,this.2⟩
  .have:=h2 q hq; exact ⟨⟨⟨by omega,this.1.1.1.2⟩,this.1.1.2⟩,this.2⟩
 .rintro ⟨⟨⟨⟨h1,h2⟩,h3⟩,c⟩,b⟩
  refine ⟨⟨fun q hq=>?_,fun q hq=>?_⟩,h3⟩
  .have:=h1 q hq; have g:=c q hq; exact ⟨by omega,g.2⟩
  .have:=h2 q hq; have g:=b q hq; exact ⟨⟨⟨⟨by omega,g.1.1.2⟩,g.1.2⟩,this.2⟩,g.2⟩
theorem Auf (hc:Ru data vars res) (hm:E9 data vars res b1) (m:Bh) (i:MSz m) :
  ∃A,Qj m b1 b2 data vars res.Kind res.Num res.Args=some (Jh data vars res m,A)/\E9 data vars res A:=by
 have hf:=i.nf
 have ha:=i.na
 rw [Aue]
 unfold Qj
 obtain ⟨b,p1,Z⟩:=At9 b2 hc hm m i
 rw [p1]
 cases hp:Mb data vars res m with
 | false=>exact ⟨b,rfl,Z⟩
 | true=>
  obtain ⟨q,q1,q2,Y⟩:=Auc b2 hc Z m i hp
  simp only [Ae,bnt,cond_false,q1,q2]
  cases hs:decide (Fz data vars res m.Factors+Dy m.Atoms<=6) with
  | false=>exact ⟨q.2,rfl,Y⟩
  | true=>
   simp only [bnt,cond_false,Bool.true_and]
   have U:∀f∈m.Factors,(tyX vars res f.Var).isSome=true:=by
    intro f c
    unfold Mb at hp
    rw [bae,List.all_eq_true] at hp
    have hd:=hp.1 f c
    rw [decide_eq_true_eq] at hd
    unfold Fs at hd
    cases ht:tyX vars res f.Var with
    | none=>rw [ht] at hd; have hd:(0:Int)<=-1:=hd; omega
    | some t=>rfl
   obtain ⟨r,r1,X⟩:=Ace (M:=List (ByteArray×Int)) (R:=Bool×List (ByteArray×Int)) m.Factors (fun q=>Uz data vars res m.Factors q.1 q.2) (fun j o=>((j:Int),o)) (E9 data vars res)
    (fun r=>E9 data vars res r.2/\r.1=m.Atoms.zipIdx.all (fun q=>Ni m.Atoms q.1 q.2)) (fun r=>E9 data vars res r.2/\r.1=false) q.2
    (s0:=((0:Int),q.2))
    (step:=(fun (v9,s)=>
     bif (decide (v9<(m.Factors.length:Int))) then (
     (Ag m.Factors v9).bind fun k=>
     (K2 k.Var k.Index s b2 data vars res.Kind res.Num res.Args).bind fun g=>
     bif (g.1==(0:Int)) then some (.inr (.inl (false,g.2)))
     else (
     bif (decide (v9>(0:Int))) then (
     (Ag m.Factors (Ac (v9-1))).bind fun D=>
     bif (decide (D.Var>=k.Var)) then some (.inr (.inl (false,g.2)))
     else some (.inl ((Ac (v9+1)),g.2)))
     else some (.inl ((Ac (v9+1)),g.2))))
     else some (.inr (.inr s)):Int×List (ByteArray×Int)->Option ((Int×List (ByteArray×Int))⊕((Bool×List (ByteArray×Int))⊕List (ByteArray×Int)))))
    (J:=(fun z=>match z with
     | .inl (N,L)=>some (N,L)
     | .inr l=>(Al (S:=Int) (E:=((Bool×(List (ByteArray×Int)))⊕Unit)) (fun v22=>
       bif (decide (v22<(m.Atoms.length:Int))) then (
       (Ag m.Atoms v22).bind fun v23=>
       (show Option Bool from
       bif (v23.Deg==(0:Int)) then some true
       else (
       (Hm v23.Lin).bind fun v25=>
       bif (!v25) then some true
       else some ((v23.Lin.Terms.length:Int)==(0:Int)))).bind fun v26=>
       bif v26 then some (.inr (.inl (false,l)))
       else (
       bif (decide (v22>(0:Int))) then (
       (Ag m.Atoms (Ac (v22-1))).bind fun B=>
       (Jr B.Lin v23.Lin).bind fun v28=>
       bif (decide (v28>=(0:Int))) then some (.inr (.inl (false,l)))
       else some (.inl (Ac (v22+1))))
       else some (.inl (Ac (v22+1)))))
       else some (.inr (.inr ()))) 0).bind fun z=>match z with
        | .inl (I,G)=>some (I,G)
        | .inr _=>some (true,l)))
    rfl Y (by omega) (by
     intro j f o V hx _ h1 h2 h3
     have c:=Cv hx
     obtain ⟨A,d1,d2⟩:=Adi b2 hc V f (i.fr f c).2 (i.fr f c).1 (i.fi f c) (U f c)
     simp only [h1,h2,h3,cond_true,Ae,d1,Aj0 (·.Var) m.Factors hx (by omega),Uz]
     cases (Fs data vars res f==0) with
     | true=>exact ⟨(fun h=>by cases h),fun _=>⟨_,rfl,_,rfl,d2,rfl⟩⟩
     | false=>
      cases Pd (·.Var) m.Factors f j with
      | true=>exact ⟨fun _=>⟨A,rfl,d2⟩,fun h=>by cases h⟩
      | false=>exact ⟨(fun h=>by cases h),fun _=>⟨_,rfl,_,rfl,d2,rfl⟩⟩) (by
     intro o V h1 _
     refine ⟨.inr o,by simp only [h1]; rfl,?_⟩
     refine ⟨(m.Atoms.zipIdx.all (fun q=>Ni m.Atoms q.1 q.2),o),?_,V,rfl⟩
     refine (Ul m.Atoms (fun q=>Ni m.Atoms q.1 q.2) (fun j=>(j:Int)) rfl (by omega) (rt:=(true,o)) (rf:=(false,o)) ?_ ?_).trans (by cases m.Atoms.zipIdx.all (fun q=>Ni m.Atoms q.1 q.2) <;> rfl)
     .intro j a hx _ h1 h2 h3
      have u:((a.Lin.Terms.length:Int)==(0:Int))=(a.Lin.Terms.length==0):=Asl a.Lin.Terms 0
      simp only [h1,h2,h3,cond_true,Ae,Ld,Aud Jr m.Atoms (fun y hy x=>Y4 y.Lin x (by have:=i.al y hy; omega)) hx (by omega),Ni,u]
      cases (a.Deg==0) with
      | true=>exact ⟨(fun h=>by cases h),fun _=>⟨_,rfl,rfl⟩⟩
      | false=>
       cases Dx a.Lin with
       | false=>exact ⟨(fun h=>by cases h),fun _=>⟨_,rfl,rfl⟩⟩
       | true=>
        cases (a.Lin.Terms.length==0) with
        | true=>exact ⟨(fun h=>by cases h),fun _=>⟨_,rfl,rfl⟩⟩
        | false=>
         cases Pe m.Atoms a j with
         | true=>exact ⟨fun _=>rfl,fun h=>by cases h⟩
         | false=>exact ⟨(fun h=>by cases h),fun _=>⟨_,rfl,rfl⟩⟩
     .intro h _; exact ⟨.inr (),by simp only [h]; rfl,rfl⟩)
   refine ⟨r.2,?_,?_⟩
   .have e:some r=some (m.Factors.zipIdx.all (fun q=>Uz data vars res m.Factors q.1 q.2)&&m.Atoms.zipIdx.all (fun q=>Ni m.Atoms q.1 q.2),r.2):=by
     rcases X with ⟨h1,h2,h3⟩ | ⟨h1,h2,h3⟩
     .rw [h1,Bool.true_and,<-h3]
     .rw [h1,Bool.false_and,<-h3]
    rw [<-e]
    exact r1
   .rcases X with ⟨h1,h2,h3⟩ | ⟨h1,h2,h3⟩ <;> exact h2
theorem Aug (l:List B7) (h:∀f∈l,0<=Fs data vars res f):0<=Fz data vars res l:=by
 induction l with
 | nil=>simp [Fz]
 | cons x xs ih=>
  have h1:=h x (by simp)
  have h2:=ih (fun f b=>h f (by simp [b]))
  unfold Fz at *
  simp only [List.map_cons,List.sum_cons]
  omega
theorem Aj3 (l:List A9) (h:∀a∈l,0<=a.Deg):0<=Dy l/\((∀a∈l,a.Deg<=6)->Dy l<=6*l.length)/\∀a∈l,a.Deg<=Dy l:=by
 induction l with
 | nil=>simp [Dy]
 | cons x xs ih=>
  have h1:=h x (by simp)
  obtain ⟨i1,i2,i3⟩:=ih (fun f b=>h f (by simp [b]))
  unfold Dy at *
  simp only [List.map_cons,List.sum_cons,List.length_cons]
  refine ⟨by omega,fun g=>?_,fun a ha=>?_⟩
  .have:=g x (by simp)
   have:=i2 (fun a ha=>g a (by simp [ha]))
   omega
  .rcases List.mem_cons.1 ha with rfl | ha
   .omega
   .have:=i3 a ha; omega
end
end Go.Ab
namespace Go.Ab
open Go
theorem Auh {α:Type} [DecidableEq α] (l m:List α) (b:l.length=m.length):(decide (l=m))=l.zipIdx.all (fun q=>decide (m[q.2]? = some q.1)):=by
 rw [Bool.eq_iff_iff,decide_eq_true_eq]
 constructor
 .rintro rfl
  exact Ah7 fun j x hx=>by simpa using hx
 .intro h
  apply List.ext_getElem?
  intro j
  cases hx:l[j]? with
  | none=>rw [List.getElem?_eq_none_iff] at hx; rw [List.getElem?_eq_none (by omega)]
  | some x=>have:=Jt h hx; rw [decide_eq_true_eq] at this; rw [this]
theorem Aui {R:Type} (l m:List Int) (b:l.length<1099511627776) (h:l.length=m.length) {J:Bool⊕Unit->Option R} {rt rf:R} (h1:J (.inl false)=some rf) (h2:J (.inr ())=some rt) :
  (Al (S:=Int) (E:=(Bool⊕Unit)) (fun v3=>bif (decide (v3<(l.length:Int))) then ((Ag l v3).bind fun v4=>(Ag m v3).bind fun v5=>bif (v4 != v5) then some (.inr (.inl false)) else some (.inl (Ac (v3+1)))) else some (.inr (.inr ()))) 0).bind J=some (bif decide (l=m) then rt else rf):=by
 rw [Auh l m h]
 refine Ul l (fun q=>decide (m[q.2]? = some q.1)) (fun j=>(j:Int)) rfl (by omega) (rt:=rt) (rf:=rf) ?_ ?_
 .intro j x hx _ g1 g2 g3
  have hj:j<m.length:=by have:=Ey hx; omega
  have hy:m[j]? = some m[j]:=Cp hj
  generalize m[j]=y at hy
  simp only [g1,g2,g3,cond_true,Ae,Ck rfl hy,hy,Option.some.injEq]
  by_cases e:x=y
  .rw [D3 e,Am e.symm]
   exact ⟨fun _=>rfl,fun h=>by cases h⟩
  .rw [Dq e,Av (fun h=>e h.symm)]
   exact ⟨(fun h=>by cases h),fun _=>⟨.inl false,rfl,h1⟩⟩
 .intro h _; exact ⟨.inr (),by simp only [h]; rfl,h2⟩
theorem Aj4 (l m:List Int) (b:l.length<1099511627776):Kz l m=some (decide (l=m)):=by
 unfold Kz
 by_cases h:l.length=m.length
 .rw [D3 (by omega)]
  simp only [cond_false]
  refine (Aui l m b h (rt:=true) (rf:=false) ?_ ?_).trans (by rw [Yg]) <;> rfl
 .rw [Dq (by omega),Av (fun e=>h (by rw [e]))]; rfl
def Rv (a b:Ap):Bool:=a.Neg==b.Neg&&decide (a.Num=b.Num)&&decide (a.Den=b.Den)
theorem Aj5 (a b:Ap):Rv a b=true↔a=b:=by
 unfold Rv
 simp only [bae,beq_iff_eq,decide_eq_true_eq]
 constructor
 .rintro ⟨⟨h1,h2⟩,h3⟩; cases a; cases b; simp_all
 .rintro rfl; simp
def U1 (c:Ap):Bool:=Rv (Bf (sv c) (nv c) (dv c)) c && !(nv c==0)
structure TSz (t:Aj):Prop where
 co:RB 1048576 t.Coef
 mo:MSz t.Mono
def Pf (l:List Aj) (x:Aj) (j:Nat):Bool:=j==0||(match l[j-1]? with | some y=>decide (Cy y.Mono x.Mono<0) | none=>false)
def Rw (data:List A4) (vars:List Ai) (res:Ai) (l:List Aj) (t:Aj) (j:Nat):Bool:=U1 t.Coef&&Jh data vars res t.Mono&&Pf l t j
def I1 (data:List A4) (vars:List Ai) (res:Ai) (p:List Aj):Bool:=decide (p.length<=1000)&&p.zipIdx.all (fun q=>Rw data vars res p q.1 q.2)
theorem Auj {S E:Type} (F:Bh->Bh->Option Int) (l:List Aj) (g:∀y∈l,∀x,F y.Mono x=some (Cy y.Mono x)) {x:Aj} {j:Nat} (hx:l[j]? = some x) (i:l.length<4611686018427387904) (c b:Option (S⊕E)) :
  (bif decide ((j:Int)>0) then ((Ag l (Ac ((j:Int)-1))).bind fun f=>(F f.Mono x.Mono).bind fun v28=>bif decide (v28>=0) then c else b) else b)=bif Pf l x j then b else c:=by
 have hj:=Ey hx
 unfold Pf
 by_cases h:j=0
 .subst h; rfl
 .rw [Am (by omega)]
  have e:Ac ((j:Int)-1)=((j-1:Nat):Int):=by rw [Ac,Bv] <;> omega
  have hy:l[j-1]? = some l[j-1]:=Cp (by omega)
  rw [e,Ck rfl hy,hy]
  have h0:(j==0)=false:=by simpa using h
  simp only [cond_true,Ae,h0,Bool.false_or,g _ (List.getElem_mem (by omega:j-1<l.length))]
  by_cases hc:Cy l[j-1].Mono x.Mono<0
  .rw [Av (by omega),Am hc]; rfl
  .rw [Am (by omega),Av hc]; rfl
theorem Auk (s:Bool) (n:Nat):(Hh s n==0)=(n==0):=by
 unfold Hh
 by_cases h:n=0
 .rw [if_pos h]; subst h; rfl
 .rw [if_neg h]
  have:(n==0)=false:=by simpa using h
  rw [this]; cases s <;> rfl
theorem Aj6 {data:List A4} {vars:List Ai} {res:Ai} (hc:Ru data vars res) {b1:List (ByteArray×Int)} (b2:List (ByteArray×List Dh)) (V:E9 data vars res b1) (p:List Aj) (U:∀t∈p,TSz t) :
  ∃B,S5 p b1 b2 data vars res.Kind res.Num res.Args=some (I1 data vars res p,B)/\E9 data vars res B:=by
 unfold S5 I1
 by_cases A:p.length<=1000
 .rw [Av (by omega),Am A,Bool.true_and]
  simp only [cond_false]
  obtain ⟨r,X,S⟩:=Ace (M:=List (ByteArray×Int)) (R:=Bool×List (ByteArray×Int)) p (fun q=>Rw data vars res p q.1 q.2) (fun j o=>((j:Int),o)) (E9 data vars res)
   (fun r=>E9 data vars res r.2/\r.1=true) (fun r=>E9 data vars res r.2/\r.1=false) b1
   (s0:=((0:Int),b1))
   (step:=(fun (b,g)=>
    bif (decide (b<(p.length:Int))) then (
    (Ag p b).bind fun v12=>
    (Ly v12.Coef).bind fun f=>
    (show Option Bool from
    bif (f.Neg==v12.Coef.Neg) then (
    (Kz f.Num v12.Coef.Num).bind fun i=>
    bif i then (
    (Kz f.Den v12.Coef.Den).bind fun v17=>
    some v17)
    else some false)
    else some false).bind fun E=>
    bif (!E) then some (.inr (.inl (false,g)))
    else (
    (Hc f).bind fun D=>
    bif (D==(0:Int)) then some (.inr (.inl (false,g)))
    else (
    (Qj v12.Mono g b2 data vars res.Kind res.Num res.Args).bind fun v20=>
    bif (!v20.1) then some (.inr (.inl (false,v20.2)))
    else (
    bif (decide (b>(0:Int))) then (
    (Ag p (Ac (b-1))).bind fun v21=>
    (My v21.Mono v12.Mono).bind fun v22=>
    bif (decide (v22>=(0:Int))) then some (.inr (.inl (false,v20.2)))
    else some (.inl ((Ac (b+1)),v20.2)))
    else some (.inl ((Ac (b+1)),v20.2))))))
    else some (.inr (.inr g)):Int×List (ByteArray×Int)->Option ((Int×List (ByteArray×Int))⊕((Bool×List (ByteArray×Int))⊕List (ByteArray×Int)))))
   (J:=(fun z=>match z with
    | .inl (I,G)=>some (I,G)
    | .inr L=>some (true,L)))
   rfl V (by omega) (by
    intro j t o u hx _ h1 h2 h3
    have c:=U t (Cv hx)
    obtain ⟨B,d1,d2⟩:=Auf b2 hc u t.Mono c.mo
    have s:∀l:List Int,l=(Bf (sv t.Coef) (nv t.Coef) (dv t.Coef)).Num\/l=(Bf (sv t.Coef) (nv t.Coef) (dv t.Coef)).Den->l.length<1099511627776:=by
     intro l A
     have q:=K8 (sv t.Coef) (nv t.Coef) (dv t.Coef) 1048577 c.co.nv c.co.dv (by omega)
     have:=q.nl
     have:=q.dl
     rcases A with rfl | rfl <;> omega
    have k:(bif ((Bf (sv t.Coef) (nv t.Coef) (dv t.Coef)).Neg==t.Coef.Neg) then ((Kz (Bf (sv t.Coef) (nv t.Coef) (dv t.Coef)).Num t.Coef.Num).bind fun i=>bif i then ((Kz (Bf (sv t.Coef) (nv t.Coef) (dv t.Coef)).Den t.Coef.Den).bind fun v17=>some v17) else some false) else some false)=some (Rv (Bf (sv t.Coef) (nv t.Coef) (dv t.Coef)) t.Coef):=by
     unfold Rv
     rw [Aj4 _ _ (s _ (.inl rfl)),Aj4 _ _ (s _ (.inr rfl))]
     cases ((Bf (sv t.Coef) (nv t.Coef) (dv t.Coef)).Neg==t.Coef.Neg) <;> cases decide ((Bf (sv t.Coef) (nv t.Coef) (dv t.Coef)).Num=t.Coef.Num) <;> rfl
    simp only [h1,h2,h3,cond_true,Ae,Ack t.Coef 1048576 c.co (by omega),k,Auj My p (fun y hy x=>Ajy y.Mono x (U y hy).mo) hx (by omega),Rw,U1]
    cases N:Rv (Bf (sv t.Coef) (nv t.Coef) (dv t.Coef)) t.Coef with
    | false=>exact ⟨(fun h=>by cases h),fun _=>⟨_,rfl,_,rfl,u,rfl⟩⟩
    | true=>
     have e:=(Aj5 _ _).1 N
     simp only [bnt,cond_false,Bool.true_and]
     rw [e,Acl t.Coef 1048576 c.co (by omega),Ae,Auk]
     cases (nv t.Coef==0) with
     | true=>exact ⟨(fun h=>by cases h),fun _=>⟨_,rfl,_,rfl,u,rfl⟩⟩
     | false=>
      simp only [cond_false,d1,Ae,Bool.not_false,Bool.true_and]
      cases Jh data vars res t.Mono with
      | false=>exact ⟨(fun h=>by cases h),fun _=>⟨_,rfl,_,rfl,d2,rfl⟩⟩
      | true=>
       cases Pf p t j with
       | true=>exact ⟨fun _=>⟨B,rfl,d2⟩,fun h=>by cases h⟩
       | false=>exact ⟨(fun h=>by cases h),fun _=>⟨_,rfl,_,rfl,d2,rfl⟩⟩) (by
    intro o u h1 _
    exact ⟨.inr o,by simp only [h1]; rfl,_,rfl,u,rfl⟩)
  refine ⟨r.2,?_,?_⟩
  .have e:some r=some (p.zipIdx.all (fun q=>Rw data vars res p q.1 q.2),r.2):=by
    rcases S with ⟨h1,h2,h3⟩ | ⟨h1,h2,h3⟩
    .rw [h1,<-h3]
    .rw [h1,<-h3]
   rw [<-e]
   exact X
  .rcases S with ⟨h1,h2,h3⟩ | ⟨h1,h2,h3⟩ <;> exact h2
 .rw [Am (by omega),Av A]
  exact ⟨b1,rfl,V⟩
structure CSz (x:Ci):Prop where
 ds:DSz x.Data
 nv:x.Vars.length<=1048576
 vs:∀t∈x.Vars,Bt t<=1048576
 rs:Bt x.Res<=1048576
def Jy (data:List A4) (t:Ai):Bool:=Fq data 0 t&&decide (Bt t<=200)
def Gq (x:Ci):Prop:=x.Vars.length<=3000/\La x.Data/\Jy x.Data x.Res=true/\x.Vars.all (Jy x.Data)=true
theorem Gq.ctx {x:Ci} (h:Gq x) (c:CSz x):Ru x.Data x.Vars x.Res:=by
 refine ⟨h.2.1,c.ds.sz.short,fun v t ht=>?_,h.1⟩
 have good:∀t,Jy x.Data t=true->Bt t<=200:=fun t h=>by
  simp only [Jy,bae,decide_eq_true_eq] at h; exact h.2
 unfold tyX at ht
 by_cases b:v = -1
 .rw [if_pos b] at ht; cases ht; exact good _ h.2.2.1
 .rw [if_neg b] at ht
  exact good t (List.all_eq_true.1 h.2.2.2 t (Je ht).2.2.2)
theorem Aul (x:Ci) (g:CSz x) (p:List Aj) (hp:∀t∈p,TSz t):∃b,Qd x p=some b/\(b=true↔Gq x/\I1 x.Data x.Vars x.Res p=true):=by
 obtain ⟨b,b1,b2⟩:=Ai8 g.ds
 have I:=g.nv
 have G:=g.rs
 unfold Qd I9
 rw [b1,Ur x.Data x.Res 0 (by omega)]
 by_cases y:x.Vars.length<=3000
 .rw [Av (by omega)]
  simp only [cond_false,Ae]
  cases b with
  | false=>exact ⟨false,rfl,by simp; intro h; have:=b2.2 h.2.1; cases this⟩
  | true=>
   have E:=b2.1 rfl
   simp only [bnt,cond_false]
   cases s:(Fq x.Data 0 x.Res&&decide (Bt x.Res<=200)) with
   | false=>exact ⟨false,rfl,by simp; intro h; have:=h.2.2.1; rw [show Jy x.Data x.Res=false from s] at this; cases this⟩
   | true=>
    simp only [bnt,cond_false,Ae]
    rw [Option.bind_assoc]
    refine Fe (fun i=>∃j:Nat,i=j/\j<=x.Vars.length/\(x.Vars.take j).all (Jy x.Data)=true) (fun i=>x.Vars.length-i.toNat)
     (fun z=>match z with | .inl r=>r=false/\¬Gq x | .inr _=>Gq x) ⟨0,rfl,by omega,by simp⟩ ?_ ?_
    .rintro i ⟨j,rfl,hj,c⟩
     rcases Nat.lt_or_ge j x.Vars.length with h | h
     .have ht:x.Vars[j]? = some x.Vars[j]:=Cp h
      generalize x.Vars[j]=t at ht
      have:=g.vs t (Cv ht)
      simp only [Am (by omega:(j:Int)<(x.Vars.length:Int)),cond_true,Ck rfl ht,Ae,Ur x.Data t 0 (by omega),Dv h (by omega)]
      rw [show (Fq x.Data 0 t&&decide (Bt t<=200))=Jy x.Data t from rfl]
      cases A:Jy x.Data t with
      | true=>exact .inl ⟨_,rfl,⟨j+1,rfl,by omega,by rw [D4 ht,List.all_append,c]; simp [A]⟩,by simp; omega⟩
      | false=>
       refine .inr ⟨.inl false,rfl,rfl,fun L=>?_⟩
       have:=List.all_eq_true.1 L.2.2.2 t (Cv ht)
       rw [A] at this; cases this
     .have:j=x.Vars.length:=by omega
      subst this
      rw [List.take_length] at c
      exact .inr ⟨.inr (),by simp,y,E,s,c⟩
    .rintro (r | u) f
     .obtain ⟨rfl,f⟩:=f
      exact ⟨false,rfl,by simp [f]⟩
     .have B:Gq x:=f
      have J:E9 x.Data x.Vars x.Res []:=fun q h=>by cases h
      obtain ⟨D,l,M⟩:=Aj6 (B.ctx g) [] J p hp
      cases k:I1 x.Data x.Vars x.Res p with
      | true=>
       rw [k] at l
       refine ⟨true,?_,by simp [B]⟩
       simp only
       rw [Option.bind_assoc]
       refine Ho 1 (fun j=>match j with | 0=>((0:Int),[]) | _=>((1:Int),D)) rfl ?_ ⟨.inr D,rfl,rfl⟩
       intro j hj
       match j,hj with
       | 0,_=>
        show (bif decide ((0:Int)<1) then _ else _)=_
        simp only [Am (by omega:(0:Int)<1),cond_true]
        rw [show Ag [p] 0=some p from rfl,Ae,l]; rfl
      | false=>
       rw [k] at l
       refine ⟨false,?_,by simp⟩
       simp only
       rw [Option.bind_assoc]
       refine Ho 0 (fun _=>((0:Int),[])) rfl (fun j hj=>by omega) ⟨.inl false,?_,rfl⟩
       show (bif decide ((0:Int)<1) then _ else _)=_
       simp only [Am (by omega:(0:Int)<1),cond_true]
       rw [show Ag [p] 0=some p from rfl,Ae,l]; rfl
 .rw [Am (by omega)]
  exact ⟨false,rfl,by simp; intro h; exact absurd h.1 y⟩
end Go.Ab
namespace Go.Ab
open Go
end Go.Ab
namespace Go.Ab
open Go
end Go.Ab
namespace Go.Ab
open Go
end Go.Ab
namespace Go.Ab
open Go
end Go.Ab
namespace Go.Ab
open Go
theorem Aum {data:List A4} {vars:List Ai} {res:Ai} {m:Bh} (h:Jh data vars res m=true):(∀f∈m.Factors,∃t,tyX vars res f.Var=some t)/\m.Factors.length<=6:=by
 unfold Jh at h
 simp only [bae,decide_eq_true_eq] at h
 obtain ⟨⟨h1,h2⟩,h3⟩:=h
 have b:∀f∈m.Factors,1<=Fs data vars res f:=by
  intro f b
  obtain ⟨j,hj⟩:=List.getElem?_of_mem b
  have:=Jt h1 hj
  simp only [Y6,bae,decide_eq_true_eq] at this
  exact this.1
 have ha:0<=Dy m.Atoms:=(Aj3 m.Atoms (fun a ha=>by
  obtain ⟨j,hj⟩:=List.getElem?_of_mem ha
  have:=Jt h2 hj
  simp only [Nh,bae,decide_eq_true_eq] at this
  omega)).1
 refine ⟨fun f c=>?_,?_⟩
 .have:=b f c
  unfold Fs at this
  cases ht:tyX vars res f.Var with
  | none=>rw [ht] at this; have:(1:Int)<=-1:=this; omega
  | some t=>exact ⟨t,rfl⟩
 .have key:∀l:List B7,(∀f∈l,1<=Fs data vars res f)->(l.length:Int)<=Fz data vars res l:=by
   intro l
   induction l with
   | nil=>intro _; simp [Fz]
   | cons f fs ih=>
    intro i
    have h1:=i f (by simp)
    have h2:=ih (fun g k=>i g (by simp [k]))
    unfold Fz at *
    simp only [List.map_cons,List.sum_cons,List.length_cons]; omega
  have:=key m.Factors b
  omega
theorem Aun (a b:Ap) (j k:Nat) (ha:RB j a) (hb:RB k b) (hj:j<34359738000) (hk:k<34359738000):∃c,Lr a b=some c/\N8 a b=some c/\RB (j+k+3) c:=by
 refine ⟨_,Aco a b j k ha hb (by omega) (by omega),Ain a b j k ha hb (by omega) (by omega),?_⟩
 have h1:=ha.nv
 have h2:=ha.dv
 have h3:=hb.nv
 have s:=hb.dv
 have q:=Hg (nv a) (dv b)
 have l:=Hg (nv b) (dv a)
 have i:=Hg (dv a) (dv b)
 have f:Hq (sv a) (nv a) (dv a) (sv b) (nv b) (dv b)<=nv a*dv b+nv b*dv a:=by
  unfold Hq
  split
  .omega
  .split <;> omega
 have h:=G3 f
 have g:=Yd (nv a*dv b) (nv b*dv a)
 exact K8 _ _ _ _ (by omega) (by omega) (by omega)
end Go.Ab
namespace Go.Ab
open Go
end Go.Ab
namespace Go.Ab
open Go
theorem Auo (k:Nat):RB k ⟨false,[],[]⟩:=⟨(fun _ h=>by cases h),(fun _ h=>by cases h),by simp,by simp⟩
end Go.Ab
namespace Go.Ab
open Go
end Go.Ab
namespace Go.Ab
open Go
def sg (s:Bool) (n:Nat):Int:=if s then -(n:Int) else n
def rq (a:Ap):Rat:=mkRat (sg (sv a) (nv a)) (dv a)
def I2 (a:Ap):Prop:=a=Bf (sv a) (nv a) (dv a)
theorem Mc (s:Bool) (n d:Nat) (hd:d≠0):rq (Bf s n d)=mkRat (sg s n) d:=by
 obtain ⟨g,f,h1,h2,h3,i⟩:=Yq s n d hd
 unfold rq
 rw [Rat.mkRat_eq_iff (Eu _) hd]
 generalize nv (Bf s n d)=b at *
 generalize dv (Bf s n d)=j at *
 generalize sv (Bf s n d)=s' at *
 by_cases c:n=0
 .have:b=0:=by
   rcases Nat.eq_zero_or_pos b with h | h
   .exact h
   .have:=Nat.mul_pos (Nat.pos_of_ne_zero f) h; omega
  subst this; subst c
  cases s <;> cases s' <;> simp [sg]
 .rw [h3 c,h1,h2]
  cases s <;> simp only [sg,if_true,if_false,Bool.false_eq_true,Int.natCast_mul] <;> grind
theorem U2 (s:Bool) (n d:Nat) (hd:d≠0):I2 (Bf s n d):=by
 obtain ⟨g,b,h1,h2,h3,i⟩:=Yq s n d hd
 unfold I2
 generalize hc:Bf s n d=c at h1 h2 h3 i
 have e:=O5 s (nv c) (dv c) g b
 rw [<-h1,<-h2,hc] at e
 by_cases f:n=0
 .have h0:nv c=0:=by
   rcases Nat.eq_zero_or_pos (nv c) with h | h
   .exact h
   .have:=Nat.mul_pos (Nat.pos_of_ne_zero b) h; omega
  rw [h0,Rl] at e ⊢
  exact e
 .rw [h3 f]; exact e
theorem Aj7 (n m:Int) {d e:Nat} (hd:d≠0) (g:e≠0):mkRat n d<mkRat m e↔n*e<m*d:=by
 have c:(0:Rat)<(d:Rat):=Rat.natCast_pos.2 (by omega)
 have b:(0:Rat)<(e:Rat):=Rat.natCast_pos.2 (by omega)
 rw [Rat.mkRat_eq_div,Rat.mkRat_eq_div,Rat.div_lt_iff c]
 rw [<-Rat.mul_lt_mul_right b]
 have f:(m:Rat) / (e:Rat)*(d:Rat)*(e:Rat)=(m:Rat)*(d:Rat):=by grind
 rw [f]
 have a1:(n:Rat)*(e:Rat)=((n*(e:Int):Int):Rat):=by rw [Rat.intCast_mul]; rfl
 have a2:(m:Rat)*(d:Rat)=((m*(d:Int):Int):Rat):=by rw [Rat.intCast_mul]; rfl
 rw [a1,a2,Rat.intCast_lt_intCast]
theorem Aj8 {a b:Ap} (ha:I2 a) (hb:I2 b) (h:rq a=rq b):a=b:=by
 unfold rq at h
 rw [Rat.mkRat_eq_iff (Eu _) (Eu _)] at h
 rw [ha,hb]
 have q:=Eu a
 have l:=Eu b
 generalize nv a=n at *
 generalize dv a=d at *
 generalize sv a=s at *
 generalize nv b=m at *
 generalize dv b=e at *
 generalize sv b=t at *
 have f:n*e=m*d/\(n≠0->s=t):=by
  have c:n≠0->0<n*e:=fun h=>Nat.mul_pos (by omega) (by omega)
  have g:m≠0->0<m*d:=fun h=>Nat.mul_pos (by omega) (by omega)
  have x:((n*e:Nat):Int)=(n:Int)*e:=by simp
  have u:((m*d:Nat):Int)=(m:Int)*d:=by simp
  cases s <;> cases t <;> simp only [sg,if_true,if_false,Bool.false_eq_true,Int.neg_mul] at h
  .exact ⟨by omega,fun _=>rfl⟩
  .have:n*e=0/\m*d=0:=by omega
   refine ⟨by omega,fun i=>?_⟩
   have:=c i; omega
  .have:n*e=0/\m*d=0:=by omega
   refine ⟨by omega,fun i=>?_⟩
   have:=c i; omega
  .exact ⟨by omega,fun _=>rfl⟩
 have k:=O5 s n d e l
 have j:=O5 t m e d q
 rw [<-k,<-j,Nat.mul_comm e n,f.1,Nat.mul_comm e d,Nat.mul_comm m d]
 refine Aih fun h0=>f.2 ?_
 rintro rfl
 rw [Nat.zero_mul] at f
 have:=f.1
 rw [Nat.mul_comm d m] at h0
 omega
theorem Aup (j:Bool) (c g:Nat) (i:Bool) (b f:Nat):sg (Ki j c g i b f) (Hq j c g i b f)=sg j c*f+sg i b*g:=by
 unfold Ki Hq sg
 have l:((c*f:Nat):Int)=(c:Int)*f:=by simp
 have k:((b*g:Nat):Int)=(b:Int)*g:=by simp
 cases j <;> cases i <;> simp only [if_true,if_false,Bool.false_eq_true,Bool.true_eq_false,Int.neg_mul]
 .omega
 .by_cases h:b*g<=c*f
  .simp only [if_pos h]; simp only [if_false,Bool.false_eq_true]; omega
  .simp only [if_neg h]; simp only [if_true]; omega
 .by_cases h:b*g<=c*f
  .simp only [if_pos h]; simp only [if_true]; omega
  .simp only [if_neg h]; simp only [if_false,Bool.false_eq_true]; omega
 .omega
theorem Auq {a b:Ap} {j k:Nat} (ha:RB j a) (hb:RB k b) (hj:j<34359738000) (hk:k<34359738000):∃c,Lr a b=some c/\N8 a b=some c/\RB (j+k+3) c/\I2 c/\rq c=rq a+rq b:=by
 obtain ⟨c,h1,h2,h3⟩:=Aun a b j k ha hb hj hk
 have e:=Aco a b j k ha hb (by omega) (by omega)
 rw [h1] at e
 have e:=Option.some.inj e
 have hd:dv a*dv b≠0:=Nat.mul_ne_zero (Eu a) (Eu b)
 refine ⟨c,h1,h2,h3,?_,?_⟩
 .rw [e]; exact U2 _ _ _ hd
 .rw [e,Mc _ _ _ hd,Aup,rq,rq,Rat.mkRat_add_mkRat _ _ (Eu a) (Eu b)]
theorem Aur (s t:Bool) (n m:Nat):sg (s != t) (n*m)=sg s n*sg t m:=by
 unfold sg
 cases s <;> cases t <;> simp [Int.neg_mul,Int.mul_neg]
theorem Aj9 {a b:Ap} {j k:Nat} (ha:RB j a) (hb:RB k b) (hj:j<34359738000) (hk:k<34359738000):∃c,Gz a b=some c/\RB (j+k+2) c/\I2 c/\rq c=rq a*rq b:=by
 have hd:dv a*dv b≠0:=Nat.mul_ne_zero (Eu a) (Eu b)
 have h1:=ha.nv
 have h2:=ha.dv
 have h3:=hb.nv
 have h:=hb.dv
 have g:=Hg (nv a) (nv b)
 have f:=Hg (dv a) (dv b)
 refine ⟨_,Acn a b j k ha hb (by omega) (by omega),K8 _ _ _ _ (by omega) (by omega) (by omega),U2 _ _ _ hd,?_⟩
 rw [Mc _ _ _ hd,Aur,rq,rq,Rat.mkRat_mul_mkRat]
def Nj (x:Rat):Int:=if x<0 then -1 else if 0<x then 1 else 0
theorem Aus (a:Ap):rq a<0↔Hh (sv a) (nv a) = -1:=by
 have e:(0:Rat)=mkRat 0 1:=by simp
 rw [rq,e,Aj7 _ _ (Eu a) (by decide)]
 unfold sg Hh
 split <;> split <;> simp <;> omega
theorem Aut (a:Ap):0<rq a↔Hh (sv a) (nv a)=1:=by
 have e:(0:Rat)=mkRat 0 1:=by simp
 rw [rq,e,Aj7 _ _ (by decide) (Eu a)]
 unfold sg Hh
 split <;> split <;> simp <;> omega
theorem Auu (a:Ap):Hh (sv a) (nv a)=Nj (rq a):=by
 have h1:=Aus a
 have h2:=Aut a
 have h3:Hh (sv a) (nv a) = -1\/Hh (sv a) (nv a)=0\/Hh (sv a) (nv a)=1:=by unfold Hh; split <;> (try split) <;> simp
 unfold Nj
 split
 .rename_i h; exact h1.1 h
 .rename_i h
  split
  .rename_i h'; exact h2.1 h'
  .rename_i h'
   rcases h3 with h3 | h3 | h3
   .exact (h (h1.2 h3)).elim
   .exact h3
   .exact (h' (h2.2 h3)).elim
theorem Aka {a:Ap} {k:Nat} (h:RB k a) (hk:k<34359738000):Hc a=some (Nj (rq a))/\Qc a=some (Nj (rq a)):=by
 rw [<-Auu]
 exact ⟨Acl a k h (by omega),Aio a k h (by omega)⟩
end Go.Ab
namespace Go.Ab
open Go
structure D6 {α:Type} (S:α->Prop) (g:α->α->Int):Prop where
 zero:∀a b,S a->S b->(g a b=0↔a=b)
 anti:∀a b,S a->S b->g b a = - g a b
 trans:∀a b c,S a->S b->S c->g a b<0->g b c<0->g a c<0
theorem D6.cmpI:D6 (fun _:Int=>True) De:=by
 refine ⟨fun a b _ _=>E2,fun a b _ _=>?_,fun a b c _ _ _=>?_⟩
 .unfold Go.Ab.De; split <;> split <;> (try split) <;> (try split) <;> omega
 .unfold Go.Ab.De; intro h1 h2; split at h1 <;> (try split at h1) <;> split at h2 <;> (try split at h2) <;> first | omega | (rw [if_pos (by omega)]; decide)
theorem Akb {x y:Int}:Df x y<0↔x<0\/(x=0/\y<0):=by unfold Df; split <;> omega
theorem Akc {x y:Int}:Df x y=0↔x=0/\y=0:=by unfold Df; split <;> omega
theorem D6.or {α β γ:Type} {S:α->Prop} {s:β->Prop} {l:γ->Prop} {j:β->β->Int} {i:γ->γ->Int} (p:α->β) (q:α->γ) (g:∀a b,p a=p b->q a=q b->a=b) (h1:D6 s j) (h2:D6 l i) (f:∀a,S a->s (p a)/\l (q a)) :
  D6 S (fun a b=>Df (j (p a) (p b)) (i (q a) (q b))):=by
 refine ⟨fun a b ha hb=>?_,fun a b ha hb=>?_,fun a b c ha hb hc=>?_⟩
 .rw [Akc,h1.zero _ _ (f a ha).1 (f b hb).1,h2.zero _ _ (f a ha).2 (f b hb).2]
  exact ⟨fun h=>g a b h.1 h.2,fun h=>by subst h; exact ⟨rfl,rfl⟩⟩
 .show Df (j (p b) (p a)) (i (q b) (q a)) = - Df (j (p a) (p b)) (i (q a) (q b))
  have z:=h1.anti _ _ (f a ha).1 (f b hb).1
  have y:=h2.anti _ _ (f a ha).2 (f b hb).2
  rw [z,y]; unfold Df; split <;> split <;> omega
 .show Df _ _<0->Df _ _<0->Df _ _<0
  simp only [Akb]
  have u:=h1.zero _ _ (f a ha).1 (f b hb).1
  have z2:=h1.zero _ _ (f b hb).1 (f c hc).1
  have t1:=h1.trans _ _ _ (f a ha).1 (f b hb).1 (f c hc).1
  have t2:=h2.trans _ _ _ (f a ha).2 (f b hb).2 (f c hc).2
  rintro (h | ⟨h,h'⟩) (k | ⟨k,x⟩)
  .exact .inl (t1 h k)
  .rw [<-z2.1 k]; exact .inl h
  .rw [u.1 h]; exact .inl k
  .rw [<-z2.1 k,h]; exact .inr ⟨rfl,t2 h' x⟩
theorem D6.mono {α:Type} {S i:α->Prop} {g:α->α->Int} (h:D6 S g) (f:∀a,i a->S a):D6 i g :=
 ⟨fun a b ha hb=>h.zero a b (f a ha) (f b hb),fun a b ha hb=>h.anti a b (f a ha) (f b hb),fun a b c ha hb hc=>h.trans a b c (f a ha) (f b hb) (f c hc)⟩
theorem D6.congr {α:Type} {S:α->Prop} {g c:α->α->Int} (h:D6 S g) (e:∀a b,c a b=g a b):D6 S c:=by
 have:c=g:=funext fun a=>funext fun b=>e a b
 rw [this]; exact h
def LL {α:Type} (g:α->α->Int) (l m:List α):Int:=if l.length=m.length then D5 g l m else Go.Ab.De l.length m.length
theorem Akd {α:Type} {S:α->Prop} {g:α->α->Int} (h:D6 S g):∀l m:List α,l.length=m.length->(∀x∈l,S x)->(∀x∈m,S x)->(D5 g l m=0↔l=m)
 | [],[],_,_,_=>by simp [D5]
 | x::xs,y::ys,b,h1,h2=>by
  simp only [D5,Akc,h.zero x y (h1 x (by simp)) (h2 y (by simp)),Akd h xs ys (by simpa using b) (fun z c=>h1 z (by simp [c])) (fun z c=>h2 z (by simp [c])),List.cons.injEq]
 | [],_::_,b,_,_=>by simp at b
 | _::_,[],b,_,_=>by simp at b
theorem Ake {α:Type} {S:α->Prop} {g:α->α->Int} (h:D6 S g):∀l m:List α,l.length=m.length->(∀x∈l,S x)->(∀x∈m,S x)->D5 g m l = - D5 g l m
 | [],[],_,_,_=>by simp [D5]
 | x::xs,y::ys,b,h1,h2=>by
  simp only [D5,h.anti x y (h1 x (by simp)) (h2 y (by simp)),Ake h xs ys (by simpa using b) (fun z c=>h1 z (by simp [c])) (fun z c=>h2 z (by simp [c]))]
  unfold Df; split <;> split <;> omega
 | [],_::_,b,_,_=>by simp at b
 | _::_,[],b,_,_=>by simp at b
theorem Akf {α:Type} {S:α->Prop} {g:α->α->Int} (h:D6 S g):∀l m n:List α,l.length=m.length->m.length=n.length->(∀x∈l,S x)->(∀x∈m,S x)->(∀x∈n,S x)->D5 g l m<0->D5 g m n<0->D5 g l n<0
 | [],[],_,_,_,_,_,_=>by intro h; simp [D5] at h
 | x::xs,y::ys,z::j,f,i,h1,h2,h3=>by
  simp only [D5,Akb]
  have k:=h.zero x y (h1 x (by simp)) (h2 y (by simp))
  have z2:=h.zero y z (h2 y (by simp)) (h3 z (by simp))
  have t1:=h.trans x y z (h1 x (by simp)) (h2 y (by simp)) (h3 z (by simp))
  have t2:=Akf h xs ys j (by simpa using f) (by simpa using i) (fun z c=>h1 z (by simp [c])) (fun z c=>h2 z (by simp [c])) (fun z c=>h3 z (by simp [c]))
  rintro (a | ⟨a,s⟩) (b | ⟨b,q⟩)
  .exact .inl (t1 a b)
  .rw [<-z2.1 b]; exact .inl a
  .rw [k.1 a]; exact .inl b
  .rw [<-z2.1 b,a]; exact .inr ⟨rfl,t2 s q⟩
 | _::_,_::_,[],_,i,_,_,_=>by simp at i
 | [],_::_,_,f,_,_,_,_=>by simp at f
 | _::_,[],_,f,_,_,_,_=>by simp at f
theorem D6.ll {α:Type} {S:α->Prop} {g:α->α->Int} (h:D6 S g):D6 (fun l=>∀x∈l,S x) (LL g):=by
 have c:=D6.cmpI
 refine ⟨fun a b ha hb=>?_,fun a b ha hb=>?_,fun x y z hx hy q=>?_⟩
 .unfold LL
  split
  .rename_i i; exact Akd h a b i ha hb
  .rename_i i
   rw [E2]
   exact ⟨fun e=>(i (by omega)).elim,fun e=>(i (by rw [e])).elim⟩
 .unfold LL
  by_cases i:a.length=b.length
  .rw [if_pos i,if_pos i.symm]; exact Ake h a b i ha hb
  .rw [if_neg i,if_neg (fun e=>i e.symm)]; exact c.anti _ _ trivial trivial
 .unfold LL
  intro h1 h2
  have neg:∀a b:Int,Go.Ab.De a b<0->a<b:=by intro a b h; unfold Go.Ab.De at h; split at h <;> (try split at h) <;> omega
  have f:∀a b:Int,a<b->Go.Ab.De a b<0:=by intro a b h; unfold Go.Ab.De; rw [if_pos h]; decide
  by_cases k:x.length=y.length
  .rw [if_pos k] at h1
   by_cases j:y.length=z.length
   .rw [if_pos j] at h2; rw [if_pos (by omega)]; exact Akf h x y z k j hx hy q h1 h2
   .rw [if_neg j] at h2; rw [if_neg (by omega)]
    have:=neg _ _ h2; exact f _ _ (by omega)
  .rw [if_neg k] at h1
   have:=neg _ _ h1
   by_cases j:y.length=z.length
   .rw [if_neg (by omega)]; exact f _ _ (by omega)
   .rw [if_neg j] at h2
    have:=neg _ _ h2
    rw [if_neg (by omega)]; exact f _ _ (by omega)
theorem Akg {α:Type} (g:α->α->Int) (l m:List α) (y:Int):Df (LL g l m) y=if l.length=m.length then Df (D5 g l m) y else Go.Ab.De l.length m.length:=by
 unfold LL
 by_cases h:l.length=m.length
 .rw [if_pos h,if_pos h]
 .rw [if_neg h,if_neg h]
  unfold Df
  rw [if_neg (fun e=>h (by have:=E2.1 e; omega))]
theorem Auv:D6 (fun _=>True) Jw :=
 (D6.or (S:=fun _=>True) (fun t:Bc=>t.Var) (fun t=>t.Coef) (fun a b h1 h2=>by cases a; cases b; cases h1; cases h2; rfl) D6.cmpI D6.cmpI (fun _ _=>⟨trivial,trivial⟩)).congr fun _ _=>rfl
theorem Hj:D6 (fun _=>True) Fa :=
 (D6.or (S:=fun _=>True) (fun t:Bn=>t.Terms) (fun t=>t.Const) (fun a b h1 h2=>by cases a; cases b; cases h1; cases h2; rfl) Auv.ll D6.cmpI (fun _ _=>⟨fun _ _=>trivial,trivial⟩)).congr fun a b=>by
  show Fa a b=Df (LL Jw a.Terms b.Terms) (Go.Ab.De a.Const b.Const)
  rw [Akg]; rfl
theorem Auw (i j:Bo):Hi i j=Df (Go.Ab.De i.Num j.Num) (LL Hi i.Kids j.Kids):=by
 rw [Adh,Y5]
 unfold Df LL
 by_cases h:i.Num=j.Num
 .rw [if_pos h,if_pos (E2.2 h)]
 .rw [if_neg h,if_neg (fun e=>h (E2.1 e))]
theorem Adj:∀n:Nat,D6 (fun i=>Dk i<=n) Hi:=by
 intro n
 induction n with
 | zero=>exact ⟨fun a _ ha=>by have:=Gp a; omega,fun a _ ha=>by have:=Gp a; omega,fun a _ _ ha=>by have:=Gp a; omega⟩
 | succ n ih=>
  refine (D6.or (S:=fun i=>Dk i<=n+1) (fun i:Bo=>i.Num) (fun i=>i.Kids) (fun a b h1 h2=>by cases a; cases b; cases h1; cases h2; rfl) D6.cmpI ih.ll ?_).congr Auw
  intro i c
  refine ⟨trivial,fun x hx=>?_⟩
  have h1:=Pa hx
  have h2:=Gp i
  show Dk x<=n
  omega
theorem Aux:D6 (fun _=>True) Hi :=
 ⟨fun a b _ _=>(Adj (max (Dk a) (Dk b))).zero a b (by show Dk a<=_; omega) (by show Dk b<=_; omega),fun a b _ _=>(Adj (max (Dk a) (Dk b))).anti a b (by show Dk a<=_; omega) (by show Dk b<=_; omega),
  fun a b c _ _ _=>(Adj (max (Dk a) (max (Dk b) (Dk c)))).trans a b c (by show Dk a<=_; omega) (by show Dk b<=_; omega) (by show Dk c<=_; omega)⟩
theorem Auy:D6 (fun _=>True) Jx :=
 (D6.or (S:=fun _=>True) (fun t:B7=>t.Var) (fun t=>t.Index) (fun a b h1 h2=>by cases a; cases b; cases h1; cases h2; rfl) D6.cmpI Aux (fun _ _=>⟨trivial,trivial⟩)).congr fun _ _=>rfl
theorem Auz:D6 (fun _=>True) Km :=
 (D6.or (S:=fun _=>True) (fun t:A9=>t.Lin) (fun t=>t.Deg) (fun a b h1 h2=>by cases a; cases b; cases h1; cases h2; rfl) Hj D6.cmpI (fun _ _=>⟨trivial,trivial⟩)).congr fun _ _=>rfl
theorem Adk:D6 (fun _=>True) Cy :=
 (D6.or (S:=fun _=>True) (fun t:Bh=>t.Factors) (fun t=>t.Atoms) (fun a b h1 h2=>by cases a; cases b; cases h1; cases h2; rfl) Auy.ll Auz.ll (fun _ _=>⟨fun _ _=>trivial,fun _ _=>trivial⟩)).congr fun a b=>by
  show Cy a b=Df (LL Jx a.Factors b.Factors) (LL Km a.Atoms b.Atoms)
  rw [Akg]; rfl
theorem Kn {a b:Bh}:Cy a b=0↔a=b:=Adk.zero a b trivial trivial
theorem Rx (a b:Bh):Cy b a = - Cy a b:=Adk.anti a b trivial trivial
theorem Ry {a b c:Bh} (h:Cy a b<0) (h':Cy b c<0):Cy a c<0:=Adk.trans a b c trivial trivial trivial h h'
end Go.Ab
namespace Go.Ab
open Go
theorem Adl (m:Bh):Cy m m=0:=Kn.2 rfl
theorem Adm {a b:Bh}:0<Cy a b↔Cy b a<0:=by rw [Rx a b]; omega
def cf:List Aj->Bh->Rat
 | [],_=>0
 | t::p,m=>(if Cy t.Mono m=0 then rq t.Coef else 0)+cf p m
def ltT (t u:Aj):Prop:=Cy t.Mono u.Mono<0
structure CP (p:List Aj):Prop where
 srt:p.Pairwise ltT
 coe:∀t∈p,I2 t.Coef/\rq t.Coef≠0
theorem CP.tail {t:Aj} {p:List Aj} (h:CP (t::p)):CP p:=⟨(List.pairwise_cons.1 h.srt).2,fun u hu=>h.coe u (by simp [hu])⟩
theorem CP.head {t:Aj} {p:List Aj} (h:CP (t::p)):∀u∈p,Cy t.Mono u.Mono<0:=(List.pairwise_cons.1 h.srt).1
theorem CP.nil:CP []:=⟨List.Pairwise.nil,fun _ h=>by cases h⟩
theorem CP.cons {t:Aj} {p:List Aj} (h:CP p) (h1:∀u∈p,Cy t.Mono u.Mono<0) (h2:I2 t.Coef) (h3:rq t.Coef≠0):CP (t::p) :=
 ⟨List.pairwise_cons.2 ⟨h1,h.srt⟩,fun u hu=>by
  rcases List.mem_cons.1 hu with rfl | hu
  .exact ⟨h2,h3⟩
  .exact h.coe u hu⟩
theorem Akh {p:List Aj} {m:Bh} (h:∀t∈p,Cy t.Mono m≠0):cf p m=0:=by
 induction p with
 | nil=>rfl
 | cons t p ih=>
  simp only [cf]
  rw [if_neg (h t (by simp)),ih (fun u hu=>h u (by simp [hu]))]; grind
theorem Pg {p:List Aj} {m:Bh} (h:∀t∈p,Cy m t.Mono<0):cf p m=0 :=
 Akh fun t ht e=>by have:=h t ht; rw [Rx,e] at this; omega
theorem Ph {t:Aj} {p:List Aj} (h:CP (t::p)):cf (t::p) t.Mono=rq t.Coef:=by
 simp only [cf]
 rw [if_pos (Adl _),Pg h.head]; grind
theorem Adn {t:Aj} {p:List Aj} {m:Bh} (h:Cy t.Mono m≠0):cf (t::p) m=cf p m:=by
 simp only [cf]; rw [if_neg h]; grind
theorem Rz (p q:List Aj) (m:Bh):cf (p++q) m=cf p m+cf q m:=by
 induction p with
 | nil=>simp only [List.nil_append,cf]; grind
 | cons t p ih=>simp only [List.cons_append,cf,ih]; grind
theorem Ado {p:List Aj} (h:CP p) {t:Aj} (ht:t∈p):cf p t.Mono=rq t.Coef:=by
 induction p with
 | nil=>cases ht
 | cons u p ih=>
  rcases List.mem_cons.1 ht with rfl | ht
  .exact Ph h
  .have:=h.head t ht
   rw [Adn (by omega)]; exact ih h.tail ht
theorem CP.ext:∀{p q:List Aj},CP p->CP q->(∀m,cf p m=cf q m)->p=q
 | [],[],_,_,_=>rfl
 | [],u::q,_,h2,h=>by
  have:=h u.Mono
  rw [Ph h2] at this
  exact ((h2.coe u (by simp)).2 this.symm).elim
 | t::p,[],h1,_,h=>by
  have:=h t.Mono
  rw [Ph h1] at this
  exact ((h1.coe t (by simp)).2 this).elim
 | t::p,u::q,h1,h2,h=>by
  have b:Cy t.Mono u.Mono=0:=by
   rcases Int.lt_trichotomy (Cy t.Mono u.Mono) 0 with k | k | k
   .have e:=h t.Mono
    rw [Ph h1,Pg (p:=u::q)] at e
    .exact ((h1.coe t (by simp)).2 e).elim
    .intro w hw
     rcases List.mem_cons.1 hw with rfl | hw
     .exact k
     .exact Ry k (h2.head w hw)
   .exact k
   .have k:=Adm.1 k
    have e:=h u.Mono
    rw [Ph h2,Pg (p:=t::p)] at e
    .exact ((h2.coe u (by simp)).2 e.symm).elim
    .intro w hw
     rcases List.mem_cons.1 hw with rfl | hw
     .exact k
     .exact Ry k (h1.head w hw)
  have c:=Kn.1 b
  have hc:t.Coef=u.Coef:=by
   refine Aj8 (h1.coe t (by simp)).1 (h2.coe u (by simp)).1 ?_
   have e:=h t.Mono
   rw [Ph h1,c,Ph h2] at e
   exact e
  have ht:t=u:=by cases t; cases u; simp_all
  subst ht
  congr 1
  refine CP.ext h1.tail h2.tail fun m=>?_
  by_cases e:Cy t.Mono m=0
  .rw [<-Kn.1 e,Pg h1.head,Pg h2.head]
  .have:=h m
   rwa [Adn e,Adn e] at this
theorem Aki (c:Ap):U1 c=true↔I2 c/\rq c≠0:=by
 unfold U1 I2
 rw [bae,Aj5]
 have h:(!(nv c==0))=true↔rq c≠0:=by
  have e:rq c=0↔nv c=0:=by
   unfold rq
   rw [Rat.mkRat_eq_zero (Eu c)]
   unfold sg; split <;> omega
  rw [Ne,e]; simp
 rw [h]
 exact ⟨fun ⟨a,b⟩=>⟨a.symm,b⟩,fun ⟨a,b⟩=>⟨a.symm,b⟩⟩
theorem Au0 {l:List Aj} (h:∀(j:Nat) (x y:Aj),l[j]? = some x->l[j+1]? = some y->Cy x.Mono y.Mono<0):l.Pairwise ltT:=by
 induction l with
 | nil=>exact List.Pairwise.nil
 | cons t l ih=>
  have ih:=ih fun j x y hx hy=>h (j+1) x y (by simpa using hx) (by simpa using hy)
  refine List.pairwise_cons.2 ⟨?_,ih⟩
  cases l with
  | nil=>intro u hu; cases hu
  | cons v l=>
   have h0:=h 0 t v rfl rfl
   intro u hu
   rcases List.mem_cons.1 hu with rfl | hu
   .exact h0
   .exact Ry h0 ((List.pairwise_cons.1 ih).1 u hu)
theorem Y7 {data:List A4} {vars:List Ai} {res:Ai} {p:List Aj}:I1 data vars res p=true↔p.length<=1000/\CP p/\∀t∈p,Jh data vars res t.Mono=true:=by
 unfold I1
 rw [bae,decide_eq_true_eq]
 constructor
 .rintro ⟨h1,h2⟩
  have g:∀(j:Nat) (t:Aj),p[j]? = some t->U1 t.Coef=true/\Jh data vars res t.Mono=true/\Pf p t j=true:=by
   intro j t hj
   have:=Jt h2 hj
   simp only [Rw,bae] at this
   exact ⟨this.1.1,this.1.2,this.2⟩
  refine ⟨h1,⟨Au0 fun j x y hx hy=>?_,fun t ht=>?_⟩,fun t ht=>?_⟩
  .have:=(g _ _ hy).2.2
   unfold Pf at this
   rw [show j+1-1=j by omega,hx] at this
   simpa using this
  .obtain ⟨j,hj⟩:=List.getElem?_of_mem ht
   exact (Aki _).1 (g j t hj).1
  .obtain ⟨j,hj⟩:=List.getElem?_of_mem ht
   exact (g j t hj).2.1
 .rintro ⟨h1,h2,h3⟩
  refine ⟨h1,List.all_eq_true.2 fun q hq=>?_⟩
  have hq:=List.mem_zipIdx' hq
  have hj:p[q.2]? = some q.1:=(Cp hq.1).trans (congrArg some hq.2.symm)
  have c:q.1∈p:=Cv hj
  simp only [Rw,bae]
  refine ⟨⟨(Aki _).2 (h2.coe _ c),h3 _ c⟩,?_⟩
  unfold Pf
  by_cases h0:q.2=0
  .rw [h0]; rfl
  .have b:q.2-1<p.length:=by omega
   rw [Cp b]
   have:=List.pairwise_iff_getElem.1 h2.srt (q.2-1) q.2 b hq.1 (by omega)
   rw [<-hq.2] at this
   simp only [Bool.or_eq_true,decide_eq_true_eq]
   exact .inr this
end Go.Ab
namespace Go.Ab
open Go
theorem Au1:∀(k:Nat) (t:Bo),Dk t<=k->k<1099511627776->Og k t=some t:=by
 intro k
 induction k with
 | zero=>intro t h; have:=Gp t; omega
 | succ k ih=>
  intro t h hk
  have c:=Gp t
  have b:=Rq t.Kids
  rw [Og]
  refine Iv t.Kids (fun j=>((j:Int),(t.Kids.take j))) rfl (by omega) ?_ ?_
  .intro j x hj hx h1 h2 h3
   have:=Pa (Cv hx)
   simp only [h1,h2,h3,cond_true,Ae,ih x (by omega) (by omega)]
   rw [Ds (by simp; omega),Ae,D4 hx]
  .intro h1
   exact ⟨t.Kids,by simp,by cases t; rfl⟩
theorem Au2 (m:Bh) (b:MSz m):Tl m=some m:=by
 have g:=b.nf
 have f:=b.na
 unfold Tl
 refine Iv m.Factors (fun j=>((j:Int),(m.Factors.take j))) rfl (by omega) ?_ ?_
 .intro j x hj hx h1 h2 h3
  have c:=Cv hx
  have:=b.fi x c
  simp only [h1,h2,h3,cond_true,Ae,Au1 4000000 x.Index (by omega) (by omega)]
  rw [Ds (by simp; omega),Ae,D4 hx]
 .intro h1
  refine ⟨m.Factors,by simp,?_⟩
  dsimp only
  refine Iv m.Atoms (fun j=>((j:Int),(m.Atoms.take j))) rfl (by omega) ?_ ?_
  .intro j x hj hx h1 h2 h3
   have c:=Cv hx
   have:=b.al x c
   simp only [h1,h2,h3,cond_true,Ae,Tb]
   rw [Ds (by simp; omega),Ae,Ds (by simp; omega),Ae,D4 hx]; rfl
  .intro h1
   exact ⟨m.Atoms,by simp,by cases m; rfl⟩
end Go.Ab
namespace Go.Ab
open Go
structure TB (k:Nat) (t:Aj):Prop where
 co:RB k t.Coef
 mo:MSz t.Mono
theorem TSz.tb {t:Aj} (h:TSz t):TB 1048576 t:=⟨h.co,h.mo⟩
theorem TB.mono {j k:Nat} {t:Aj} (h:TB j t) (hk:j<=k):TB k t:=⟨h.co.mono hk,h.mo⟩
def Pi (c:Ap) (m:Bh):List Aj:=if nv c=0 then [] else [⟨Bf (sv c) (nv c) (dv c),m⟩]
theorem Akj (c:Ap):rq c=0↔nv c=0:=by
 unfold rq
 rw [Rat.mkRat_eq_zero (Eu c)]
 unfold sg; split <;> omega
theorem Au3 (c:Ap) (m n:Bh):cf (Pi c m) n=if Cy m n=0 then rq c else 0:=by
 unfold Pi
 split
 .rename_i h
  rw [(Akj c).2 h]; simp [cf]
 .simp only [cf,Mc _ _ _ (Eu c)]
  show (if Cy m n=0 then rq c else 0)+0=_
  grind
structure Mg (F:Rat->Rat->Rat) (k:Nat) (p q R:List Aj):Prop where
 cp:CP R
 val:∀m,cf R m=F (cf p m) (cf q m)
 mon:∀t∈R,(∃u∈p,u.Mono=t.Mono)\/(∃u∈q,u.Mono=t.Mono)
 len:R.length<=p.length+q.length
 rb:∀t∈R,RB (k+1) t.Coef
theorem Au4 {k:Nat} {c:Ap} {m:Bh} (hc:RB k c):(∀t∈Pi c m,t.Mono=m/\I2 t.Coef/\rq t.Coef≠0/\RB (k+1) t.Coef)/\(Pi c m).length<=1:=by
 unfold Pi
 split
 .exact ⟨fun _ h=>(by cases h),by simp⟩
 .rename_i h
  refine ⟨fun t ht=>?_,by simp⟩
  simp only [List.mem_singleton] at ht
  subst ht
  exact ⟨rfl,U2 _ _ _ (Eu c),by rw [Mc _ _ _ (Eu c)]; exact fun e=>h ((Akj c).1 e),Ail hc⟩
theorem Mg.step {F:Rat->Rat->Rat} {k:Nat} {p q g f R:List Aj} {c:Ap} {m:Bh} (h:Mg F k g f R) (z:F 0 0=0) (hc:RB k c)
  (s:∀n,Cy m n≠0->cf p n=cf g n/\cf q n=cf f n) (h0:rq c=F (cf p m) (cf q m)) (l:∀u∈g,Cy m u.Mono<0) (j:∀u∈f,Cy m u.Mono<0)
  (x:(∃u∈p,u.Mono=m)\/(∃u∈q,u.Mono=m)) (hp:∀u∈g,u∈p) (hq:∀u∈f,u∈q) (B:g.length+f.length+1<=p.length+q.length):Mg F k p q (Pi c m++R):=by
 obtain ⟨i,A⟩:=Au4 (m:=m) hc
 have y:∀t∈R,Cy m t.Mono<0:=by
  intro t ht
  rcases h.mon t ht with ⟨u,hu,e⟩ | ⟨u,hu,e⟩
  .rw [<-e]; exact l u hu
  .rw [<-e]; exact j u hu
 refine ⟨?_,?_,?_,?_,?_⟩
 .refine ⟨List.pairwise_append.2 ⟨?_,h.cp.srt,?_⟩,?_⟩
  .unfold Pi; split
   .exact List.Pairwise.nil
   .exact List.pairwise_singleton _ _
  .intro a ha b hb
   show Cy a.Mono b.Mono<0
   rw [(i a ha).1]; exact y b hb
  .intro t ht
   rcases List.mem_append.1 ht with ht | ht
   .exact ⟨(i t ht).2.1,(i t ht).2.2.1⟩
   .exact h.cp.coe t ht
 .intro n
  rw [Rz,Au3,h.val n]
  by_cases e:Cy m n=0
  .rw [if_pos e]
   have e':=Kn.1 e
   subst e'
   rw [Pg l,Pg j,z,h0]; grind
  .rw [if_neg e,(s n e).1,(s n e).2]; grind
 .intro t ht
  rcases List.mem_append.1 ht with ht | ht
  .rw [(i t ht).1]; exact x
  .rcases h.mon t ht with ⟨u,hu,e⟩ | ⟨u,hu,e⟩
   .exact .inl ⟨u,hp u hu,e⟩
   .exact .inr ⟨u,hq u hu,e⟩
 .rw [List.length_append]; have:=h.len; omega
 .intro t ht
  rcases List.mem_append.1 ht with ht | ht
  .exact (i t ht).2.2.2
  .exact h.rb t ht
end Go.Ab
namespace Go.Ab
open Go
def Gr (n:Int) (f:Bool):List Int:=if f then (if n<0 then [45] else []) else (if n<0 then [32,45,32] else [32,43,32])
def Ht (n:Int):List Int:=if n.natAbs=1 then [] else ti n.natAbs++[42]
def G4 (v:Int):List Int:=if v = -1 then [114,101,115] else 118::ti v
def tT (f:Bool) (t:Bc):List Int:=Gr t.Coef f++(Ht t.Coef++G4 t.Var)
def F8:Bool->List Bc->Int->List Int
 | f,[],c=>if c≠0\/f=true then Gr c f++ti c.natAbs else []
 | f,t::ts,c=>tT f t++F8 false ts c
def U3 (l:Bn):List Int:=F8 true l.Terms l.Const
def G5 (X:List Int):Prop:=∀c m,X=c::m->c=97
theorem G5.nil:G5 []:=by intro c m h; cases h
theorem G5.cons (X:List Int):G5 (97::X):=by intro c m h; cases h; rfl
theorem G5.nonum {X:List Int} (h:G5 X):Jg X:=by intro c m e; rw [h c m e]; decide
theorem Adp (n:Nat):∃c m,ti n=c::m/\48<=c/\c<=57:=by
 have b:=Adb (n:Int)
 cases h:ti (n:Int) with
 | nil=>exact (b h).elim
 | cons c m=>
  refine ⟨c,m,rfl,?_⟩
  have hc:c∈ti (n:Int):=by rw [h]; simp
  unfold ti at hc
  obtain ⟨x,hx,rfl⟩:=List.mem_map.1 hc
  have e:Lib.itoa (n:Int)=Lib.decDigits n:=by
   unfold Lib.itoa
   first | rfl | (rw [if_neg (by omega)]; simp) | simp
  rw [e] at hx
  have:=Yv n n (Nat.le_refl _) x hx
  omega
theorem Akk (ts:List Bc) (c:Int) {X:List Int} (b:G5 X):Jg (F8 false ts c++X):=by
 have k:∀(n:Int) (Y:List Int),Jg (Gr n false++Y):=by
  intro n Y c m e
  unfold Gr at e
  simp only [Bool.false_eq_true,if_false] at e
  split at e <;> (cases e; decide)
 cases ts with
 | nil=>
  simp only [F8]
  split
  .rw [List.append_assoc]; exact k _ _
  .exact b.nonum
 | cons t ts=>simp only [F8,tT,List.append_assoc]; exact k _ _
theorem Akl {v w:Int} {R S:List Int} (c:Jg R) (b:Jg S) (h:G4 v++R=G4 w++S):v=w/\R=S:=by
 unfold G4 at h
 split at h <;> split at h
 .simp only [List.cons_append,List.nil_append,List.cons.injEq,true_and] at h
  exact ⟨by omega,h⟩
 .simp at h
 .simp at h
 .simp only [List.cons_append,List.cons.injEq,true_and] at h
  obtain ⟨g,f⟩:=Ma _ _ _ _ (Ge v) (Ge w) c b h
  exact ⟨Pb g,f⟩
theorem Adq (v:Int):∃c m,G4 v=c::m/\(c=114\/c=118):=by
 unfold G4
 split
 .exact ⟨_,_,rfl,.inl rfl⟩
 .exact ⟨_,_,rfl,.inr rfl⟩
theorem Adr (X:List Int):Jg (42::X):=by intro c m e; cases e; decide
theorem Au5 {a b v w:Int} {R S:List Int} (i:Jg R) (g:Jg S) (h:Ht a++(G4 v++R)=Ht b++(G4 w++S)):a.natAbs=b.natAbs/\v=w/\R=S:=by
 unfold Ht at h
 have bad:∀(n:Nat) (u:Int) (X Y:List Int),G4 u++X=ti n++[42]++Y->False:=by
  intro n u X Y e
  obtain ⟨c,m,f,q⟩:=Adq u
  obtain ⟨d,k,l,j⟩:=Adp n
  rw [f,l] at e
  simp only [List.cons_append,List.cons.injEq] at e
  omega
 split at h <;> split at h
 .rename_i h1 h2
  simp only [List.nil_append] at h
  exact ⟨h1.trans h2.symm,Akl i g h⟩
 .exact (bad _ _ _ _ h).elim
 .exact (bad _ _ _ _ h.symm).elim
 .simp only [List.append_assoc,List.cons_append,List.nil_append] at h
  obtain ⟨f,q⟩:=Ma _ _ _ _ (Ge _) (Ge _) (Adr _) (Adr _) h
  have l:=Pb f
  obtain ⟨j,s⟩:=Akl i g (List.cons.inj q).2
  exact ⟨by omega,j,s⟩
def NoM (P:List Int):Prop:=∃c m,P=c::m/\c≠45
theorem NoM.ti (n:Nat) (X:List Int):NoM (Go.Ab.ti n++X):=by
 obtain ⟨c,m,e,h⟩:=Adp n
 exact ⟨c,m++X,by rw [e]; rfl,by omega⟩
theorem NoM.pT (a v:Int) (X:List Int):NoM (Ht a++(G4 v++X)):=by
 unfold Ht
 split
 .obtain ⟨c,m,e,h⟩:=Adq v
  exact ⟨c,m++X,by rw [e]; rfl,by omega⟩
 .rw [List.append_assoc]; exact NoM.ti _ _
theorem Ads {a b:Int} {f:Bool} {P Q:List Int} (i:NoM P) (g:NoM Q) (h:Gr a f++P=Gr b f++Q):(a<0↔b<0)/\P=Q:=by
 obtain ⟨c,m,rfl,hc⟩:=i
 obtain ⟨d,k,rfl,hd⟩:=g
 unfold Gr at h
 cases f with
 | true=>
  simp only [if_true] at h
  split at h <;> split at h
  .rename_i h1 h2; exact ⟨by simp [h1,h2],by simpa using h⟩
  .simp at h; exact (hd h.1.symm).elim
  .simp at h; exact (hc h.1).elim
  .rename_i h1 h2; exact ⟨by simp [h1,h2],by simpa using h⟩
 | false=>
  simp only [Bool.false_eq_true,if_false] at h
  split at h <;> split at h
  .rename_i h1 h2; exact ⟨by simp [h1,h2],by simpa using h⟩
  .simp at h
  .simp at h
  .rename_i h1 h2; exact ⟨by simp [h1,h2],by simpa using h⟩
theorem Adt {n:Int} {P X:List Int} (b:G5 X) (h:Gr n false++P=X):False:=by
 unfold Gr at h
 simp only [Bool.false_eq_true,if_false] at h
 split at h
 .have:=b _ _ h.symm; omega
 .have:=b _ _ h.symm; omega
theorem Akm {c d:Int} {f:Bool} {u:Bc} {m:List Bc} {X Y:List Int} (b:G5 X) (l:G5 Y) (h:F8 f [] c++X=F8 f (u::m) d++Y):False:=by
 simp only [F8,tT] at h
 split at h
 .simp only [List.append_assoc] at h
  obtain ⟨_,e⟩:=Ads (NoM.ti _ _) (NoM.pT _ _ _) h
  unfold Ht at e
  split at e
  .obtain ⟨s,m1,k,h1⟩:=Adq u.Var
   obtain ⟨q,m2,g,h2⟩:=Adp c.natAbs
   rw [k,g] at e
   simp only [List.nil_append,List.cons_append,List.cons.injEq] at e
   omega
  .simp only [List.append_assoc,List.cons_append,List.nil_append] at e
   obtain ⟨_,g⟩:=Ma _ _ _ _ (Ge _) (Ge _) b.nonum (Adr _) e
   have:=b _ _ g; omega
 .rename_i i
  have j:f=false:=by cases f with | true=>simp at i | false=>rfl
  subst j
  simp only [List.nil_append,List.append_assoc] at h
  exact Adt b h.symm
theorem Akn:∀(l m:List Bc) (f:Bool) (c d:Int) (X Y:List Int),G5 X->G5 Y->F8 f l c++X=F8 f m d++Y->l=m/\c=d/\X=Y
 | [],[],f,c,d,X,Y,g,b,h=>by
  simp only [F8] at h
  split at h <;> split at h
  .simp only [List.append_assoc] at h
   obtain ⟨y,s⟩:=Ads (NoM.ti _ _) (NoM.ti _ _) h
   obtain ⟨q,i⟩:=Ma _ _ _ _ (Ge _) (Ge _) g.nonum b.nonum s
   have x:=Pb q
   exact ⟨rfl,by omega,i⟩
  .rename_i h1 h2
   have j:f=false:=by cases f with | true=>simp at h2 | false=>rfl
   subst j
   simp only [List.append_assoc,List.nil_append] at h
   exact (Adt b h).elim
  .rename_i h1 h2
   have j:f=false:=by cases f with | true=>simp at h1 | false=>rfl
   subst j
   simp only [List.append_assoc,List.nil_append] at h
   exact (Adt g h.symm).elim
  .rename_i h1 h2
   refine ⟨rfl,?_,by simpa using h⟩
   have a1:c=0:=by by_cases k:c=0; exact k; exact (h1 (.inl k)).elim
   have a2:d=0:=by by_cases k:d=0; exact k; exact (h2 (.inl k)).elim
   omega
 | [],u::m,f,c,d,X,Y,g,b,h=>(Akm g b h).elim
 | t::l,[],f,c,d,X,Y,g,b,h=>(Akm b g h.symm).elim
 | t::l,u::m,f,c,d,X,Y,g,b,h=>by
  simp only [F8,tT,List.append_assoc] at h
  obtain ⟨y,s⟩:=Ads (NoM.pT _ _ _) (NoM.pT _ _ _) h
  obtain ⟨q,i,x⟩:=Au5 (Akk _ _ g) (Akk _ _ b) s
  obtain ⟨B,A,z⟩:=Akn l m false c d X Y g b x
  have:t=u:=by
   cases t; cases u
   simp only at y q i
   subst i
   congr 1; omega
  exact ⟨by rw [this,B],A,z⟩
def F5 (a:A9):List Int:=97::(ti a.Deg++58::U3 a.Lin)
def Ff (f:B7):List Int:=Hs f.Var f.Index
def U4 (m:Bh):List Int:=m.Factors.flatMap Ff++m.Atoms.flatMap F5
theorem Y8 (l:List A9):G5 (l.flatMap F5):=by
 cases l with
 | nil=>exact G5.nil
 | cons a l=>simp only [List.flatMap_cons,F5,List.cons_append]; exact G5.cons _
theorem Y9 (X:List Int):Jg (58::X):=by intro c m e; cases e; decide
theorem Ako:∀(l m:List A9),l.flatMap F5=m.flatMap F5->l=m
 | [],[],_=>rfl
 | [],b::m,h=>by simp [F5] at h
 | a::l,[],h=>by simp [F5] at h
 | a::l,b::m,h=>by
  simp only [List.flatMap_cons,F5,List.cons_append,List.append_assoc,List.cons.injEq,true_and] at h
  obtain ⟨s,q⟩:=Ma _ _ _ _ (Ge _) (Ge _) (Y9 _) (Y9 _) h
  have k:=(List.cons.inj q).2
  obtain ⟨g,f,j⟩:=Akn _ _ true _ _ _ _ (Y8 l) (Y8 m) k
  have i:=Ako l m j
  have c:=Pb s
  obtain ⟨⟨x,t1⟩,d1⟩:=a
  obtain ⟨⟨u,t2⟩,d2⟩:=b
  simp only at g f c
  rw [g,f,c,i]
theorem Akp (l:List B7) {X:List Int} (b:G5 X):Ng (l.flatMap Ff++X):=by
 cases l with
 | nil=>intro c m e; rw [b c m e]; exact ⟨by decide,by decide⟩
 | cons a l=>
  intro c m e
  simp only [List.flatMap_cons,Ff,Hs,List.cons_append] at e
  cases e; exact ⟨by decide,by decide⟩
theorem Akq:∀(l m:List B7) (X Y:List Int),G5 X->G5 Y->l.flatMap Ff++X=m.flatMap Ff++Y->l=m/\X=Y
 | [],[],X,Y,_,_,h=>⟨rfl,by simpa using h⟩
 | [],b::m,X,Y,f,_,h=>by
  simp only [List.flatMap_cons,List.flatMap_nil,Ff,Hs,List.cons_append,List.nil_append] at h
  have:=f _ _ h; omega
 | a::l,[],X,Y,_,c,h=>by
  simp only [List.flatMap_cons,List.flatMap_nil,Ff,Hs,List.cons_append,List.nil_append] at h
  have:=c _ _ h.symm; omega
 | a::l,b::m,X,Y,f,c,h=>by
  simp only [List.flatMap_cons,Ff,Hs,List.cons_append,List.append_assoc,List.cons.injEq,true_and] at h
  obtain ⟨x,u⟩:=Ma _ _ _ _ (Ge _) (Ge _) (Y9 _) (Y9 _) h
  have s:=(List.cons.inj u).2
  obtain ⟨i,q⟩:=Add _ _ _ _ (Akp l f) (Akp m c) s
  obtain ⟨k,j⟩:=Akq l m X Y f c q
  have g:=Pb x
  obtain ⟨y,i1⟩:=a
  obtain ⟨v2,i2⟩:=b
  simp only at i g
  exact ⟨by rw [i,g,k],j⟩
theorem Au6 {m n:Bh} (h:U4 m=U4 n):m=n:=by
 obtain ⟨c,f⟩:=Akq _ _ _ _ (Y8 _) (Y8 _) h
 have b:=Ako _ _ f
 cases m; cases n
 simp only at c b
 rw [c,b]
def By (l:List Int):Prop:=∀c∈l,0<=c/\c<256
theorem By.app {l m:List Int} (h:By l) (h':By m):By (l++m):=by
 intro c hc
 rcases List.mem_append.1 hc with k | k
 .exact h c k
 .exact h' c k
theorem By.ti (n:Int):By (Go.Ab.ti n):=by
 intro c h
 have:=Ge n c h
 simp only [L9,Bool.or_eq_true,bae,beq_iff_eq,decide_eq_true_eq] at this
 omega
theorem By.cons {c:Int} {l:List Int} (hc:0<=c/\c<256) (h:By l):By (c::l):=by
 intro d hd
 rcases List.mem_cons.1 hd with rfl | k
 .exact hc
 .exact h d k
theorem By.nil:By []:=fun c h=>by cases h
theorem By.sgn (n:Int) (f:Bool):By (Gr n f):=by
 unfold Gr
 split <;> split <;> intro c hc <;> simp at hc <;> omega
theorem By.mag (n:Int):By (Ht n):=by
 unfold Ht
 split
 .exact By.nil
 .exact (By.ti _).app (By.cons (by omega) By.nil)
theorem By.var (n:Int):By (G4 n):=by
 unfold G4
 split
 .intro c hc; simp at hc; omega
 .exact By.cons (by omega) (By.ti _)
theorem By.tT (f:Bool) (t:Bc):By (tT f t):=(By.sgn _ _).app ((By.mag _).app (By.var _))
theorem By.lins:∀(l:List Bc) (f:Bool) (c:Int),By (F8 f l c)
 | [],f,c=>by
  simp only [F8]
  split
  .exact (By.sgn _ _).app (By.ti _)
  .exact By.nil
 | t::l,f,c=>(By.tT f t).app (By.lins l false c)
theorem By.at (a:A9):By (F5 a):=By.cons (by omega) ((By.ti _).app (By.cons (by omega) (By.lins _ _ _)))
theorem By.flat {α:Type} {g:α->List Int} (h:∀a,By (g a)) (l:List α):By (l.flatMap g):=by
 intro c hc
 obtain ⟨a,_,k⟩:=List.mem_flatMap.1 hc
 exact h a c k
theorem By.fac (f:B7):By (Ff f):=Yy f.Var f.Index
theorem By.mono (m:Bh):By (U4 m):=(By.flat By.fac _).app (By.flat By.at _)
def bs (l:List Int):ByteArray:=⟨(Ev l).toArray⟩
theorem Au7 {l m:List Int} (c:By l) (b:By m) (h:bs l=bs m):l=m:=by
 unfold bs at h
 have h1:(Ev l).toArray=(Ev m).toArray:=by injection h
 have h2:Ev l=Ev m:=by simpa using congrArg Array.toList h1
 exact Adg _ _ c b h2
def I3 (m:Bh):ByteArray:=bs (U4 m)
theorem Akr {m n:Bh} (h:I3 m=I3 n):m=n:=Au6 (Au7 (By.mono m) (By.mono n) h)
theorem Za (l:List Int):(bs l).size=l.length:=by unfold bs Ev; simp [ByteArray.size]
theorem Aks {l:List Int} (h:By l):J8 (bs l)=l:=by
 unfold J8 bs Ev
 simp only [List.map_map]
 conv=>rhs; rw [<-List.map_id l]
 refine List.map_congr_left fun c hc=>?_
 have:=h c hc
 simp only [Function.comp,UInt8.toNat_ofNat',id]
 omega
theorem Au8 (l m:List Int):bs l++bs m=bs (l++m):=by
 apply ByteArray.ext
 rw [ByteArray.data_append]
 unfold bs Ev
 simp
theorem Pj {l m:List Int} (h:l.length+m.length<=9223372036854775807):Eg (bs l) (bs m)=some (bs (l++m)):=by
 unfold Eg
 rw [if_pos (by rw [Za,Za]; exact h),Au8]
theorem Zb {n:Int} (h:I64 n):Lk n=some (bs (ti n)):=by
 rw [Adf h]
 congr 2
 congr 1
 unfold Ev ti
 rw [List.map_map]
 conv=>lhs; rw [<-List.map_id (Lib.itoa n)]
 refine List.map_congr_left fun c _=>?_
 simp [Function.comp]
end Go.Ab
namespace Go.Ab
open Go
theorem Zc {S E R α:Type} {step:S->Option (S⊕E)} {s0:S} {J:E->Option R} {r:R} (c:α) (xs:List α) (b:Nat->S) (h0:s0=b 0) (h:xs.length<2305843009213693952)
  (f:∀(j:Nat) (x:α),xs[j]? = some x->decide (((j+1:Nat):Int)<((c::xs).length:Int))=true->Ag (c::xs) ((j+1:Nat):Int)=some x->Ac (((j+1:Nat):Int)+1)=((j+1+1:Nat):Int)->step (b j)=some (.inl (b (j+1))))
  (g:decide (((xs.length+1:Nat):Int)<((c::xs).length:Int))=false->∃e,step (b xs.length)=some (.inr e)/\J e=some r):(Al step s0).bind J=some r:=by
 refine Ho xs.length b h0 (fun j hj=>?_) (g (by simp))
 have hx:xs[j]? = some xs[j]:=Cp hj
 exact f j _ hx (Am (by simp only [List.length_cons]; omega)) (Ck rfl (by simp)) (Dv (n:=xs.length+1) (by omega) (by omega))
theorem bnd {α β:Type} {X:Option α} {a:α} {K:α->Option β} {r:Option β} (h:X=some a) (k:K a=r):X.bind K=r:=by rw [h]; exact k
theorem Ko {l b:List Int} (c:By l) (h:b.length+l.length<=140737488355328):Fo (bs l) b=some ((l.length:Int),b++l):=by
 simp only [Fo,Re,Ae,Aks c,Za]
 rw [Ds (by omega)]; rfl
theorem R0 {l b:List Int} (c:By l) (h:b.length+l.length<=140737488355328):H6 (bs l) b=some ((l.length:Int),b++l):=by
 simp only [H6,Ts,Ae,Aks c,Za]
 rw [Ds (by omega)]; rfl
theorem R3 {b:List Int} (hb:By b):Jq b=some (bs b):=by
 exact if_pos hb
theorem Au9 {b:List Int} (hb:By b):X2 b=some (bs b):=R3 hb
theorem Adu (n:Int) (h : -1048576<=n/\n<=1048576):(Ht n).length<=22:=by
 unfold Ht
 split
 .simp
 .have:=Kl (n:=(n.natAbs:Int)) (by unfold I64; omega)
  simp; omega
theorem Zd (n:Int) (f:Bool):(Gr n f).length<=3:=by unfold Gr; split <;> split <;> simp
theorem Ava {v:Int} (h : -1<=v/\v<3000):(G4 v).length<=22:=by
 unfold G4
 split
 .simp
 .have:=Kl (n:=v) (by unfold I64; omega)
  simp; omega
structure Akt (a:Bn):Prop where
 c : -1048576<=a.Const/\a.Const<=1048576
 n:a.Terms.length<=16
 t:∀t∈a.Terms,(-1<=t.Var/\t.Var<3000)/\(-1048576<=t.Coef/\t.Coef<=1048576)
theorem Adv {a:Bn} (h:Dx a=true):Akt a:=by
 unfold Dx at h
 simp only [bae,decide_eq_true_eq] at h
 refine ⟨⟨h.1.1,h.1.2.1⟩,h.1.2.2,fun t ht=>?_⟩
 obtain ⟨j,hj⟩:=List.getElem?_of_mem ht
 have:=Jt h.2 hj
 simp only [Uy,bae,decide_eq_true_eq] at this
 omega
theorem Adw {t:Bc} (f:Bool) (h:(-1<=t.Var/\t.Var<3000)/\(-1048576<=t.Coef/\t.Coef<=1048576)):(tT f t).length<=47:=by
 have:=Zd t.Coef f
 have:=Adu t.Coef h.2
 have:=Ava h.1
 unfold tT
 simp only [List.length_append]; omega
theorem Aku {n:Int} (h : -1048576<=n/\n<=1048576):(if Ac (0-n)>n then Ac (0-n) else n)=(n.natAbs:Int):=by
 rw [Ac,Bv (by omega) (by omega)]; split <;> omega
theorem c45:ByteArray.mk #[45]=bs [45]:=rfl
theorem Avb:ByteArray.mk #[32,45,32]=bs [32,45,32]:=rfl
theorem Avc:ByteArray.mk #[32,43,32]=bs [32,43,32]:=rfl
theorem c42:ByteArray.mk #[42]=bs [42]:=rfl
theorem Akv:ByteArray.mk #[118]=bs [118]:=rfl
theorem c97:ByteArray.mk #[97]=bs [97]:=rfl
theorem c58:ByteArray.mk #[58]=bs [58]:=rfl
theorem Akw:ByteArray.mk #[114,101,115]=bs [114,101,115]:=rfl
theorem Akx:By [45]:=By.cons (by omega) By.nil
theorem by3 (a b c:Int) (ha:0<=a/\a<256) (hb:0<=b/\b<256) (hc:0<=c/\c<256):By [a,b,c]:=By.cons ha (By.cons hb (By.cons hc By.nil))
theorem Aky {n:Int} (f:Bool) {b:List Int} (c : -1048576<=n/\n<=1048576) (hb:b.length<=1099511627776):Uh n f b=some ((n.natAbs:Int),b++Gr n f):=by
 unfold Uh Gr
 rw [Aku c,c45,Avb,Avc]
 rw [Ko Akx (by simp; omega),Ko (by3 _ _ _ (by omega) (by omega) (by omega)) (by simp; omega),Ko (by3 _ _ _ (by omega) (by omega) (by omega)) (by simp; omega)]
 by_cases h:n<0
 .rw [Am h,if_pos h,if_pos h]; cases f <;> rfl
 .rw [Av h,if_neg h,if_neg h]; cases f <;> simp
theorem Avd {n:Int} {b:List Int} (c : -1048576<=n/\n<=1048576) (hb:b.length<=1099511627776):Of n true b=some (if n<0 then .inl ((n.natAbs:Int),b++[45]) else .inr ((n.natAbs:Int),b)):=by
 unfold Of
 rw [Aku c,c45,R0 Akx (by simp; omega)]
 by_cases h:n<0
 .rw [Am h,if_pos h]; rfl
 .rw [Av h,if_neg h]; rfl
theorem Adx {n:Nat} (h:n<=1048576):Kc (n:Int) 10=some (bs (ti n)):=by
 unfold Kc Wu
 exact Zb (by unfold I64; omega)
theorem Ze {n:Nat} (h:n<=1048576):(ti (n:Int)).length<=21:=Kl (by unfold I64; omega)
theorem Akz {n:Int} {b:List Int} (c : -1048576<=n/\n<=1048576) (hb:b.length<=1099511627776) :
  (bif ((n.natAbs:Int) != (1:Int)) then (Kc (n.natAbs:Int) 10).bind fun v=>(Eg v (ByteArray.mk #[42])).bind fun u=>(Fo u b).bind fun w=>some w.2 else some b)=some (b++Ht n):=by
 have ht:=Ze (n:=n.natAbs) (by omega)
 unfold Ht
 by_cases h:n.natAbs=1
 .rw [D3 (by omega),if_pos h]; simp
 .rw [Dq (by omega),if_neg h,Adx (by omega),c42]
  simp only [cond_true,Ae]
  rw [Pj (by simp; omega),Ae,Ko ((By.ti _).app (By.cons (by omega) By.nil)) (by simp; omega)]; rfl
theorem Ady {v:Int} {b:List Int} {R:Type} (K:List Int->Option R) (c : -1<=v/\v<3000) (hb:b.length<=1099511627776) :
  (bif (v==(-1)) then (Fo (ByteArray.mk #[114,101,115]) b).bind fun w=>K w.2 else (Gl v).bind fun x=>(Eg (ByteArray.mk #[118]) x).bind fun y=>(Fo y b).bind fun w=>K w.2)=K (b++G4 v):=by
 have ht:=Kl (n:=v) (by unfold I64; omega)
 unfold G4
 by_cases h:v = -1
 .rw [E8 h,if_pos h,Akw,Ko (by3 _ _ _ (by omega) (by omega) (by omega)) (by simp; omega)]; rfl
 .rw [C5 h,if_neg h,Akv]
  simp only [cond_false,Gl]
  rw [Zb (by unfold I64; omega),Ae,Pj (by simp; omega),Ae]
  rw [show [118]++ti v=118::ti v from rfl,Ko (By.cons (by omega) (By.ti _)) (by simp; omega)]; rfl
theorem Zf {α:Type} {g:α->List Int} {l:List α} {j:Nat} {x:α} (h:l[j]? = some x):(l.take (j+1)).flatMap g=(l.take j).flatMap g++g x:=by
 rw [D4 h]; simp
theorem Ak0 {α:Type} {g:α->List Int} {n:Nat}:∀(l:List α),(∀a∈l,(g a).length<=n)->(l.flatMap g).length<=l.length*n
 | [],_=>by simp
 | a::l,h=>by
  have h1:=h a (by simp)
  have h2:=Ak0 l fun b hb=>h b (by simp [hb])
  simp only [List.flatMap_cons,List.length_append,List.length_cons,Nat.add_mul]; omega
theorem Adz {α:Type} {g:α->List Int} {n:Nat} (l:List α) (j:Nat) (h:∀a∈l,(g a).length<=n):((l.take j).flatMap g).length<=l.length*n:=by
 refine Nat.le_trans (Ak0 _ fun a ha=>h a (List.mem_of_mem_take ha)) (Nat.mul_le_mul_right _ ?_)
 rw [List.length_take]; omega
theorem Ak1:∀(ts:List Bc) (c:Int),F8 false ts c=ts.flatMap (tT false)++F8 false [] c
 | [],c=>by simp
 | t::ts,c=>by
  have:=Ak1 ts c
  simp only [List.flatMap_cons,List.append_assoc,<-this]; rfl
theorem Ave {a:Bn} (h:Dx a=true) (B:a.Terms≠[]):L0 a=some (bs (U3 a)):=by
 have z:=Adv h
 unfold L0
 rw [Ld,h]
 obtain ⟨c,l⟩:=a
 cases l with
 | nil=>exact (B rfl).elim
 | cons t ts=>
  have hc : -1048576<=c/\c<=1048576:=z.c
  have M:ts.length<=15:=by have:=z.n; simp at this; omega
  have ht:(-1<=t.Var/\t.Var<3000)/\(-1048576<=t.Coef/\t.Coef<=1048576):=z.t t (by simp)
  have s:∀u∈ts,(-1<=u.Var/\u.Var<3000)/\(-1048576<=u.Coef/\u.Coef<=1048576):=fun u hu=>z.t u (by simp [hu])
  have x:=fun j=>Adz (g:=tT false) (n:=47) ts j (fun u hu=>Adw false (s u hu))
  have J:=Adw true ht
  simp only [Ae,bnt,cond_false]
  rw [Am (by simp only [List.length_cons]; omega),cond_true]
  refine bnd (a:=((t.Coef.natAbs:Int),tT true t)) ?_ ?_
  .rw [show Ag (t::ts) 0=some t from rfl,Ae,Avd ht.2 (by simp),Ae]
   have G:=Kl (n:=t.Var) (by unfold I64; omega)
   have I:=Ze (n:=t.Coef.natAbs) (by omega)
   have D:=Adu t.Coef ht.2
   by_cases q:t.Coef<0
   .rw [if_pos q]
    simp only
    rw [Akz ht.2 (by simp),Ae]
    refine (Ady (fun b=>some ((t.Coef.natAbs:Int),b)) ht.1 (by simp; omega)).trans ?_
    simp [tT,Gr,q]
   .rw [if_neg q]
    simp only
    by_cases h1:t.Coef.natAbs=1
    .rw [D3 (by omega)]
     simp only [cond_false]
     by_cases y:t.Var = -1
     .rw [E8 y,Akw,cond_true,R0 (by3 _ _ _ (by omega) (by omega) (by omega)) (by simp)]
      simp [tT,Gr,q,Ht,h1,G4,y]
     .rw [C5 y,cond_false,Akv,Gl,Zb (by unfold I64; omega),Ae,Pj (by simp; omega),Ae,show [118]++ti t.Var=118::ti t.Var from rfl,
       R0 (By.cons (by omega) (By.ti _)) (by simp; omega)]
      simp [tT,Gr,q,Ht,h1,G4,y]
    .rw [Dq (by omega)]
     simp only [cond_true]
     rw [Adx (by omega),Ae,c42,Pj (by simp; omega),Ae,R0 ((By.ti _).app (By.cons (by omega) By.nil)) (by simp; omega),Ae]
     refine (Ady (fun b=>some ((t.Coef.natAbs:Int),b)) ht.1 (by simp; omega)).trans ?_
     simp [tT,Gr,q,Ht,h1]
  .simp only
   refine Zc t ts (fun j=>(((j+1:Nat):Int),tT true t++(ts.take j).flatMap (tT false))) (by simp [Ac,Bv]) (by omega) ?_ ?_
   .intro j u hu h1 h2 h3
    have f:=s u (Cv hu)
    have:=x j
    have D:=Adu u.Coef f.2
    have A:=Zd u.Coef false
    simp only [h1,h2,h3,cond_true,Ae]
    rw [C5 (by omega),Aky false f.2 (by simp only [List.length_append]; omega),Ae,Akz f.2 (by simp only [List.length_append]; omega),Ae]
    refine (Ady (R:=(Int×List Int)⊕List Int) (fun b=>some (.inl (((j+1+1:Nat):Int),b))) f.1 (by simp only [List.length_append]; omega)).trans ?_
    rw [Zf hu]
    simp [tT]
   .intro h1
    have h2:=x ts.length
    rw [List.take_length] at h2
    refine ⟨tT true t++ts.flatMap (tT false),by simp only [h1,cond_false,List.take_length],?_⟩
    have E:By (tT true t++ts.flatMap (tT false)):=(By.tT _ _).app (By.flat (By.tT _) _)
    have e:U3 ⟨c,t::ts⟩=tT true t++ts.flatMap (tT false)++F8 false [] c:=by
     have:=Ak1 ts c
     rw [List.append_assoc,<-this]; rfl
    rw [e]
    have k:((((t::ts).length:Nat):Int)==(0:Int))=false:=C5 (by simp only [List.length_cons]; omega)
    by_cases i:c=0
    .simp only [D3 i,cond_false,k,Ae]
     rw [R3 E]
     simp [F8,i]
    .have L:=Ze (n:=c.natAbs) (by omega)
     have A:=Zd c false
     simp only [Dq i,cond_true,Ae,k]
     rw [Aky false hc (by simp only [List.length_append]; omega),Ae,Adx (by omega),Ae,Ko (By.ti _) (by simp only [List.length_append]; omega),Ae,
      R3 ((E.app (By.sgn _ _)).app (By.ti _))]
     simp [F8,i]
theorem Ak2 {a:Bn} (h:Akt a):(U3 a).length<=1024:=by
 have key:∀(l:List Bc) (f:Bool),(∀t∈l,(-1<=t.Var/\t.Var<3000)/\(-1048576<=t.Coef/\t.Coef<=1048576))->(F8 f l a.Const).length<=47*l.length+24:=by
  intro l
  induction l with
  | nil=>
   intro f _
   have h1:=Ze (n:=a.Const.natAbs) (by have:=h.c; omega)
   have h2:=Zd a.Const f
   simp only [F8]
   split <;> simp <;> omega
  | cons t l ih=>
   intro f b
   have h1:=Adw f (b t (by simp))
   have h2:=ih false fun u hu=>b u (by simp [hu])
   simp only [F8,List.length_append,List.length_cons]; omega
 have:=key a.Terms true h.t
 have:=h.n
 unfold U3; omega
structure CMo (m:Bh):Prop where
 sz:MSz m
 nf:m.Factors.length<=6
 na:m.Atoms.length<=6
 al:∀a∈m.Atoms,Dx a.Lin=true/\a.Lin.Terms≠[]/\1<=a.Deg/\a.Deg<=6
theorem Zg {R:Type} {a:A9} (K:ByteArray->Option R) (h:Dx a.Lin=true/\a.Lin.Terms≠[]/\1<=a.Deg/\a.Deg<=6) :
  ((Gl a.Deg).bind fun u=>(Eg (ByteArray.mk #[97]) u).bind fun v=>(Eg v (ByteArray.mk #[58])).bind fun w=>(L0 a.Lin).bind fun x=>(Eg w x).bind fun y=>K y)=K (bs (F5 a)):=by
 have h1:=Kl (n:=a.Deg) (by unfold I64; omega)
 have h2:=Ak2 (Adv h.1)
 rw [Gl,Zb (by unfold I64; omega),Ae,c97,Pj (by simp; omega),Ae,c58,Pj (by simp; omega),Ae,Ave h.1 h.2.1,Ae,Pj (by simp; omega),Ae]
 simp [F5]
theorem U5 {a:A9} (h:Dx a.Lin=true/\a.Lin.Terms≠[]/\1<=a.Deg/\a.Deg<=6):(F5 a).length<=1100:=by
 have h1:=Kl (n:=a.Deg) (by unfold I64; omega)
 have h2:=Ak2 (Adv h.1)
 simp [F5]; omega
theorem Ad0 {f:B7} (h:Dk f.Index<=1048576) (b:iR f.Index/\I64 f.Var):(Ff f).length<=33554432:=by
 have h1:=Kl b.2
 have h2:=Ade f.Index b.1
 simp [Ff,Hs]; omega
theorem Avf {m:Bh} (h:CMo m):S6 m=some (I3 m):=by
 obtain ⟨fs,c⟩:=m
 have q:∀f∈fs,Dk f.Index<=1048576/\iR f.Index/\I64 f.Var:=fun f i=>⟨h.sz.fi f i,h.sz.fr f i⟩
 have u:∀a∈c,Dx a.Lin=true/\a.Lin.Terms≠[]/\1<=a.Deg/\a.Deg<=6:=h.al
 have nf:fs.length<=6:=h.nf
 have na:c.length<=6:=h.na
 have A:=fun (l:List B7) (x:∀f∈l,f∈fs) (j:Nat)=>Adz (g:=Ff) (n:=33554432) l j (fun f i=>Ad0 (q f (x f i)).1 (q f (x f i)).2)
 have D:=fun (l:List A9) (x:∀a∈l,a∈c) (j:Nat)=>Adz (g:=F5) (n:=1100) l j (fun a ha=>U5 (u a (x a ha)))
 have M:∀l:List B7,By (l.flatMap Ff):=fun l=>By.flat By.fac l
 have G:∀l:List A9,By (l.flatMap F5):=fun l=>By.flat By.at l
 have key:∀f:B7,f∈fs->Lz f.Var f.Index=some (bs (Ff f)):=fun f i=>Ajt f.Var f.Index (q f i).2.2 (q f i).2.1 (q f i).1
 unfold S6 I3 U4
 cases fs with
 | nil=>
  rw [Av (by simp),cond_false]
  cases c with
  | nil=>
   rw [Av (by simp),cond_false]
   rw [Au9 By.nil]; rfl
  | cons a c=>
   have ha:=u a (by simp)
   have y:=U5 ha
   rw [Am (by simp only [List.length_cons]; omega),cond_true,show Ag (a::c) 0=some a from rfl,Ae]
   refine (Zg _ ha).trans ?_
   rw [R0 (By.at a) (by simp; omega),Ae]
   refine Zc a c (fun j=>(((j+1:Nat):Int),[]++F5 a++(c.take j).flatMap F5)) (by simp [Ac,Bv]) (by simp at na; omega) ?_ ?_
   .intro j b hb h1 h2 h3
    have k:=u b (by simp [Cv hb])
    have:=U5 k
    have:=D c (fun b hb=>by simp [hb]) j
    simp at na
    simp only [h1,h2,h3,cond_true,Ae]
    refine (Zg _ k).trans ?_
    rw [Ko (By.at b) (by simp only [List.length_append,List.length_nil]; omega),Ae,Zf hb]
    simp
   .intro h1
    refine ⟨[]++F5 a++c.flatMap F5,by simp only [h1,cond_false,List.take_length],?_⟩
    dsimp only
    rw [R3 ((By.nil.app (By.at a)).app (G c))]
    simp
 | cons f fs=>
  have i:=q f (by simp)
  have L:=Ad0 i.1 i.2
  rw [Am (by simp only [List.length_cons]; omega),cond_true,show Ag (f::fs) 0=some f from rfl,Ae,key f (by simp),Ae,R0 (By.fac f) (by simp; omega),Ae]
  refine Zc f fs (fun j=>(((j+1:Nat):Int),[]++Ff f++(fs.take j).flatMap Ff)) (by simp [Ac,Bv]) (by simp at nf; omega) ?_ ?_
  .intro j g E h1 h2 h3
   have s:g∈f::fs:=by simp [Cv E]
   have:=Ad0 (q g s).1 (q g s).2
   have:=A fs (fun b hb=>by simp [hb]) j
   simp at nf
   simp only [h1,h2,h3,cond_true,Ae]
   rw [key g s,Ae,Ko (By.fac g) (by simp only [List.length_append,List.length_nil]; omega),Ae,Zf E]
   simp
  .intro h1
   have I:=A fs (fun b hb=>by simp [hb]) fs.length
   rw [List.take_length] at I
   simp at nf
   refine ⟨[]++Ff f++fs.flatMap Ff,by simp only [h1,cond_false,List.take_length],?_⟩
   have z:By ([]++Ff f++fs.flatMap Ff):=(By.nil.app (By.fac f)).app (M fs)
   have J:([]++Ff f++fs.flatMap Ff).length<=234881024:=by simp only [List.length_append,List.length_nil]; omega
   have eB:(f::fs).flatMap Ff = []++Ff f++fs.flatMap Ff:=by simp
   rw [eB]
   generalize []++Ff f++fs.flatMap Ff=B at z J
   cases c with
   | nil=>
    rw [Av (by simp),cond_false,R3 z]; simp
   | cons a c=>
    have ha:=u a (by simp)
    have y:=U5 ha
    rw [Am (by simp only [List.length_cons]; omega),cond_true,show Ag (a::c) 0=some a from rfl,Ae]
    refine (Zg _ ha).trans ?_
    rw [Ko (By.at a) (by omega),Ae]
    refine Zc a c (fun j=>(((j+1:Nat):Int),B++F5 a++(c.take j).flatMap F5)) (by simp [Ac,Bv]) (by simp at na; omega) ?_ ?_
    .intro j b hb h1 h2 h3
     have k:=u b (by simp [Cv hb])
     have:=U5 k
     have:=D c (fun b hb=>by simp [hb]) j
     simp at na
     simp only [h1,h2,h3,cond_true,Ae]
     refine (Zg _ k).trans ?_
     rw [Ko (By.at b) (by simp only [List.length_append]; omega),Ae,Zf hb]
     simp
    .intro h1
     refine ⟨B++F5 a++c.flatMap F5,by simp only [h1,cond_false,List.take_length],?_⟩
     dsimp only
     rw [R3 ((z.app (By.at a)).app (G c))]
     simp
end Go.Ab
