/- Plain laws: what the plain functions answer. -/
import Derived.Test.YtidkdnlhdbbbjaaGreatDoorAzPl1
import Derived.KernelRfl
namespace Go.Ab
open Go
mutual
theorem Ajd (data:List Ay):∀(i:Bq) (t:Ai) (d:Nat),H3 data i t=some d->d<=6*Dk i
 | ⟨n,kids⟩,t,d,h=>by
  rw [Aiy] at h
  simp only [Dk]
  simp only at h
  split at h
  .split at h
   .have:=T9 data kids _ d h; omega
   .cases h
  .split at h
   .split at h
    .cases h; omega
    .cases h
   .split at h
    .split at h
     .have:=Aje data kids _ d h; omega
     .cases h
    .split at h
     .cases h; omega
     .cases h
theorem T9 (data:List Ay):∀(is:List Bq) (ts:List Ai) (d:Nat),Fj data is ts=some d->d<=6*Fb is
 | [],[],d,h=>by simp only [Fj] at h; cases h; omega
 | i::is,t::ts,d,h=>by
  rw [Aci] at h
  cases h1:H3 data i t with
  | none=>rw [h1] at h; cases h
  | some a=>
   rw [h1,Ae] at h
   cases h2:Fj data is ts with
   | none=>rw [h2] at h; cases h
   | some b=>
    rw [h2] at h
    cases h
    have:=Ajd data i t a h1
    have:=T9 data is ts b h2
    simp only [Fb]; omega
 | [],_::_,d,h=>by simp only [Fj] at h; cases h
 | _::_,[],d,h=>by simp only [Fj] at h; cases h
theorem Aje (data:List Ay):∀(es:List Bq) (t:Ai) (d:Nat),I9 data es t=some d->d<=6*Fb es
 | [],t,d,h=>by simp only [I9] at h; cases h; omega
 | ⟨n,kids⟩::es,t,d,h=>by
  rw [Aiz] at h
  simp only at h
  cases h1:Kh data t n with
  | none=>rw [h1] at h; cases h
  | some ts=>
   rw [h1,Ae] at h
   cases h2:Fj data kids ts with
   | none=>rw [h2] at h; cases h
   | some a=>
    rw [h2,Ae] at h
    cases h3:I9 data es t with
    | none=>rw [h3] at h; cases h
    | some b=>
     rw [h3] at h
     cases h
     have:=T9 data kids ts a h2
     have:=Aje data es t b h3
     simp only [Fb,Dk]; omega
end
def Q9 (data:List Ay) (e:Bq) (t:Ai):Option Nat:=(Kh data t e.Num).bind fun ts=>(Fj data e.Kids ts).map (1 + ·)
theorem Atr (data:List Ay) (e:Bq) (es:List Bq) (t:Ai):I9 data (e::es) t=(Q9 data e t).bind fun a=>(I9 data es t).map (a + ·):=by
 rw [Aiz]; unfold Q9
 cases Kh data t e.Num with
 | none=>rfl
 | some ts=>simp only [Ae]; cases Fj data e.Kids ts <;> rfl
theorem Ats (data:List Ay) (e:Bq) (t:Ai) (d:Nat) (h:Q9 data e t=some d):d<=6*Dk e:=by
 unfold Q9 at h
 cases h1:Kh data t e.Num with
 | none=>rw [h1] at h; cases h
 | some ts=>
  rw [h1,Ae] at h
  cases h2:Fj data e.Kids ts with
  | none=>rw [h2] at h; cases h
  | some a=>
   rw [h2] at h
   cases h
   have:=T9 data _ ts a h2
   have:=G7 e
   show 1+a<=_
   omega
def Dg (v:Int) (o:Option Nat):Prop:=(v = -1/\∀d,o=some d->6<d)\/∃d:Nat,o=some d/\v=d
theorem Dg.clip {v:Int} {o:Option Nat} (h:Dg v o):(if v>6 then -1 else v)=Il o:=by
 rcases h with ⟨rfl,h⟩ | ⟨d,rfl,rfl⟩
 .rw [if_neg (by omega),Atg h]
 .by_cases hd:6<d
  .rw [if_pos (by omega),Acj hd]
  .rw [if_neg (by omega),Ai1 (by omega)]
theorem Yg {o p:Option Nat} {acc:Nat} {d:Nat} (h:(o.bind fun a=>p.map (a + ·)).map (acc + ·)=some d):∃a b,o=some a/\p=some b/\d=acc+(a+b):=by
 cases o with
 | none=>cases h
 | some a=>
  cases p with
  | none=>cases h
  | some b=>exact ⟨a,b,rfl,rfl,by simp at h; omega⟩
theorem Att {data:List Ay} (hz:Szv data) (hs:T5 data) (b1:List (ByteArray×Int)) (b2:List (ByteArray×List Db)) (vars:List Ai) (N M:Int) (L:List Ai):∀k:Nat,
  (∀(i:Bq) (t:Ai),3*Dk i<=k->Dk i<=1048576->Bv t<=200->∃v,Mu k t i b1 b2 data vars N M L=some v/\Dg v (H3 data i t)) /\
  (∀(f:List Bq) (ts:List Ai),3*Fb f+1<=k->Fb f<=1048576->(∀t∈ts,Bv t<=200)->∃v,Og k ts f b1 b2 data vars N M L=some v/\Dg v (Fj data f ts)) /\
  (∀(e:Bq) (t:Ai),3*Dk e<=k->Dk e<=1048576->Bv t<=200->∃v,Oh k t e b1 b2 data vars N M L=some v/\Dg v (Q9 data e t)):=by
 intro k
 induction k with
 | zero=>exact ⟨fun i t h=>by have:=G7 i; omega,fun f ts h=>by omega,fun i t h=>by have:=G7 i; omega⟩
 | succ k ih=>
  obtain ⟨a6,R,a7⟩:=ih
  have D:∀o:Option Nat,o.map (0 + ·)=o:=by intro o; cases o <;> simp
  have c:∀d:Nat,(none:Option Nat)=some d->6<d:=fun d h=>by cases h
  refine ⟨?_,?_,?_⟩
  .intro i t hk hi ht
   have af:=G7 i
   have U:=T8 i.Kids
   rw [Mu,Aiy]
   by_cases Z:t.Kind=6
   .simp only [Ez Z,cond_true,if_pos Z]
    by_cases h0:i.Num=0
    .simp only [Ez h0,cond_true,if_pos h0]
     obtain ⟨p,p1,p2⟩:=R i.Kids t.Args (by omega) (by omega) (fun a ha=>by have:=Kg ha; have:=Jr t; omega)
     rw [p1]
     exact ⟨p,rfl,p2⟩
    .simp only [Cu h0,cond_false,if_neg h0]
     exact ⟨_,rfl,.inl ⟨rfl,c⟩⟩
   .simp only [Cu Z,cond_false,if_neg Z]
    by_cases Y:t.Kind=7
    .simp only [Ez Y,cond_true,if_pos Y]
     by_cases a1:0<=i.Num
     .by_cases a2:i.Num<=6
      .by_cases a3:i.Kids.length=0
       .rw [Al (show i.Num>=0 from a1),Al a2,if_pos ⟨a1,a2,a3⟩,Ez (by omega)]
        exact ⟨_,rfl,.inr ⟨i.Num.toNat,rfl,by omega⟩⟩
       .rw [Al (show i.Num>=0 from a1),Al a2,if_neg (fun h=>a3 h.2.2),Cu (by omega)]
        exact ⟨_,rfl,.inl ⟨rfl,c⟩⟩
      .rw [Al (show i.Num>=0 from a1),Ar a2,if_neg (fun h=>a2 h.2.1)]
       exact ⟨_,rfl,.inl ⟨rfl,c⟩⟩
     .rw [Ar (show ¬i.Num>=0 from a1),if_neg (fun h=>a1 h.1)]
      exact ⟨_,rfl,.inl ⟨rfl,c⟩⟩
    .simp only [Cu Y,cond_false,if_neg Y]
     by_cases h5:t.Kind=5
     .simp only [Ez h5,cond_true,if_pos h5]
      by_cases h0:i.Num=0
      .simp only [Ge h0,cond_false,if_pos h0]
       have key:∀(m j acc:Nat),j+m=i.Kids.length->acc<=10000000->∃z,Ak (S:=(Int×Int)) (E:=(Int⊕Int)) (fun (G,v8)=>
         bif (decide (v8<(i.Kids.length:Int))) then (
         (Ag i.Kids v8).bind fun v9=>
         (Oh k t v9 b1 b2 data vars N M L).bind fun I=>
         bif (decide (I<(0:Int))) then some (.inr (.inl (-1)))
         else (
         bif (decide (G>(6:Int))) then some (.inr (.inl (-1)))
         else some (.inl ((Ac (G+I)),(Ac (v8+1))))))
         else some (.inr (.inr G))) ((acc:Int),(j:Int))=some z/\Dg (match z with | .inl v=>v | .inr v=>v) ((I9 data (i.Kids.drop j) t).map (acc + ·)):=by
        intro m
        induction m with
        | zero=>
         intro j acc hj A
         have:j=i.Kids.length:=by omega
         subst this
         exact ⟨.inr (acc:Int),Ea (by simp),.inr ⟨acc,by simp [I9],rfl⟩⟩
        | succ m s=>
         intro j acc hj A
         have g:i.Kids[j]? = some i.Kids[j]:=Ck (by omega)
         generalize i.Kids[j]=e at g
         have ac:=Q7 (Cx g)
         rw [Im g,Atr]
         obtain ⟨v,B,v2⟩:=a7 e t (by omega) (by omega) ht
         rcases v2 with ⟨rfl,v2⟩ | ⟨a,a1,rfl⟩
         .refine ⟨.inl (-1),Ea ?_,.inl ⟨rfl,fun d h=>?_⟩⟩
          .simp only [Al (by omega:(j:Int)<(i.Kids.length:Int)),cond_true,Cd rfl g,Ae,B]; rfl
          .obtain ⟨a,b,ha,hb,rfl⟩:=Yg h
           have:=v2 a ha; omega
         .have V:=Ats data e t a a1
          by_cases hb:acc>6
          .refine ⟨.inl (-1),Ea ?_,.inl ⟨rfl,fun d h=>?_⟩⟩
           .simp only [Al (by omega:(j:Int)<(i.Kids.length:Int)),cond_true,Cd rfl g,Ae,B,Ar (by omega:¬(a:Int)<0),Al (by omega:(acc:Int)>6),cond_false]
           .obtain ⟨a,b,ha,hb,rfl⟩:=Yg h
            omega
          .have ew:Ac ((acc:Int)+(a:Int))=((acc+a:Nat):Int):=by rw [Ac,Bo] <;> omega
           obtain ⟨z,q,z2⟩:=s (j+1) (acc+a) (by omega) (by omega)
           refine ⟨z,?_,?_⟩
           .rw [Hc (s':=(((acc+a:Nat):Int),((j+1:Nat):Int)))]
            .exact q
            .simp only [Al (by omega:(j:Int)<(i.Kids.length:Int)),cond_true,Cd rfl g,Ae,B,Ar (by omega:¬(a:Int)<0),Ar (by omega:¬(acc:Int)>6),cond_false,ew,Dj (show j<i.Kids.length by omega) (by omega)]
           .have D:∀o:Option Nat,(((some a:Option Nat).bind fun a=>o.map (a + ·)).map (acc + ·))=o.map (acc+a + ·):=by
             intro o; cases o <;> simp [Nat.add_assoc]
            rw [a1,D]
            exact z2
       obtain ⟨z,q,z2⟩:=key i.Kids.length 0 0 (by omega) (by omega)
       have q:Ak _ ((0:Int),(0:Int))=some z:=q
       rw [q,Ae]
       rw [List.drop_zero,D] at z2
       cases z with
       | inl v=>exact ⟨v,rfl,z2⟩
       | inr v=>exact ⟨v,rfl,z2⟩
      .simp only [E9 h0,cond_true,if_neg h0]
       exact ⟨_,rfl,.inl ⟨rfl,c⟩⟩
     .simp only [Cu h5,cond_false,if_neg h5]
      by_cases h0:i.Num=0
      .simp only [Ez h0,cond_true]
       by_cases a3:i.Kids.length=0
       .rw [if_pos ⟨h0,a3⟩,Ez (by omega)]
        exact ⟨_,rfl,.inr ⟨0,rfl,rfl⟩⟩
       .rw [if_neg (fun h=>a3 h.2),Cu (by omega)]
        exact ⟨_,rfl,.inl ⟨rfl,c⟩⟩
      .simp only [Cu h0,cond_false]
       rw [if_neg (fun h=>h0 h.1)]
       exact ⟨_,rfl,.inl ⟨rfl,c⟩⟩
  .intro f ts hk hi ht
   have U:=T8 f
   rw [Og]
   by_cases hl:ts.length=f.length
   .rw [Ge (by omega)]
    simp only [cond_false]
    have key:∀(m j acc:Nat),j+m=f.length->acc<=10000000->∃z,Ak (S:=(Int×Int)) (E:=(Int⊕Int)) (fun (v5,X)=>
      bif (decide (X<(ts.length:Int))) then (
      (Ag ts X).bind fun G=>
      (Ag f X).bind fun v9=>
      (Mu k G v9 b1 b2 data vars N M L).bind fun J=>
      bif (decide (J<(0:Int))) then some (.inr (.inl (-1)))
      else (
      bif (decide (v5>(6:Int))) then some (.inr (.inl (-1)))
      else some (.inl ((Ac (v5+J)),(Ac (X+1))))))
      else some (.inr (.inr v5))) ((acc:Int),(j:Int))=some z/\Dg (match z with | .inl v=>v | .inr v=>v) ((Fj data (f.drop j) (ts.drop j)).map (acc + ·)):=by
     intro m
     induction m with
     | zero=>
      intro j acc hj A
      have:j=ts.length:=by omega
      subst this
      refine ⟨.inr (acc:Int),Ea (by simp),.inr ⟨acc,?_,rfl⟩⟩
      rw [List.drop_of_length_le (by omega),List.drop_of_length_le (by omega)]
      simp [Fj]
     | succ m s=>
      intro j acc hj A
      have g:f[j]? = some f[j]:=Ck (by omega)
      generalize f[j]=e at g
      have hu:ts[j]? = some ts[j]:=Ck (by omega)
      generalize ts[j]=u at hu
      have ac:=Q7 (Cx g)
      rw [Im g,Im hu,Aci]
      obtain ⟨v,B,v2⟩:=a6 e u (by omega) (by omega) (ht u (Cx hu))
      rcases v2 with ⟨rfl,v2⟩ | ⟨a,a1,rfl⟩
      .refine ⟨.inl (-1),Ea ?_,.inl ⟨rfl,fun d h=>?_⟩⟩
       .simp only [Al (by omega:(j:Int)<(ts.length:Int)),cond_true,Cd rfl g,Cd rfl hu,Ae,B]; rfl
       .obtain ⟨a,b,ha,hb,rfl⟩:=Yg h
        have:=v2 a ha; omega
      .have V:=Ajd data e u a a1
       by_cases hb:acc>6
       .refine ⟨.inl (-1),Ea ?_,.inl ⟨rfl,fun d h=>?_⟩⟩
        .simp only [Al (by omega:(j:Int)<(ts.length:Int)),cond_true,Cd rfl g,Cd rfl hu,Ae,B,Ar (by omega:¬(a:Int)<0),Al (by omega:(acc:Int)>6),cond_false]
        .obtain ⟨a,b,ha,hb,rfl⟩:=Yg h
         omega
       .have ew:Ac ((acc:Int)+(a:Int))=((acc+a:Nat):Int):=by rw [Ac,Bo] <;> omega
        obtain ⟨z,q,z2⟩:=s (j+1) (acc+a) (by omega) (by omega)
        refine ⟨z,?_,?_⟩
        .rw [Hc (s':=(((acc+a:Nat):Int),((j+1:Nat):Int)))]
         .exact q
         .simp only [Al (by omega:(j:Int)<(ts.length:Int)),cond_true,Cd rfl g,Cd rfl hu,Ae,B,Ar (by omega:¬(a:Int)<0),Ar (by omega:¬(acc:Int)>6),cond_false,ew,Dj (show j<f.length by omega) (by omega)]
        .have D:∀o:Option Nat,(((some a:Option Nat).bind fun a=>o.map (a + ·)).map (acc + ·))=o.map (acc+a + ·):=by
          intro o; cases o <;> simp [Nat.add_assoc]
         rw [a1,D]
         exact z2
    obtain ⟨z,q,z2⟩:=key f.length 0 0 (by omega) (by omega)
    have q:Ak _ ((0:Int),(0:Int))=some z:=q
    rw [q,Ae]
    rw [List.drop_zero,List.drop_zero,D] at z2
    cases z with
    | inl v=>exact ⟨v,rfl,z2⟩
    | inr v=>exact ⟨v,rfl,z2⟩
   .rw [E9 (by omega),Ai0 data f ts hl]
    exact ⟨_,rfl,.inl ⟨rfl,c⟩⟩
  .intro e t hk g ht
   have ag:=G7 e
   rw [Oh]
   unfold Q9 Kh
   rw [Ata hz t ht e.Num,Ae]
   cases hf:M6 data t e.Num with
   | none=>exact ⟨-1,rfl,.inl ⟨rfl,c⟩⟩
   | some l=>
    have ad:=Atb hf
    obtain ⟨x,y,_,hx,_,hy,hl,ab⟩:=Ach hf
    obtain ⟨y6,_⟩:=hz x (I8 hx).2.2.2 y (I8 hy).2.2.2
    have ae:l.length<=6:=by rw [hl]; simpa using y6
    have aa:∀a∈Ik l (Hz data t.Num e.Num),Bv a<=200:=(Ate (show Kh data t e.Num=some _ by unfold Kh; rw [hf]; rfl)).1
    obtain ⟨v,B,v2⟩:=R e.Kids (Ik l (Hz data t.Num e.Num)) (by omega) (by omega) aa
    have hd:Dg (if v<0 then -1 else 1+v) (((some l).map fun l=>Ik l (Hz data t.Num e.Num)).bind fun ts=>(Fj data e.Kids ts).map (1 + ·)):=by
     rw [Option.map_some,Ae]
     rcases v2 with ⟨rfl,v2⟩ | ⟨a,a1,rfl⟩
     .refine .inl ⟨rfl,fun d h=>?_⟩
      cases ha:Fj data e.Kids (Ik l (Hz data t.Num e.Num)) with
      | none=>rw [ha] at h; cases h
      | some a=>rw [ha] at h; have:=v2 a ha; simp at h; omega
     .rw [a1,if_neg (by omega)]
      exact .inr ⟨1+a,rfl,by omega⟩
    have a8:v = -1\/(0<=v/\v<=10000000):=by
     rcases v2 with ⟨rfl,v2⟩ | ⟨a,a1,rfl⟩
     .exact .inl rfl
     .have:=T9 data _ _ a a1; right; omega
    refine ⟨_,?_,hd⟩
    simp only [okL,bnt,cond_false,Aie data t.Num e.Num hs,Ae]
    refine I5 (Hz data t.Num e.Num) (fun j=>((j:Int),Ik (l.take j) ((Hz data t.Num e.Num).take j))) (by simp [Ik]) (by omega) ?_ ?_
    .intro j b hj hb h1 h2 h3
     have ha:l[j]? = some l[j]:=Ck (by omega)
     generalize l[j]=a at ha
     have U:=Atd (l.take j) ((Hz data t.Num e.Num).take j)
     have:(l.take j).length<=6:=by simp; omega
     simp only [h1,h2,h3,cond_true,Ae,Cd rfl ha,Atc ha hb]
     rw [Dm (by simp; omega)]
     cases b <;> simp
    .intro h1
     refine ⟨Ik l (Hz data t.Num e.Num),?_,?_⟩
     .simp only [h1]
      rw [List.take_of_length_le (by omega),List.take_of_length_le (Nat.le_refl _)]; rfl
     .rw [B,Ae]
      rcases a8 with h | h
      .subst h; rfl
      .rw [Ar (by omega),if_neg (by omega)]
       simp only [cond_false]
       rw [Ac,Bo] <;> omega
def tyX (vars:List Ai) (res:Ai) (v:Int):Option Ai:=if v = -1 then some res else Ag vars v
def E3 (data:List Ay) (vars:List Ai) (res:Ai) (o:List (ByteArray×Int)):Prop:=∀p∈o,∀v i t,p.1=K6 v i->tyX vars res v=some t->p.2=Il (H3 data i t)
theorem Ajf {α:Type}:∀(o:List (ByteArray×α)) (s:ByteArray) (v:α),∀p∈Ek o s v,p∈o\/p=(s,v)
 | [],s,v,p,h=>by simp only [Ek,List.mem_singleton] at h; exact .inr h
 | q::o,s,v,p,h=>by
  unfold Ek at h
  cases hq:(s==q.1) with
  | true=>
   rw [hq] at h
   simp only [cond_true,List.mem_cons] at h
   rcases h with h | h
   .exact .inr h
   .exact .inl (by simp [h])
  | false=>
   rw [hq] at h
   simp only [cond_false,List.mem_cons] at h
   rcases h with h | h
   .exact .inl (by simp [h])
   .rcases Ajf o s v p h with h | h
    .exact .inl (by simp [h])
    .exact .inr h
theorem Atu {data:List Ay} (I:Szv data) (L:T5 data) (b1:List (ByteArray×Int)) (b2:List (ByteArray×List Db)) (vars:List Ai) (res:Ai) (f:E3 data vars res b1)
  (v:Int) (i:Bq) (t:Ai) (ht:tyX vars res v=some t) (b:Bv t<=200) (J:I64 v) (M:iR i) (s:Dk i<=1048576) :
  ∃x,Ky v i b1 b2 data vars res.Kind res.Num res.Args=some (Il (H3 data i t),x)/\E3 data vars res x:=by
 unfold Ky
 rw [Ajc v i J M s,Ae]
 cases g:Ec b1 (K6 v i) with
 | true=>
  refine ⟨b1,?_,f⟩
  have:G0 b1 (K6 v i) 0=Il (H3 data i t):=by
   unfold G0
   unfold Ec at g
   rw [List.any_eq_true] at g
   obtain ⟨p,E,D⟩:=g
   cases j:b1.find? (fun p=>K6 v i==p.1) with
   | none=>exact absurd D (by have:=List.find?_eq_none.1 j p E; simpa using this)
   | some q=>
    have hq:=List.find?_some j
    exact f q (List.mem_of_find?_eq_some j) v i t ((Oy _ _).1 hq).symm ht
  simp only [cond_true,Ae,bnt,cond_false,this]
 | false=>
  obtain ⟨w,z,y⟩:=(Att I L b1 b2 vars res.Kind res.Num res.Args 4000000).1 i t (by omega) s b
  have c:Mk v b1 b2 data vars res.Kind res.Num res.Args=some t:=by
   unfold Mk
   unfold tyX at ht
   by_cases h:v = -1
   .rw [if_pos h] at ht; cases ht
    have N:(Ai.mk res.Kind res.Num res.Args)=res:=by cases res; rfl
    rw [Ez h,N]; rfl
   .rw [if_neg h] at ht
    rw [Cu h,ht]; rfl
  have k:(bif decide (w>6) then some (-1) else some w:Option Int)=some (Il (H3 data i t)):=by
   rw [<-y.clip]
   by_cases h:w>6
   .rw [Al h,if_pos h]; rfl
   .rw [Ar h,if_neg h]; rfl
  refine ⟨Ek b1 (K6 v i) (Il (H3 data i t)),?_,?_⟩
  .simp only [cond_false,Ae,Bool.not_false,cond_true,c,z,k]
  .intro p hp A G B u l
   rcases Ajf _ _ _ p hp with h | h
   .exact f p h A G B u l
   .subst h
    obtain ⟨rfl,rfl⟩:=Atp u
    rw [ht] at l; cases l; rfl
end Go.Ab
namespace Go.Ab
open Go
def Dw (a b:Int):Int:=if a<b then -1 else if a>b then 1 else 0
def orI (a b:Int):Int:=if a=0 then b else a
theorem G8 {a b:Int}:Dw a b=0↔a=b:=by unfold Dw; split <;> (try split) <;> omega
theorem K7 (a b:Int):I1 a b=some (Dw a b):=by
 unfold I1 S8 Dw
 simp only [Ae,bne_self_eq_false,cond_false]
 by_cases h:a<b
 .rw [Al h,if_pos h]; rfl
 .rw [Ar h,if_neg h]
  by_cases h':a>b
  .rw [Al h',if_pos h']; rfl
  .rw [Ar h',if_neg h']; rfl
theorem Ajg (a b:Int):Tb a b=some (Dw a b):=K7 a b
theorem Ra (a b:Int):Kx [a,b]=some (orI a b):=by
 unfold Kx orI
 by_cases ha:a=0
 .rw [if_pos ha]
  by_cases hb:b=0
  .refine Gt 2 (fun j=>(j:Int)) rfl ?_ ⟨.inr (),rfl,by rw [hb]⟩
   intro j hj
   match j,hj with
   | 0,_=>subst ha; rfl
   | 1,_=>subst hb; rfl
  .refine Gt 1 (fun j=>(j:Int)) rfl ?_ ⟨.inl b,?_,rfl⟩
   .intro j hj
    match j,hj with
    | 0,_=>subst ha; rfl
   .show (bif (b != 0) then _ else _)=_
    rw [E9 hb]; rfl
 .rw [if_neg ha]
  refine Gt 0 (fun j=>(j:Int)) rfl (fun j hj=>by omega) ⟨.inl a,?_,rfl⟩
  show (bif (a != 0) then _ else _)=_
  rw [E9 ha]; rfl
def D9 {α:Type} (g:α->α->Int):List α->List α->Int
 | x::xs,y::ys=>orI (g x y) (D9 g xs ys)
 | _,_=>0
theorem Atv {α:Type} (g:α->α->Int) (l m:List α) {step:Int->Option (Int⊕(Int⊕Unit))} (k:l.length=m.length) (hb:l.length<4611686018427387904)
  (f:∀(j:Nat) (x y:α),l[j]? = some x->m[j]? = some y->decide ((j:Int)<(l.length:Int))=true->Ag l (j:Int)=some x->Ag m (j:Int)=some y->decide ((j:Int)>=(m.length:Int))=false->Ac ((j:Int)+1)=((j+1:Nat):Int) ->
   step (j:Int)=if g x y=0 then some (.inl ((j+1:Nat):Int)) else some (.inr (.inl (g x y))))
  (i:decide ((l.length:Int)<(l.length:Int))=false->step (l.length:Int)=some (.inr (.inr ()))) :
  ∃z,Ak step 0=some z/\(match z with | .inl r=>r=D9 g l m/\r≠0 | .inr _=>D9 g l m=0):=by
 have key:∀(n j:Nat),j+n=l.length->∃z,Ak step (j:Int)=some z/\(match z with | .inl r=>r=D9 g (l.drop j) (m.drop j)/\r≠0 | .inr _=>D9 g (l.drop j) (m.drop j)=0):=by
  intro n
  induction n with
  | zero=>
   intro j hj
   have:j=l.length:=by omega
   subst this
   refine ⟨.inr (),Ea (i (by simp)),?_⟩
   rw [List.drop_of_length_le (by omega)]; simp [D9]
  | succ n ih=>
   intro j hj
   have hx:l[j]? = some l[j]:=Ck (by omega)
   have hy:m[j]? = some m[j]:=Ck (by omega)
   generalize l[j]=x at hx
   generalize m[j]=y at hy
   have h:=f j x y hx hy (Al (by omega)) (Cd rfl hx) (Cd rfl hy) (Ar (by omega)) (Dj (show j<l.length by omega) hb)
   rw [Im hx,Im hy]
   by_cases b:g x y=0
   .rw [if_pos b] at h
    obtain ⟨z,c,z2⟩:=ih (j+1) (by omega)
    refine ⟨z,by rw [Hc h]; exact c,?_⟩
    have e:D9 g (x::l.drop (j+1)) (y::m.drop (j+1))=D9 g (l.drop (j+1)) (m.drop (j+1)):=by simp only [D9,orI,b,if_true]
    cases z with
    | inl r=>simp only [e]; exact z2
    | inr u=>simp only [e]; exact z2
   .rw [if_neg b] at h
    refine ⟨.inl (g x y),Ea h,?_,b⟩
    simp only [D9,orI,b,if_false]
 exact key l.length 0 (by omega)
theorem Yh {α:Type} (f:α->α->Option Int) (g:α->α->Int) (l m:List α) (A:l.length=m.length) (hb:l.length<4611686018427387904) (B:∀(j:Nat) (x y:α),l[j]? = some x->m[j]? = some y->f x y=some (g x y)) :
  ((Ak (S:=Int) (E:=(Int⊕Unit)) (fun b=>
   bif (decide (b<(l.length:Int))) then (
   (Ag l b).bind fun s=>
   bif (decide (b>=(m.length:Int))) then some (.inr (.inl 1))
   else (
   (Ag m b).bind fun v9=>
   (f s v9).bind fun c=>
   bif (c != (0:Int)) then some (.inr (.inl c))
   else some (.inl (Ac (b+1)))))
   else some (.inr (.inr ()))) 0).bind fun z=>
   match z with
   | .inl k=>some k
   | .inr _=>bif (decide ((l.length:Int)<(m.length:Int))) then some (-1) else some 0)=some (D9 g l m):=by
 refine Ahr (Atv g l m A hb ?_ (fun h=>by simp only [h]; rfl)) ?_
 .intro j x y hx hy h1 h2 h3 G D
  simp only [h1,h2,h3,G,D,cond_true,cond_false,Ae,B j x y hx hy]
  by_cases i:g x y=0
  .rw [Ge i,if_pos i]; rfl
  .rw [E9 i,if_neg i]; rfl
 .rintro (r | u) q
  .rw [q.1]
  .simp only
   rw [Ar (by omega),show D9 g l m=0 from q]; rfl
def Ua (x y:Ba):Int:=orI (Dw x.Var y.Var) (Dw x.Coef y.Coef)
def Fs (a b:Be):Int:=if a.Terms.length=b.Terms.length then orI (D9 Ua a.Terms b.Terms) (Dw a.Const b.Const) else Dw a.Terms.length b.Terms.length
theorem Yi (a b:Be) (ha:a.Terms.length<1099511627776):Jl a b=some (Fs a b):=by
 unfold Jl Fs
 rw [K7,Ae]
 by_cases h:a.Terms.length=b.Terms.length
 .rw [Ge (G8.2 (by omega)),if_pos h]
  simp only [cond_false]
  have:=Yh Ta Ua a.Terms b.Terms h (by omega) (fun j x y _ _=>by
   unfold Ta Ua
   rw [K7,Ajg]; simp only [Ae,Ra])
  rw [show Wt a.Terms b.Terms=_ from this,Ae,Ajg]
  simp only [Ae,Ra]
 .rw [E9 (fun e=>h (by have:=G8.1 e; omega)),if_neg h]; rfl
mutual
def Kj:Bq->Bq->Int
 | ⟨n,k⟩,j=>if n=j.Num then (if k.length=j.Kids.length then O0 k j.Kids else Dw k.length j.Kids.length) else Dw n j.Num
def O0:List Bq->List Bq->Int
 | x::xs,y::ys=>orI (Kj x y) (O0 xs ys)
 | [],_=>0
 | _::_,[]=>0
end
theorem Ajh (i j:Bq):Kj i j=if i.Num=j.Num then (if i.Kids.length=j.Kids.length then O0 i.Kids j.Kids else Dw i.Kids.length j.Kids.length) else Dw i.Num j.Num:=by cases i; simp only [Kj]
theorem Acq:∀l m:List Bq,O0 l m=D9 Kj l m
 | x::xs,y::ys=>by simp only [O0,D9,Acq xs ys]
 | [],_=>by simp [O0,D9]
 | _::_,[]=>by simp [O0,D9]
theorem Atw:∀(n k:Nat) (i j:Bq),Dk i<=n->2*n<=k->n<1099511627776->Mp k i j=some (Kj i j):=by
 intro n
 induction n with
 | zero=>intro k i j h; have:=G7 i; omega
 | succ n ih=>
  intro k i j h hk c
  obtain ⟨k,rfl⟩:∃b,k=b+2:=⟨k-2,by omega⟩
  have g:=G7 i
  have f:=T8 i.Kids
  rw [Mp,Ajh,K7,K7]
  simp only [Ae,Ra]
  by_cases h1:i.Num=j.Num
  .rw [if_pos h1]
   by_cases h2:i.Kids.length=j.Kids.length
   .rw [if_pos h2,Ge (by unfold orI; rw [G8.2 h1,G8.2 (by omega)]; rfl),Acq]
    simp only [cond_false]
    have:=Yh (Mp k) Kj i.Kids j.Kids h2 (by omega) (fun q x y hx hy=>ih k x y (by have:=Q7 (Cx hx); omega) (by omega) (by omega))
    rw [S9]
    refine Eq.trans (congrArg (fun q=>Option.bind q _) this) rfl
   .have e:orI (Dw i.Num j.Num) (Dw (i.Kids.length:Int) (j.Kids.length:Int))=Dw i.Kids.length j.Kids.length:=by unfold orI; rw [G8.2 h1]; rfl
    rw [if_neg h2,e,E9 (fun e=>h2 (by have:=G8.1 e; omega))]; rfl
  .have e:orI (Dw i.Num j.Num) (Dw (i.Kids.length:Int) (j.Kids.length:Int))=Dw i.Num j.Num:=by unfold orI; rw [if_neg (fun e=>h1 (G8.1 e))]
   rw [if_neg h1,e,E9 (fun e=>h1 (G8.1 e))]; rfl
def Rb (x y:B4):Int:=orI (Dw x.Var y.Var) (Kj x.Index y.Index)
def Ub (x y:A3):Int:=orI (Fs x.Lin y.Lin) (Dw x.Deg y.Deg)
def Cy (a b:Bf):Int :=
 if a.Factors.length=b.Factors.length then
  orI (D9 Rb a.Factors b.Factors) (if a.Atoms.length=b.Atoms.length then D9 Ub a.Atoms b.Atoms else Dw a.Atoms.length b.Atoms.length)
 else Dw a.Factors.length b.Factors.length
structure MSz (m:Bf):Prop where
 nf:m.Factors.length<=1048576
 na:m.Atoms.length<=1048576
 fi:∀f∈m.Factors,Dk f.Index<=1048576
 fr:∀f∈m.Factors,iR f.Index/\I64 f.Var
 al:∀a∈m.Atoms,a.Lin.Terms.length<=1048576
theorem Aji (a b:Bf) (ha:MSz a):Mn a b=some (Cy a b):=by
 have h1:=ha.nf
 have h2:=ha.na
 unfold Mn Cy
 rw [K7,Ae]
 by_cases h:a.Factors.length=b.Factors.length
 .rw [Ge (G8.2 (by omega)),if_pos h]
  simp only [cond_false]
  have:=Yh Sx Rb a.Factors b.Factors h (by omega) (fun j x y hx hy=>by
   unfold Sx Rb
   rw [K7,Atw 1048576 4000000 x.Index y.Index (ha.fi x (Cx hx)) (by omega) (by omega)]; simp only [Ae,Ra])
  rw [show Wl a.Factors b.Factors=_ from this,Ae,K7]
  simp only [Ae,Ra]
  by_cases h0:D9 Rb a.Factors b.Factors=0
  .simp only [h0,orI,if_true]
   by_cases h':a.Atoms.length=b.Atoms.length
   .rw [Ge (G8.2 (by omega)),if_pos h']
    simp only [cond_false]
    have:=Yh Sy Ub a.Atoms b.Atoms h' (by omega) (fun j x y hx hy=>by
     unfold Sy Ub
     rw [K7,Yi x.Lin y.Lin (by have:=ha.al x (Cx hx); omega)]; simp only [Ae,Ra])
    rw [show Wm a.Atoms b.Atoms=_ from this]; rfl
   .rw [E9 (fun e=>h' (by have:=G8.1 e; omega)),if_neg h']; rfl
  .simp only [orI,if_neg h0]
   rw [E9 h0]; rfl
 .rw [E9 (fun e=>h (by have:=G8.1 e; omega)),if_neg h]; rfl
def O1 {α:Type} (f:α->Int) (l:List α) (x:α) (j:Nat):Bool:=j==0||(match l[j-1]? with | some y=>decide (f y<f x) | none=>false)
def Uc (l:List Ba) (x:Ba) (j:Nat):Bool:=decide (-1<=x.Var/\x.Var<3000/\x.Coef≠0/\-1048576<=x.Coef/\x.Coef<=1048576)&&O1 (·.Var) l x j
def Cv (a:Be):Bool:=decide (-1048576<=a.Const/\a.Const<=1048576/\a.Terms.length<=16)&&a.Terms.zipIdx.all (fun q=>Uc a.Terms q.1 q.2)
theorem Ajj (n:Int):P0 n=some (decide (-1048576<=n/\n<=1048576)):=by
 unfold P0
 by_cases h:(-1048576:Int)<=n <;> simp [h]
theorem Atx (n:Int):Sn n=some (decide (-1<=n/\n<3000)):=by
 unfold Sn
 by_cases h:(-1:Int)<=n <;> simp [h]
theorem Ajk {α S E:Type} (f:α->Int) (l:List α) {x:α} {j:Nat} (hx:l[j]? = some x) (i:l.length<4611686018427387904) (c b:Option (S⊕E)) :
  (bif decide ((j:Int)>0) then ((Ag l (Ac ((j:Int)-1))).bind fun g=>bif decide (f g>=f x) then c else b) else b)=bif O1 f l x j then b else c:=by
 have hj:=Ep hx
 unfold O1
 by_cases h:j=0
 .subst h; rfl
 .rw [Al (by omega)]
  have e:Ac ((j:Int)-1)=((j-1:Nat):Int):=by rw [Ac,Bo] <;> omega
  have hy:l[j-1]? = some l[j-1]:=Ck (by omega)
  rw [e,Cd rfl hy,hy]
  have h0:(j==0)=false:=by simpa using h
  simp only [cond_true,Ae,h0,Bool.false_or]
  by_cases hc:f l[j-1]<f x
  .rw [Ar (by omega),Al hc]; rfl
  .rw [Al (by omega),Ar hc]; rfl
theorem Kk (a:Be):He a=some (Cv a):=by
 unfold He Cv
 rw [Ajj]
 simp only [Ae]
 by_cases h1 : -1048576<=a.Const/\a.Const<=1048576
 .rw [Al h1]
  by_cases h2:a.Terms.length<=16
  .rw [Ar (by omega:¬(a.Terms.length:Int)>16),Al ⟨h1.1,h1.2,h2⟩]
   simp only [bnt,cond_false,Ae,Bool.true_and]
   refine (Tv a.Terms (fun q=>Uc a.Terms q.1 q.2) (fun j=>(j:Int)) rfl (by omega) (rt:=true) (rf:=false) ?_ ?_).trans (by rw [Xx])
   .intro j x hx _ h1 h2 h3
    simp only [h1,h2,h3,cond_true,Ae,Atx,Ajj,Ajk (·.Var) a.Terms hx (by omega),Uc]
    by_cases g1 : -1<=x.Var/\x.Var<3000
    .by_cases g2:x.Coef=0
     .rw [Al g1,Ez g2,Ar (fun h=>h.2.2.1 g2)]
      exact ⟨(fun h=>by cases h),fun _=>⟨.inl false,rfl,rfl⟩⟩
     .by_cases g3 : -1048576<=x.Coef/\x.Coef<=1048576
      .rw [Al g1,Cu g2,Al g3,Al ⟨g1.1,g1.2,g2,g3.1,g3.2⟩]
       cases O1 (·.Var) a.Terms x j with
       | true=>exact ⟨fun _=>rfl,fun h=>by cases h⟩
       | false=>exact ⟨(fun h=>by cases h),fun _=>⟨.inl false,rfl,rfl⟩⟩
      .rw [Al g1,Cu g2,Ar g3,Ar (fun h=>g3 h.2.2.2)]
       exact ⟨(fun h=>by cases h),fun _=>⟨.inl false,rfl,rfl⟩⟩
    .rw [Ar g1,Ar (fun h=>g1 ⟨h.1,h.2.1⟩)]
     exact ⟨(fun h=>by cases h),fun _=>⟨.inl false,rfl,rfl⟩⟩
   .intro h _
    exact ⟨.inr (),by simp only [h]; rfl,rfl⟩
  .rw [Al (by omega:(a.Terms.length:Int)>16),Ar (fun h=>h2 h.2.2)]; rfl
 .rw [Ar h1,Ar (fun h : -1048576<=a.Const/\a.Const<=1048576/\a.Terms.length<=16=>h1 ⟨h.1,h.2.1⟩)]; rfl
end Go.Ab
namespace Go.Ab
open Go
structure Re (data:List Ay) (vars:List Ai) (res:Ai):Prop where
 vd:K5 data
 sh:T5 data
 sz:∀v t,tyX vars res v=some t->Bv t<=200
 nv:vars.length<=3000
theorem Aty (vars:List Ai) (res:Ai) (v:Int):(tyX vars res v).isSome=decide (-1<=v/\v<vars.length):=by
 unfold tyX
 by_cases h:v = -1
 .rw [if_pos h]; subst h; rw [Al (by omega)]; rfl
 .rw [if_neg h]
  cases hx:Ag vars v with
  | none=>rcases T3 hx with h' | h' <;> rw [Ar (by omega)] <;> rfl
  | some t=>have:=I8 hx; rw [Al (by omega)]; rfl
section
variable (b1:List (ByteArray×Int)) (b2:List (ByteArray×List Db)) (data:List Ay) (vars:List Ai) (res:Ai)
theorem Ajl (v:Int) (f c:Int) (b:List Ai):N0 v b1 b2 data vars f c b=some (tyX vars res v).isSome:=by
 rw [Aty]
 unfold N0
 by_cases h:v>=-1
 .rw [Al h]
  by_cases h':v<(vars.length:Int)
  .rw [Al h',Al ⟨h,h'⟩]; rfl
  .rw [Ar h',Ar (fun g=>h' g.2)]; rfl
 .rw [Ar h,Ar (fun g : -1<=v/\v<(vars.length:Int)=>h g.1)]; rfl
theorem Atz {v:Int} {t:Ai} (ht:tyX vars res v=some t):Mk v b1 b2 data vars res.Kind res.Num res.Args=some t:=by
 unfold Mk
 unfold tyX at ht
 by_cases h:v = -1
 .rw [if_pos h] at ht; cases ht
  have b:(Ai.mk res.Kind res.Num res.Args)=res:=by cases res; rfl
  rw [Ez h,b]; rfl
 .rw [if_neg h] at ht
  rw [Cu h,ht]; rfl
def Jb (t:Ba):Bool:=match tyX vars res t.Var with | some u=>u.Kind==1 | none=>false
def C9 (l:Be):Bool:=l.Terms.all (Jb vars res)
theorem Acr (l:Be) (c:l.Terms.length<=1048576):Nw l b1 b2 data vars res.Kind res.Num res.Args=some (C9 vars res l):=by
 unfold Nw Wq Ww
 have key:=Ahs l.Terms (fun t=>!Jb vars res t) (by omega) (J:=fun z=>match z with | .inl b=>some b | .inr _=>some (-1)) (step:=fun v3=>bif (decide (v3<(l.Terms.length:Int))) then ((Ag l.Terms v3).bind fun v4=>(P8 v4 b1 b2 data vars res.Kind res.Num res.Args).bind fun v5=>bif v5 then some (.inr (.inl v3)) else some (.inl (Ac (v3+1)))) else some (.inr (.inr ()))) (by
  intro j x hx h1 h2 h3
  have e:P8 x b1 b2 data vars res.Kind res.Num res.Args=some (!Jb vars res x):=by
   unfold P8 Jb
   rw [Ajl b1 b2 data vars res,Ae]
   cases ht:tyX vars res x.Var with
   | none=>rfl
   | some t=>rw [Atz b1 b2 data vars res ht]; rfl
  simp only [h1,h2,h3,cond_true,Ae,e]) (fun h=>by simp only [h]; rfl) (fun _=>rfl) rfl
 obtain ⟨i,i1,i2⟩:=key
 erw [i1]
 simp only [Ae,i2]
 congr 1
 unfold C9
 rw [List.any_eq_not_all_not]; simp
def Fk (f:B4):Int:=match tyX vars res f.Var with | some t=>Il (H3 data f.Index t) | none => -1
theorem At0 (f:B4) : -1<=Fk data vars res f/\Fk data vars res f<=6:=by
 unfold Fk
 cases tyX vars res f.Var with
 | none=>simp
 | some t=>rcases Atf (H3 data f.Index t) with ⟨h,_⟩ | ⟨d,_,h2,h⟩ <;> simp only [h] <;> omega
def L1 (m:Bf):Bool:=m.Factors.all (fun f=>decide (0<=Fk data vars res f))&&m.Atoms.all (fun a=>decide (0<=a.Deg)&&C9 vars res a.Lin)
def Ft (l:List B4):Int:=(l.map (Fk data vars res)).sum
def Cf (l:List A3):Int:=(l.map (·.Deg)).sum
def O2 (l:List A3) (x:A3) (j:Nat):Bool:=j==0||(match l[j-1]? with | some y=>decide (Fs y.Lin x.Lin<0) | none=>false)
def Yj (l:List B4) (f:B4) (j:Nat):Bool:=decide (1<=Fk data vars res f)&&O1 (·.Var) l f j
def L2 (l:List A3) (a:A3) (j:Nat):Bool:=decide (1<=a.Deg)&&Cv a.Lin && !(a.Lin.Terms.length==0)&&C9 vars res a.Lin&&O2 l a j
def Ip (m:Bf):Bool:=m.Factors.zipIdx.all (fun q=>Yj data vars res m.Factors q.1 q.2)&&m.Atoms.zipIdx.all (fun q=>L2 vars res m.Atoms q.1 q.2)&&decide (Ft data vars res m.Factors+Cf m.Atoms<=6)
variable {b1 data vars res}
theorem Acs (hc:Re data vars res) (i:E3 data vars res b1) (f:B4) (g:I64 f.Var) (h:iR f.Index) (j:Dk f.Index<=1048576) (b:(tyX vars res f.Var).isSome=true) :
  ∃c,Ky f.Var f.Index b1 b2 data vars res.Kind res.Num res.Args=some (Fk data vars res f,c)/\E3 data vars res c:=by
 cases ht:tyX vars res f.Var with
 | none=>rw [ht] at b; cases b
 | some t=>
  obtain ⟨c,h1,h2⟩:=Atu hc.vd.szv hc.sh b1 b2 vars res i f.Var f.Index t ht (hc.sz _ _ ht) g h j
  refine ⟨c,?_,h2⟩
  rw [h1]; unfold Fk; rw [ht]
theorem At1 (hc:Re data vars res) (V:E3 data vars res b1) (m:Bf) (l:MSz m) :
  ∃s,S5 m b1 b2 data vars res.Kind res.Num res.Args=some (L1 data vars res m,s)/\E3 data vars res s:=by
 have X:=l.nf
 have ha:=l.na
 unfold S5
 refine Xo (fun s=>(L1 data vars res m,s)) ?_
 obtain ⟨r,U,N⟩:=Abo (M:=List (ByteArray×Int)) (R:=Bool×List (ByteArray×Int)) m.Factors (fun q=>decide (0<=Fk data vars res q.1)) (fun j o=>((j:Int),o)) (E3 data vars res)
  (fun r=>E3 data vars res r.2/\r.1=m.Atoms.all (fun a=>decide (0<=a.Deg)&&C9 vars res a.Lin)) (fun r=>E3 data vars res r.2/\r.1=false) b1
  (s0:=((0:Int),b1))
  (step:=(fun (A,x)=>
   bif (decide (A<(m.Factors.length:Int))) then (
   (Ag m.Factors A).bind fun v8=>
   (N0 v8.Var x b2 data vars res.Kind res.Num res.Args).bind fun B=>
   bif (!B) then some (.inr (.inl (false,x)))
   else (
   (Ky v8.Var v8.Index x b2 data vars res.Kind res.Num res.Args).bind fun g=>
   bif (decide (g.1<(0:Int))) then some (.inr (.inl (false,g.2)))
   else some (.inl ((Ac (A+1)),g.2))))
   else some (.inr (.inr x)):Int×List (ByteArray×Int)->Option ((Int×List (ByteArray×Int))⊕((Bool×List (ByteArray×Int))⊕List (ByteArray×Int)))))
  (J:=(fun z=>match z with
   | .inl (L,I)=>some (L,I)
   | .inr b=>(Ak (S:=Int) (E:=((Bool×(List (ByteArray×Int)))⊕Unit)) (fun c=>
     bif (decide (c<(m.Atoms.length:Int))) then (
     (Ag m.Atoms c).bind fun u=>
     bif (decide (u.Deg<(0:Int))) then some (.inr (.inl (false,b)))
     else (
     (Nw u.Lin b b2 data vars res.Kind res.Num res.Args).bind fun v21=>
     bif (!v21) then some (.inr (.inl (false,b)))
     else some (.inl (Ac (c+1)))))
     else some (.inr (.inr ()))) 0).bind fun z=>match z with
      | .inl (G,D)=>some (G,D)
      | .inr _=>some (true,b)))
  rfl V (by omega) (by
   intro j f o y hx _ h1 h2 h3
   have k:=Cx hx
   simp only [h1,h2,h3,cond_true,Ae,Ajl o b2 data vars res]
   cases i:(tyX vars res f.Var).isSome with
   | false=>
    have e:Fk data vars res f = -1:=by
     unfold Fk
     cases ht:tyX vars res f.Var with
     | none=>rfl
     | some t=>rw [ht] at i; cases i
    rw [e]
    exact ⟨(fun h=>by cases h),fun _=>⟨_,rfl,_,rfl,y,rfl⟩⟩
   | true=>
    obtain ⟨s,d1,d2⟩:=Acs b2 hc y f (l.fr f k).2 (l.fr f k).1 (l.fi f k) i
    simp only [bnt,cond_false,d1,Ae]
    by_cases h0:0<=Fk data vars res f
    .rw [Al h0,Ar (by omega)]
     exact ⟨fun _=>⟨s,rfl,d2⟩,fun h=>by cases h⟩
    .rw [Ar h0,Al (by omega)]
     exact ⟨(fun h=>by cases h),fun _=>⟨_,rfl,_,rfl,d2,rfl⟩⟩) (by
   intro o y h1 _
   refine ⟨.inr o,by simp only [h1]; rfl,?_⟩
   refine ⟨(m.Atoms.all (fun a=>decide (0<=a.Deg)&&C9 vars res a.Lin),o),?_,y,rfl⟩
   refine (Xw m.Atoms (fun a=>decide (0<=a.Deg)&&C9 vars res a.Lin) (fun j=>(j:Int)) rfl (by omega) (rt:=(true,o)) (rf:=(false,o)) ?_ ?_).trans (by cases m.Atoms.all (fun a=>decide (0<=a.Deg)&&C9 vars res a.Lin) <;> rfl)
   .intro j a hx h1 h2 h3
    simp only [h1,h2,h3,cond_true,Ae,Acr o b2 data vars res a.Lin (l.al a (Cx hx))]
    by_cases h0:0<=a.Deg
    .rw [Al h0,Ar (by omega)]
     cases C9 vars res a.Lin with
     | true=>exact ⟨fun _=>rfl,fun h=>by cases h⟩
     | false=>exact ⟨(fun h=>by cases h),fun _=>⟨_,rfl,rfl⟩⟩
    .rw [Ar h0,Al (by omega)]
     exact ⟨(fun h=>by cases h),fun _=>⟨_,rfl,rfl⟩⟩
   .intro h; exact ⟨.inr (),by simp only [h]; rfl,rfl⟩)
 refine ⟨r,U,r.2,?_,?_⟩
 .unfold L1
  rw [<-Xv]
  rcases N with ⟨h1,h2,h3⟩ | ⟨h1,h2,h3⟩
  .rw [h1,Bool.true_and,<-h3]
  .rw [h1,Bool.false_and,<-h3]
 .rcases N with ⟨h1,h2,h3⟩ | ⟨h1,h2,h3⟩ <;> exact h2
theorem At2 (g:B4->Int) {l:List B4} {j:Nat} {x:B4} (h:l[j]? = some x):((l.take (j+1)).map g).sum=((l.take j).map g).sum+g x:=by
 rw [Dr h]; simp
theorem At3 {l:List A3} {j:Nat} {x:A3} (h:l[j]? = some x):Cf (l.take (j+1))=Cf (l.take j)+x.Deg:=by
 unfold Cf; rw [Dr h]; simp
theorem At4 (hc:Re data vars res) (A:E3 data vars res b1) (m:Bf) (k:MSz m) (hp:L1 data vars res m=true) :
  ∃p:Int×List (ByteArray×Int),Ms m b1 b2 data vars res.Kind res.Num res.Args=some p/\(decide (p.1>6) = !decide (Ft data vars res m.Factors+Cf m.Atoms<=6))/\E3 data vars res p.2:=by
 have D:=k.nf
 have ha:=k.na
 unfold L1 at hp
 rw [Dq,List.all_eq_true,List.all_eq_true] at hp
 unfold Ms
 refine Ew (fun (v5,u,g)=>∃j:Nat,u=j/\j<=m.Factors.length/\E3 data vars res g/\0<=v5/\v5<=12/\(v5=Ft data vars res (m.Factors.take j)\/(6<v5/\6<Ft data vars res (m.Factors.take j)))) (fun (_,u,_)=>m.Factors.length-u.toNat)
  (fun (v5,g)=>E3 data vars res g/\0<=v5/\v5<=12/\(v5=Ft data vars res m.Factors\/(6<v5/\6<Ft data vars res m.Factors))) ⟨0,rfl,by omega,A,by omega,by omega,.inl (by simp [Ft])⟩ ?_ ?_
 .rintro ⟨v5,u,g⟩ ⟨j,rfl,hj,q,h0,h12,l⟩
  rcases Nat.lt_or_ge j m.Factors.length with h | h
  .have hx:m.Factors[j]? = some m.Factors[j]:=Ck h
   generalize m.Factors[j]=f at hx
   have c:=Cx hx
   have hd:=hp.1 f c
   rw [decide_eq_true_eq] at hd
   have B:=(At0 data vars res f).2
   have es:Ft data vars res (m.Factors.take (j+1))=Ft data vars res (m.Factors.take j)+Fk data vars res f:=At2 _ hx
   simp only [Al (by omega:(j:Int)<(m.Factors.length:Int)),cond_true,Cd rfl hx,Ae,Dj h (by omega)]
   by_cases s:v5<=6
   .have x:(tyX vars res f.Var).isSome=true:=by
     unfold Fk at hd
     cases ht:tyX vars res f.Var with
     | none=>rw [ht] at hd; have hd:(0:Int)<=-1:=hd; omega
     | some t=>rfl
    obtain ⟨E,d1,d2⟩:=Acs b2 hc q f (k.fr f c).2 (k.fr f c).1 (k.fi f c) x
    rw [Al s]
    simp only [cond_true,d1,Ae]
    have b:Ac (v5+Fk data vars res f)=v5+Fk data vars res f:=by rw [Ac,Bo] <;> omega
    exact .inl ⟨_,rfl,⟨j+1,rfl,by omega,d2,by simp only [b]; omega,by simp only [b]; omega,by simp only [b,es]; omega⟩,by simp; omega⟩
   .rw [Ar s]
    exact .inl ⟨_,rfl,⟨j+1,rfl,by omega,q,h0,h12,by simp only [es]; omega⟩,by simp; omega⟩
  .have:j=m.Factors.length:=by omega
   subst this
   rw [List.take_length] at l
   exact .inr ⟨(v5,g),by simp,q,h0,h12,l⟩
 .rintro ⟨v5,g⟩ ⟨q,h0,h12,l⟩
  simp only
  refine Ew (fun (v,i)=>∃j:Nat,i=j/\j<=m.Atoms.length/\0<=v/\v<=13/\(v=Ft data vars res m.Factors+Cf (m.Atoms.take j)\/(6<v/\6<Ft data vars res m.Factors+Cf (m.Atoms.take j)))) (fun (_,i)=>m.Atoms.length-i.toNat)
   (fun v=>(v=Ft data vars res m.Factors+Cf m.Atoms\/(6<v/\6<Ft data vars res m.Factors+Cf m.Atoms))) ⟨0,rfl,by omega,h0,by omega,by simpa [Cf] using l⟩ ?_ ?_
  .rintro ⟨v,i⟩ ⟨j,rfl,hj,g0,g13,z⟩
   rcases Nat.lt_or_ge j m.Atoms.length with h | h
   .have hx:m.Atoms[j]? = some m.Atoms[j]:=Ck h
    generalize m.Atoms[j]=a at hx
    have hd:=hp.2 a (Cx hx)
    rw [Dq,decide_eq_true_eq] at hd
    have es:=At3 hx
    simp only [Al (by omega:(j:Int)<(m.Atoms.length:Int)),cond_true,Cd rfl hx,Ae,Dj h (by omega)]
    by_cases s:v<=6
    .rw [Al s]
     simp only [cond_true]
     by_cases y:7<a.Deg
     .rw [if_pos y]
      have b:Ac (v+7)=v+7:=by rw [Ac,Bo] <;> omega
      exact .inl ⟨_,rfl,⟨j+1,rfl,by omega,by simp only [b]; omega,by simp only [b]; omega,by simp only [b,es]; omega⟩,by simp; omega⟩
     .rw [if_neg y]
      have b:Ac (v+a.Deg)=v+a.Deg:=by rw [Ac,Bo] <;> omega
      exact .inl ⟨_,rfl,⟨j+1,rfl,by omega,by simp only [b]; omega,by simp only [b]; omega,by simp only [b,es]; omega⟩,by simp; omega⟩
    .rw [Ar s]
     exact .inl ⟨_,rfl,⟨j+1,rfl,by omega,g0,g13,by simp only [es]; omega⟩,by simp; omega⟩
   .have:j=m.Atoms.length:=by omega
    subst this
    rw [List.take_length] at z
    exact .inr ⟨v,by simp,z⟩
  .intro v l
   refine ⟨(v,g),rfl,?_,q⟩
   by_cases h:Ft data vars res m.Factors+Cf m.Atoms<=6
   .rw [Al h,Ar (by simp only; omega)]; rfl
   .rw [Ar h,Al (by simp only; omega)]; rfl
end
end Go.Ab
namespace Go.Ab
open Go
theorem At5 {S E:Type} (F:Be->Be->Option Int) (l:List A3) (g:∀y∈l,∀x,F y.Lin x=some (Fs y.Lin x)) {x:A3} {j:Nat} (hx:l[j]? = some x) (i:l.length<4611686018427387904) (c b:Option (S⊕E)) :
  (bif decide ((j:Int)>0) then ((Ag l (Ac ((j:Int)-1))).bind fun f=>(F f.Lin x.Lin).bind fun v28=>bif decide (v28>=0) then c else b) else b)=bif O2 l x j then b else c:=by
 have hj:=Ep hx
 unfold O2
 by_cases h:j=0
 .subst h; rfl
 .rw [Al (by omega)]
  have e:Ac ((j:Int)-1)=((j-1:Nat):Int):=by rw [Ac,Bo] <;> omega
  have hy:l[j-1]? = some l[j-1]:=Ck (by omega)
  rw [e,Cd rfl hy,hy]
  have h0:(j==0)=false:=by simpa using h
  simp only [cond_true,Ae,h0,Bool.false_or,g _ (List.getElem_mem (by omega:j-1<l.length))]
  by_cases hc:Fs l[j-1].Lin x.Lin<0
  .rw [Ar (by omega),Al hc]; rfl
  .rw [Al (by omega),Ar hc]; rfl
section
variable {b1:List (ByteArray×Int)} (b2:List (ByteArray×List Db)) {data:List Ay} {vars:List Ai} {res:Ai}
def Ud (data:List Ay) (vars:List Ai) (res:Ai) (l:List B4) (f:B4) (j:Nat):Bool:=!(Fk data vars res f==0)&&O1 (·.Var) l f j
def M8 (l:List A3) (a:A3) (j:Nat):Bool:=!(a.Deg==0)&&Cv a.Lin && !(a.Lin.Terms.length==0)&&O2 l a j
theorem At6 (m:Bf):Ip data vars res m=(L1 data vars res m&&decide (Ft data vars res m.Factors+Cf m.Atoms<=6)&&m.Factors.zipIdx.all (fun q=>Ud data vars res m.Factors q.1 q.2)&&m.Atoms.zipIdx.all (fun q=>M8 m.Atoms q.1 q.2)):=by
 rw [Bool.eq_iff_iff]
 unfold Ip L1
 rw [<-Xv m.Factors (fun f=>decide (0<=Fk data vars res f)),<-Xv m.Atoms (fun a=>decide (0<=a.Deg)&&C9 vars res a.Lin)]
 simp only [Dq,List.all_eq_true,Yj,L2,Ud,M8,decide_eq_true_eq,Bool.not_eq_true',beq_eq_false_iff_ne,ne_eq]
 constructor
 .rintro ⟨⟨h1,h2⟩,h3⟩
  refine ⟨⟨⟨⟨fun q hq=>?_,fun q hq=>?_⟩,h3⟩,fun q hq=>?_⟩,fun q hq=>?_⟩
  .have:=(h1 q hq).1; omega
  .have:=h2 q hq; exact ⟨by omega,this.1.2⟩
  .have:=h1 q hq; exact ⟨by omega,this.2⟩
  .have:=h2 q hq; exact ⟨⟨⟨by omega,this.1.1.1.2⟩,this.1.1.2⟩,this.2⟩
 .rintro ⟨⟨⟨⟨h1,h2⟩,h3⟩,c⟩,b⟩
  refine ⟨⟨fun q hq=>?_,fun q hq=>?_⟩,h3⟩
  .have:=h1 q hq; have g:=c q hq; exact ⟨by omega,g.2⟩
  .have:=h2 q hq; have g:=b q hq; exact ⟨⟨⟨⟨by omega,g.1.1.2⟩,g.1.2⟩,this.2⟩,g.2⟩
theorem At7 (hc:Re data vars res) (hm:E3 data vars res b1) (m:Bf) (i:MSz m) :
  ∃A,P2 m b1 b2 data vars res.Kind res.Num res.Args=some (Ip data vars res m,A)/\E3 data vars res A:=by
 have hf:=i.nf
 have ha:=i.na
 rw [At6]
 unfold P2
 obtain ⟨b,p1,Z⟩:=At1 b2 hc hm m i
 rw [p1]
 cases hp:L1 data vars res m with
 | false=>exact ⟨b,rfl,Z⟩
 | true=>
  obtain ⟨q,q1,q2,Y⟩:=At4 b2 hc Z m i hp
  simp only [Ae,bnt,cond_false,q1,q2]
  cases hs:decide (Ft data vars res m.Factors+Cf m.Atoms<=6) with
  | false=>exact ⟨q.2,rfl,Y⟩
  | true=>
   simp only [bnt,cond_false,Bool.true_and]
   have U:∀f∈m.Factors,(tyX vars res f.Var).isSome=true:=by
    intro f c
    unfold L1 at hp
    rw [Dq,List.all_eq_true] at hp
    have hd:=hp.1 f c
    rw [decide_eq_true_eq] at hd
    unfold Fk at hd
    cases ht:tyX vars res f.Var with
    | none=>rw [ht] at hd; have hd:(0:Int)<=-1:=hd; omega
    | some t=>rfl
   obtain ⟨r,r1,X⟩:=Abo (M:=List (ByteArray×Int)) (R:=Bool×List (ByteArray×Int)) m.Factors (fun q=>Ud data vars res m.Factors q.1 q.2) (fun j o=>((j:Int),o)) (E3 data vars res)
    (fun r=>E3 data vars res r.2/\r.1=m.Atoms.zipIdx.all (fun q=>M8 m.Atoms q.1 q.2)) (fun r=>E3 data vars res r.2/\r.1=false) q.2
    (s0:=((0:Int),q.2))
    (step:=(fun (v9,s)=>
     bif (decide (v9<(m.Factors.length:Int))) then (
     (Ag m.Factors v9).bind fun k=>
     (Ky k.Var k.Index s b2 data vars res.Kind res.Num res.Args).bind fun g=>
     bif (g.1==(0:Int)) then some (.inr (.inl (false,g.2)))
     else (
     bif (decide (v9>(0:Int))) then (
     (Ag m.Factors (Ac (v9-1))).bind fun D=>
     bif (decide (D.Var>=k.Var)) then some (.inr (.inl (false,g.2)))
     else some (.inl ((Ac (v9+1)),g.2)))
     else some (.inl ((Ac (v9+1)),g.2))))
     else some (.inr (.inr s)):Int×List (ByteArray×Int)->Option ((Int×List (ByteArray×Int))⊕((Bool×List (ByteArray×Int))⊕List (ByteArray×Int)))))
    (J:=(fun z=>match z with
     | .inl (N,L)=>some (N,L)
     | .inr l=>(Ak (S:=Int) (E:=((Bool×(List (ByteArray×Int)))⊕Unit)) (fun v22=>
       bif (decide (v22<(m.Atoms.length:Int))) then (
       (Ag m.Atoms v22).bind fun v23=>
       (show Option Bool from
       bif (v23.Deg==(0:Int)) then some true
       else (
       (He v23.Lin).bind fun v25=>
       bif (!v25) then some true
       else some ((v23.Lin.Terms.length:Int)==(0:Int)))).bind fun v26=>
       bif v26 then some (.inr (.inl (false,l)))
       else (
       bif (decide (v22>(0:Int))) then (
       (Ag m.Atoms (Ac (v22-1))).bind fun B=>
       (Jl B.Lin v23.Lin).bind fun v28=>
       bif (decide (v28>=(0:Int))) then some (.inr (.inl (false,l)))
       else some (.inl (Ac (v22+1))))
       else some (.inl (Ac (v22+1)))))
       else some (.inr (.inr ()))) 0).bind fun z=>match z with
        | .inl (I,G)=>some (I,G)
        | .inr _=>some (true,l)))
    rfl Y (by omega) (by
     intro j f o V hx _ h1 h2 h3
     have c:=Cx hx
     obtain ⟨A,d1,d2⟩:=Acs b2 hc V f (i.fr f c).2 (i.fr f c).1 (i.fi f c) (U f c)
     simp only [h1,h2,h3,cond_true,Ae,d1,Ajk (·.Var) m.Factors hx (by omega),Ud]
     cases (Fk data vars res f==0) with
     | true=>exact ⟨(fun h=>by cases h),fun _=>⟨_,rfl,_,rfl,d2,rfl⟩⟩
     | false=>
      cases O1 (·.Var) m.Factors f j with
      | true=>exact ⟨fun _=>⟨A,rfl,d2⟩,fun h=>by cases h⟩
      | false=>exact ⟨(fun h=>by cases h),fun _=>⟨_,rfl,_,rfl,d2,rfl⟩⟩) (by
     intro o V h1 _
     refine ⟨.inr o,by simp only [h1]; rfl,?_⟩
     refine ⟨(m.Atoms.zipIdx.all (fun q=>M8 m.Atoms q.1 q.2),o),?_,V,rfl⟩
     refine (Tv m.Atoms (fun q=>M8 m.Atoms q.1 q.2) (fun j=>(j:Int)) rfl (by omega) (rt:=(true,o)) (rf:=(false,o)) ?_ ?_).trans (by cases m.Atoms.zipIdx.all (fun q=>M8 m.Atoms q.1 q.2) <;> rfl)
     .intro j a hx _ h1 h2 h3
      have u:((a.Lin.Terms.length:Int)==(0:Int))=(a.Lin.Terms.length==0):=Asf a.Lin.Terms 0
      simp only [h1,h2,h3,cond_true,Ae,Kk,At5 Jl m.Atoms (fun y hy x=>Yi y.Lin x (by have:=i.al y hy; omega)) hx (by omega),M8,u]
      cases (a.Deg==0) with
      | true=>exact ⟨(fun h=>by cases h),fun _=>⟨_,rfl,rfl⟩⟩
      | false=>
       cases Cv a.Lin with
       | false=>exact ⟨(fun h=>by cases h),fun _=>⟨_,rfl,rfl⟩⟩
       | true=>
        cases (a.Lin.Terms.length==0) with
        | true=>exact ⟨(fun h=>by cases h),fun _=>⟨_,rfl,rfl⟩⟩
        | false=>
         cases O2 m.Atoms a j with
         | true=>exact ⟨fun _=>rfl,fun h=>by cases h⟩
         | false=>exact ⟨(fun h=>by cases h),fun _=>⟨_,rfl,rfl⟩⟩
     .intro h _; exact ⟨.inr (),by simp only [h]; rfl,rfl⟩)
   refine ⟨r.2,?_,?_⟩
   .have e:some r=some (m.Factors.zipIdx.all (fun q=>Ud data vars res m.Factors q.1 q.2)&&m.Atoms.zipIdx.all (fun q=>M8 m.Atoms q.1 q.2),r.2):=by
     rcases X with ⟨h1,h2,h3⟩ | ⟨h1,h2,h3⟩
     .rw [h1,Bool.true_and,<-h3]
     .rw [h1,Bool.false_and,<-h3]
    rw [<-e]
    exact r1
   .rcases X with ⟨h1,h2,h3⟩ | ⟨h1,h2,h3⟩ <;> exact h2
theorem At8 (l:List B4) (h:∀f∈l,0<=Fk data vars res f):0<=Ft data vars res l:=by
 induction l with
 | nil=>simp [Ft]
 | cons x xs ih=>
  have h1:=h x (by simp)
  have h2:=ih (fun f b=>h f (by simp [b]))
  unfold Ft at *
  simp only [List.map_cons,List.sum_cons]
  omega
theorem Ajm (l:List A3) (h:∀a∈l,0<=a.Deg):0<=Cf l/\((∀a∈l,a.Deg<=6)->Cf l<=6*l.length)/\∀a∈l,a.Deg<=Cf l:=by
 induction l with
 | nil=>simp [Cf]
 | cons x xs ih=>
  have h1:=h x (by simp)
  obtain ⟨i1,i2,i3⟩:=ih (fun f b=>h f (by simp [b]))
  unfold Cf at *
  simp only [List.map_cons,List.sum_cons,List.length_cons]
  refine ⟨by omega,fun g=>?_,fun a ha=>?_⟩
  .have:=g x (by simp)
   have:=i2 (fun a ha=>g a (by simp [ha]))
   omega
  .rcases List.mem_cons.1 ha with rfl | ha
   .omega
   .have:=i3 a ha; omega
end
end Go.Ab
namespace Go.Ab
open Go
theorem At9 {α:Type} [DecidableEq α] (l m:List α) (b:l.length=m.length):(decide (l=m))=l.zipIdx.all (fun q=>decide (m[q.2]? = some q.1)):=by
 rw [Bool.eq_iff_iff,decide_eq_true_eq]
 constructor
 .rintro rfl
  exact Ahq fun j x hx=>by simpa using hx
 .intro h
  apply List.ext_getElem?
  intro j
  cases hx:l[j]? with
  | none=>rw [List.getElem?_eq_none_iff] at hx; rw [List.getElem?_eq_none (by omega)]
  | some x=>have:=Jq h hx; rw [decide_eq_true_eq] at this; rw [this]
theorem Aua {R:Type} (l m:List Int) (b:l.length<1099511627776) (h:l.length=m.length) {J:Bool⊕Unit->Option R} {rt rf:R} (h1:J (.inl false)=some rf) (h2:J (.inr ())=some rt) :
  (Ak (S:=Int) (E:=(Bool⊕Unit)) (fun v3=>bif (decide (v3<(l.length:Int))) then ((Ag l v3).bind fun v4=>(Ag m v3).bind fun v5=>bif (v4 != v5) then some (.inr (.inl false)) else some (.inl (Ac (v3+1)))) else some (.inr (.inr ()))) 0).bind J=some (bif decide (l=m) then rt else rf):=by
 rw [At9 l m h]
 refine Tv l (fun q=>decide (m[q.2]? = some q.1)) (fun j=>(j:Int)) rfl (by omega) (rt:=rt) (rf:=rf) ?_ ?_
 .intro j x hx _ g1 g2 g3
  have hj:j<m.length:=by have:=Ep hx; omega
  have hy:m[j]? = some m[j]:=Ck hj
  generalize m[j]=y at hy
  simp only [g1,g2,g3,cond_true,Ae,Cd rfl hy,hy,Option.some.injEq]
  by_cases e:x=y
  .rw [Ge e,Al e.symm]
   exact ⟨fun _=>rfl,fun h=>by cases h⟩
  .rw [E9 e,Ar (fun h=>e h.symm)]
   exact ⟨(fun h=>by cases h),fun _=>⟨.inl false,rfl,h1⟩⟩
 .intro h _; exact ⟨.inr (),by simp only [h]; rfl,h2⟩
theorem Ajn (l m:List Int) (b:l.length<1099511627776):Kw l m=some (decide (l=m)):=by
 unfold Kw
 by_cases h:l.length=m.length
 .rw [Ge (by omega)]
  simp only [cond_false]
  refine (Aua l m b h (rt:=true) (rf:=false) ?_ ?_).trans (by rw [Xx]) <;> rfl
 .rw [E9 (by omega),Ar (fun e=>h (by rw [e]))]; rfl
def Rf (a b:Aq):Bool:=a.Neg==b.Neg&&decide (a.Num=b.Num)&&decide (a.Den=b.Den)
theorem Ajo (a b:Aq):Rf a b=true↔a=b:=by
 unfold Rf
 simp only [Dq,beq_iff_eq,decide_eq_true_eq]
 constructor
 .rintro ⟨⟨h1,h2⟩,h3⟩; cases a; cases b; simp_all
 .rintro rfl; simp
def Ue (c:Aq):Bool:=Rf (Bi (sv c) (nv c) (dv c)) c && !(nv c==0)
structure TSz (t:Aj):Prop where
 co:RB 1048576 t.Coef
 mo:MSz t.Mono
def O3 (l:List Aj) (x:Aj) (j:Nat):Bool:=j==0||(match l[j-1]? with | some y=>decide (Cy y.Mono x.Mono<0) | none=>false)
def Rg (data:List Ay) (vars:List Ai) (res:Ai) (l:List Aj) (t:Aj) (j:Nat):Bool:=Ue t.Coef&&Ip data vars res t.Mono&&O3 l t j
def Iq (data:List Ay) (vars:List Ai) (res:Ai) (p:List Aj):Bool:=decide (p.length<=1000)&&p.zipIdx.all (fun q=>Rg data vars res p q.1 q.2)
theorem Aub {S E:Type} (F:Bf->Bf->Option Int) (l:List Aj) (g:∀y∈l,∀x,F y.Mono x=some (Cy y.Mono x)) {x:Aj} {j:Nat} (hx:l[j]? = some x) (i:l.length<4611686018427387904) (c b:Option (S⊕E)) :
  (bif decide ((j:Int)>0) then ((Ag l (Ac ((j:Int)-1))).bind fun f=>(F f.Mono x.Mono).bind fun v28=>bif decide (v28>=0) then c else b) else b)=bif O3 l x j then b else c:=by
 have hj:=Ep hx
 unfold O3
 by_cases h:j=0
 .subst h; rfl
 .rw [Al (by omega)]
  have e:Ac ((j:Int)-1)=((j-1:Nat):Int):=by rw [Ac,Bo] <;> omega
  have hy:l[j-1]? = some l[j-1]:=Ck (by omega)
  rw [e,Cd rfl hy,hy]
  have h0:(j==0)=false:=by simpa using h
  simp only [cond_true,Ae,h0,Bool.false_or,g _ (List.getElem_mem (by omega:j-1<l.length))]
  by_cases hc:Cy l[j-1].Mono x.Mono<0
  .rw [Ar (by omega),Al hc]; rfl
  .rw [Al (by omega),Ar hc]; rfl
theorem Auc (s:Bool) (n:Nat):(G6 s n==0)=(n==0):=by
 unfold G6
 by_cases h:n=0
 .rw [if_pos h]; subst h; rfl
 .rw [if_neg h]
  have:(n==0)=false:=by simpa using h
  rw [this]; cases s <;> rfl
theorem Ajp {data:List Ay} {vars:List Ai} {res:Ai} (hc:Re data vars res) {b1:List (ByteArray×Int)} (b2:List (ByteArray×List Db)) (V:E3 data vars res b1) (p:List Aj) (U:∀t∈p,TSz t) :
  ∃B,Sj p b1 b2 data vars res.Kind res.Num res.Args=some (Iq data vars res p,B)/\E3 data vars res B:=by
 unfold Sj Iq
 by_cases A:p.length<=1000
 .rw [Ar (by omega),Al A,Bool.true_and]
  simp only [cond_false]
  obtain ⟨r,X,S⟩:=Abo (M:=List (ByteArray×Int)) (R:=Bool×List (ByteArray×Int)) p (fun q=>Rg data vars res p q.1 q.2) (fun j o=>((j:Int),o)) (E3 data vars res)
   (fun r=>E3 data vars res r.2/\r.1=true) (fun r=>E3 data vars res r.2/\r.1=false) b1
   (s0:=((0:Int),b1))
   (step:=(fun (b,g)=>
    bif (decide (b<(p.length:Int))) then (
    (Ag p b).bind fun v12=>
    (Lo v12.Coef).bind fun f=>
    (show Option Bool from
    bif (f.Neg==v12.Coef.Neg) then (
    (Kw f.Num v12.Coef.Num).bind fun i=>
    bif i then (
    (Kw f.Den v12.Coef.Den).bind fun v17=>
    some v17)
    else some false)
    else some false).bind fun E=>
    bif (!E) then some (.inr (.inl (false,g)))
    else (
    (G1 f).bind fun D=>
    bif (D==(0:Int)) then some (.inr (.inl (false,g)))
    else (
    (P2 v12.Mono g b2 data vars res.Kind res.Num res.Args).bind fun v20=>
    bif (!v20.1) then some (.inr (.inl (false,v20.2)))
    else (
    bif (decide (b>(0:Int))) then (
    (Ag p (Ac (b-1))).bind fun v21=>
    (Mn v21.Mono v12.Mono).bind fun v22=>
    bif (decide (v22>=(0:Int))) then some (.inr (.inl (false,v20.2)))
    else some (.inl ((Ac (b+1)),v20.2)))
    else some (.inl ((Ac (b+1)),v20.2))))))
    else some (.inr (.inr g)):Int×List (ByteArray×Int)->Option ((Int×List (ByteArray×Int))⊕((Bool×List (ByteArray×Int))⊕List (ByteArray×Int)))))
   (J:=(fun z=>match z with
    | .inl (I,G)=>some (I,G)
    | .inr L=>some (true,L)))
   rfl V (by omega) (by
    intro j t o u hx _ h1 h2 h3
    have c:=U t (Cx hx)
    obtain ⟨B,d1,d2⟩:=At7 b2 hc u t.Mono c.mo
    have s:∀l:List Int,l=(Bi (sv t.Coef) (nv t.Coef) (dv t.Coef)).Num\/l=(Bi (sv t.Coef) (nv t.Coef) (dv t.Coef)).Den->l.length<1099511627776:=by
     intro l A
     have q:=Lv (sv t.Coef) (nv t.Coef) (dv t.Coef) 1048577 c.co.nv c.co.dv (by omega)
     have:=q.nl
     have:=q.dl
     rcases A with rfl | rfl <;> omega
    have k:(bif ((Bi (sv t.Coef) (nv t.Coef) (dv t.Coef)).Neg==t.Coef.Neg) then ((Kw (Bi (sv t.Coef) (nv t.Coef) (dv t.Coef)).Num t.Coef.Num).bind fun i=>bif i then ((Kw (Bi (sv t.Coef) (nv t.Coef) (dv t.Coef)).Den t.Coef.Den).bind fun v17=>some v17) else some false) else some false)=some (Rf (Bi (sv t.Coef) (nv t.Coef) (dv t.Coef)) t.Coef):=by
     unfold Rf
     rw [Ajn _ _ (s _ (.inl rfl)),Ajn _ _ (s _ (.inr rfl))]
     cases ((Bi (sv t.Coef) (nv t.Coef) (dv t.Coef)).Neg==t.Coef.Neg) <;> cases decide ((Bi (sv t.Coef) (nv t.Coef) (dv t.Coef)).Num=t.Coef.Num) <;> rfl
    simp only [h1,h2,h3,cond_true,Ae,Abu t.Coef 1048576 c.co (by omega),k,Aub Mn p (fun y hy x=>Aji y.Mono x (U y hy).mo) hx (by omega),Rg,Ue]
    cases N:Rf (Bi (sv t.Coef) (nv t.Coef) (dv t.Coef)) t.Coef with
    | false=>exact ⟨(fun h=>by cases h),fun _=>⟨_,rfl,_,rfl,u,rfl⟩⟩
    | true=>
     have e:=(Ajo _ _).1 N
     simp only [bnt,cond_false,Bool.true_and]
     rw [e,Abv t.Coef 1048576 c.co (by omega),Ae,Auc]
     cases (nv t.Coef==0) with
     | true=>exact ⟨(fun h=>by cases h),fun _=>⟨_,rfl,_,rfl,u,rfl⟩⟩
     | false=>
      simp only [cond_false,d1,Ae,Bool.not_false,Bool.true_and]
      cases Ip data vars res t.Mono with
      | false=>exact ⟨(fun h=>by cases h),fun _=>⟨_,rfl,_,rfl,d2,rfl⟩⟩
      | true=>
       cases O3 p t j with
       | true=>exact ⟨fun _=>⟨B,rfl,d2⟩,fun h=>by cases h⟩
       | false=>exact ⟨(fun h=>by cases h),fun _=>⟨_,rfl,_,rfl,d2,rfl⟩⟩) (by
    intro o u h1 _
    exact ⟨.inr o,by simp only [h1]; rfl,_,rfl,u,rfl⟩)
  refine ⟨r.2,?_,?_⟩
  .have e:some r=some (p.zipIdx.all (fun q=>Rg data vars res p q.1 q.2),r.2):=by
    rcases S with ⟨h1,h2,h3⟩ | ⟨h1,h2,h3⟩
    .rw [h1,<-h3]
    .rw [h1,<-h3]
   rw [<-e]
   exact X
  .rcases S with ⟨h1,h2,h3⟩ | ⟨h1,h2,h3⟩ <;> exact h2
 .rw [Al (by omega),Ar A]
  exact ⟨b1,rfl,V⟩
structure CSz (x:Bx):Prop where
 ds:DSz x.Data
 nv:x.Vars.length<=1048576
 vs:∀t∈x.Vars,Bv t<=1048576
 rs:Bv x.Res<=1048576
def Jt (data:List Ay) (t:Ai):Bool:=Fi data 0 t&&decide (Bv t<=200)
def Fc (x:Bx):Prop:=x.Vars.length<=3000/\K5 x.Data/\Jt x.Data x.Res=true/\x.Vars.all (Jt x.Data)=true
theorem Fc.ctx {x:Bx} (h:Fc x) (c:CSz x):Re x.Data x.Vars x.Res:=by
 refine ⟨h.2.1,c.ds.sz.short,fun v t ht=>?_,h.1⟩
 have good:∀t,Jt x.Data t=true->Bv t<=200:=fun t h=>by
  simp only [Jt,Dq,decide_eq_true_eq] at h; exact h.2
 unfold tyX at ht
 by_cases b:v = -1
 .rw [if_pos b] at ht; cases ht; exact good _ h.2.2.1
 .rw [if_neg b] at ht
  exact good t (List.all_eq_true.1 h.2.2.2 t (I8 ht).2.2.2)
theorem Ajq (x:Bx) (g:CSz x) (p:List Aj) (hp:∀t∈p,TSz t):∃b,Nt x p=some b/\(b=true↔Fc x/\Iq x.Data x.Vars x.Res p=true):=by
 obtain ⟨b,b1,b2⟩:=Air g.ds
 have I:=g.nv
 have G:=g.rs
 unfold Nt Jj
 rw [b1,T2 x.Data x.Res 0 (by omega)]
 by_cases y:x.Vars.length<=3000
 .rw [Ar (by omega)]
  simp only [cond_false,Ae]
  cases b with
  | false=>exact ⟨false,rfl,by simp; intro h; have:=b2.2 h.2.1; cases this⟩
  | true=>
   have E:=b2.1 rfl
   simp only [bnt,cond_false]
   cases s:(Fi x.Data 0 x.Res&&decide (Bv x.Res<=200)) with
   | false=>exact ⟨false,rfl,by simp; intro h; have:=h.2.2.1; rw [show Jt x.Data x.Res=false from s] at this; cases this⟩
   | true=>
    simp only [bnt,cond_false,Ae]
    rw [Option.bind_assoc]
    refine Ew (fun i=>∃j:Nat,i=j/\j<=x.Vars.length/\(x.Vars.take j).all (Jt x.Data)=true) (fun i=>x.Vars.length-i.toNat)
     (fun z=>match z with | .inl r=>r=false/\¬Fc x | .inr _=>Fc x) ⟨0,rfl,by omega,by simp⟩ ?_ ?_
    .rintro i ⟨j,rfl,hj,c⟩
     rcases Nat.lt_or_ge j x.Vars.length with h | h
     .have ht:x.Vars[j]? = some x.Vars[j]:=Ck h
      generalize x.Vars[j]=t at ht
      have:=g.vs t (Cx ht)
      simp only [Al (by omega:(j:Int)<(x.Vars.length:Int)),cond_true,Cd rfl ht,Ae,T2 x.Data t 0 (by omega),Dj h (by omega)]
      rw [show (Fi x.Data 0 t&&decide (Bv t<=200))=Jt x.Data t from rfl]
      cases A:Jt x.Data t with
      | true=>exact .inl ⟨_,rfl,⟨j+1,rfl,by omega,by rw [Dr ht,List.all_append,c]; simp [A]⟩,by simp; omega⟩
      | false=>
       refine .inr ⟨.inl false,rfl,rfl,fun L=>?_⟩
       have:=List.all_eq_true.1 L.2.2.2 t (Cx ht)
       rw [A] at this; cases this
     .have:j=x.Vars.length:=by omega
      subst this
      rw [List.take_length] at c
      exact .inr ⟨.inr (),by simp,y,E,s,c⟩
    .rintro (r | u) f
     .obtain ⟨rfl,f⟩:=f
      exact ⟨false,rfl,by simp [f]⟩
     .have B:Fc x:=f
      have J:E3 x.Data x.Vars x.Res []:=fun q h=>by cases h
      obtain ⟨D,l,M⟩:=Ajp (B.ctx g) [] J p hp
      cases k:Iq x.Data x.Vars x.Res p with
      | true=>
       rw [k] at l
       refine ⟨true,?_,by simp [B]⟩
       simp only
       rw [Option.bind_assoc]
       refine Gt 1 (fun j=>match j with | 0=>((0:Int),[]) | _=>((1:Int),D)) rfl ?_ ⟨.inr D,rfl,rfl⟩
       intro j hj
       match j,hj with
       | 0,_=>
        show (bif decide ((0:Int)<1) then _ else _)=_
        simp only [Al (by omega:(0:Int)<1),cond_true]
        rw [show Ag [p] 0=some p from rfl,Ae,l]; rfl
      | false=>
       rw [k] at l
       refine ⟨false,?_,by simp⟩
       simp only
       rw [Option.bind_assoc]
       refine Gt 0 (fun _=>((0:Int),[])) rfl (fun j hj=>by omega) ⟨.inl false,?_,rfl⟩
       show (bif decide ((0:Int)<1) then _ else _)=_
       simp only [Al (by omega:(0:Int)<1),cond_true]
       rw [show Ag [p] 0=some p from rfl,Ae,l]; rfl
 .rw [Al (by omega)]
  exact ⟨false,rfl,by simp; intro h; exact absurd h.1 y⟩
end Go.Ab
namespace Go.Ab
open Go
end Go.Ab
namespace Go.Ab
open Go
end Go.Ab
namespace Go.Ab
open Go
end Go.Ab
namespace Go.Ab
open Go
end Go.Ab
namespace Go.Ab
open Go
theorem Aud {data:List Ay} {vars:List Ai} {res:Ai} {m:Bf} (h:Ip data vars res m=true):(∀f∈m.Factors,∃t,tyX vars res f.Var=some t)/\m.Factors.length<=6:=by
 unfold Ip at h
 simp only [Dq,decide_eq_true_eq] at h
 obtain ⟨⟨h1,h2⟩,h3⟩:=h
 have b:∀f∈m.Factors,1<=Fk data vars res f:=by
  intro f b
  obtain ⟨j,hj⟩:=List.getElem?_of_mem b
  have:=Jq h1 hj
  simp only [Yj,Dq,decide_eq_true_eq] at this
  exact this.1
 have ha:0<=Cf m.Atoms:=(Ajm m.Atoms (fun a ha=>by
  obtain ⟨j,hj⟩:=List.getElem?_of_mem ha
  have:=Jq h2 hj
  simp only [L2,Dq,decide_eq_true_eq] at this
  omega)).1
 refine ⟨fun f c=>?_,?_⟩
 .have:=b f c
  unfold Fk at this
  cases ht:tyX vars res f.Var with
  | none=>rw [ht] at this; have:(1:Int)<=-1:=this; omega
  | some t=>exact ⟨t,rfl⟩
 .have key:∀l:List B4,(∀f∈l,1<=Fk data vars res f)->(l.length:Int)<=Ft data vars res l:=by
   intro l
   induction l with
   | nil=>intro _; simp [Ft]
   | cons f fs ih=>
    intro i
    have h1:=i f (by simp)
    have h2:=ih (fun g k=>i g (by simp [k]))
    unfold Ft at *
    simp only [List.map_cons,List.sum_cons,List.length_cons]; omega
  have:=key m.Factors b
  omega
theorem Aue (a b:Aq) (j k:Nat) (ha:RB j a) (hb:RB k b) (hj:j<34359738000) (hk:k<34359738000):∃c,Lj a b=some c/\Ss a b=some c/\RB (j+k+3) c:=by
 refine ⟨_,Aby a b j k ha hb (by omega) (by omega),Ar7 a b j k ha hb (by omega) (by omega),?_⟩
 have h1:=ha.nv
 have h2:=ha.dv
 have h3:=hb.nv
 have s:=hb.dv
 have q:=G5 (nv a) (dv b)
 have l:=G5 (nv b) (dv a)
 have i:=G5 (dv a) (dv b)
 have f:I7 (sv a) (nv a) (dv a) (sv b) (nv b) (dv b)<=nv a*dv b+nv b*dv a:=by
  unfold I7
  split
  .omega
  .split <;> omega
 have h:=Gr f
 have g:=Xu (nv a*dv b) (nv b*dv a)
 exact Lv _ _ _ _ (by omega) (by omega) (by omega)
end Go.Ab
namespace Go.Ab
open Go
end Go.Ab
namespace Go.Ab
open Go
theorem Auf (k:Nat):RB k ⟨false,[],[]⟩:=⟨(fun _ h=>by cases h),(fun _ h=>by cases h),by simp,by simp⟩
end Go.Ab
namespace Go.Ab
open Go
end Go.Ab
namespace Go.Ab
open Go
def sg (s:Bool) (n:Nat):Int:=if s then -(n:Int) else n
def rq (a:Aq):Rat:=mkRat (sg (sv a) (nv a)) (dv a)
def H4 (a:Aq):Prop:=a=Bi (sv a) (nv a) (dv a)
theorem L3 (s:Bool) (n d:Nat) (hd:d≠0):rq (Bi s n d)=mkRat (sg s n) d:=by
 obtain ⟨g,f,h1,h2,h3,i⟩:=X7 s n d hd
 unfold rq
 rw [Rat.mkRat_eq_iff (E2 _) hd]
 generalize nv (Bi s n d)=b at *
 generalize dv (Bi s n d)=j at *
 generalize sv (Bi s n d)=s' at *
 by_cases c:n=0
 .have:b=0:=by
   rcases Nat.eq_zero_or_pos b with h | h
   .exact h
   .have:=Nat.mul_pos (Nat.pos_of_ne_zero f) h; omega
  subst this; subst c
  cases s <;> cases s' <;> simp [sg]
 .rw [h3 c,h1,h2]
  cases s <;> simp only [sg,if_true,if_false,Bool.false_eq_true,Int.natCast_mul] <;> grind
theorem Rh (s:Bool) (n d:Nat) (hd:d≠0):H4 (Bi s n d):=by
 obtain ⟨g,b,h1,h2,h3,i⟩:=X7 s n d hd
 unfold H4
 generalize hc:Bi s n d=c at h1 h2 h3 i
 have e:=Ou s (nv c) (dv c) g b
 rw [<-h1,<-h2,hc] at e
 by_cases f:n=0
 .have h0:nv c=0:=by
   rcases Nat.eq_zero_or_pos (nv c) with h | h
   .exact h
   .have:=Nat.mul_pos (Nat.pos_of_ne_zero b) h; omega
  rw [h0,Tz] at e ⊢
  exact e
 .rw [h3 f]; exact e
theorem Ajr (n m:Int) {d e:Nat} (hd:d≠0) (g:e≠0):mkRat n d<mkRat m e↔n*e<m*d:=by
 have c:(0:Rat)<(d:Rat):=Rat.natCast_pos.2 (by omega)
 have b:(0:Rat)<(e:Rat):=Rat.natCast_pos.2 (by omega)
 rw [Rat.mkRat_eq_div,Rat.mkRat_eq_div,Rat.div_lt_iff c]
 rw [<-Rat.mul_lt_mul_right b]
 have f:(m:Rat) / (e:Rat)*(d:Rat)*(e:Rat)=(m:Rat)*(d:Rat):=by grind
 rw [f]
 have a1:(n:Rat)*(e:Rat)=((n*(e:Int):Int):Rat):=by rw [Rat.intCast_mul]; rfl
 have a2:(m:Rat)*(d:Rat)=((m*(d:Int):Int):Rat):=by rw [Rat.intCast_mul]; rfl
 rw [a1,a2,Rat.intCast_lt_intCast]
theorem Ajs {a b:Aq} (ha:H4 a) (hb:H4 b) (h:rq a=rq b):a=b:=by
 unfold rq at h
 rw [Rat.mkRat_eq_iff (E2 _) (E2 _)] at h
 rw [ha,hb]
 have q:=E2 a
 have l:=E2 b
 generalize nv a=n at *
 generalize dv a=d at *
 generalize sv a=s at *
 generalize nv b=m at *
 generalize dv b=e at *
 generalize sv b=t at *
 have f:n*e=m*d/\(n≠0->s=t):=by
  have c:n≠0->0<n*e:=fun h=>Nat.mul_pos (by omega) (by omega)
  have g:m≠0->0<m*d:=fun h=>Nat.mul_pos (by omega) (by omega)
  have x:((n*e:Nat):Int)=(n:Int)*e:=by simp
  have u:((m*d:Nat):Int)=(m:Int)*d:=by simp
  cases s <;> cases t <;> simp only [sg,if_true,if_false,Bool.false_eq_true,Int.neg_mul] at h
  .exact ⟨by omega,fun _=>rfl⟩
  .have:n*e=0/\m*d=0:=by omega
   refine ⟨by omega,fun i=>?_⟩
   have:=c i; omega
  .have:n*e=0/\m*d=0:=by omega
   refine ⟨by omega,fun i=>?_⟩
   have:=c i; omega
  .exact ⟨by omega,fun _=>rfl⟩
 have k:=Ou s n d e l
 have j:=Ou t m e d q
 rw [<-k,<-j,Nat.mul_comm e n,f.1,Nat.mul_comm e d,Nat.mul_comm m d]
 refine Ah1 fun h0=>f.2 ?_
 rintro rfl
 rw [Nat.zero_mul] at f
 have:=f.1
 rw [Nat.mul_comm d m] at h0
 omega
theorem Aug (j:Bool) (c g:Nat) (i:Bool) (b f:Nat):sg (Kf j c g i b f) (I7 j c g i b f)=sg j c*f+sg i b*g:=by
 unfold Kf I7 sg
 have l:((c*f:Nat):Int)=(c:Int)*f:=by simp
 have k:((b*g:Nat):Int)=(b:Int)*g:=by simp
 cases j <;> cases i <;> simp only [if_true,if_false,Bool.false_eq_true,Bool.true_eq_false,Int.neg_mul]
 .omega
 .by_cases h:b*g<=c*f
  .simp only [if_pos h]; simp only [if_false,Bool.false_eq_true]; omega
  .simp only [if_neg h]; simp only [if_true]; omega
 .by_cases h:b*g<=c*f
  .simp only [if_pos h]; simp only [if_true]; omega
  .simp only [if_neg h]; simp only [if_false,Bool.false_eq_true]; omega
 .omega
theorem Auh {a b:Aq} {j k:Nat} (ha:RB j a) (hb:RB k b) (hj:j<34359738000) (hk:k<34359738000):∃c,Lj a b=some c/\Ss a b=some c/\RB (j+k+3) c/\H4 c/\rq c=rq a+rq b:=by
 obtain ⟨c,h1,h2,h3⟩:=Aue a b j k ha hb hj hk
 have e:=Aby a b j k ha hb (by omega) (by omega)
 rw [h1] at e
 have e:=Option.some.inj e
 have hd:dv a*dv b≠0:=Nat.mul_ne_zero (E2 a) (E2 b)
 refine ⟨c,h1,h2,h3,?_,?_⟩
 .rw [e]; exact Rh _ _ _ hd
 .rw [e,L3 _ _ _ hd,Aug,rq,rq,Rat.mkRat_add_mkRat _ _ (E2 a) (E2 b)]
theorem Aui (s t:Bool) (n m:Nat):sg (s != t) (n*m)=sg s n*sg t m:=by
 unfold sg
 cases s <;> cases t <;> simp [Int.neg_mul,Int.mul_neg]
theorem Acu {a b:Aq} {j k:Nat} (ha:RB j a) (hb:RB k b) (hj:j<34359738000) (hk:k<34359738000):∃c,Gn a b=some c/\RB (j+k+2) c/\H4 c/\rq c=rq a*rq b:=by
 have hd:dv a*dv b≠0:=Nat.mul_ne_zero (E2 a) (E2 b)
 have h1:=ha.nv
 have h2:=ha.dv
 have h3:=hb.nv
 have h:=hb.dv
 have g:=G5 (nv a) (nv b)
 have f:=G5 (dv a) (dv b)
 refine ⟨_,Abx a b j k ha hb (by omega) (by omega),Lv _ _ _ _ (by omega) (by omega) (by omega),Rh _ _ _ hd,?_⟩
 rw [L3 _ _ _ hd,Aui,rq,rq,Rat.mkRat_mul_mkRat]
def M9 (x:Rat):Int:=if x<0 then -1 else if 0<x then 1 else 0
theorem Auj (a:Aq):rq a<0↔G6 (sv a) (nv a) = -1:=by
 have e:(0:Rat)=mkRat 0 1:=by simp
 rw [rq,e,Ajr _ _ (E2 a) (by decide)]
 unfold sg G6
 split <;> split <;> simp <;> omega
theorem Auk (a:Aq):0<rq a↔G6 (sv a) (nv a)=1:=by
 have e:(0:Rat)=mkRat 0 1:=by simp
 rw [rq,e,Ajr _ _ (by decide) (E2 a)]
 unfold sg G6
 split <;> split <;> simp <;> omega
theorem Aul (a:Aq):G6 (sv a) (nv a)=M9 (rq a):=by
 have h1:=Auj a
 have h2:=Auk a
 have h3:G6 (sv a) (nv a) = -1\/G6 (sv a) (nv a)=0\/G6 (sv a) (nv a)=1:=by unfold G6; split <;> (try split) <;> simp
 unfold M9
 split
 .rename_i h; exact h1.1 h
 .rename_i h
  split
  .rename_i h'; exact h2.1 h'
  .rename_i h'
   rcases h3 with h3 | h3 | h3
   .exact (h (h1.2 h3)).elim
   .exact h3
   .exact (h' (h2.2 h3)).elim
theorem Ajt {a:Aq} {k:Nat} (h:RB k a) (hk:k<34359738000):G1 a=some (M9 (rq a))/\Wh a=some (M9 (rq a)):=by
 rw [<-Aul]
 exact ⟨Abv a k h (by omega),Ar8 a k h (by omega)⟩
end Go.Ab
namespace Go.Ab
open Go
structure Dx {α:Type} (S:α->Prop) (g:α->α->Int):Prop where
 zero:∀a b,S a->S b->(g a b=0↔a=b)
 anti:∀a b,S a->S b->g b a = - g a b
 trans:∀a b c,S a->S b->S c->g a b<0->g b c<0->g a c<0
theorem Dx.cmpI:Dx (fun _:Int=>True) Dw:=by
 refine ⟨fun a b _ _=>G8,fun a b _ _=>?_,fun a b c _ _ _=>?_⟩
 .unfold Go.Ab.Dw; split <;> split <;> (try split) <;> (try split) <;> omega
 .unfold Go.Ab.Dw; intro h1 h2; split at h1 <;> (try split at h1) <;> split at h2 <;> (try split at h2) <;> first | omega | (rw [if_pos (by omega)]; decide)
theorem Aju {x y:Int}:orI x y<0↔x<0\/(x=0/\y<0):=by unfold orI; split <;> omega
theorem Ajv {x y:Int}:orI x y=0↔x=0/\y=0:=by unfold orI; split <;> omega
theorem Dx.or {α β γ:Type} {S:α->Prop} {s:β->Prop} {l:γ->Prop} {j:β->β->Int} {i:γ->γ->Int} (p:α->β) (q:α->γ) (g:∀a b,p a=p b->q a=q b->a=b) (h1:Dx s j) (h2:Dx l i) (f:∀a,S a->s (p a)/\l (q a)) :
  Dx S (fun a b=>orI (j (p a) (p b)) (i (q a) (q b))):=by
 refine ⟨fun a b ha hb=>?_,fun a b ha hb=>?_,fun a b c ha hb hc=>?_⟩
 .rw [Ajv,h1.zero _ _ (f a ha).1 (f b hb).1,h2.zero _ _ (f a ha).2 (f b hb).2]
  exact ⟨fun h=>g a b h.1 h.2,fun h=>by subst h; exact ⟨rfl,rfl⟩⟩
 .show orI (j (p b) (p a)) (i (q b) (q a)) = - orI (j (p a) (p b)) (i (q a) (q b))
  have z:=h1.anti _ _ (f a ha).1 (f b hb).1
  have y:=h2.anti _ _ (f a ha).2 (f b hb).2
  rw [z,y]; unfold orI; split <;> split <;> omega
 .show orI _ _<0->orI _ _<0->orI _ _<0
  simp only [Aju]
  have u:=h1.zero _ _ (f a ha).1 (f b hb).1
  have z2:=h1.zero _ _ (f b hb).1 (f c hc).1
  have t1:=h1.trans _ _ _ (f a ha).1 (f b hb).1 (f c hc).1
  have t2:=h2.trans _ _ _ (f a ha).2 (f b hb).2 (f c hc).2
  rintro (h | ⟨h,h'⟩) (k | ⟨k,x⟩)
  .exact .inl (t1 h k)
  .rw [<-z2.1 k]; exact .inl h
  .rw [u.1 h]; exact .inl k
  .rw [<-z2.1 k,h]; exact .inr ⟨rfl,t2 h' x⟩
theorem Dx.mono {α:Type} {S i:α->Prop} {g:α->α->Int} (h:Dx S g) (f:∀a,i a->S a):Dx i g :=
 ⟨fun a b ha hb=>h.zero a b (f a ha) (f b hb),fun a b ha hb=>h.anti a b (f a ha) (f b hb),fun a b c ha hb hc=>h.trans a b c (f a ha) (f b hb) (f c hc)⟩
theorem Dx.congr {α:Type} {S:α->Prop} {g c:α->α->Int} (h:Dx S g) (e:∀a b,c a b=g a b):Dx S c:=by
 have:c=g:=funext fun a=>funext fun b=>e a b
 rw [this]; exact h
def LL {α:Type} (g:α->α->Int) (l m:List α):Int:=if l.length=m.length then D9 g l m else Go.Ab.Dw l.length m.length
theorem Ajw {α:Type} {S:α->Prop} {g:α->α->Int} (h:Dx S g):∀l m:List α,l.length=m.length->(∀x∈l,S x)->(∀x∈m,S x)->(D9 g l m=0↔l=m)
 | [],[],_,_,_=>by simp [D9]
 | x::xs,y::ys,b,h1,h2=>by
  simp only [D9,Ajv,h.zero x y (h1 x (by simp)) (h2 y (by simp)),Ajw h xs ys (by simpa using b) (fun z c=>h1 z (by simp [c])) (fun z c=>h2 z (by simp [c])),List.cons.injEq]
 | [],_::_,b,_,_=>by simp at b
 | _::_,[],b,_,_=>by simp at b
theorem Ajx {α:Type} {S:α->Prop} {g:α->α->Int} (h:Dx S g):∀l m:List α,l.length=m.length->(∀x∈l,S x)->(∀x∈m,S x)->D9 g m l = - D9 g l m
 | [],[],_,_,_=>by simp [D9]
 | x::xs,y::ys,b,h1,h2=>by
  simp only [D9,h.anti x y (h1 x (by simp)) (h2 y (by simp)),Ajx h xs ys (by simpa using b) (fun z c=>h1 z (by simp [c])) (fun z c=>h2 z (by simp [c]))]
  unfold orI; split <;> split <;> omega
 | [],_::_,b,_,_=>by simp at b
 | _::_,[],b,_,_=>by simp at b
theorem Ajy {α:Type} {S:α->Prop} {g:α->α->Int} (h:Dx S g):∀l m n:List α,l.length=m.length->m.length=n.length->(∀x∈l,S x)->(∀x∈m,S x)->(∀x∈n,S x)->D9 g l m<0->D9 g m n<0->D9 g l n<0
 | [],[],_,_,_,_,_,_=>by intro h; simp [D9] at h
 | x::xs,y::ys,z::j,f,i,h1,h2,h3=>by
  simp only [D9,Aju]
  have k:=h.zero x y (h1 x (by simp)) (h2 y (by simp))
  have z2:=h.zero y z (h2 y (by simp)) (h3 z (by simp))
  have t1:=h.trans x y z (h1 x (by simp)) (h2 y (by simp)) (h3 z (by simp))
  have t2:=Ajy h xs ys j (by simpa using f) (by simpa using i) (fun z c=>h1 z (by simp [c])) (fun z c=>h2 z (by simp [c])) (fun z c=>h3 z (by simp [c]))
  rintro (a | ⟨a,s⟩) (b | ⟨b,q⟩)
  .exact .inl (t1 a b)
  .rw [<-z2.1 b]; exact .inl a
  .rw [k.1 a]; exact .inl b
  .rw [<-z2.1 b,a]; exact .inr ⟨rfl,t2 s q⟩
 | _::_,_::_,[],_,i,_,_,_=>by simp at i
 | [],_::_,_,f,_,_,_,_=>by simp at f
 | _::_,[],_,f,_,_,_,_=>by simp at f
theorem Dx.ll {α:Type} {S:α->Prop} {g:α->α->Int} (h:Dx S g):Dx (fun l=>∀x∈l,S x) (LL g):=by
 have c:=Dx.cmpI
 refine ⟨fun a b ha hb=>?_,fun a b ha hb=>?_,fun x y z hx hy q=>?_⟩
 .unfold LL
  split
  .rename_i i; exact Ajw h a b i ha hb
  .rename_i i
   rw [G8]
   exact ⟨fun e=>(i (by omega)).elim,fun e=>(i (by rw [e])).elim⟩
 .unfold LL
  by_cases i:a.length=b.length
  .rw [if_pos i,if_pos i.symm]; exact Ajx h a b i ha hb
  .rw [if_neg i,if_neg (fun e=>i e.symm)]; exact c.anti _ _ trivial trivial
 .unfold LL
  intro h1 h2
  have neg:∀a b:Int,Go.Ab.Dw a b<0->a<b:=by intro a b h; unfold Go.Ab.Dw at h; split at h <;> (try split at h) <;> omega
  have f:∀a b:Int,a<b->Go.Ab.Dw a b<0:=by intro a b h; unfold Go.Ab.Dw; rw [if_pos h]; decide
  by_cases k:x.length=y.length
  .rw [if_pos k] at h1
   by_cases j:y.length=z.length
   .rw [if_pos j] at h2; rw [if_pos (by omega)]; exact Ajy h x y z k j hx hy q h1 h2
   .rw [if_neg j] at h2; rw [if_neg (by omega)]
    have:=neg _ _ h2; exact f _ _ (by omega)
  .rw [if_neg k] at h1
   have:=neg _ _ h1
   by_cases j:y.length=z.length
   .rw [if_neg (by omega)]; exact f _ _ (by omega)
   .rw [if_neg j] at h2
    have:=neg _ _ h2
    rw [if_neg (by omega)]; exact f _ _ (by omega)
theorem Ajz {α:Type} (g:α->α->Int) (l m:List α) (y:Int):orI (LL g l m) y=if l.length=m.length then orI (D9 g l m) y else Go.Ab.Dw l.length m.length:=by
 unfold LL
 by_cases h:l.length=m.length
 .rw [if_pos h,if_pos h]
 .rw [if_neg h,if_neg h]
  unfold orI
  rw [if_neg (fun e=>h (by have:=G8.1 e; omega))]
theorem Aum:Dx (fun _=>True) Ua :=
 (Dx.or (S:=fun _=>True) (fun t:Ba=>t.Var) (fun t=>t.Coef) (fun a b h1 h2=>by cases a; cases b; cases h1; cases h2; rfl) Dx.cmpI Dx.cmpI (fun _ _=>⟨trivial,trivial⟩)).congr fun _ _=>rfl
theorem G9:Dx (fun _=>True) Fs :=
 (Dx.or (S:=fun _=>True) (fun t:Be=>t.Terms) (fun t=>t.Const) (fun a b h1 h2=>by cases a; cases b; cases h1; cases h2; rfl) Aum.ll Dx.cmpI (fun _ _=>⟨fun _ _=>trivial,trivial⟩)).congr fun a b=>by
  show Fs a b=orI (LL Ua a.Terms b.Terms) (Go.Ab.Dw a.Const b.Const)
  rw [Ajz]; rfl
theorem Aun (i j:Bq):Kj i j=orI (Go.Ab.Dw i.Num j.Num) (LL Kj i.Kids j.Kids):=by
 rw [Ajh,Acq]
 unfold orI LL
 by_cases h:i.Num=j.Num
 .rw [if_pos h,if_pos (G8.2 h)]
 .rw [if_neg h,if_neg (fun e=>h (G8.1 e))]
theorem Acv:∀n:Nat,Dx (fun i=>Dk i<=n) Kj:=by
 intro n
 induction n with
 | zero=>exact ⟨fun a _ ha=>by have:=G7 a; omega,fun a _ ha=>by have:=G7 a; omega,fun a _ _ ha=>by have:=G7 a; omega⟩
 | succ n ih=>
  refine (Dx.or (S:=fun i=>Dk i<=n+1) (fun i:Bq=>i.Num) (fun i=>i.Kids) (fun a b h1 h2=>by cases a; cases b; cases h1; cases h2; rfl) Dx.cmpI ih.ll ?_).congr Aun
  intro i c
  refine ⟨trivial,fun x hx=>?_⟩
  have h1:=Q7 hx
  have h2:=G7 i
  show Dk x<=n
  omega
theorem Auo:Dx (fun _=>True) Kj :=
 ⟨fun a b _ _=>(Acv (max (Dk a) (Dk b))).zero a b (by show Dk a<=_; omega) (by show Dk b<=_; omega),fun a b _ _=>(Acv (max (Dk a) (Dk b))).anti a b (by show Dk a<=_; omega) (by show Dk b<=_; omega),
  fun a b c _ _ _=>(Acv (max (Dk a) (max (Dk b) (Dk c)))).trans a b c (by show Dk a<=_; omega) (by show Dk b<=_; omega) (by show Dk c<=_; omega)⟩
theorem Aup:Dx (fun _=>True) Rb :=
 (Dx.or (S:=fun _=>True) (fun t:B4=>t.Var) (fun t=>t.Index) (fun a b h1 h2=>by cases a; cases b; cases h1; cases h2; rfl) Dx.cmpI Auo (fun _ _=>⟨trivial,trivial⟩)).congr fun _ _=>rfl
theorem Auq:Dx (fun _=>True) Ub :=
 (Dx.or (S:=fun _=>True) (fun t:A3=>t.Lin) (fun t=>t.Deg) (fun a b h1 h2=>by cases a; cases b; cases h1; cases h2; rfl) G9 Dx.cmpI (fun _ _=>⟨trivial,trivial⟩)).congr fun _ _=>rfl
theorem Acw:Dx (fun _=>True) Cy :=
 (Dx.or (S:=fun _=>True) (fun t:Bf=>t.Factors) (fun t=>t.Atoms) (fun a b h1 h2=>by cases a; cases b; cases h1; cases h2; rfl) Aup.ll Auq.ll (fun _ _=>⟨fun _ _=>trivial,fun _ _=>trivial⟩)).congr fun a b=>by
  show Cy a b=orI (LL Rb a.Factors b.Factors) (LL Ub a.Atoms b.Atoms)
  rw [Ajz]; rfl
theorem Kl {a b:Bf}:Cy a b=0↔a=b:=Acw.zero a b trivial trivial
theorem Ri (a b:Bf):Cy b a = - Cy a b:=Acw.anti a b trivial trivial
theorem Rj {a b c:Bf} (h:Cy a b<0) (h':Cy b c<0):Cy a c<0:=Acw.trans a b c trivial trivial trivial h h'
end Go.Ab
namespace Go.Ab
open Go
theorem Aj0 (m:Bf):Cy m m=0:=Kl.2 rfl
theorem Acx {a b:Bf}:0<Cy a b↔Cy b a<0:=by rw [Ri a b]; omega
def cf:List Aj->Bf->Rat
 | [],_=>0
 | t::p,m=>(if Cy t.Mono m=0 then rq t.Coef else 0)+cf p m
def ltT (t u:Aj):Prop:=Cy t.Mono u.Mono<0
structure CP (p:List Aj):Prop where
 srt:p.Pairwise ltT
 coe:∀t∈p,H4 t.Coef/\rq t.Coef≠0
theorem CP.tail {t:Aj} {p:List Aj} (h:CP (t::p)):CP p:=⟨(List.pairwise_cons.1 h.srt).2,fun u hu=>h.coe u (by simp [hu])⟩
theorem CP.head {t:Aj} {p:List Aj} (h:CP (t::p)):∀u∈p,Cy t.Mono u.Mono<0:=(List.pairwise_cons.1 h.srt).1
theorem CP.nil:CP []:=⟨List.Pairwise.nil,fun _ h=>by cases h⟩
theorem CP.cons {t:Aj} {p:List Aj} (h:CP p) (h1:∀u∈p,Cy t.Mono u.Mono<0) (h2:H4 t.Coef) (h3:rq t.Coef≠0):CP (t::p) :=
 ⟨List.pairwise_cons.2 ⟨h1,h.srt⟩,fun u hu=>by
  rcases List.mem_cons.1 hu with rfl | hu
  .exact ⟨h2,h3⟩
  .exact h.coe u hu⟩
theorem Aj1 {p:List Aj} {m:Bf} (h:∀t∈p,Cy t.Mono m≠0):cf p m=0:=by
 induction p with
 | nil=>rfl
 | cons t p ih=>
  simp only [cf]
  rw [if_neg (h t (by simp)),ih (fun u hu=>h u (by simp [hu]))]; grind
theorem O4 {p:List Aj} {m:Bf} (h:∀t∈p,Cy m t.Mono<0):cf p m=0 :=
 Aj1 fun t ht e=>by have:=h t ht; rw [Ri,e] at this; omega
theorem O5 {t:Aj} {p:List Aj} (h:CP (t::p)):cf (t::p) t.Mono=rq t.Coef:=by
 simp only [cf]
 rw [if_pos (Aj0 _),O4 h.head]; grind
theorem Acy {t:Aj} {p:List Aj} {m:Bf} (h:Cy t.Mono m≠0):cf (t::p) m=cf p m:=by
 simp only [cf]; rw [if_neg h]; grind
theorem Rk (p q:List Aj) (m:Bf):cf (p++q) m=cf p m+cf q m:=by
 induction p with
 | nil=>simp only [List.nil_append,cf]; grind
 | cons t p ih=>simp only [List.cons_append,cf,ih]; grind
theorem Yk {p:List Aj} (h:CP p) {t:Aj} (ht:t∈p):cf p t.Mono=rq t.Coef:=by
 induction p with
 | nil=>cases ht
 | cons u p ih=>
  rcases List.mem_cons.1 ht with rfl | ht
  .exact O5 h
  .have:=h.head t ht
   rw [Acy (by omega)]; exact ih h.tail ht
theorem CP.ext:∀{p q:List Aj},CP p->CP q->(∀m,cf p m=cf q m)->p=q
 | [],[],_,_,_=>rfl
 | [],u::q,_,h2,h=>by
  have:=h u.Mono
  rw [O5 h2] at this
  exact ((h2.coe u (by simp)).2 this.symm).elim
 | t::p,[],h1,_,h=>by
  have:=h t.Mono
  rw [O5 h1] at this
  exact ((h1.coe t (by simp)).2 this).elim
 | t::p,u::q,h1,h2,h=>by
  have b:Cy t.Mono u.Mono=0:=by
   rcases Int.lt_trichotomy (Cy t.Mono u.Mono) 0 with k | k | k
   .have e:=h t.Mono
    rw [O5 h1,O4 (p:=u::q)] at e
    .exact ((h1.coe t (by simp)).2 e).elim
    .intro w hw
     rcases List.mem_cons.1 hw with rfl | hw
     .exact k
     .exact Rj k (h2.head w hw)
   .exact k
   .have k:=Acx.1 k
    have e:=h u.Mono
    rw [O5 h2,O4 (p:=t::p)] at e
    .exact ((h2.coe u (by simp)).2 e.symm).elim
    .intro w hw
     rcases List.mem_cons.1 hw with rfl | hw
     .exact k
     .exact Rj k (h1.head w hw)
  have c:=Kl.1 b
  have hc:t.Coef=u.Coef:=by
   refine Ajs (h1.coe t (by simp)).1 (h2.coe u (by simp)).1 ?_
   have e:=h t.Mono
   rw [O5 h1,c,O5 h2] at e
   exact e
  have ht:t=u:=by cases t; cases u; simp_all
  subst ht
  congr 1
  refine CP.ext h1.tail h2.tail fun m=>?_
  by_cases e:Cy t.Mono m=0
  .rw [<-Kl.1 e,O4 h1.head,O4 h2.head]
  .have:=h m
   rwa [Acy e,Acy e] at this
theorem Aj2 (c:Aq):Ue c=true↔H4 c/\rq c≠0:=by
 unfold Ue H4
 rw [Dq,Ajo]
 have h:(!(nv c==0))=true↔rq c≠0:=by
  have e:rq c=0↔nv c=0:=by
   unfold rq
   rw [Rat.mkRat_eq_zero (E2 c)]
   unfold sg; split <;> omega
  rw [Ne,e]; simp
 rw [h]
 exact ⟨fun ⟨a,b⟩=>⟨a.symm,b⟩,fun ⟨a,b⟩=>⟨a.symm,b⟩⟩
theorem Aur {l:List Aj} (h:∀(j:Nat) (x y:Aj),l[j]? = some x->l[j+1]? = some y->Cy x.Mono y.Mono<0):l.Pairwise ltT:=by
 induction l with
 | nil=>exact List.Pairwise.nil
 | cons t l ih=>
  have ih:=ih fun j x y hx hy=>h (j+1) x y (by simpa using hx) (by simpa using hy)
  refine List.pairwise_cons.2 ⟨?_,ih⟩
  cases l with
  | nil=>intro u hu; cases hu
  | cons v l=>
   have h0:=h 0 t v rfl rfl
   intro u hu
   rcases List.mem_cons.1 hu with rfl | hu
   .exact h0
   .exact Rj h0 ((List.pairwise_cons.1 ih).1 u hu)
theorem Yl {data:List Ay} {vars:List Ai} {res:Ai} {p:List Aj}:Iq data vars res p=true↔p.length<=1000/\CP p/\∀t∈p,Ip data vars res t.Mono=true:=by
 unfold Iq
 rw [Dq,decide_eq_true_eq]
 constructor
 .rintro ⟨h1,h2⟩
  have g:∀(j:Nat) (t:Aj),p[j]? = some t->Ue t.Coef=true/\Ip data vars res t.Mono=true/\O3 p t j=true:=by
   intro j t hj
   have:=Jq h2 hj
   simp only [Rg,Dq] at this
   exact ⟨this.1.1,this.1.2,this.2⟩
  refine ⟨h1,⟨Aur fun j x y hx hy=>?_,fun t ht=>?_⟩,fun t ht=>?_⟩
  .have:=(g _ _ hy).2.2
   unfold O3 at this
   rw [show j+1-1=j by omega,hx] at this
   simpa using this
  .obtain ⟨j,hj⟩:=List.getElem?_of_mem ht
   exact (Aj2 _).1 (g j t hj).1
  .obtain ⟨j,hj⟩:=List.getElem?_of_mem ht
   exact (g j t hj).2.1
 .rintro ⟨h1,h2,h3⟩
  refine ⟨h1,List.all_eq_true.2 fun q hq=>?_⟩
  have hq:=List.mem_zipIdx' hq
  have hj:p[q.2]? = some q.1:=(Ck hq.1).trans (congrArg some hq.2.symm)
  have c:q.1∈p:=Cx hj
  simp only [Rg,Dq]
  refine ⟨⟨(Aj2 _).2 (h2.coe _ c),h3 _ c⟩,?_⟩
  unfold O3
  by_cases h0:q.2=0
  .rw [h0]; rfl
  .have b:q.2-1<p.length:=by omega
   rw [Ck b]
   have:=List.pairwise_iff_getElem.1 h2.srt (q.2-1) q.2 b hq.1 (by omega)
   rw [<-hq.2] at this
   simp only [Bool.or_eq_true,decide_eq_true_eq]
   exact .inr this
end Go.Ab
namespace Go.Ab
open Go
theorem Aus:∀(k:Nat) (t:Bq),Dk t<=k->k<1099511627776->N6 k t=some t:=by
 intro k
 induction k with
 | zero=>intro t h; have:=G7 t; omega
 | succ k ih=>
  intro t h hk
  have c:=G7 t
  have b:=T8 t.Kids
  rw [N6]
  refine I5 t.Kids (fun j=>((j:Int),(t.Kids.take j))) rfl (by omega) ?_ ?_
  .intro j x hj hx h1 h2 h3
   have:=Q7 (Cx hx)
   simp only [h1,h2,h3,cond_true,Ae,ih x (by omega) (by omega)]
   rw [Dm (by simp; omega),Ae,Dr hx]
  .intro h1
   exact ⟨t.Kids,by simp,by cases t; rfl⟩
theorem Aut (m:Bf) (b:MSz m):Sz m=some m:=by
 have g:=b.nf
 have f:=b.na
 unfold Sz
 refine I5 m.Factors (fun j=>((j:Int),(m.Factors.take j))) rfl (by omega) ?_ ?_
 .intro j x hj hx h1 h2 h3
  have c:=Cx hx
  have:=b.fi x c
  simp only [h1,h2,h3,cond_true,Ae,Aus 4000000 x.Index (by omega) (by omega)]
  rw [Dm (by simp; omega),Ae,Dr hx]
 .intro h1
  refine ⟨m.Factors,by simp,?_⟩
  dsimp only
  refine I5 m.Atoms (fun j=>((j:Int),(m.Atoms.take j))) rfl (by omega) ?_ ?_
  .intro j x hj hx h1 h2 h3
   have c:=Cx hx
   have:=b.al x c
   simp only [h1,h2,h3,cond_true,Ae,Sq]
   rw [Dm (by simp; omega),Ae,Dm (by simp; omega),Ae,Dr hx]; rfl
  .intro h1
   exact ⟨m.Atoms,by simp,by cases m; rfl⟩
end Go.Ab
namespace Go.Ab
open Go
structure TB (k:Nat) (t:Aj):Prop where
 co:RB k t.Coef
 mo:MSz t.Mono
theorem TSz.tb {t:Aj} (h:TSz t):TB 1048576 t:=⟨h.co,h.mo⟩
theorem TB.mono {j k:Nat} {t:Aj} (h:TB j t) (hk:j<=k):TB k t:=⟨h.co.mono hk,h.mo⟩
def O6 (c:Aq) (m:Bf):List Aj:=if nv c=0 then [] else [⟨Bi (sv c) (nv c) (dv c),m⟩]
theorem Aj3 (c:Aq):rq c=0↔nv c=0:=by
 unfold rq
 rw [Rat.mkRat_eq_zero (E2 c)]
 unfold sg; split <;> omega
theorem Auu (c:Aq) (m n:Bf):cf (O6 c m) n=if Cy m n=0 then rq c else 0:=by
 unfold O6
 split
 .rename_i h
  rw [(Aj3 c).2 h]; simp [cf]
 .simp only [cf,L3 _ _ _ (E2 c)]
  show (if Cy m n=0 then rq c else 0)+0=_
  grind
structure Mg (F:Rat->Rat->Rat) (k:Nat) (p q R:List Aj):Prop where
 cp:CP R
 val:∀m,cf R m=F (cf p m) (cf q m)
 mon:∀t∈R,(∃u∈p,u.Mono=t.Mono)\/(∃u∈q,u.Mono=t.Mono)
 len:R.length<=p.length+q.length
 rb:∀t∈R,RB (k+1) t.Coef
theorem Auv {k:Nat} {c:Aq} {m:Bf} (hc:RB k c):(∀t∈O6 c m,t.Mono=m/\H4 t.Coef/\rq t.Coef≠0/\RB (k+1) t.Coef)/\(O6 c m).length<=1:=by
 unfold O6
 split
 .exact ⟨fun _ h=>(by cases h),by simp⟩
 .rename_i h
  refine ⟨fun t ht=>?_,by simp⟩
  simp only [List.mem_singleton] at ht
  subst ht
  exact ⟨rfl,Rh _ _ _ (E2 c),by rw [L3 _ _ _ (E2 c)]; exact fun e=>h ((Aj3 c).1 e),Ah6 hc⟩
theorem Mg.step {F:Rat->Rat->Rat} {k:Nat} {p q g f R:List Aj} {c:Aq} {m:Bf} (h:Mg F k g f R) (z:F 0 0=0) (hc:RB k c)
  (s:∀n,Cy m n≠0->cf p n=cf g n/\cf q n=cf f n) (h0:rq c=F (cf p m) (cf q m)) (l:∀u∈g,Cy m u.Mono<0) (j:∀u∈f,Cy m u.Mono<0)
  (x:(∃u∈p,u.Mono=m)\/(∃u∈q,u.Mono=m)) (hp:∀u∈g,u∈p) (hq:∀u∈f,u∈q) (B:g.length+f.length+1<=p.length+q.length):Mg F k p q (O6 c m++R):=by
 obtain ⟨i,A⟩:=Auv (m:=m) hc
 have y:∀t∈R,Cy m t.Mono<0:=by
  intro t ht
  rcases h.mon t ht with ⟨u,hu,e⟩ | ⟨u,hu,e⟩
  .rw [<-e]; exact l u hu
  .rw [<-e]; exact j u hu
 refine ⟨?_,?_,?_,?_,?_⟩
 .refine ⟨List.pairwise_append.2 ⟨?_,h.cp.srt,?_⟩,?_⟩
  .unfold O6; split
   .exact List.Pairwise.nil
   .exact List.pairwise_singleton _ _
  .intro a ha b hb
   show Cy a.Mono b.Mono<0
   rw [(i a ha).1]; exact y b hb
  .intro t ht
   rcases List.mem_append.1 ht with ht | ht
   .exact ⟨(i t ht).2.1,(i t ht).2.2.1⟩
   .exact h.cp.coe t ht
 .intro n
  rw [Rk,Auu,h.val n]
  by_cases e:Cy m n=0
  .rw [if_pos e]
   have e':=Kl.1 e
   subst e'
   rw [O4 l,O4 j,z,h0]; grind
  .rw [if_neg e,(s n e).1,(s n e).2]; grind
 .intro t ht
  rcases List.mem_append.1 ht with ht | ht
  .rw [(i t ht).1]; exact x
  .rcases h.mon t ht with ⟨u,hu,e⟩ | ⟨u,hu,e⟩
   .exact .inl ⟨u,hp u hu,e⟩
   .exact .inr ⟨u,hq u hu,e⟩
 .rw [List.length_append]; have:=h.len; omega
 .intro t ht
  rcases List.mem_append.1 ht with ht | ht
  .exact (i t ht).2.2.2
  .exact h.rb t ht
end Go.Ab
namespace Go.Ab
open Go
def Gg (n:Int) (f:Bool):List Int:=if f then (if n<0 then [45] else []) else (if n<0 then [32,45,32] else [32,43,32])
def Hi (n:Int):List Int:=if n.natAbs=1 then [] else ti n.natAbs++[42]
def Gu (v:Int):List Int:=if v = -1 then [114,101,115] else 118::ti v
def tT (f:Bool) (t:Ba):List Int:=Gg t.Coef f++(Hi t.Coef++Gu t.Var)
def F0:Bool->List Ba->Int->List Int
 | f,[],c=>if c≠0\/f=true then Gg c f++ti c.natAbs else []
 | f,t::ts,c=>tT f t++F0 false ts c
def Uf (l:Be):List Int:=F0 true l.Terms l.Const
def Gv (X:List Int):Prop:=∀c m,X=c::m->c=97
theorem Gv.nil:Gv []:=by intro c m h; cases h
theorem Gv.cons (X:List Int):Gv (97::X):=by intro c m h; cases h; rfl
theorem Gv.nonum {X:List Int} (h:Gv X):Ja X:=by intro c m e; rw [h c m e]; decide
theorem Acz (n:Nat):∃c m,ti n=c::m/\48<=c/\c<=57:=by
 have b:=Ack (n:Int)
 cases h:ti (n:Int) with
 | nil=>exact (b h).elim
 | cons c m=>
  refine ⟨c,m,rfl,?_⟩
  have hc:c∈ti (n:Int):=by rw [h]; simp
  unfold ti at hc
  obtain ⟨x,hx,rfl⟩:=List.mem_map.1 hc
  have e:Lib.itoa (n:Int)=Lib.decDigits n:=by
   unfold Lib.itoa
   first | rfl | (rw [if_neg (by omega)]; simp) | simp
  rw [e] at hx
  have:=Yc n n (Nat.le_refl _) x hx
  omega
theorem Aj4 (ts:List Ba) (c:Int) {X:List Int} (b:Gv X):Ja (F0 false ts c++X):=by
 have k:∀(n:Int) (Y:List Int),Ja (Gg n false++Y):=by
  intro n Y c m e
  unfold Gg at e
  simp only [Bool.false_eq_true,if_false] at e
  split at e <;> (cases e; decide)
 cases ts with
 | nil=>
  simp only [F0]
  split
  .rw [List.append_assoc]; exact k _ _
  .exact b.nonum
 | cons t ts=>simp only [F0,tT,List.append_assoc]; exact k _ _
theorem Aj5 {v w:Int} {R S:List Int} (c:Ja R) (b:Ja S) (h:Gu v++R=Gu w++S):v=w/\R=S:=by
 unfold Gu at h
 split at h <;> split at h
 .simp only [List.cons_append,List.nil_append,List.cons.injEq,true_and] at h
  exact ⟨by omega,h⟩
 .simp at h
 .simp at h
 .simp only [List.cons_append,List.cons.injEq,true_and] at h
  obtain ⟨g,f⟩:=L0 _ _ _ _ (F5 v) (F5 w) c b h
  exact ⟨Oz g,f⟩
theorem Ac0 (v:Int):∃c m,Gu v=c::m/\(c=114\/c=118):=by
 unfold Gu
 split
 .exact ⟨_,_,rfl,.inl rfl⟩
 .exact ⟨_,_,rfl,.inr rfl⟩
theorem Ac1 (X:List Int):Ja (42::X):=by intro c m e; cases e; decide
theorem Auw {a b v w:Int} {R S:List Int} (i:Ja R) (g:Ja S) (h:Hi a++(Gu v++R)=Hi b++(Gu w++S)):a.natAbs=b.natAbs/\v=w/\R=S:=by
 unfold Hi at h
 have bad:∀(n:Nat) (u:Int) (X Y:List Int),Gu u++X=ti n++[42]++Y->False:=by
  intro n u X Y e
  obtain ⟨c,m,f,q⟩:=Ac0 u
  obtain ⟨d,k,l,j⟩:=Acz n
  rw [f,l] at e
  simp only [List.cons_append,List.cons.injEq] at e
  omega
 split at h <;> split at h
 .rename_i h1 h2
  simp only [List.nil_append] at h
  exact ⟨h1.trans h2.symm,Aj5 i g h⟩
 .exact (bad _ _ _ _ h).elim
 .exact (bad _ _ _ _ h.symm).elim
 .simp only [List.append_assoc,List.cons_append,List.nil_append] at h
  obtain ⟨f,q⟩:=L0 _ _ _ _ (F5 _) (F5 _) (Ac1 _) (Ac1 _) h
  have l:=Oz f
  obtain ⟨j,s⟩:=Aj5 i g (List.cons.inj q).2
  exact ⟨by omega,j,s⟩
def NoM (P:List Int):Prop:=∃c m,P=c::m/\c≠45
theorem NoM.ti (n:Nat) (X:List Int):NoM (Go.Ab.ti n++X):=by
 obtain ⟨c,m,e,h⟩:=Acz n
 exact ⟨c,m++X,by rw [e]; rfl,by omega⟩
theorem NoM.pT (a v:Int) (X:List Int):NoM (Hi a++(Gu v++X)):=by
 unfold Hi
 split
 .obtain ⟨c,m,e,h⟩:=Ac0 v
  exact ⟨c,m++X,by rw [e]; rfl,by omega⟩
 .rw [List.append_assoc]; exact NoM.ti _ _
theorem Ac2 {a b:Int} {f:Bool} {P Q:List Int} (i:NoM P) (g:NoM Q) (h:Gg a f++P=Gg b f++Q):(a<0↔b<0)/\P=Q:=by
 obtain ⟨c,m,rfl,hc⟩:=i
 obtain ⟨d,k,rfl,hd⟩:=g
 unfold Gg at h
 cases f with
 | true=>
  simp only [if_true] at h
  split at h <;> split at h
  .rename_i h1 h2; exact ⟨by simp [h1,h2],by simpa using h⟩
  .simp at h; exact (hd h.1.symm).elim
  .simp at h; exact (hc h.1).elim
  .rename_i h1 h2; exact ⟨by simp [h1,h2],by simpa using h⟩
 | false=>
  simp only [Bool.false_eq_true,if_false] at h
  split at h <;> split at h
  .rename_i h1 h2; exact ⟨by simp [h1,h2],by simpa using h⟩
  .simp at h
  .simp at h
  .rename_i h1 h2; exact ⟨by simp [h1,h2],by simpa using h⟩
theorem Ac3 {n:Int} {P X:List Int} (b:Gv X) (h:Gg n false++P=X):False:=by
 unfold Gg at h
 simp only [Bool.false_eq_true,if_false] at h
 split at h
 .have:=b _ _ h.symm; omega
 .have:=b _ _ h.symm; omega
theorem Aj6 {c d:Int} {f:Bool} {u:Ba} {m:List Ba} {X Y:List Int} (b:Gv X) (l:Gv Y) (h:F0 f [] c++X=F0 f (u::m) d++Y):False:=by
 simp only [F0,tT] at h
 split at h
 .simp only [List.append_assoc] at h
  obtain ⟨_,e⟩:=Ac2 (NoM.ti _ _) (NoM.pT _ _ _) h
  unfold Hi at e
  split at e
  .obtain ⟨s,m1,k,h1⟩:=Ac0 u.Var
   obtain ⟨q,m2,g,h2⟩:=Acz c.natAbs
   rw [k,g] at e
   simp only [List.nil_append,List.cons_append,List.cons.injEq] at e
   omega
  .simp only [List.append_assoc,List.cons_append,List.nil_append] at e
   obtain ⟨_,g⟩:=L0 _ _ _ _ (F5 _) (F5 _) b.nonum (Ac1 _) e
   have:=b _ _ g; omega
 .rename_i i
  have j:f=false:=by cases f with | true=>simp at i | false=>rfl
  subst j
  simp only [List.nil_append,List.append_assoc] at h
  exact Ac3 b h.symm
theorem Aj7:∀(l m:List Ba) (f:Bool) (c d:Int) (X Y:List Int),Gv X->Gv Y->F0 f l c++X=F0 f m d++Y->l=m/\c=d/\X=Y
 | [],[],f,c,d,X,Y,g,b,h=>by
  simp only [F0] at h
  split at h <;> split at h
  .simp only [List.append_assoc] at h
   obtain ⟨y,s⟩:=Ac2 (NoM.ti _ _) (NoM.ti _ _) h
   obtain ⟨q,i⟩:=L0 _ _ _ _ (F5 _) (F5 _) g.nonum b.nonum s
   have x:=Oz q
   exact ⟨rfl,by omega,i⟩
  .rename_i h1 h2
   have j:f=false:=by cases f with | true=>simp at h2 | false=>rfl
   subst j
   simp only [List.append_assoc,List.nil_append] at h
   exact (Ac3 b h).elim
  .rename_i h1 h2
   have j:f=false:=by cases f with | true=>simp at h1 | false=>rfl
   subst j
   simp only [List.append_assoc,List.nil_append] at h
   exact (Ac3 g h.symm).elim
  .rename_i h1 h2
   refine ⟨rfl,?_,by simpa using h⟩
   have a1:c=0:=by by_cases k:c=0; exact k; exact (h1 (.inl k)).elim
   have a2:d=0:=by by_cases k:d=0; exact k; exact (h2 (.inl k)).elim
   omega
 | [],u::m,f,c,d,X,Y,g,b,h=>(Aj6 g b h).elim
 | t::l,[],f,c,d,X,Y,g,b,h=>(Aj6 b g h.symm).elim
 | t::l,u::m,f,c,d,X,Y,g,b,h=>by
  simp only [F0,tT,List.append_assoc] at h
  obtain ⟨y,s⟩:=Ac2 (NoM.pT _ _ _) (NoM.pT _ _ _) h
  obtain ⟨q,i,x⟩:=Auw (Aj4 _ _ g) (Aj4 _ _ b) s
  obtain ⟨B,A,z⟩:=Aj7 l m false c d X Y g b x
  have:t=u:=by
   cases t; cases u
   simp only at y q i
   subst i
   congr 1; omega
  exact ⟨by rw [this,B],A,z⟩
def Fy (a:A3):List Int:=97::(ti a.Deg++58::Uf a.Lin)
def E5 (f:B4):List Int:=Hh f.Var f.Index
def Ug (m:Bf):List Int:=m.Factors.flatMap E5++m.Atoms.flatMap Fy
theorem Ym (l:List A3):Gv (l.flatMap Fy):=by
 cases l with
 | nil=>exact Gv.nil
 | cons a l=>simp only [List.flatMap_cons,Fy,List.cons_append]; exact Gv.cons _
theorem Yn (X:List Int):Ja (58::X):=by intro c m e; cases e; decide
theorem Aj8:∀(l m:List A3),l.flatMap Fy=m.flatMap Fy->l=m
 | [],[],_=>rfl
 | [],b::m,h=>by simp [Fy] at h
 | a::l,[],h=>by simp [Fy] at h
 | a::l,b::m,h=>by
  simp only [List.flatMap_cons,Fy,List.cons_append,List.append_assoc,List.cons.injEq,true_and] at h
  obtain ⟨s,q⟩:=L0 _ _ _ _ (F5 _) (F5 _) (Yn _) (Yn _) h
  have k:=(List.cons.inj q).2
  obtain ⟨g,f,j⟩:=Aj7 _ _ true _ _ _ _ (Ym l) (Ym m) k
  have i:=Aj8 l m j
  have c:=Oz s
  obtain ⟨⟨x,t1⟩,d1⟩:=a
  obtain ⟨⟨u,t2⟩,d2⟩:=b
  simp only at g f c
  rw [g,f,c,i]
theorem Aj9 (l:List B4) {X:List Int} (b:Gv X):M7 (l.flatMap E5++X):=by
 cases l with
 | nil=>intro c m e; rw [b c m e]; exact ⟨by decide,by decide⟩
 | cons a l=>
  intro c m e
  simp only [List.flatMap_cons,E5,Hh,List.cons_append] at e
  cases e; exact ⟨by decide,by decide⟩
theorem Aka:∀(l m:List B4) (X Y:List Int),Gv X->Gv Y->l.flatMap E5++X=m.flatMap E5++Y->l=m/\X=Y
 | [],[],X,Y,_,_,h=>⟨rfl,by simpa using h⟩
 | [],b::m,X,Y,f,_,h=>by
  simp only [List.flatMap_cons,List.flatMap_nil,E5,Hh,List.cons_append,List.nil_append] at h
  have:=f _ _ h; omega
 | a::l,[],X,Y,_,c,h=>by
  simp only [List.flatMap_cons,List.flatMap_nil,E5,Hh,List.cons_append,List.nil_append] at h
  have:=c _ _ h.symm; omega
 | a::l,b::m,X,Y,f,c,h=>by
  simp only [List.flatMap_cons,E5,Hh,List.cons_append,List.append_assoc,List.cons.injEq,true_and] at h
  obtain ⟨x,u⟩:=L0 _ _ _ _ (F5 _) (F5 _) (Yn _) (Yn _) h
  have s:=(List.cons.inj u).2
  obtain ⟨i,q⟩:=Acm _ _ _ _ (Aj9 l f) (Aj9 m c) s
  obtain ⟨k,j⟩:=Aka l m X Y f c q
  have g:=Oz x
  obtain ⟨y,i1⟩:=a
  obtain ⟨v2,i2⟩:=b
  simp only at i g
  exact ⟨by rw [i,g,k],j⟩
theorem Aux {m n:Bf} (h:Ug m=Ug n):m=n:=by
 obtain ⟨c,f⟩:=Aka _ _ _ _ (Ym _) (Ym _) h
 have b:=Aj8 _ _ f
 cases m; cases n
 simp only at c b
 rw [c,b]
def By (l:List Int):Prop:=∀c∈l,0<=c/\c<256
theorem By.app {l m:List Int} (h:By l) (h':By m):By (l++m):=by
 intro c hc
 rcases List.mem_append.1 hc with k | k
 .exact h c k
 .exact h' c k
theorem By.ti (n:Int):By (Go.Ab.ti n):=by
 intro c h
 have:=F5 n c h
 simp only [Lz,Bool.or_eq_true,Dq,beq_iff_eq,decide_eq_true_eq] at this
 omega
theorem By.cons {c:Int} {l:List Int} (hc:0<=c/\c<256) (h:By l):By (c::l):=by
 intro d hd
 rcases List.mem_cons.1 hd with rfl | k
 .exact hc
 .exact h d k
theorem By.nil:By []:=fun c h=>by cases h
theorem By.sgn (n:Int) (f:Bool):By (Gg n f):=by
 unfold Gg
 split <;> split <;> intro c hc <;> simp at hc <;> omega
theorem By.mag (n:Int):By (Hi n):=by
 unfold Hi
 split
 .exact By.nil
 .exact (By.ti _).app (By.cons (by omega) By.nil)
theorem By.var (n:Int):By (Gu n):=by
 unfold Gu
 split
 .intro c hc; simp at hc; omega
 .exact By.cons (by omega) (By.ti _)
theorem By.tT (f:Bool) (t:Ba):By (tT f t):=(By.sgn _ _).app ((By.mag _).app (By.var _))
theorem By.lins:∀(l:List Ba) (f:Bool) (c:Int),By (F0 f l c)
 | [],f,c=>by
  simp only [F0]
  split
  .exact (By.sgn _ _).app (By.ti _)
  .exact By.nil
 | t::l,f,c=>(By.tT f t).app (By.lins l false c)
theorem By.at (a:A3):By (Fy a):=By.cons (by omega) ((By.ti _).app (By.cons (by omega) (By.lins _ _ _)))
theorem By.flat {α:Type} {g:α->List Int} (h:∀a,By (g a)) (l:List α):By (l.flatMap g):=by
 intro c hc
 obtain ⟨a,_,k⟩:=List.mem_flatMap.1 hc
 exact h a c k
theorem By.fac (f:B4):By (E5 f):=Yf f.Var f.Index
theorem By.mono (m:Bf):By (Ug m):=(By.flat By.fac _).app (By.flat By.at _)
def bs (l:List Int):ByteArray:=⟨(En l).toArray⟩
theorem Auy {l m:List Int} (c:By l) (b:By m) (h:bs l=bs m):l=m:=by
 unfold bs at h
 have h1:(En l).toArray=(En m).toArray:=by injection h
 have h2:En l=En m:=by simpa using congrArg Array.toList h1
 exact Acp _ _ c b h2
def Ir (m:Bf):ByteArray:=bs (Ug m)
theorem Akb {m n:Bf} (h:Ir m=Ir n):m=n:=Aux (Auy (By.mono m) (By.mono n) h)
theorem Yo (l:List Int):(bs l).size=l.length:=by unfold bs En; simp [ByteArray.size]
theorem Akc {l:List Int} (h:By l):J3 (bs l)=l:=by
 unfold J3 bs En
 simp only [List.map_map]
 conv=>rhs; rw [<-List.map_id l]
 refine List.map_congr_left fun c hc=>?_
 have:=h c hc
 simp only [Function.comp,UInt8.toNat_ofNat',id]
 omega
theorem Auz (l m:List Int):bs l++bs m=bs (l++m):=by
 apply ByteArray.ext
 rw [ByteArray.data_append]
 unfold bs En
 simp
theorem O7 {l m:List Int} (h:l.length+m.length<=9223372036854775807):D7 (bs l) (bs m)=some (bs (l++m)):=by
 unfold D7
 rw [if_pos (by rw [Yo,Yo]; exact h),Auz]
theorem Yp {n:Int} (h:I64 n):Ld n=some (bs (ti n)):=by
 rw [Aco h]
 congr 2
 congr 1
 unfold En ti
 rw [List.map_map]
 conv=>lhs; rw [<-List.map_id (Lib.itoa n)]
 refine List.map_congr_left fun c _=>?_
 simp [Function.comp]
end Go.Ab
namespace Go.Ab
open Go
theorem Yq {S E R α:Type} {step:S->Option (S⊕E)} {s0:S} {J:E->Option R} {r:R} (c:α) (xs:List α) (b:Nat->S) (h0:s0=b 0) (h:xs.length<2305843009213693952)
  (f:∀(j:Nat) (x:α),xs[j]? = some x->decide (((j+1:Nat):Int)<((c::xs).length:Int))=true->Ag (c::xs) ((j+1:Nat):Int)=some x->Ac (((j+1:Nat):Int)+1)=((j+1+1:Nat):Int)->step (b j)=some (.inl (b (j+1))))
  (g:decide (((xs.length+1:Nat):Int)<((c::xs).length:Int))=false->∃e,step (b xs.length)=some (.inr e)/\J e=some r):(Ak step s0).bind J=some r:=by
 refine Gt xs.length b h0 (fun j hj=>?_) (g (by simp))
 have hx:xs[j]? = some xs[j]:=Ck hj
 exact f j _ hx (Al (by simp only [List.length_cons]; omega)) (Cd rfl (by simp)) (Dj (n:=xs.length+1) (by omega) (by omega))
theorem bnd {α β:Type} {X:Option α} {a:α} {K:α->Option β} {r:Option β} (h:X=some a) (k:K a=r):X.bind K=r:=by rw [h]; exact k
theorem Km {l b:List Int} (c:By l) (h:b.length+l.length<=140737488355328):Fg (bs l) b=some ((l.length:Int),b++l):=by
 simp only [Fg,Qu,Ae,Akc c,Yo]
 rw [Dm (by omega)]; rfl
theorem Rl {l b:List Int} (c:By l) (h:b.length+l.length<=140737488355328):Hu (bs l) b=some ((l.length:Int),b++l):=by
 simp only [Hu,S6,Ae,Akc c,Yo]
 rw [Dm (by omega)]; rfl
theorem Rm {b:List Int} (hb:By b):Jk b=some (bs b):=by
 exact if_pos hb
theorem Au0 {b:List Int} (hb:By b):Xh b=some (bs b):=Rm hb
theorem Ac4 (n:Int) (h : -1048576<=n/\n<=1048576):(Hi n).length<=22:=by
 unfold Hi
 split
 .simp
 .have:=Ki (n:=(n.natAbs:Int)) (by unfold I64; omega)
  simp; omega
theorem Yr (n:Int) (f:Bool):(Gg n f).length<=3:=by unfold Gg; split <;> split <;> simp
theorem Au1 {v:Int} (h : -1<=v/\v<3000):(Gu v).length<=22:=by
 unfold Gu
 split
 .simp
 .have:=Ki (n:=v) (by unfold I64; omega)
  simp; omega
structure Akd (a:Be):Prop where
 c : -1048576<=a.Const/\a.Const<=1048576
 n:a.Terms.length<=16
 t:∀t∈a.Terms,(-1<=t.Var/\t.Var<3000)/\(-1048576<=t.Coef/\t.Coef<=1048576)
theorem Ac5 {a:Be} (h:Cv a=true):Akd a:=by
 unfold Cv at h
 simp only [Dq,decide_eq_true_eq] at h
 refine ⟨⟨h.1.1,h.1.2.1⟩,h.1.2.2,fun t ht=>?_⟩
 obtain ⟨j,hj⟩:=List.getElem?_of_mem ht
 have:=Jq h.2 hj
 simp only [Uc,Dq,decide_eq_true_eq] at this
 omega
theorem Ac6 {t:Ba} (f:Bool) (h:(-1<=t.Var/\t.Var<3000)/\(-1048576<=t.Coef/\t.Coef<=1048576)):(tT f t).length<=47:=by
 have:=Yr t.Coef f
 have:=Ac4 t.Coef h.2
 have:=Au1 h.1
 unfold tT
 simp only [List.length_append]; omega
theorem Ake {n:Int} (h : -1048576<=n/\n<=1048576):(if Ac (0-n)>n then Ac (0-n) else n)=(n.natAbs:Int):=by
 rw [Ac,Bo (by omega) (by omega)]; split <;> omega
theorem c45:ByteArray.mk #[45]=bs [45]:=rfl
theorem Au2:ByteArray.mk #[32,45,32]=bs [32,45,32]:=rfl
theorem Au3:ByteArray.mk #[32,43,32]=bs [32,43,32]:=rfl
theorem c42:ByteArray.mk #[42]=bs [42]:=rfl
theorem Akf:ByteArray.mk #[118]=bs [118]:=rfl
theorem c97:ByteArray.mk #[97]=bs [97]:=rfl
theorem c58:ByteArray.mk #[58]=bs [58]:=rfl
theorem Akg:ByteArray.mk #[114,101,115]=bs [114,101,115]:=rfl
theorem Akh:By [45]:=By.cons (by omega) By.nil
theorem by3 (a b c:Int) (ha:0<=a/\a<256) (hb:0<=b/\b<256) (hc:0<=c/\c<256):By [a,b,c]:=By.cons ha (By.cons hb (By.cons hc By.nil))
theorem Aki {n:Int} (f:Bool) {b:List Int} (c : -1048576<=n/\n<=1048576) (hb:b.length<=1099511627776):Tt n f b=some ((n.natAbs:Int),b++Gg n f):=by
 unfold Tt Gg
 rw [Ake c,c45,Au2,Au3]
 rw [Km Akh (by simp; omega),Km (by3 _ _ _ (by omega) (by omega) (by omega)) (by simp; omega),Km (by3 _ _ _ (by omega) (by omega) (by omega)) (by simp; omega)]
 by_cases h:n<0
 .rw [Al h,if_pos h,if_pos h]; cases f <;> rfl
 .rw [Ar h,if_neg h,if_neg h]; cases f <;> simp
theorem Au4 {n:Int} {b:List Int} (c : -1048576<=n/\n<=1048576) (hb:b.length<=1099511627776):N5 n true b=some (if n<0 then .inl ((n.natAbs:Int),b++[45]) else .inr ((n.natAbs:Int),b)):=by
 unfold N5
 rw [Ake c,c45,Rl Akh (by simp; omega)]
 by_cases h:n<0
 .rw [Al h,if_pos h]; rfl
 .rw [Ar h,if_neg h]; rfl
theorem Ac7 {n:Nat} (h:n<=1048576):J8 (n:Int) 10=some (bs (ti n)):=by
 unfold J8 V9
 exact Yp (by unfold I64; omega)
theorem Ys {n:Nat} (h:n<=1048576):(ti (n:Int)).length<=21:=Ki (by unfold I64; omega)
theorem Akj {n:Int} {b:List Int} (c : -1048576<=n/\n<=1048576) (hb:b.length<=1099511627776) :
  (bif ((n.natAbs:Int) != (1:Int)) then (J8 (n.natAbs:Int) 10).bind fun v=>(D7 v (ByteArray.mk #[42])).bind fun u=>(Fg u b).bind fun w=>some w.2 else some b)=some (b++Hi n):=by
 have ht:=Ys (n:=n.natAbs) (by omega)
 unfold Hi
 by_cases h:n.natAbs=1
 .rw [Ge (by omega),if_pos h]; simp
 .rw [E9 (by omega),if_neg h,Ac7 (by omega),c42]
  simp only [cond_true,Ae]
  rw [O7 (by simp; omega),Ae,Km ((By.ti _).app (By.cons (by omega) By.nil)) (by simp; omega)]; rfl
theorem Ac8 {v:Int} {b:List Int} {R:Type} (K:List Int->Option R) (c : -1<=v/\v<3000) (hb:b.length<=1099511627776) :
  (bif (v==(-1)) then (Fg (ByteArray.mk #[114,101,115]) b).bind fun w=>K w.2 else (Gc v).bind fun x=>(D7 (ByteArray.mk #[118]) x).bind fun y=>(Fg y b).bind fun w=>K w.2)=K (b++Gu v):=by
 have ht:=Ki (n:=v) (by unfold I64; omega)
 unfold Gu
 by_cases h:v = -1
 .rw [Ez h,if_pos h,Akg,Km (by3 _ _ _ (by omega) (by omega) (by omega)) (by simp; omega)]; rfl
 .rw [Cu h,if_neg h,Akf]
  simp only [cond_false,Gc]
  rw [Yp (by unfold I64; omega),Ae,O7 (by simp; omega),Ae]
  rw [show [118]++ti v=118::ti v from rfl,Km (By.cons (by omega) (By.ti _)) (by simp; omega)]; rfl
theorem Yt {α:Type} {g:α->List Int} {l:List α} {j:Nat} {x:α} (h:l[j]? = some x):(l.take (j+1)).flatMap g=(l.take j).flatMap g++g x:=by
 rw [Dr h]; simp
theorem Akk {α:Type} {g:α->List Int} {n:Nat}:∀(l:List α),(∀a∈l,(g a).length<=n)->(l.flatMap g).length<=l.length*n
 | [],_=>by simp
 | a::l,h=>by
  have h1:=h a (by simp)
  have h2:=Akk l fun b hb=>h b (by simp [hb])
  simp only [List.flatMap_cons,List.length_append,List.length_cons,Nat.add_mul]; omega
theorem Ac9 {α:Type} {g:α->List Int} {n:Nat} (l:List α) (j:Nat) (h:∀a∈l,(g a).length<=n):((l.take j).flatMap g).length<=l.length*n:=by
 refine Nat.le_trans (Akk _ fun a ha=>h a (List.mem_of_mem_take ha)) (Nat.mul_le_mul_right _ ?_)
 rw [List.length_take]; omega
theorem Akl:∀(ts:List Ba) (c:Int),F0 false ts c=ts.flatMap (tT false)++F0 false [] c
 | [],c=>by simp
 | t::ts,c=>by
  have:=Akl ts c
  simp only [List.flatMap_cons,List.append_assoc,<-this]; rfl
theorem Au5 {a:Be} (h:Cv a=true) (B:a.Terms≠[]):Lq a=some (bs (Uf a)):=by
 have z:=Ac5 h
 unfold Lq
 rw [Kk,h]
 obtain ⟨c,l⟩:=a
 cases l with
 | nil=>exact (B rfl).elim
 | cons t ts=>
  have hc : -1048576<=c/\c<=1048576:=z.c
  have M:ts.length<=15:=by have:=z.n; simp at this; omega
  have ht:(-1<=t.Var/\t.Var<3000)/\(-1048576<=t.Coef/\t.Coef<=1048576):=z.t t (by simp)
  have s:∀u∈ts,(-1<=u.Var/\u.Var<3000)/\(-1048576<=u.Coef/\u.Coef<=1048576):=fun u hu=>z.t u (by simp [hu])
  have x:=fun j=>Ac9 (g:=tT false) (n:=47) ts j (fun u hu=>Ac6 false (s u hu))
  have J:=Ac6 true ht
  simp only [Ae,bnt,cond_false]
  rw [Al (by simp only [List.length_cons]; omega),cond_true]
  refine bnd (a:=((t.Coef.natAbs:Int),tT true t)) ?_ ?_
  .rw [show Ag (t::ts) 0=some t from rfl,Ae,Au4 ht.2 (by simp),Ae]
   have G:=Ki (n:=t.Var) (by unfold I64; omega)
   have I:=Ys (n:=t.Coef.natAbs) (by omega)
   have D:=Ac4 t.Coef ht.2
   by_cases q:t.Coef<0
   .rw [if_pos q]
    simp only
    rw [Akj ht.2 (by simp),Ae]
    refine (Ac8 (fun b=>some ((t.Coef.natAbs:Int),b)) ht.1 (by simp; omega)).trans ?_
    simp [tT,Gg,q]
   .rw [if_neg q]
    simp only
    by_cases h1:t.Coef.natAbs=1
    .rw [Ge (by omega)]
     simp only [cond_false]
     by_cases y:t.Var = -1
     .rw [Ez y,Akg,cond_true,Rl (by3 _ _ _ (by omega) (by omega) (by omega)) (by simp)]
      simp [tT,Gg,q,Hi,h1,Gu,y]
     .rw [Cu y,cond_false,Akf,Gc,Yp (by unfold I64; omega),Ae,O7 (by simp; omega),Ae,show [118]++ti t.Var=118::ti t.Var from rfl,
       Rl (By.cons (by omega) (By.ti _)) (by simp; omega)]
      simp [tT,Gg,q,Hi,h1,Gu,y]
    .rw [E9 (by omega)]
     simp only [cond_true]
     rw [Ac7 (by omega),Ae,c42,O7 (by simp; omega),Ae,Rl ((By.ti _).app (By.cons (by omega) By.nil)) (by simp; omega),Ae]
     refine (Ac8 (fun b=>some ((t.Coef.natAbs:Int),b)) ht.1 (by simp; omega)).trans ?_
     simp [tT,Gg,q,Hi,h1]
  .simp only
   refine Yq t ts (fun j=>(((j+1:Nat):Int),tT true t++(ts.take j).flatMap (tT false))) (by simp [Ac,Bo]) (by omega) ?_ ?_
   .intro j u hu h1 h2 h3
    have f:=s u (Cx hu)
    have:=x j
    have D:=Ac4 u.Coef f.2
    have A:=Yr u.Coef false
    simp only [h1,h2,h3,cond_true,Ae]
    rw [Cu (by omega),Aki false f.2 (by simp only [List.length_append]; omega),Ae,Akj f.2 (by simp only [List.length_append]; omega),Ae]
    refine (Ac8 (R:=(Int×List Int)⊕List Int) (fun b=>some (.inl (((j+1+1:Nat):Int),b))) f.1 (by simp only [List.length_append]; omega)).trans ?_
    rw [Yt hu]
    simp [tT]
   .intro h1
    have h2:=x ts.length
    rw [List.take_length] at h2
    refine ⟨tT true t++ts.flatMap (tT false),by simp only [h1,cond_false,List.take_length],?_⟩
    have E:By (tT true t++ts.flatMap (tT false)):=(By.tT _ _).app (By.flat (By.tT _) _)
    have e:Uf ⟨c,t::ts⟩=tT true t++ts.flatMap (tT false)++F0 false [] c:=by
     have:=Akl ts c
     rw [List.append_assoc,<-this]; rfl
    rw [e]
    have k:((((t::ts).length:Nat):Int)==(0:Int))=false:=Cu (by simp only [List.length_cons]; omega)
    by_cases i:c=0
    .simp only [Ge i,cond_false,k,Ae]
     rw [Rm E]
     simp [F0,i]
    .have L:=Ys (n:=c.natAbs) (by omega)
     have A:=Yr c false
     simp only [E9 i,cond_true,Ae,k]
     rw [Aki false hc (by simp only [List.length_append]; omega),Ae,Ac7 (by omega),Ae,Km (By.ti _) (by simp only [List.length_append]; omega),Ae,
      Rm ((E.app (By.sgn _ _)).app (By.ti _))]
     simp [F0,i]
theorem Akm {a:Be} (h:Akd a):(Uf a).length<=1024:=by
 have key:∀(l:List Ba) (f:Bool),(∀t∈l,(-1<=t.Var/\t.Var<3000)/\(-1048576<=t.Coef/\t.Coef<=1048576))->(F0 f l a.Const).length<=47*l.length+24:=by
  intro l
  induction l with
  | nil=>
   intro f _
   have h1:=Ys (n:=a.Const.natAbs) (by have:=h.c; omega)
   have h2:=Yr a.Const f
   simp only [F0]
   split <;> simp <;> omega
  | cons t l ih=>
   intro f b
   have h1:=Ac6 f (b t (by simp))
   have h2:=ih false fun u hu=>b u (by simp [hu])
   simp only [F0,List.length_append,List.length_cons]; omega
 have:=key a.Terms true h.t
 have:=h.n
 unfold Uf; omega
structure CMo (m:Bf):Prop where
 sz:MSz m
 nf:m.Factors.length<=6
 na:m.Atoms.length<=6
 al:∀a∈m.Atoms,Cv a.Lin=true/\a.Lin.Terms≠[]/\1<=a.Deg/\a.Deg<=6
theorem Yu {R:Type} {a:A3} (K:ByteArray->Option R) (h:Cv a.Lin=true/\a.Lin.Terms≠[]/\1<=a.Deg/\a.Deg<=6) :
  ((Gc a.Deg).bind fun u=>(D7 (ByteArray.mk #[97]) u).bind fun v=>(D7 v (ByteArray.mk #[58])).bind fun w=>(Lq a.Lin).bind fun x=>(D7 w x).bind fun y=>K y)=K (bs (Fy a)):=by
 have h1:=Ki (n:=a.Deg) (by unfold I64; omega)
 have h2:=Akm (Ac5 h.1)
 rw [Gc,Yp (by unfold I64; omega),Ae,c97,O7 (by simp; omega),Ae,c58,O7 (by simp; omega),Ae,Au5 h.1 h.2.1,Ae,O7 (by simp; omega),Ae]
 simp [Fy]
theorem Uh {a:A3} (h:Cv a.Lin=true/\a.Lin.Terms≠[]/\1<=a.Deg/\a.Deg<=6):(Fy a).length<=1100:=by
 have h1:=Ki (n:=a.Deg) (by unfold I64; omega)
 have h2:=Akm (Ac5 h.1)
 simp [Fy]; omega
theorem Ada {f:B4} (h:Dk f.Index<=1048576) (b:iR f.Index/\I64 f.Var):(E5 f).length<=33554432:=by
 have h1:=Ki b.2
 have h2:=Acn f.Index b.1
 simp [E5,Hh]; omega
theorem Au6 {m:Bf} (h:CMo m):Sk m=some (Ir m):=by
 obtain ⟨fs,c⟩:=m
 have q:∀f∈fs,Dk f.Index<=1048576/\iR f.Index/\I64 f.Var:=fun f i=>⟨h.sz.fi f i,h.sz.fr f i⟩
 have u:∀a∈c,Cv a.Lin=true/\a.Lin.Terms≠[]/\1<=a.Deg/\a.Deg<=6:=h.al
 have nf:fs.length<=6:=h.nf
 have na:c.length<=6:=h.na
 have A:=fun (l:List B4) (x:∀f∈l,f∈fs) (j:Nat)=>Ac9 (g:=E5) (n:=33554432) l j (fun f i=>Ada (q f (x f i)).1 (q f (x f i)).2)
 have D:=fun (l:List A3) (x:∀a∈l,a∈c) (j:Nat)=>Ac9 (g:=Fy) (n:=1100) l j (fun a ha=>Uh (u a (x a ha)))
 have M:∀l:List B4,By (l.flatMap E5):=fun l=>By.flat By.fac l
 have G:∀l:List A3,By (l.flatMap Fy):=fun l=>By.flat By.at l
 have key:∀f:B4,f∈fs->Lp f.Var f.Index=some (bs (E5 f)):=fun f i=>Ajc f.Var f.Index (q f i).2.2 (q f i).2.1 (q f i).1
 unfold Sk Ir Ug
 cases fs with
 | nil=>
  rw [Ar (by simp),cond_false]
  cases c with
  | nil=>
   rw [Ar (by simp),cond_false]
   rw [Au0 By.nil]; rfl
  | cons a c=>
   have ha:=u a (by simp)
   have y:=Uh ha
   rw [Al (by simp only [List.length_cons]; omega),cond_true,show Ag (a::c) 0=some a from rfl,Ae]
   refine (Yu _ ha).trans ?_
   rw [Rl (By.at a) (by simp; omega),Ae]
   refine Yq a c (fun j=>(((j+1:Nat):Int),[]++Fy a++(c.take j).flatMap Fy)) (by simp [Ac,Bo]) (by simp at na; omega) ?_ ?_
   .intro j b hb h1 h2 h3
    have k:=u b (by simp [Cx hb])
    have:=Uh k
    have:=D c (fun b hb=>by simp [hb]) j
    simp at na
    simp only [h1,h2,h3,cond_true,Ae]
    refine (Yu _ k).trans ?_
    rw [Km (By.at b) (by simp only [List.length_append,List.length_nil]; omega),Ae,Yt hb]
    simp
   .intro h1
    refine ⟨[]++Fy a++c.flatMap Fy,by simp only [h1,cond_false,List.take_length],?_⟩
    dsimp only
    rw [Rm ((By.nil.app (By.at a)).app (G c))]
    simp
 | cons f fs=>
  have i:=q f (by simp)
  have L:=Ada i.1 i.2
  rw [Al (by simp only [List.length_cons]; omega),cond_true,show Ag (f::fs) 0=some f from rfl,Ae,key f (by simp),Ae,Rl (By.fac f) (by simp; omega),Ae]
  refine Yq f fs (fun j=>(((j+1:Nat):Int),[]++E5 f++(fs.take j).flatMap E5)) (by simp [Ac,Bo]) (by simp at nf; omega) ?_ ?_
  .intro j g E h1 h2 h3
   have s:g∈f::fs:=by simp [Cx E]
   have:=Ada (q g s).1 (q g s).2
   have:=A fs (fun b hb=>by simp [hb]) j
   simp at nf
   simp only [h1,h2,h3,cond_true,Ae]
   rw [key g s,Ae,Km (By.fac g) (by simp only [List.length_append,List.length_nil]; omega),Ae,Yt E]
   simp
  .intro h1
   have I:=A fs (fun b hb=>by simp [hb]) fs.length
   rw [List.take_length] at I
   simp at nf
   refine ⟨[]++E5 f++fs.flatMap E5,by simp only [h1,cond_false,List.take_length],?_⟩
   have z:By ([]++E5 f++fs.flatMap E5):=(By.nil.app (By.fac f)).app (M fs)
   have J:([]++E5 f++fs.flatMap E5).length<=234881024:=by simp only [List.length_append,List.length_nil]; omega
   have eB:(f::fs).flatMap E5 = []++E5 f++fs.flatMap E5:=by simp
   rw [eB]
   generalize []++E5 f++fs.flatMap E5=B at z J
   cases c with
   | nil=>
    rw [Ar (by simp),cond_false,Rm z]; simp
   | cons a c=>
    have ha:=u a (by simp)
    have y:=Uh ha
    rw [Al (by simp only [List.length_cons]; omega),cond_true,show Ag (a::c) 0=some a from rfl,Ae]
    refine (Yu _ ha).trans ?_
    rw [Km (By.at a) (by omega),Ae]
    refine Yq a c (fun j=>(((j+1:Nat):Int),B++Fy a++(c.take j).flatMap Fy)) (by simp [Ac,Bo]) (by simp at na; omega) ?_ ?_
    .intro j b hb h1 h2 h3
     have k:=u b (by simp [Cx hb])
     have:=Uh k
     have:=D c (fun b hb=>by simp [hb]) j
     simp at na
     simp only [h1,h2,h3,cond_true,Ae]
     refine (Yu _ k).trans ?_
     rw [Km (By.at b) (by simp only [List.length_append]; omega),Ae,Yt hb]
     simp
    .intro h1
     refine ⟨B++Fy a++c.flatMap Fy,by simp only [h1,cond_false,List.take_length],?_⟩
     dsimp only
     rw [Rm ((z.app (By.at a)).app (G c))]
     simp
end Go.Ab
namespace Go.Ab
open Go
def plc (ts:List Aj):List (ByteArray×Int):=ts.zipIdx.map fun q=>(Ir q.1.Mono,(q.2:Int))
def Dst (ts:List Aj):Prop:=ts.Pairwise fun t u=>t.Mono≠u.Mono
theorem Au7 (ts:List Aj) (t:Aj):plc (ts++[t])=plc ts++[(Ir t.Mono,(ts.length:Int))]:=by
 unfold plc; simp [List.zipIdx_append]
theorem Ui (ts:List Aj) (j:Nat):(plc ts)[j]? = (ts[j]?).map fun t=>(Ir t.Mono,(j:Int)):=by
 unfold plc; simp [List.getElem?_map,List.getElem?_zipIdx]
 cases ts[j]? <;> rfl
theorem Au8 {ts:List Aj} {j:Nat} {t u:Aj} (h:ts[j]? = some t) (b:u.Mono=t.Mono):plc (ts.set j u)=plc ts:=by
 apply List.ext_getElem?
 intro i
 rw [Ui,Ui,List.getElem?_set]
 by_cases e:j=i
 .subst e
  rw [if_pos rfl,if_pos (Ep h),h]; simp [b]
 .rw [if_neg e]
theorem Akn {α:Type}:∀(o:List (ByteArray×α)) (s:ByteArray) (v:α),Ec o s=false->Ek o s v=o++[(s,v)]
 | [],_,_,_=>rfl
 | p::o,s,v,h=>by
  simp only [Ec,List.any_cons,Bool.or_eq_false_iff] at h
  simp only [Ek,h.1,cond_false,List.cons_append,List.cons.injEq,true_and]
  exact Akn o s v h.2
theorem Au9 {ts:List Aj} {m:Bf} (h:∀t∈ts,t.Mono≠m):Ec (plc ts) (Ir m)=false:=by
 unfold Ec
 rw [List.any_eq_false]
 intro p hp
 obtain ⟨j,hj⟩:=List.getElem?_of_mem hp
 rw [Ui] at hj
 cases ht:ts[j]? with
 | none=>rw [ht] at hj; cases hj
 | some t=>
  rw [ht] at hj
  simp only [Option.map_some,Option.some.injEq] at hj
  subst hj
  intro e
  have e:=(Oy _ _).1 e
  exact h t (Cx ht) (Akb e).symm
theorem Ava {ts:List Aj} (hd:Dst ts) {j:Nat} {t:Aj} (h:ts[j]? = some t):Ec (plc ts) (Ir t.Mono)=true/\G0 (plc ts) (Ir t.Mono) 0=(j:Int):=by
 have hp:(plc ts)[j]? = some (Ir t.Mono,(j:Int)):=by rw [Ui,h]; rfl
 refine ⟨List.any_eq_true.2 ⟨_,Cx hp,(Oy _ _).2 rfl⟩,?_⟩
 unfold G0
 have c:(plc ts).find? (fun p=>Ir t.Mono==p.1)=some (Ir t.Mono,(j:Int)):=by
  cases c:(plc ts).find? (fun p=>Ir t.Mono==p.1) with
  | none=>
   have:=List.find?_eq_none.1 c _ (Cx hp)
   exact (this ((Oy _ _).2 rfl)).elim
  | some q=>
   have h1:=List.find?_some c
   obtain ⟨i,b⟩:=List.getElem?_of_mem (List.mem_of_find?_eq_some c)
   rw [Ui] at b
   cases hu:ts[i]? with
   | none=>rw [hu] at b; cases b
   | some u=>
    rw [hu] at b
    simp only [Option.map_some,Option.some.injEq] at b
    subst b
    have e:=Akb ((Oy _ _).1 h1)
    have l:i=j:=by
     have g:=Ep hu
     have f:=Ep h
     rw [Ck g] at hu
     rw [Ck f] at h
     rcases Nat.lt_trichotomy i j with k | k | k
     .have:=List.pairwise_iff_getElem.1 hd i j g f k
      rw [Option.some.inj hu,Option.some.inj h] at this
      exact (this e.symm).elim
     .exact k
     .have:=List.pairwise_iff_getElem.1 hd j i f g k
      rw [Option.some.inj hu,Option.some.inj h] at this
      exact (this e).elim
    subst l
    rw [e]
 rw [c]; rfl
open Classical in
theorem Uj (t:Aj) (p:List Aj) (m:Bf):cf (t::p) m=(if t.Mono=m then rq t.Coef else 0)+cf p m:=by
 simp only [cf]
 by_cases e:t.Mono=m
 .rw [if_pos (Kl.2 e),if_pos e]
 .rw [if_neg (fun h=>e (Kl.1 h)),if_neg e]
open Classical in
theorem Ako:∀{ts:List Aj} {j:Nat} {t u:Aj},ts[j]? = some t->u.Mono=t.Mono->∀m,cf (ts.set j u) m=cf ts m+(if t.Mono=m then rq u.Coef-rq t.Coef else 0)
 | [],j,t,u,h,_,m=>by simp at h
 | s::ts,0,t,u,h,hm,m=>by
  simp only [List.getElem?_cons_zero,Option.some.injEq] at h
  subst h
  rw [List.set_cons_zero,Uj,Uj,hm]
  split <;> grind
 | s::ts,j+1,t,u,h,hm,m=>by
  simp only [List.getElem?_cons_succ] at h
  rw [List.set_cons_succ,Uj,Uj,Ako h hm m]
  grind
theorem Dst.set {ts:List Aj} (h:Dst ts) {j:Nat} {t u:Aj} (ht:ts[j]? = some t) (b:u.Mono=t.Mono):Dst (ts.set j u):=by
 have e:(ts.set j u).map (·.Mono)=ts.map (·.Mono):=by
  apply List.ext_getElem?
  intro i
  rw [List.getElem?_map,List.getElem?_map,List.getElem?_set]
  by_cases e:j=i
  .subst e; rw [if_pos rfl,if_pos (Ep ht),ht]; simp [b]
  .rw [if_neg e]
 have k:∀l:List Aj,Dst l↔(l.map (·.Mono)).Pairwise (·≠·):=fun l=>by rw [List.pairwise_map]; exact Iff.rfl
 rw [k,e,<-k]; exact h
structure Col (k:Nat) (P:Bf->Prop) (ts:List Aj):Prop where
 dst:Dst ts
 tb:∀t∈ts,RB k t.Coef
 mo:∀t∈ts,P t.Mono
theorem Col.nil (k:Nat) (P:Bf->Prop):Col k P []:=⟨List.Pairwise.nil,fun _ h=>(by cases h),fun _ h=>(by cases h)⟩
theorem Uk {k0 k:Nat} {P:Bf->Prop} (M:∀m,P m->CMo m) (l ts:List Aj) (D:Col k0 P ts) (L:∀t∈l,RB k t.Coef/\P t.Mono) (hk:k<=k0) (V:k0+l.length*(k+3)<34359738000) (U:ts.length+l.length<=1099511627776) :
  ∃f,H9 l (plc ts) ts=some (plc f,f)/\Col (k0+l.length*(k+3)) P f/\f.length<=ts.length+l.length/\∀m,cf f m=cf ts m+cf l m:=by
 unfold H9
 refine Xo (A:=List Aj) (fun f=>(plc f,f)) ?_
 refine Ew (fun s=>∃(j:Nat) (u:List Aj),s=((j:Int),plc u,u)/\j<=l.length/\Col (k0+j*(k+3)) P u/\u.length<=ts.length+j/\∀m,cf u m=cf ts m+cf (l.take j) m) (fun s=>l.length-s.1.toNat)
  (fun z=>∃u,z=(plc u,u)/\Col (k0+l.length*(k+3)) P u/\u.length<=ts.length+l.length/\∀m,cf u m=cf ts m+cf l m) ⟨0,ts,rfl,by omega,by simpa using D,by omega,fun m=>by simp only [List.take_zero,cf]; grind⟩ ?_ ?_
 .rintro _ ⟨j,u,rfl,hj,hu,B,y⟩
  rcases Nat.lt_or_ge j l.length with h | h
  .have hx:l[j]? = some l[j]:=Ck h
   generalize l[j]=x at hx
   obtain ⟨hb,I⟩:=L x (Cx hx)
   have G:j*(k+3)+(k+3)<=l.length*(k+3):=by rw [<-Nat.succ_mul]; exact Nat.mul_le_mul_right _ h
   have E:(j+1)*(k+3)=j*(k+3)+(k+3):=by rw [Nat.succ_mul]
   simp only [Al (by omega:(j:Int)<(l.length:Int)),cond_true,Cd rfl hx,Ae,Au6 (M _ I),Dj h (by omega)]
   left
   by_cases hex:∃t∈u,t.Mono=x.Mono
   .obtain ⟨t,ht,J⟩:=hex
    obtain ⟨i,q⟩:=List.getElem?_of_mem ht
    obtain ⟨g1,g2⟩:=Ava hu.dst q
    rw [J] at g1 g2
    obtain ⟨c,S,_,R,X,N⟩:=Auh (hu.tb t ht) hb (by omega) (by omega)
    refine ⟨((j+1:Nat),plc (u.set i ⟨c,t.Mono⟩),u.set i ⟨c,t.Mono⟩),?_,⟨j+1,u.set i ⟨c,t.Mono⟩,rfl,by omega,⟨hu.dst.set q rfl,?_,?_⟩,by rw [List.length_set]; omega,fun m=>?_⟩,by simp; omega⟩
    .simp only [g1,g2,cond_true,Ae,Cd rfl q,S,Ey rfl,Au8 (u:=⟨c,t.Mono⟩) q rfl]
    .intro w hw
     rcases List.mem_or_eq_of_mem_set hw with hw | rfl
     .exact (hu.tb w hw).mono (by omega)
     .exact R.mono (by omega)
    .intro w hw
     rcases List.mem_or_eq_of_mem_set hw with hw | rfl
     .exact hu.mo w hw
     .exact hu.mo t ht
    .rw [Ako (u:=⟨c,t.Mono⟩) q rfl m,y m,Dr hx,Rk,Uj]
     simp only [N,J,cf]
     split <;> grind
   .have g:=Au9 (m:=x.Mono) (ts:=u) fun t ht e=>hex ⟨t,ht,e⟩
    refine ⟨((j+1:Nat),plc (u++[x]),u++[x]),?_,⟨j+1,u++[x],rfl,by omega,⟨?_,?_,?_⟩,by simp; omega,fun m=>?_⟩,by simp; omega⟩
    .simp only [g,cond_false,Ae]
     rw [Dm (by simp; omega),Ae,Akn _ _ _ g,Au7]
    .refine List.pairwise_append.2 ⟨hu.dst,List.pairwise_singleton _ _,fun a ha b hb=>?_⟩
     simp only [List.mem_singleton] at hb
     subst hb
     exact fun e=>hex ⟨a,ha,e⟩
    .intro w hw
     rcases List.mem_append.1 hw with hw | hw
     .exact (hu.tb w hw).mono (by omega)
     .simp only [List.mem_singleton] at hw
      subst hw
      exact hb.mono (by omega)
    .intro w hw
     rcases List.mem_append.1 hw with hw | hw
     .exact hu.mo w hw
     .simp only [List.mem_singleton] at hw
      subst hw
      exact I
    .rw [Rk,y m,Dr hx,Rk]; grind
  .have:j=l.length:=by omega
   subst this
   rw [List.take_length] at y
   simp only [Ar (by omega:¬(l.length:Int)<(l.length:Int)),cond_false]
   exact .inr ⟨_,rfl,u,rfl,hu,B,y⟩
 .rintro _ ⟨u,rfl,h1,h2,h3⟩
  exact ⟨_,rfl,u,rfl,h1,h2,h3⟩
end Go.Ab
