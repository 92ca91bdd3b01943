/- Plain laws: what the plain functions answer. -/
import Derived.Test.YtpedagkdpokpkaaGreatDoorWcPl1
import Derived.KernelRfl
namespace Go.Ab
open Go
mutual
theorem Amn (data:List A7):∀(i:Br) (t:Aj) (d:Nat),It data i t=some d->d<=6*Di i
 | ⟨n,kids⟩,t,d,h=>by
  rw [Al8] at h
  simp only [Di]
  simp only at h
  split at h
  .split at h
   .have:=Wx data kids _ d h; omega
   .cases h
  .split at h
   .split at h
    .cases h; omega
    .cases h
   .split at h
    .split at h
     .have:=Amo data kids _ d h; omega
     .cases h
    .split at h
     .cases h; omega
     .cases h
theorem Wx (data:List A7):∀(is:List Br) (ts:List Aj) (d:Nat),F4 data is ts=some d->d<=6*Fq is
 | [],[],d,h=>by simp only [F4] at h; cases h; omega
 | i::is,t::ts,d,h=>by
  rw [Afd] at h
  cases h1:It data i t with
  | none=>rw [h1] at h; cases h
  | some a=>
   rw [h1,Ad] at h
   cases h2:F4 data is ts with
   | none=>rw [h2] at h; cases h
   | some b=>
    rw [h2] at h
    cases h
    have:=Amn data i t a h1
    have:=Wx data is ts b h2
    simp only [Fq]; omega
 | [],_::_,d,h=>by simp only [F4] at h; cases h
 | _::_,[],d,h=>by simp only [F4] at h; cases h
theorem Amo (data:List A7):∀(es:List Br) (t:Aj) (d:Nat),J5 data es t=some d->d<=6*Fq es
 | [],t,d,h=>by simp only [J5] at h; cases h; omega
 | ⟨n,kids⟩::es,t,d,h=>by
  rw [Al9] at h
  simp only at h
  cases h1:Lp data t n with
  | none=>rw [h1] at h; cases h
  | some ts=>
   rw [h1,Ad] at h
   cases h2:F4 data kids ts with
   | none=>rw [h2] at h; cases h
   | some a=>
    rw [h2,Ad] at h
    cases h3:J5 data es t with
    | none=>rw [h3] at h; cases h
    | some b=>
     rw [h3] at h
     cases h
     have:=Wx data kids ts a h2
     have:=Amo data es t b h3
     simp only [Fq,Di]; omega
end
def Tp (data:List A7) (e:Br) (t:Aj):Option Nat:=(Lp data t e.Num).bind fun ts=>(F4 data e.Kids ts).map (1 + ·)
theorem Axz (data:List A7) (e:Br) (es:List Br) (t:Aj):J5 data (e::es) t=(Tp data e t).bind fun a=>(J5 data es t).map (a + ·):=by
 rw [Al9]; unfold Tp
 cases Lp data t e.Num with
 | none=>rfl
 | some ts=>simp only [Ad]; cases F4 data e.Kids ts <;> rfl
theorem Ax0 (data:List A7) (e:Br) (t:Aj) (d:Nat) (h:Tp data e t=some d):d<=6*Di e:=by
 unfold Tp at h
 cases h1:Lp data t e.Num with
 | none=>rw [h1] at h; cases h
 | some ts=>
  rw [h1,Ad] at h
  cases h2:F4 data e.Kids ts with
  | none=>rw [h2] at h; cases h
  | some a=>
   rw [h2] at h
   cases h
   have:=Wx data _ ts a h2
   have:=Ha e
   show 1+a<=_
   omega
def Dg (v:Int) (o:Option Nat):Prop:=(v = -1/\∀d,o=some d->6<d)\/∃d:Nat,o=some d/\v=d
theorem Dg.clip {v:Int} {o:Option Nat} (h:Dg v o):(if v>6 then -1 else v)=Jf o:=by
 rcases h with ⟨rfl,h⟩ | ⟨d,rfl,rfl⟩
 .rw [if_neg (by omega),Axq h]
 .by_cases hd:6<d
  .rw [if_pos (by omega),Afe hd]
  .rw [if_neg (by omega),Amb (by omega)]
theorem Aax {o p:Option Nat} {acc:Nat} {d:Nat} (h:(o.bind fun a=>p.map (a + ·)).map (acc + ·)=some d):∃a b,o=some a/\p=some b/\d=acc+(a+b):=by
 cases o with
 | none=>cases h
 | some a=>
  cases p with
  | none=>cases h
  | some b=>exact ⟨a,b,rfl,rfl,by simp at h; omega⟩
theorem Ax1 {data:List A7} (hz:Szv data) (hs:Wu data) (b1:List (ByteArray×Int)) (b2:List (ByteArray×List Bz)) (vars:List Aj) (N M:Int) (L:List Aj):∀k:Nat,
  (∀(i:Br) (t:Aj),3*Di i<=k->Di i<=1048576->B3 t<=200->∃v,Ok k t i b1 b2 data vars N M L=some v/\Dg v (It data i t)) /\
  (∀(f:List Br) (ts:List Aj),3*Fq f+1<=k->Fq f<=1048576->(∀t∈ts,B3 t<=200)->∃v,Qi k ts f b1 b2 data vars N M L=some v/\Dg v (F4 data f ts)) /\
  (∀(e:Br) (t:Aj),3*Di e<=k->Di e<=1048576->B3 t<=200->∃v,Qj k t e b1 b2 data vars N M L=some v/\Dg v (Tp data e t)):=by
 intro k
 induction k with
 | zero=>exact ⟨fun i t h=>by have:=Ha i; omega,fun f ts h=>by omega,fun i t h=>by have:=Ha i; omega⟩
 | succ k ih=>
  obtain ⟨a6,R,a7⟩:=ih
  have D:∀o:Option Nat,o.map (0 + ·)=o:=by intro o; cases o <;> simp
  have c:∀d:Nat,(none:Option Nat)=some d->6<d:=fun d h=>by cases h
  refine ⟨?_,?_,?_⟩
  .intro i t hk hi ht
   have af:=Ha i
   have U:=Tn i.Kids
   rw [Ok,Al8]
   by_cases Z:t.Kind=6
   .simp only [En Z,cond_true,if_pos Z]
    by_cases h0:i.Num=0
    .simp only [En h0,cond_true,if_pos h0]
     obtain ⟨p,p1,p2⟩:=R i.Kids t.Args (by omega) (by omega) (fun a ha=>by have:=Lo ha; have:=Ks t; omega)
     rw [p1]
     exact ⟨p,rfl,p2⟩
    .simp only [Cr h0,cond_false,if_neg h0]
     exact ⟨_,rfl,.inl ⟨rfl,c⟩⟩
   .simp only [Cr Z,cond_false,if_neg Z]
    by_cases Y:t.Kind=7
    .simp only [En Y,cond_true,if_pos Y]
     by_cases a1:0<=i.Num
     .by_cases a2:i.Num<=6
      .by_cases a3:i.Kids.length=0
       .rw [Al (show i.Num>=0 from a1),Al a2,if_pos ⟨a1,a2,a3⟩,En (by omega)]
        exact ⟨_,rfl,.inr ⟨i.Num.toNat,rfl,by omega⟩⟩
       .rw [Al (show i.Num>=0 from a1),Al a2,if_neg (fun h=>a3 h.2.2),Cr (by omega)]
        exact ⟨_,rfl,.inl ⟨rfl,c⟩⟩
      .rw [Al (show i.Num>=0 from a1),Aq a2,if_neg (fun h=>a2 h.2.1)]
       exact ⟨_,rfl,.inl ⟨rfl,c⟩⟩
     .rw [Aq (show ¬i.Num>=0 from a1),if_neg (fun h=>a1 h.1)]
      exact ⟨_,rfl,.inl ⟨rfl,c⟩⟩
    .simp only [Cr Y,cond_false,if_neg Y]
     by_cases h5:t.Kind=5
     .simp only [En h5,cond_true,if_pos h5]
      by_cases h0:i.Num=0
      .simp only [E8 h0,cond_false,if_pos h0]
       have key:∀(m j acc:Nat),j+m=i.Kids.length->acc<=10000000->∃z,Am (S:=(Int×Int)) (E:=(Int⊕Int)) (fun (G,v8)=>
         bif (decide (v8<(i.Kids.length:Int))) then (
         (Ag i.Kids v8).bind fun v9=>
         (Qj k t v9 b1 b2 data vars N M L).bind fun I=>
         bif (decide (I<(0:Int))) then some (.inr (.inl (-1)))
         else (
         bif (decide (G>(6:Int))) then some (.inr (.inl (-1)))
         else some (.inl ((Ac (G+I)),(Ac (v8+1))))))
         else some (.inr (.inr G))) ((acc:Int),(j:Int))=some z/\Dg (match z with | .inl v=>v | .inr v=>v) ((J5 data (i.Kids.drop j) t).map (acc + ·)):=by
        intro m
        induction m with
        | zero=>
         intro j acc hj A
         have:j=i.Kids.length:=by omega
         subst this
         exact ⟨.inr (acc:Int),Dw (by simp),.inr ⟨acc,by simp [J5],rfl⟩⟩
        | succ m s=>
         intro j acc hj A
         have g:i.Kids[j]? = some i.Kids[j]:=B2 (by omega)
         generalize i.Kids[j]=e at g
         have ac:=Q5 (Cp g)
         rw [Iu g,Axz]
         obtain ⟨v,B,v2⟩:=a7 e t (by omega) (by omega) ht
         rcases v2 with ⟨rfl,v2⟩ | ⟨a,a1,rfl⟩
         .refine ⟨.inl (-1),Dw ?_,.inl ⟨rfl,fun d h=>?_⟩⟩
          .simp only [Al (by omega:(j:Int)<(i.Kids.length:Int)),cond_true,Cf rfl g,Ad,B]; rfl
          .obtain ⟨a,b,ha,hb,rfl⟩:=Aax h
           have:=v2 a ha; omega
         .have V:=Ax0 data e t a a1
          by_cases hb:acc>6
          .refine ⟨.inl (-1),Dw ?_,.inl ⟨rfl,fun d h=>?_⟩⟩
           .simp only [Al (by omega:(j:Int)<(i.Kids.length:Int)),cond_true,Cf rfl g,Ad,B,Aq (by omega:¬(a:Int)<0),Al (by omega:(acc:Int)>6),cond_false]
           .obtain ⟨a,b,ha,hb,rfl⟩:=Aax h
            omega
          .have ew:Ac ((acc:Int)+(a:Int))=((acc+a:Nat):Int):=by rw [Ac,Bw] <;> omega
           obtain ⟨z,q,z2⟩:=s (j+1) (acc+a) (by omega) (by omega)
           refine ⟨z,?_,?_⟩
           .rw [G6 (s':=(((acc+a:Nat):Int),((j+1:Nat):Int)))]
            .exact q
            .simp only [Al (by omega:(j:Int)<(i.Kids.length:Int)),cond_true,Cf rfl g,Ad,B,Aq (by omega:¬(a:Int)<0),Aq (by omega:¬(acc:Int)>6),cond_false,ew,C7 (show j<i.Kids.length by omega) (by omega)]
           .have D:∀o:Option Nat,(((some a:Option Nat).bind fun a=>o.map (a + ·)).map (acc + ·))=o.map (acc+a + ·):=by
             intro o; cases o <;> simp [Nat.add_assoc]
            rw [a1,D]
            exact z2
       obtain ⟨z,q,z2⟩:=key i.Kids.length 0 0 (by omega) (by omega)
       have q:Am _ ((0:Int),(0:Int))=some z:=q
       rw [q,Ad]
       rw [List.drop_zero,D] at z2
       cases z with
       | inl v=>exact ⟨v,rfl,z2⟩
       | inr v=>exact ⟨v,rfl,z2⟩
      .simp only [Eo h0,cond_true,if_neg h0]
       exact ⟨_,rfl,.inl ⟨rfl,c⟩⟩
     .simp only [Cr h5,cond_false,if_neg h5]
      by_cases h0:i.Num=0
      .simp only [En h0,cond_true]
       by_cases a3:i.Kids.length=0
       .rw [if_pos ⟨h0,a3⟩,En (by omega)]
        exact ⟨_,rfl,.inr ⟨0,rfl,rfl⟩⟩
       .rw [if_neg (fun h=>a3 h.2),Cr (by omega)]
        exact ⟨_,rfl,.inl ⟨rfl,c⟩⟩
      .simp only [Cr h0,cond_false]
       rw [if_neg (fun h=>h0 h.1)]
       exact ⟨_,rfl,.inl ⟨rfl,c⟩⟩
  .intro f ts hk hi ht
   have U:=Tn f
   rw [Qi]
   by_cases hl:ts.length=f.length
   .rw [E8 (by omega)]
    simp only [cond_false]
    have key:∀(m j acc:Nat),j+m=f.length->acc<=10000000->∃z,Am (S:=(Int×Int)) (E:=(Int⊕Int)) (fun (v5,X)=>
      bif (decide (X<(ts.length:Int))) then (
      (Ag ts X).bind fun G=>
      (Ag f X).bind fun v9=>
      (Ok k G v9 b1 b2 data vars N M L).bind fun J=>
      bif (decide (J<(0:Int))) then some (.inr (.inl (-1)))
      else (
      bif (decide (v5>(6:Int))) then some (.inr (.inl (-1)))
      else some (.inl ((Ac (v5+J)),(Ac (X+1))))))
      else some (.inr (.inr v5))) ((acc:Int),(j:Int))=some z/\Dg (match z with | .inl v=>v | .inr v=>v) ((F4 data (f.drop j) (ts.drop j)).map (acc + ·)):=by
     intro m
     induction m with
     | zero=>
      intro j acc hj A
      have:j=ts.length:=by omega
      subst this
      refine ⟨.inr (acc:Int),Dw (by simp),.inr ⟨acc,?_,rfl⟩⟩
      rw [List.drop_of_length_le (by omega),List.drop_of_length_le (by omega)]
      simp [F4]
     | succ m s=>
      intro j acc hj A
      have g:f[j]? = some f[j]:=B2 (by omega)
      generalize f[j]=e at g
      have hu:ts[j]? = some ts[j]:=B2 (by omega)
      generalize ts[j]=u at hu
      have ac:=Q5 (Cp g)
      rw [Iu g,Iu hu,Afd]
      obtain ⟨v,B,v2⟩:=a6 e u (by omega) (by omega) (ht u (Cp hu))
      rcases v2 with ⟨rfl,v2⟩ | ⟨a,a1,rfl⟩
      .refine ⟨.inl (-1),Dw ?_,.inl ⟨rfl,fun d h=>?_⟩⟩
       .simp only [Al (by omega:(j:Int)<(ts.length:Int)),cond_true,Cf rfl g,Cf rfl hu,Ad,B]; rfl
       .obtain ⟨a,b,ha,hb,rfl⟩:=Aax h
        have:=v2 a ha; omega
      .have V:=Amn data e u a a1
       by_cases hb:acc>6
       .refine ⟨.inl (-1),Dw ?_,.inl ⟨rfl,fun d h=>?_⟩⟩
        .simp only [Al (by omega:(j:Int)<(ts.length:Int)),cond_true,Cf rfl g,Cf rfl hu,Ad,B,Aq (by omega:¬(a:Int)<0),Al (by omega:(acc:Int)>6),cond_false]
        .obtain ⟨a,b,ha,hb,rfl⟩:=Aax h
         omega
       .have ew:Ac ((acc:Int)+(a:Int))=((acc+a:Nat):Int):=by rw [Ac,Bw] <;> omega
        obtain ⟨z,q,z2⟩:=s (j+1) (acc+a) (by omega) (by omega)
        refine ⟨z,?_,?_⟩
        .rw [G6 (s':=(((acc+a:Nat):Int),((j+1:Nat):Int)))]
         .exact q
         .simp only [Al (by omega:(j:Int)<(ts.length:Int)),cond_true,Cf rfl g,Cf rfl hu,Ad,B,Aq (by omega:¬(a:Int)<0),Aq (by omega:¬(acc:Int)>6),cond_false,ew,C7 (show j<f.length by omega) (by omega)]
        .have D:∀o:Option Nat,(((some a:Option Nat).bind fun a=>o.map (a + ·)).map (acc + ·))=o.map (acc+a + ·):=by
          intro o; cases o <;> simp [Nat.add_assoc]
         rw [a1,D]
         exact z2
    obtain ⟨z,q,z2⟩:=key f.length 0 0 (by omega) (by omega)
    have q:Am _ ((0:Int),(0:Int))=some z:=q
    rw [q,Ad]
    rw [List.drop_zero,List.drop_zero,D] at z2
    cases z with
    | inl v=>exact ⟨v,rfl,z2⟩
    | inr v=>exact ⟨v,rfl,z2⟩
   .rw [Eo (by omega),Ama data f ts hl]
    exact ⟨_,rfl,.inl ⟨rfl,c⟩⟩
  .intro e t hk g ht
   have ag:=Ha e
   rw [Qj]
   unfold Tp Lp
   rw [Axk hz t ht e.Num,Ad]
   cases hf:O1 data t e.Num with
   | none=>exact ⟨-1,rfl,.inl ⟨rfl,c⟩⟩
   | some l=>
    have ad:=Axl hf
    obtain ⟨x,y,_,hx,_,hy,hl,ab⟩:=Afc hf
    obtain ⟨y6,_⟩:=hz x (J4 hx).2.2.2 y (J4 hy).2.2.2
    have ae:l.length<=6:=by rw [hl]; simpa using y6
    have aa:∀a∈Je l (Is data t.Num e.Num),B3 a<=200:=(Axo (show Lp data t e.Num=some _ by unfold Lp; rw [hf]; rfl)).1
    obtain ⟨v,B,v2⟩:=R e.Kids (Je l (Is data t.Num e.Num)) (by omega) (by omega) aa
    have hd:Dg (if v<0 then -1 else 1+v) (((some l).map fun l=>Je l (Is data t.Num e.Num)).bind fun ts=>(F4 data e.Kids ts).map (1 + ·)):=by
     rw [Option.map_some,Ad]
     rcases v2 with ⟨rfl,v2⟩ | ⟨a,a1,rfl⟩
     .refine .inl ⟨rfl,fun d h=>?_⟩
      cases ha:F4 data e.Kids (Je l (Is data t.Num e.Num)) with
      | none=>rw [ha] at h; cases h
      | some a=>rw [ha] at h; have:=v2 a ha; simp at h; omega
     .rw [a1,if_neg (by omega)]
      exact .inr ⟨1+a,rfl,by omega⟩
    have a8:v = -1\/(0<=v/\v<=10000000):=by
     rcases v2 with ⟨rfl,v2⟩ | ⟨a,a1,rfl⟩
     .exact .inl rfl
     .have:=Wx data _ _ a a1; right; omega
    refine ⟨_,?_,hd⟩
    simp only [okL,D5,cond_false,Alo data t.Num e.Num hs,Ad]
    refine Iq (Is data t.Num e.Num) (fun j=>((j:Int),Je (l.take j) ((Is data t.Num e.Num).take j))) (by simp [Je]) (by omega) ?_ ?_
    .intro j b hj hb h1 h2 h3
     have ha:l[j]? = some l[j]:=B2 (by omega)
     generalize l[j]=a at ha
     have U:=Axn (l.take j) ((Is data t.Num e.Num).take j)
     have:(l.take j).length<=6:=by simp; omega
     simp only [h1,h2,h3,cond_true,Ad,Cf rfl ha,Axm ha hb]
     rw [De (by simp; omega)]
     cases b <;> simp
    .intro h1
     refine ⟨Je l (Is data t.Num e.Num),?_,?_⟩
     .simp only [h1]
      rw [List.take_of_length_le (by omega),List.take_of_length_le (Nat.le_refl _)]; rfl
     .rw [B,Ad]
      rcases a8 with h | h
      .subst h; rfl
      .rw [Aq (by omega),if_neg (by omega)]
       simp only [cond_false]
       rw [Ac,Bw] <;> omega
def tyX (vars:List Aj) (res:Aj) (v:Int):Option Aj:=if v = -1 then some res else Ag vars v
def Dl (data:List A7) (vars:List Aj) (res:Aj) (o:List (ByteArray×Int)):Prop:=∀p∈o,∀v i t,p.1=Gv v i->tyX vars res v=some t->p.2=Jf (It data i t)
theorem Afm {α:Type}:∀(o:List (ByteArray×α)) (s:ByteArray) (v:α),∀p∈E6 o s v,p∈o\/p=(s,v)
 | [],s,v,p,h=>by simp only [E6,List.mem_singleton] at h; exact .inr h
 | q::o,s,v,p,h=>by
  unfold E6 at h
  cases hq:(s==q.1) with
  | true=>
   rw [hq] at h
   simp only [cond_true,List.mem_cons] at h
   rcases h with h | h
   .exact .inr h
   .exact .inl (by simp [h])
  | false=>
   rw [hq] at h
   simp only [cond_false,List.mem_cons] at h
   rcases h with h | h
   .exact .inl (by simp [h])
   .rcases Afm o s v p h with h | h
    .exact .inl (by simp [h])
    .exact .inr h
theorem Ax2 {data:List A7} (G:Szv data) (J:Wu data) (b1:List (ByteArray×Int)) (b2:List (ByteArray×List Bz)) (vars:List Aj) (res:Aj) (hm:Dl data vars res b1)
  (v:Int) (i:Br) (t:Aj) (ht:tyX vars res v=some t) (b:B3 t<=200) (I:I64 v) (L:iR i) (l:Di i<=1048576) :
  ∃u,Lg v i b1 b2 data vars res.Kind res.Num res.Args=some (Jf (It data i t),u)/\Dl data vars res u:=by
 unfold Lg
 rw [Afl v i I L l,Ad]
 cases f:Eg b1 (Gv v i) with
 | true=>
  refine ⟨b1,?_,hm⟩
  have:Gt b1 (Gv v i) 0=Jf (It data i t):=by
   unfold Gt
   unfold Eg at f
   rw [List.any_eq_true] at f
   obtain ⟨p,D,B⟩:=f
   cases g:b1.find? (fun p=>Gv v i==p.1) with
   | none=>exact absurd B (by have:=List.find?_eq_none.1 g p D; simpa using this)
   | some q=>
    have hq:=List.find?_some g
    exact hm q (List.mem_of_find?_eq_some g) v i t ((O0 _ _).1 hq).symm ht
  simp only [cond_true,Ad,D5,cond_false,this]
 | false=>
  obtain ⟨w,y,x⟩:=(Ax1 G J b1 b2 vars res.Kind res.Num res.Args 4000000).1 i t (by omega) l b
  have c:Li v b1 b2 data vars res.Kind res.Num res.Args=some t:=by
   unfold Li
   unfold tyX at ht
   by_cases h:v = -1
   .rw [if_pos h] at ht; cases ht
    have M:(Aj.mk res.Kind res.Num res.Args)=res:=by cases res; rfl
    rw [En h,M]; rfl
   .rw [if_neg h] at ht
    rw [Cr h,ht]; rfl
  have j:(bif decide (w>6) then some (-1) else some w:Option Int)=some (Jf (It data i t)):=by
   rw [<-x.clip]
   by_cases h:w>6
   .rw [Al h,if_pos h]; rfl
   .rw [Aq h,if_neg h]; rfl
  refine ⟨E6 b1 (Gv v i) (Jf (It data i t)),?_,?_⟩
  .simp only [cond_false,Ad,Bool.not_false,cond_true,c,y,j]
  .intro p hp z E A s k
   rcases Afm _ _ _ p hp with h | h
   .exact hm p h z E A s k
   .subst h
    obtain ⟨rfl,rfl⟩:=Amm s
    rw [ht] at k; cases k; rfl
end Go.Ab
namespace Go.Ab
open Go
def Ed (a b:Int):Int:=if a<b then -1 else if a>b then 1 else 0
def orI (a b:Int):Int:=if a=0 then b else a
theorem Hx {a b:Int}:Ed a b=0↔a=b:=by unfold Ed; split <;> (try split) <;> omega
theorem Mp (a b:Int):Jy a b=some (Ed a b):=by
 unfold Jy P9 Ed
 simp only [Ad,bne_self_eq_false,cond_false]
 by_cases h:a<b
 .rw [Al h,if_pos h]; rfl
 .rw [Aq h,if_neg h]
  by_cases h':a>b
  .rw [Al h',if_pos h']; rfl
  .rw [Aq h',if_neg h']; rfl
theorem Amp (a b:Int):V1 a b=some (Ed a b):=Mp a b
theorem Tq (a b:Int):Mc [a,b]=some (orI a b):=by
 unfold Mc orI
 by_cases ha:a=0
 .rw [if_pos ha]
  by_cases hb:b=0
  .refine Gz 2 (fun j=>(j:Int)) rfl ?_ ⟨.inr (),rfl,by rw [hb]⟩
   intro j hj
   match j,hj with
   | 0,_=>subst ha; rfl
   | 1,_=>subst hb; rfl
  .refine Gz 1 (fun j=>(j:Int)) rfl ?_ ⟨.inl b,?_,rfl⟩
   .intro j hj
    match j,hj with
    | 0,_=>subst ha; rfl
   .show (bif (b != 0) then _ else _)=_
    rw [Eo hb]; rfl
 .rw [if_neg ha]
  refine Gz 0 (fun j=>(j:Int)) rfl (fun j hj=>by omega) ⟨.inl a,?_,rfl⟩
  show (bif (a != 0) then _ else _)=_
  rw [Eo ha]; rfl
def E3 {α:Type} (g:α->α->Int):List α->List α->Int
 | x::xs,y::ys=>orI (g x y) (E3 g xs ys)
 | _,_=>0
theorem Ax3 {α:Type} (g:α->α->Int) (l m:List α) {step:Int->Option (Int⊕(Int⊕Unit))} (k:l.length=m.length) (hb:l.length<4611686018427387904)
  (f:∀(j:Nat) (x y:α),l[j]? = some x->m[j]? = some y->decide ((j:Int)<(l.length:Int))=true->Ag l (j:Int)=some x->Ag m (j:Int)=some y->decide ((j:Int)>=(m.length:Int))=false->Ac ((j:Int)+1)=((j+1:Nat):Int) ->
   step (j:Int)=if g x y=0 then some (.inl ((j+1:Nat):Int)) else some (.inr (.inl (g x y))))
  (i:decide ((l.length:Int)<(l.length:Int))=false->step (l.length:Int)=some (.inr (.inr ()))) :
  ∃z,Am step 0=some z/\(match z with | .inl r=>r=E3 g l m/\r≠0 | .inr _=>E3 g l m=0):=by
 have key:∀(n j:Nat),j+n=l.length->∃z,Am step (j:Int)=some z/\(match z with | .inl r=>r=E3 g (l.drop j) (m.drop j)/\r≠0 | .inr _=>E3 g (l.drop j) (m.drop j)=0):=by
  intro n
  induction n with
  | zero=>
   intro j hj
   have:j=l.length:=by omega
   subst this
   refine ⟨.inr (),Dw (i (by simp)),?_⟩
   rw [List.drop_of_length_le (by omega)]; simp [E3]
  | succ n ih=>
   intro j hj
   have hx:l[j]? = some l[j]:=B2 (by omega)
   have hy:m[j]? = some m[j]:=B2 (by omega)
   generalize l[j]=x at hx
   generalize m[j]=y at hy
   have h:=f j x y hx hy (Al (by omega)) (Cf rfl hx) (Cf rfl hy) (Aq (by omega)) (C7 (show j<l.length by omega) hb)
   rw [Iu hx,Iu hy]
   by_cases b:g x y=0
   .rw [if_pos b] at h
    obtain ⟨z,c,z2⟩:=ih (j+1) (by omega)
    refine ⟨z,by rw [G6 h]; exact c,?_⟩
    have e:E3 g (x::l.drop (j+1)) (y::m.drop (j+1))=E3 g (l.drop (j+1)) (m.drop (j+1)):=by simp only [E3,orI,b,if_true]
    cases z with
    | inl r=>simp only [e]; exact z2
    | inr u=>simp only [e]; exact z2
   .rw [if_neg b] at h
    refine ⟨.inl (g x y),Dw h,?_,b⟩
    simp only [E3,orI,b,if_false]
 exact key l.length 0 (by omega)
theorem Aay {α:Type} (f:α->α->Option Int) (g:α->α->Int) (l m:List α) (A:l.length=m.length) (hb:l.length<4611686018427387904) (B:∀(j:Nat) (x y:α),l[j]? = some x->m[j]? = some y->f x y=some (g x y)) :
  ((Am (S:=Int) (E:=(Int⊕Unit)) (fun b=>
   bif (decide (b<(l.length:Int))) then (
   (Ag l b).bind fun s=>
   bif (decide (b>=(m.length:Int))) then some (.inr (.inl 1))
   else (
   (Ag m b).bind fun v9=>
   (f s v9).bind fun c=>
   bif (c != (0:Int)) then some (.inr (.inl c))
   else some (.inl (Ac (b+1)))))
   else some (.inr (.inr ()))) 0).bind fun z=>
   match z with
   | .inl k=>some k
   | .inr _=>bif (decide ((l.length:Int)<(m.length:Int))) then some (-1) else some 0)=some (E3 g l m):=by
 refine Ak2 (Ax3 g l m A hb ?_ (fun h=>by simp only [h]; rfl)) ?_
 .intro j x y hx hy h1 h2 h3 G D
  simp only [h1,h2,h3,G,D,cond_true,cond_false,Ad,B j x y hx hy]
  by_cases i:g x y=0
  .rw [E8 i,if_pos i]; rfl
  .rw [Eo i,if_neg i]; rfl
 .rintro (r | u) q
  .rw [q.1]
  .simp only
   rw [Aq (by omega),show E3 g l m=0 from q]; rfl
def Wy (x y:Be):Int:=orI (Ed x.Var y.Var) (Ed x.Coef y.Coef)
def Er (a b:Ar):Int:=if a.Terms.length=b.Terms.length then orI (E3 Wy a.Terms b.Terms) (Ed a.Const b.Const) else Ed a.Terms.length b.Terms.length
theorem Aaz (a b:Ar) (ha:a.Terms.length<1099511627776):Kk a b=some (Er a b):=by
 unfold Kk Er
 rw [Mp,Ad]
 by_cases h:a.Terms.length=b.Terms.length
 .rw [E8 (Hx.2 (by omega)),if_pos h]
  simp only [cond_false]
  have:=Aay Vz Wy a.Terms b.Terms h (by omega) (fun j x y _ _=>by
   unfold Vz Wy
   rw [Mp,Amp]; simp only [Ad,Tq])
  rw [show Zi a.Terms b.Terms=_ from this,Ad,Amp]
  simp only [Ad,Tq]
 .rw [Eo (fun e=>h (by have:=Hx.1 e; omega)),if_neg h]; rfl
mutual
def Lr:Br->Br->Int
 | ⟨n,k⟩,j=>if n=j.Num then (if k.length=j.Kids.length then Q7 k j.Kids else Ed k.length j.Kids.length) else Ed n j.Num
def Q7:List Br->List Br->Int
 | x::xs,y::ys=>orI (Lr x y) (Q7 xs ys)
 | [],_=>0
 | _::_,[]=>0
end
theorem Amq (i j:Br):Lr i j=if i.Num=j.Num then (if i.Kids.length=j.Kids.length then Q7 i.Kids j.Kids else Ed i.Kids.length j.Kids.length) else Ed i.Num j.Num:=by cases i; simp only [Lr]
theorem Afn:∀l m:List Br,Q7 l m=E3 Lr l m
 | x::xs,y::ys=>by simp only [Q7,E3,Afn xs ys]
 | [],_=>by simp [Q7,E3]
 | _::_,[]=>by simp [Q7,E3]
theorem Ax4:∀(n k:Nat) (i j:Br),Di i<=n->2*n<=k->n<1099511627776->Ob k i j=some (Lr i j):=by
 intro n
 induction n with
 | zero=>intro k i j h; have:=Ha i; omega
 | succ n ih=>
  intro k i j h hk c
  obtain ⟨k,rfl⟩:∃b,k=b+2:=⟨k-2,by omega⟩
  have g:=Ha i
  have f:=Tn i.Kids
  rw [Ob,Amq,Mp,Mp]
  simp only [Ad,Tq]
  by_cases h1:i.Num=j.Num
  .rw [if_pos h1]
   by_cases h2:i.Kids.length=j.Kids.length
   .rw [if_pos h2,E8 (by unfold orI; rw [Hx.2 h1,Hx.2 (by omega)]; rfl),Afn]
    simp only [cond_false]
    have:=Aay (Ob k) Lr i.Kids j.Kids h2 (by omega) (fun q x y hx hy=>ih k x y (by have:=Q5 (Cp hx); omega) (by omega) (by omega))
    rw [Vy]
    refine Eq.trans (congrArg (fun q=>Option.bind q _) this) rfl
   .have e:orI (Ed i.Num j.Num) (Ed (i.Kids.length:Int) (j.Kids.length:Int))=Ed i.Kids.length j.Kids.length:=by unfold orI; rw [Hx.2 h1]; rfl
    rw [if_neg h2,e,Eo (fun e=>h2 (by have:=Hx.1 e; omega))]; rfl
  .have e:orI (Ed i.Num j.Num) (Ed (i.Kids.length:Int) (j.Kids.length:Int))=Ed i.Num j.Num:=by unfold orI; rw [if_neg (fun e=>h1 (Hx.1 e))]
   rw [if_neg h1,e,Eo (fun e=>h1 (Hx.1 e))]; rfl
def Ts (x y:Bx):Int:=orI (Ed x.Var y.Var) (Lr x.Index y.Index)
def Wz (x y:A5):Int:=orI (Er x.Lin y.Lin) (Ed x.Deg y.Deg)
def C6 (a b:A9):Int :=
 if a.Factors.length=b.Factors.length then
  orI (E3 Ts a.Factors b.Factors) (if a.Atoms.length=b.Atoms.length then E3 Wz a.Atoms b.Atoms else Ed a.Atoms.length b.Atoms.length)
 else Ed a.Factors.length b.Factors.length
structure MSz (m:A9):Prop where
 nf:m.Factors.length<=1048576
 na:m.Atoms.length<=1048576
 fi:∀f∈m.Factors,Di f.Index<=1048576
 fr:∀f∈m.Factors,iR f.Index/\I64 f.Var
 al:∀a∈m.Atoms,a.Lin.Terms.length<=1048576
theorem Amr (a b:A9) (ha:MSz a):Oa a b=some (C6 a b):=by
 have h1:=ha.nf
 have h2:=ha.na
 unfold Oa C6
 rw [Mp,Ad]
 by_cases h:a.Factors.length=b.Factors.length
 .rw [E8 (Hx.2 (by omega)),if_pos h]
  simp only [cond_false]
  have:=Aay Vm Ts a.Factors b.Factors h (by omega) (fun j x y hx hy=>by
   unfold Vm Ts
   rw [Mp,Ax4 1048576 4000000 x.Index y.Index (ha.fi x (Cp hx)) (by omega) (by omega)]; simp only [Ad,Tq])
  rw [show Zc a.Factors b.Factors=_ from this,Ad,Mp]
  simp only [Ad,Tq]
  by_cases h0:E3 Ts a.Factors b.Factors=0
  .simp only [h0,orI,if_true]
   by_cases h':a.Atoms.length=b.Atoms.length
   .rw [E8 (Hx.2 (by omega)),if_pos h']
    simp only [cond_false]
    have:=Aay Vn Wz a.Atoms b.Atoms h' (by omega) (fun j x y hx hy=>by
     unfold Vn Wz
     rw [Mp,Aaz x.Lin y.Lin (by have:=ha.al x (Cp hx); omega)]; simp only [Ad,Tq])
    rw [show Zd a.Atoms b.Atoms=_ from this]; rfl
   .rw [Eo (fun e=>h' (by have:=Hx.1 e; omega)),if_neg h']; rfl
  .simp only [orI,if_neg h0]
   rw [Eo h0]; rfl
 .rw [Eo (fun e=>h (by have:=Hx.1 e; omega)),if_neg h]; rfl
def Lt {α:Type} (f:α->Int) (l:List α) (x:α) (j:Nat):Bool:=j==0||(match l[j-1]? with | some y=>decide (f y<f x) | none=>false)
def Q8 (l:List Be) (x:Be) (j:Nat):Bool:=decide (-1<=x.Var/\x.Var<3000/\x.Coef≠0/\-1048576<=x.Coef/\x.Coef<=1048576)&&Lt (·.Var) l x j
def B8 (a:Ar):Bool:=decide (-1048576<=a.Const/\a.Const<=1048576/\a.Terms.length<=16)&&a.Terms.zipIdx.all (fun q=>Q8 a.Terms q.1 q.2)
theorem Ams (n:Int):Sl n=some (decide (-1048576<=n/\n<=1048576)):=by
 unfold Sl
 by_cases h:(-1048576:Int)<=n <;> simp [h]
theorem Ax5 (n:Int):U9 n=some (decide (-1<=n/\n<3000)):=by
 unfold U9
 by_cases h:(-1:Int)<=n <;> simp [h]
theorem Afo {α S E:Type} (f:α->Int) (l:List α) {x:α} {j:Nat} (hx:l[j]? = some x) (i:l.length<4611686018427387904) (c b:Option (S⊕E)) :
  (bif decide ((j:Int)>0) then ((Ag l (Ac ((j:Int)-1))).bind fun g=>bif decide (f g>=f x) then c else b) else b)=bif Lt f l x j then b else c:=by
 have hj:=E9 hx
 unfold Lt
 by_cases h:j=0
 .subst h; rfl
 .rw [Al (by omega)]
  have e:Ac ((j:Int)-1)=((j-1:Nat):Int):=by rw [Ac,Bw] <;> omega
  have hy:l[j-1]? = some l[j-1]:=B2 (by omega)
  rw [e,Cf rfl hy,hy]
  have h0:(j==0)=false:=by simpa using h
  simp only [cond_true,Ad,h0,Bool.false_or]
  by_cases hc:f l[j-1]<f x
  .rw [Aq (by omega),Al hc]; rfl
  .rw [Al (by omega),Aq hc]; rfl
theorem Ku (a:Ar):Hg a=some (B8 a):=by
 unfold Hg B8
 rw [Ams]
 simp only [Ad]
 by_cases h1 : -1048576<=a.Const/\a.Const<=1048576
 .rw [Al h1]
  by_cases h2:a.Terms.length<=16
  .rw [Aq (by omega:¬(a.Terms.length:Int)>16),Al ⟨h1.1,h1.2,h2⟩]
   simp only [D5,cond_false,Ad,Bool.true_and]
   refine (Th a.Terms (fun q=>Q8 a.Terms q.1 q.2) (fun j=>(j:Int)) rfl (by omega) (rt:=true) (rf:=false) ?_ ?_).trans (by rw [Kr])
   .intro j x hx _ h1 h2 h3
    simp only [h1,h2,h3,cond_true,Ad,Ax5,Ams,Afo (·.Var) a.Terms hx (by omega),Q8]
    by_cases g1 : -1<=x.Var/\x.Var<3000
    .by_cases g2:x.Coef=0
     .rw [Al g1,En g2,Aq (fun h=>h.2.2.1 g2)]
      exact ⟨(fun h=>by cases h),fun _=>⟨.inl false,rfl,rfl⟩⟩
     .by_cases g3 : -1048576<=x.Coef/\x.Coef<=1048576
      .rw [Al g1,Cr g2,Al g3,Al ⟨g1.1,g1.2,g2,g3.1,g3.2⟩]
       cases Lt (·.Var) a.Terms x j with
       | true=>exact ⟨fun _=>rfl,fun h=>by cases h⟩
       | false=>exact ⟨(fun h=>by cases h),fun _=>⟨.inl false,rfl,rfl⟩⟩
      .rw [Al g1,Cr g2,Aq g3,Aq (fun h=>g3 h.2.2.2)]
       exact ⟨(fun h=>by cases h),fun _=>⟨.inl false,rfl,rfl⟩⟩
    .rw [Aq g1,Aq (fun h=>g1 ⟨h.1,h.2.1⟩)]
     exact ⟨(fun h=>by cases h),fun _=>⟨.inl false,rfl,rfl⟩⟩
   .intro h _
    exact ⟨.inr (),by simp only [h]; rfl,rfl⟩
  .rw [Al (by omega:(a.Terms.length:Int)>16),Aq (fun h=>h2 h.2.2)]; rfl
 .rw [Aq h1,Aq (fun h : -1048576<=a.Const/\a.Const<=1048576/\a.Terms.length<=16=>h1 ⟨h.1,h.2.1⟩)]; rfl
end Go.Ab
namespace Go.Ab
open Go
structure Mq (data:List A7) (vars:List Aj) (res:Aj):Prop where
 vd:Mo data
 sh:Wu data
 sz:∀v t,tyX vars res v=some t->B3 t<=200
 nv:vars.length<=3000
theorem Amt (vars:List Aj) (res:Aj) (v:Int):(tyX vars res v).isSome=decide (-1<=v/\v<vars.length):=by
 unfold tyX
 by_cases h:v = -1
 .rw [if_pos h]; subst h; rw [Al (by omega)]; rfl
 .rw [if_neg h]
  cases hx:Ag vars v with
  | none=>rcases Wt hx with h' | h' <;> rw [Aq (by omega)] <;> rfl
  | some t=>have:=J4 hx; rw [Al (by omega)]; rfl
section
variable (b1:List (ByteArray×Int)) (b2:List (ByteArray×List Bz)) (data:List A7) (vars:List Aj) (res:Aj)
theorem Amu (v:Int) (f c:Int) (b:List Aj):Qb v b1 b2 data vars f c b=some (tyX vars res v).isSome:=by
 rw [Amt]
 unfold Qb
 by_cases h:v>=-1
 .rw [Al h]
  by_cases h':v<(vars.length:Int)
  .rw [Al h',Al ⟨h,h'⟩]; rfl
  .rw [Aq h',Aq (fun g=>h' g.2)]; rfl
 .rw [Aq h,Aq (fun g : -1<=v/\v<(vars.length:Int)=>h g.1)]; rfl
theorem Amv {v:Int} {t:Aj} (ht:tyX vars res v=some t):Li v b1 b2 data vars res.Kind res.Num res.Args=some t:=by
 unfold Li
 unfold tyX at ht
 by_cases h:v = -1
 .rw [if_pos h] at ht; cases ht
  have b:(Aj.mk res.Kind res.Num res.Args)=res:=by cases res; rfl
  rw [En h,b]; rfl
 .rw [if_neg h] at ht
  rw [Cr h,ht]; rfl
def J7 (t:Be):Bool:=match tyX vars res t.Var with | some u=>u.Kind==1 | none=>false
def Dz (l:Ar):Bool:=l.Terms.all (J7 vars res)
theorem Amw (l:Ar) (c:l.Terms.length<=1048576):P3 l b1 b2 data vars res.Kind res.Num res.Args=some (Dz vars res l):=by
 unfold P3 Zj Zo
 have key:=Aej l.Terms (fun t=>!J7 vars res t) (by omega) (J:=fun z=>match z with | .inl b=>some b | .inr _=>some (-1)) (step:=fun v3=>bif (decide (v3<(l.Terms.length:Int))) then ((Ag l.Terms v3).bind fun v4=>(Sz v4 b1 b2 data vars res.Kind res.Num res.Args).bind fun v5=>bif v5 then some (.inr (.inl v3)) else some (.inl (Ac (v3+1)))) else some (.inr (.inr ()))) (by
  intro j x hx h1 h2 h3
  have e:Sz x b1 b2 data vars res.Kind res.Num res.Args=some (!J7 vars res x):=by
   unfold Sz J7
   rw [Amu b1 b2 data vars res,Ad]
   cases ht:tyX vars res x.Var with
   | none=>rfl
   | some t=>rw [Amv b1 b2 data vars res ht]; rfl
  simp only [h1,h2,h3,cond_true,Ad,e]) (fun h=>by simp only [h]; rfl) (fun _=>rfl) rfl
 obtain ⟨i,i1,i2⟩:=key
 erw [i1]
 simp only [Ad,i2]
 congr 1
 unfold Dz
 rw [List.any_eq_not_all_not]; simp
def E4 (f:Bx):Int:=match tyX vars res f.Var with | some t=>Jf (It data f.Index t) | none => -1
theorem Amx (f:Bx) : -1<=E4 data vars res f/\E4 data vars res f<=6:=by
 unfold E4
 cases tyX vars res f.Var with
 | none=>simp
 | some t=>rcases Axp (It data f.Index t) with ⟨h,_⟩ | ⟨d,_,h2,h⟩ <;> simp only [h] <;> omega
def J8 (m:A9):Bool:=m.Factors.all (fun f=>decide (0<=E4 data vars res f))&&m.Atoms.all (fun a=>decide (0<=a.Deg)&&Dz vars res a.Lin)
def Dn (l:List Bx):Int:=(l.map (E4 data vars res)).sum
def Cd (l:List A5):Int:=(l.map (·.Deg)).sum
def No (l:List A5) (x:A5) (j:Nat):Bool:=j==0||(match l[j-1]? with | some y=>decide (Er y.Lin x.Lin<0) | none=>false)
def W0 (l:List Bx) (f:Bx) (j:Nat):Bool:=decide (1<=E4 data vars res f)&&Lt (·.Var) l f j
def Mr (l:List A5) (a:A5) (j:Nat):Bool:=decide (1<=a.Deg)&&B8 a.Lin && !(a.Lin.Terms.length==0)&&Dz vars res a.Lin&&No l a j
def Hy (m:A9):Bool:=m.Factors.zipIdx.all (fun q=>W0 data vars res m.Factors q.1 q.2)&&m.Atoms.zipIdx.all (fun q=>Mr vars res m.Atoms q.1 q.2)&&decide (Dn data vars res m.Factors+Cd m.Atoms<=6)
variable {b1 data vars res}
theorem W1 (hc:Mq data vars res) (hm:Dl data vars res b1) (f:Bx) (g:I64 f.Var) (h:iR f.Index) (i:Di f.Index<=1048576) (b:(tyX vars res f.Var).isSome=true) :
  ∃c,Lg f.Var f.Index b1 b2 data vars res.Kind res.Num res.Args=some (E4 data vars res f,c)/\Dl data vars res c:=by
 cases ht:tyX vars res f.Var with
 | none=>rw [ht] at b; cases b
 | some t=>
  obtain ⟨c,h1,h2⟩:=Ax2 hc.vd.szv hc.sh b1 b2 vars res hm f.Var f.Index t ht (hc.sz _ _ ht) g h i
  refine ⟨c,?_,h2⟩
  rw [h1]; unfold E4; rw [ht]
theorem Ax6 (hc:Mq data vars res) (hm:Dl data vars res b1) (m:A9) (l:MSz m) :
  ∃s,Vt m b1 b2 data vars res.Kind res.Num res.Args=some (J8 data vars res m,s)/\Dl data vars res s:=by
 have V:=l.nf
 have ha:=l.na
 unfold Vt
 refine Z8 (fun s=>(J8 data vars res m,s)) ?_
 obtain ⟨r,U,N⟩:=Aek (M:=List (ByteArray×Int)) (R:=Bool×List (ByteArray×Int)) m.Factors (fun q=>decide (0<=E4 data vars res q.1)) (fun j o=>((j:Int),o)) (Dl data vars res)
  (fun r=>Dl data vars res r.2/\r.1=m.Atoms.all (fun a=>decide (0<=a.Deg)&&Dz vars res a.Lin)) (fun r=>Dl data vars res r.2/\r.1=false) b1
  (s0:=((0:Int),b1))
  (step:=(fun (A,x)=>
   bif (decide (A<(m.Factors.length:Int))) then (
   (Ag m.Factors A).bind fun v8=>
   (Qb v8.Var x b2 data vars res.Kind res.Num res.Args).bind fun B=>
   bif (!B) then some (.inr (.inl (false,x)))
   else (
   (Lg v8.Var v8.Index x b2 data vars res.Kind res.Num res.Args).bind fun g=>
   bif (decide (g.1<(0:Int))) then some (.inr (.inl (false,g.2)))
   else some (.inl ((Ac (A+1)),g.2))))
   else some (.inr (.inr x)):Int×List (ByteArray×Int)->Option ((Int×List (ByteArray×Int))⊕((Bool×List (ByteArray×Int))⊕List (ByteArray×Int)))))
  (J:=(fun z=>match z with
   | .inl (L,I)=>some (L,I)
   | .inr b=>(Am (S:=Int) (E:=((Bool×(List (ByteArray×Int)))⊕Unit)) (fun c=>
     bif (decide (c<(m.Atoms.length:Int))) then (
     (Ag m.Atoms c).bind fun u=>
     bif (decide (u.Deg<(0:Int))) then some (.inr (.inl (false,b)))
     else (
     (P3 u.Lin b b2 data vars res.Kind res.Num res.Args).bind fun v21=>
     bif (!v21) then some (.inr (.inl (false,b)))
     else some (.inl (Ac (c+1)))))
     else some (.inr (.inr ()))) 0).bind fun z=>match z with
      | .inl (G,D)=>some (G,D)
      | .inr _=>some (true,b)))
  rfl hm (by omega) (by
   intro j f o y hx _ h1 h2 h3
   have k:=Cp hx
   simp only [h1,h2,h3,cond_true,Ad,Amu o b2 data vars res]
   cases i:(tyX vars res f.Var).isSome with
   | false=>
    have e:E4 data vars res f = -1:=by
     unfold E4
     cases ht:tyX vars res f.Var with
     | none=>rfl
     | some t=>rw [ht] at i; cases i
    rw [e]
    exact ⟨(fun h=>by cases h),fun _=>⟨_,rfl,_,rfl,y,rfl⟩⟩
   | true=>
    obtain ⟨s,d1,d2⟩:=W1 b2 hc y f (l.fr f k).2 (l.fr f k).1 (l.fi f k) i
    simp only [D5,cond_false,d1,Ad]
    by_cases h0:0<=E4 data vars res f
    .rw [Al h0,Aq (by omega)]
     exact ⟨fun _=>⟨s,rfl,d2⟩,fun h=>by cases h⟩
    .rw [Aq h0,Al (by omega)]
     exact ⟨(fun h=>by cases h),fun _=>⟨_,rfl,_,rfl,d2,rfl⟩⟩) (by
   intro o y h1 _
   refine ⟨.inr o,by simp only [h1]; rfl,?_⟩
   refine ⟨(m.Atoms.all (fun a=>decide (0<=a.Deg)&&Dz vars res a.Lin),o),?_,y,rfl⟩
   refine (H8 m.Atoms (fun a=>decide (0<=a.Deg)&&Dz vars res a.Lin) (fun j=>(j:Int)) rfl (by omega) (rt:=(true,o)) (rf:=(false,o)) ?_ ?_).trans (by cases m.Atoms.all (fun a=>decide (0<=a.Deg)&&Dz vars res a.Lin) <;> rfl)
   .intro j a hx h1 h2 h3
    simp only [h1,h2,h3,cond_true,Ad,Amw o b2 data vars res a.Lin (l.al a (Cp hx))]
    by_cases h0:0<=a.Deg
    .rw [Al h0,Aq (by omega)]
     cases Dz vars res a.Lin with
     | true=>exact ⟨fun _=>rfl,fun h=>by cases h⟩
     | false=>exact ⟨(fun h=>by cases h),fun _=>⟨_,rfl,rfl⟩⟩
    .rw [Aq h0,Al (by omega)]
     exact ⟨(fun h=>by cases h),fun _=>⟨_,rfl,rfl⟩⟩
   .intro h; exact ⟨.inr (),by simp only [h]; rfl,rfl⟩)
 refine ⟨r,U,r.2,?_,?_⟩
 .unfold J8
  rw [<-Aad]
  rcases N with ⟨h1,h2,h3⟩ | ⟨h1,h2,h3⟩
  .rw [h1,Bool.true_and,<-h3]
  .rw [h1,Bool.false_and,<-h3]
 .rcases N with ⟨h1,h2,h3⟩ | ⟨h1,h2,h3⟩ <;> exact h2
theorem Amy (g:Bx->Int) {l:List Bx} {j:Nat} {x:Bx} (h:l[j]? = some x):((l.take (j+1)).map g).sum=((l.take j).map g).sum+g x:=by
 rw [Df h]; simp
theorem Amz {l:List A5} {j:Nat} {x:A5} (h:l[j]? = some x):Cd (l.take (j+1))=Cd (l.take j)+x.Deg:=by
 unfold Cd; rw [Df h]; simp
theorem Ax7 (hc:Mq data vars res) (hm:Dl data vars res b1) (m:A9) (k:MSz m) (hp:J8 data vars res m=true) :
  ∃p:Int×List (ByteArray×Int),Kl m b1 b2 data vars res.Kind res.Num res.Args=some p/\(decide (p.1>6) = !decide (Dn data vars res m.Factors+Cd m.Atoms<=6))/\Dl data vars res p.2:=by
 have B:=k.nf
 have ha:=k.na
 unfold J8 at hp
 rw [C5,List.all_eq_true,List.all_eq_true] at hp
 unfold Kl
 refine E7 (fun (v5,u,g)=>∃j:Nat,u=j/\j<=m.Factors.length/\Dl data vars res g/\0<=v5/\v5<=12/\(v5=Dn data vars res (m.Factors.take j)\/(6<v5/\6<Dn data vars res (m.Factors.take j)))) (fun (_,u,_)=>m.Factors.length-u.toNat)
  (fun (v5,g)=>Dl data vars res g/\0<=v5/\v5<=12/\(v5=Dn data vars res m.Factors\/(6<v5/\6<Dn data vars res m.Factors))) ⟨0,rfl,by omega,hm,by omega,by omega,.inl (by simp [Dn])⟩ ?_ ?_
 .rintro ⟨v5,u,g⟩ ⟨j,rfl,hj,q,h0,h12,l⟩
  rcases Nat.lt_or_ge j m.Factors.length with h | h
  .have hx:m.Factors[j]? = some m.Factors[j]:=B2 h
   generalize m.Factors[j]=f at hx
   have c:=Cp hx
   have hd:=hp.1 f c
   rw [decide_eq_true_eq] at hd
   have A:=(Amx data vars res f).2
   have es:Dn data vars res (m.Factors.take (j+1))=Dn data vars res (m.Factors.take j)+E4 data vars res f:=Amy _ hx
   simp only [Al (by omega:(j:Int)<(m.Factors.length:Int)),cond_true,Cf rfl hx,Ad,C7 h (by omega)]
   by_cases s:v5<=6
   .have x:(tyX vars res f.Var).isSome=true:=by
     unfold E4 at hd
     cases ht:tyX vars res f.Var with
     | none=>rw [ht] at hd; have hd:(0:Int)<=-1:=hd; omega
     | some t=>rfl
    obtain ⟨D,d1,d2⟩:=W1 b2 hc q f (k.fr f c).2 (k.fr f c).1 (k.fi f c) x
    rw [Al s]
    simp only [cond_true,d1,Ad]
    have b:Ac (v5+E4 data vars res f)=v5+E4 data vars res f:=by rw [Ac,Bw] <;> omega
    exact .inl ⟨_,rfl,⟨j+1,rfl,by omega,d2,by simp only [b]; omega,by simp only [b]; omega,by simp only [b,es]; omega⟩,by simp; omega⟩
   .rw [Aq s]
    exact .inl ⟨_,rfl,⟨j+1,rfl,by omega,q,h0,h12,by simp only [es]; omega⟩,by simp; omega⟩
  .have:j=m.Factors.length:=by omega
   subst this
   rw [List.take_length] at l
   exact .inr ⟨(v5,g),by simp,q,h0,h12,l⟩
 .rintro ⟨v5,g⟩ ⟨q,h0,h12,l⟩
  simp only
  refine E7 (fun (v,i)=>∃j:Nat,i=j/\j<=m.Atoms.length/\0<=v/\v<=13/\(v=Dn data vars res m.Factors+Cd (m.Atoms.take j)\/(6<v/\6<Dn data vars res m.Factors+Cd (m.Atoms.take j)))) (fun (_,i)=>m.Atoms.length-i.toNat)
   (fun v=>(v=Dn data vars res m.Factors+Cd m.Atoms\/(6<v/\6<Dn data vars res m.Factors+Cd m.Atoms))) ⟨0,rfl,by omega,h0,by omega,by simpa [Cd] using l⟩ ?_ ?_
  .rintro ⟨v,i⟩ ⟨j,rfl,hj,g0,g13,z⟩
   rcases Nat.lt_or_ge j m.Atoms.length with h | h
   .have hx:m.Atoms[j]? = some m.Atoms[j]:=B2 h
    generalize m.Atoms[j]=a at hx
    have hd:=hp.2 a (Cp hx)
    rw [C5,decide_eq_true_eq] at hd
    have es:=Amz hx
    simp only [Al (by omega:(j:Int)<(m.Atoms.length:Int)),cond_true,Cf rfl hx,Ad,C7 h (by omega)]
    by_cases s:v<=6
    .rw [Al s]
     simp only [cond_true]
     by_cases y:7<a.Deg
     .rw [if_pos y]
      have b:Ac (v+7)=v+7:=by rw [Ac,Bw] <;> omega
      exact .inl ⟨_,rfl,⟨j+1,rfl,by omega,by simp only [b]; omega,by simp only [b]; omega,by simp only [b,es]; omega⟩,by simp; omega⟩
     .rw [if_neg y]
      have b:Ac (v+a.Deg)=v+a.Deg:=by rw [Ac,Bw] <;> omega
      exact .inl ⟨_,rfl,⟨j+1,rfl,by omega,by simp only [b]; omega,by simp only [b]; omega,by simp only [b,es]; omega⟩,by simp; omega⟩
    .rw [Aq s]
     exact .inl ⟨_,rfl,⟨j+1,rfl,by omega,g0,g13,by simp only [es]; omega⟩,by simp; omega⟩
   .have:j=m.Atoms.length:=by omega
    subst this
    rw [List.take_length] at z
    exact .inr ⟨v,by simp,z⟩
  .intro v l
   refine ⟨(v,g),rfl,?_,q⟩
   by_cases h:Dn data vars res m.Factors+Cd m.Atoms<=6
   .rw [Al h,Aq (by simp only; omega)]; rfl
   .rw [Aq h,Al (by simp only; omega)]; rfl
end
end Go.Ab
namespace Go.Ab
open Go
theorem Ax8 {S E:Type} (F:Ar->Ar->Option Int) (l:List A5) (g:∀y∈l,∀x,F y.Lin x=some (Er y.Lin x)) {x:A5} {j:Nat} (hx:l[j]? = some x) (i:l.length<4611686018427387904) (c b:Option (S⊕E)) :
  (bif decide ((j:Int)>0) then ((Ag l (Ac ((j:Int)-1))).bind fun f=>(F f.Lin x.Lin).bind fun v28=>bif decide (v28>=0) then c else b) else b)=bif No l x j then b else c:=by
 have hj:=E9 hx
 unfold No
 by_cases h:j=0
 .subst h; rfl
 .rw [Al (by omega)]
  have e:Ac ((j:Int)-1)=((j-1:Nat):Int):=by rw [Ac,Bw] <;> omega
  have hy:l[j-1]? = some l[j-1]:=B2 (by omega)
  rw [e,Cf rfl hy,hy]
  have h0:(j==0)=false:=by simpa using h
  simp only [cond_true,Ad,h0,Bool.false_or,g _ (List.getElem_mem (by omega:j-1<l.length))]
  by_cases hc:Er l[j-1].Lin x.Lin<0
  .rw [Aq (by omega),Al hc]; rfl
  .rw [Al (by omega),Aq hc]; rfl
section
variable {b1:List (ByteArray×Int)} (b2:List (ByteArray×List Bz)) {data:List A7} {vars:List Aj} {res:Aj}
def W2 (data:List A7) (vars:List Aj) (res:Aj) (l:List Bx) (f:Bx) (j:Nat):Bool:=!(E4 data vars res f==0)&&Lt (·.Var) l f j
def O3 (l:List A5) (a:A5) (j:Nat):Bool:=!(a.Deg==0)&&B8 a.Lin && !(a.Lin.Terms.length==0)&&No l a j
theorem Ax9 (m:A9):Hy data vars res m=(J8 data vars res m&&decide (Dn data vars res m.Factors+Cd m.Atoms<=6)&&m.Factors.zipIdx.all (fun q=>W2 data vars res m.Factors q.1 q.2)&&m.Atoms.zipIdx.all (fun q=>O3 m.Atoms q.1 q.2)):=by
 rw [Bool.eq_iff_iff]
 unfold Hy J8
 rw [<-Aad m.Factors (fun f=>decide (0<=E4 data vars res f)),<-Aad m.Atoms (fun a=>decide (0<=a.Deg)&&Dz vars res a.Lin)]
 simp only [C5,List.all_eq_true,W0,Mr,W2,O3,decide_eq_true_eq,Bool.not_eq_true',beq_eq_false_iff_ne,ne_eq]
 constructor
 .rintro ⟨⟨h1,h2⟩,h3⟩
  refine ⟨⟨⟨⟨fun q hq=>?_,fun q hq=>?_⟩,h3⟩,fun q hq=>?_⟩,fun q hq=>?_⟩
  .have:=(h1 q hq).1; omega
  .have:=h2 q hq; exact ⟨by omega,this.1.2⟩
  .have:=h1 q hq; exact ⟨by omega,this.2⟩
  .have:=h2 q hq; exact ⟨⟨⟨by omega,this.1.1.1.2⟩,this.1.1.2⟩,this.2⟩
 .rintro ⟨⟨⟨⟨h1,h2⟩,h3⟩,c⟩,b⟩
  refine ⟨⟨fun q hq=>?_,fun q hq=>?_⟩,h3⟩
  .have:=h1 q hq; have g:=c q hq; exact ⟨by omega,g.2⟩
  .have:=h2 q hq; have g:=b q hq; exact ⟨⟨⟨⟨by omega,g.1.1.2⟩,g.1.2⟩,this.2⟩,g.2⟩
theorem Aya (hc:Mq data vars res) (hm:Dl data vars res b1) (m:A9) (i:MSz m) :
  ∃A,Su m b1 b2 data vars res.Kind res.Num res.Args=some (Hy data vars res m,A)/\Dl data vars res A:=by
 have hf:=i.nf
 have ha:=i.na
 rw [Ax9]
 unfold Su
 obtain ⟨b,p1,Z⟩:=Ax6 b2 hc hm m i
 rw [p1]
 cases hp:J8 data vars res m with
 | false=>exact ⟨b,rfl,Z⟩
 | true=>
  obtain ⟨q,q1,q2,Y⟩:=Ax7 b2 hc Z m i hp
  simp only [Ad,D5,cond_false,q1,q2]
  cases hs:decide (Dn data vars res m.Factors+Cd m.Atoms<=6) with
  | false=>exact ⟨q.2,rfl,Y⟩
  | true=>
   simp only [D5,cond_false,Bool.true_and]
   have U:∀f∈m.Factors,(tyX vars res f.Var).isSome=true:=by
    intro f c
    unfold J8 at hp
    rw [C5,List.all_eq_true] at hp
    have hd:=hp.1 f c
    rw [decide_eq_true_eq] at hd
    unfold E4 at hd
    cases ht:tyX vars res f.Var with
    | none=>rw [ht] at hd; have hd:(0:Int)<=-1:=hd; omega
    | some t=>rfl
   obtain ⟨r,r1,X⟩:=Aek (M:=List (ByteArray×Int)) (R:=Bool×List (ByteArray×Int)) m.Factors (fun q=>W2 data vars res m.Factors q.1 q.2) (fun j o=>((j:Int),o)) (Dl data vars res)
    (fun r=>Dl data vars res r.2/\r.1=m.Atoms.zipIdx.all (fun q=>O3 m.Atoms q.1 q.2)) (fun r=>Dl data vars res r.2/\r.1=false) q.2
    (s0:=((0:Int),q.2))
    (step:=(fun (v9,s)=>
     bif (decide (v9<(m.Factors.length:Int))) then (
     (Ag m.Factors v9).bind fun k=>
     (Lg k.Var k.Index s b2 data vars res.Kind res.Num res.Args).bind fun g=>
     bif (g.1==(0:Int)) then some (.inr (.inl (false,g.2)))
     else (
     bif (decide (v9>(0:Int))) then (
     (Ag m.Factors (Ac (v9-1))).bind fun D=>
     bif (decide (D.Var>=k.Var)) then some (.inr (.inl (false,g.2)))
     else some (.inl ((Ac (v9+1)),g.2)))
     else some (.inl ((Ac (v9+1)),g.2))))
     else some (.inr (.inr s)):Int×List (ByteArray×Int)->Option ((Int×List (ByteArray×Int))⊕((Bool×List (ByteArray×Int))⊕List (ByteArray×Int)))))
    (J:=(fun z=>match z with
     | .inl (N,L)=>some (N,L)
     | .inr l=>(Am (S:=Int) (E:=((Bool×(List (ByteArray×Int)))⊕Unit)) (fun v22=>
       bif (decide (v22<(m.Atoms.length:Int))) then (
       (Ag m.Atoms v22).bind fun v23=>
       (show Option Bool from
       bif (v23.Deg==(0:Int)) then some true
       else (
       (Hg v23.Lin).bind fun v25=>
       bif (!v25) then some true
       else some ((v23.Lin.Terms.length:Int)==(0:Int)))).bind fun v26=>
       bif v26 then some (.inr (.inl (false,l)))
       else (
       bif (decide (v22>(0:Int))) then (
       (Ag m.Atoms (Ac (v22-1))).bind fun B=>
       (Kk B.Lin v23.Lin).bind fun v28=>
       bif (decide (v28>=(0:Int))) then some (.inr (.inl (false,l)))
       else some (.inl (Ac (v22+1))))
       else some (.inl (Ac (v22+1)))))
       else some (.inr (.inr ()))) 0).bind fun z=>match z with
        | .inl (I,G)=>some (I,G)
        | .inr _=>some (true,l)))
    rfl Y (by omega) (by
     intro j f o V hx _ h1 h2 h3
     have c:=Cp hx
     obtain ⟨A,d1,d2⟩:=W1 b2 hc V f (i.fr f c).2 (i.fr f c).1 (i.fi f c) (U f c)
     simp only [h1,h2,h3,cond_true,Ad,d1,Afo (·.Var) m.Factors hx (by omega),W2]
     cases (E4 data vars res f==0) with
     | true=>exact ⟨(fun h=>by cases h),fun _=>⟨_,rfl,_,rfl,d2,rfl⟩⟩
     | false=>
      cases Lt (·.Var) m.Factors f j with
      | true=>exact ⟨fun _=>⟨A,rfl,d2⟩,fun h=>by cases h⟩
      | false=>exact ⟨(fun h=>by cases h),fun _=>⟨_,rfl,_,rfl,d2,rfl⟩⟩) (by
     intro o V h1 _
     refine ⟨.inr o,by simp only [h1]; rfl,?_⟩
     refine ⟨(m.Atoms.zipIdx.all (fun q=>O3 m.Atoms q.1 q.2),o),?_,V,rfl⟩
     refine (Th m.Atoms (fun q=>O3 m.Atoms q.1 q.2) (fun j=>(j:Int)) rfl (by omega) (rt:=(true,o)) (rf:=(false,o)) ?_ ?_).trans (by cases m.Atoms.zipIdx.all (fun q=>O3 m.Atoms q.1 q.2) <;> rfl)
     .intro j a hx _ h1 h2 h3
      have u:((a.Lin.Terms.length:Int)==(0:Int))=(a.Lin.Terms.length==0):=Awp a.Lin.Terms 0
      simp only [h1,h2,h3,cond_true,Ad,Ku,Ax8 Kk m.Atoms (fun y hy x=>Aaz y.Lin x (by have:=i.al y hy; omega)) hx (by omega),O3,u]
      cases (a.Deg==0) with
      | true=>exact ⟨(fun h=>by cases h),fun _=>⟨_,rfl,rfl⟩⟩
      | false=>
       cases B8 a.Lin with
       | false=>exact ⟨(fun h=>by cases h),fun _=>⟨_,rfl,rfl⟩⟩
       | true=>
        cases (a.Lin.Terms.length==0) with
        | true=>exact ⟨(fun h=>by cases h),fun _=>⟨_,rfl,rfl⟩⟩
        | false=>
         cases No m.Atoms a j with
         | true=>exact ⟨fun _=>rfl,fun h=>by cases h⟩
         | false=>exact ⟨(fun h=>by cases h),fun _=>⟨_,rfl,rfl⟩⟩
     .intro h _; exact ⟨.inr (),by simp only [h]; rfl,rfl⟩)
   refine ⟨r.2,?_,?_⟩
   .have e:some r=some (m.Factors.zipIdx.all (fun q=>W2 data vars res m.Factors q.1 q.2)&&m.Atoms.zipIdx.all (fun q=>O3 m.Atoms q.1 q.2),r.2):=by
     rcases X with ⟨h1,h2,h3⟩ | ⟨h1,h2,h3⟩
     .rw [h1,Bool.true_and,<-h3]
     .rw [h1,Bool.false_and,<-h3]
    rw [<-e]
    exact r1
   .rcases X with ⟨h1,h2,h3⟩ | ⟨h1,h2,h3⟩ <;> exact h2
theorem Ayb (l:List Bx) (h:∀f∈l,0<=E4 data vars res f):0<=Dn data vars res l:=by
 induction l with
 | nil=>simp [Dn]
 | cons x xs ih=>
  have h1:=h x (by simp)
  have h2:=ih (fun f b=>h f (by simp [b]))
  unfold Dn at *
  simp only [List.map_cons,List.sum_cons]
  omega
theorem Am0 (l:List A5) (h:∀a∈l,0<=a.Deg):0<=Cd l/\((∀a∈l,a.Deg<=6)->Cd l<=6*l.length)/\∀a∈l,a.Deg<=Cd l:=by
 induction l with
 | nil=>simp [Cd]
 | cons x xs ih=>
  have h1:=h x (by simp)
  obtain ⟨i1,i2,i3⟩:=ih (fun f b=>h f (by simp [b]))
  unfold Cd at *
  simp only [List.map_cons,List.sum_cons,List.length_cons]
  refine ⟨by omega,fun g=>?_,fun a ha=>?_⟩
  .have:=g x (by simp)
   have:=i2 (fun a ha=>g a (by simp [ha]))
   omega
  .rcases List.mem_cons.1 ha with rfl | ha
   .omega
   .have:=i3 a ha; omega
end
end Go.Ab
namespace Go.Ab
open Go
theorem Ayc {α:Type} [DecidableEq α] (l m:List α) (b:l.length=m.length):(decide (l=m))=l.zipIdx.all (fun q=>decide (m[q.2]? = some q.1)):=by
 rw [Bool.eq_iff_iff,decide_eq_true_eq]
 constructor
 .rintro rfl
  exact Ak1 fun j x hx=>by simpa using hx
 .intro h
  apply List.ext_getElem?
  intro j
  cases hx:l[j]? with
  | none=>rw [List.getElem?_eq_none_iff] at hx; rw [List.getElem?_eq_none (by omega)]
  | some x=>have:=Ja h hx; rw [decide_eq_true_eq] at this; rw [this]
theorem Ayd {R:Type} (l m:List Int) (b:l.length<1099511627776) (h:l.length=m.length) {J:Bool⊕Unit->Option R} {rt rf:R} (h1:J (.inl false)=some rf) (h2:J (.inr ())=some rt) :
  (Am (S:=Int) (E:=(Bool⊕Unit)) (fun v3=>bif (decide (v3<(l.length:Int))) then ((Ag l v3).bind fun v4=>(Ag m v3).bind fun v5=>bif (v4 != v5) then some (.inr (.inl false)) else some (.inl (Ac (v3+1)))) else some (.inr (.inr ()))) 0).bind J=some (bif decide (l=m) then rt else rf):=by
 rw [Ayc l m h]
 refine Th l (fun q=>decide (m[q.2]? = some q.1)) (fun j=>(j:Int)) rfl (by omega) (rt:=rt) (rf:=rf) ?_ ?_
 .intro j x hx _ g1 g2 g3
  have hj:j<m.length:=by have:=E9 hx; omega
  have hy:m[j]? = some m[j]:=B2 hj
  generalize m[j]=y at hy
  simp only [g1,g2,g3,cond_true,Ad,Cf rfl hy,hy,Option.some.injEq]
  by_cases e:x=y
  .rw [E8 e,Al e.symm]
   exact ⟨fun _=>rfl,fun h=>by cases h⟩
  .rw [Eo e,Aq (fun h=>e h.symm)]
   exact ⟨(fun h=>by cases h),fun _=>⟨.inl false,rfl,h1⟩⟩
 .intro h _; exact ⟨.inr (),by simp only [h]; rfl,h2⟩
theorem Am1 (l m:List Int) (b:l.length<1099511627776):Ma l m=some (decide (l=m)):=by
 unfold Ma
 by_cases h:l.length=m.length
 .rw [E8 (by omega)]
  simp only [cond_false]
  refine (Ayd l m b h (rt:=true) (rf:=false) ?_ ?_).trans (by rw [Kr]) <;> rfl
 .rw [Eo (by omega),Aq (fun e=>h (by rw [e]))]; rfl
def Tt (a b:Ak):Bool:=a.Neg==b.Neg&&decide (a.Num=b.Num)&&decide (a.Den=b.Den)
theorem Am2 (a b:Ak):Tt a b=true↔a=b:=by
 unfold Tt
 simp only [C5,beq_iff_eq,decide_eq_true_eq]
 constructor
 .rintro ⟨⟨h1,h2⟩,h3⟩; cases a; cases b; simp_all
 .rintro rfl; simp
def W3 (c:Ak):Bool:=Tt (Bs (sv c) (nv c) (dv c)) c && !(nv c==0)
structure TSz (t:Ah):Prop where
 co:RB 1048576 t.Coef
 mo:MSz t.Mono
def Q9 (l:List Ah) (x:Ah) (j:Nat):Bool:=j==0||(match l[j-1]? with | some y=>decide (C6 y.Mono x.Mono<0) | none=>false)
def Tu (data:List A7) (vars:List Aj) (res:Aj) (l:List Ah) (t:Ah) (j:Nat):Bool:=W3 t.Coef&&Hy data vars res t.Mono&&Q9 l t j
def Hz (data:List A7) (vars:List Aj) (res:Aj) (p:List Ah):Bool:=decide (p.length<=1000)&&p.zipIdx.all (fun q=>Tu data vars res p q.1 q.2)
theorem Aye {S E:Type} (F:A9->A9->Option Int) (l:List Ah) (g:∀y∈l,∀x,F y.Mono x=some (C6 y.Mono x)) {x:Ah} {j:Nat} (hx:l[j]? = some x) (i:l.length<4611686018427387904) (c b:Option (S⊕E)) :
  (bif decide ((j:Int)>0) then ((Ag l (Ac ((j:Int)-1))).bind fun f=>(F f.Mono x.Mono).bind fun v28=>bif decide (v28>=0) then c else b) else b)=bif Q9 l x j then b else c:=by
 have hj:=E9 hx
 unfold Q9
 by_cases h:j=0
 .subst h; rfl
 .rw [Al (by omega)]
  have e:Ac ((j:Int)-1)=((j-1:Nat):Int):=by rw [Ac,Bw] <;> omega
  have hy:l[j-1]? = some l[j-1]:=B2 (by omega)
  rw [e,Cf rfl hy,hy]
  have h0:(j==0)=false:=by simpa using h
  simp only [cond_true,Ad,h0,Bool.false_or,g _ (List.getElem_mem (by omega:j-1<l.length))]
  by_cases hc:C6 l[j-1].Mono x.Mono<0
  .rw [Aq (by omega),Al hc]; rfl
  .rw [Al (by omega),Aq hc]; rfl
theorem Ayf (s:Bool) (n:Nat):(Hu s n==0)=(n==0):=by
 unfold Hu
 by_cases h:n=0
 .rw [if_pos h]; subst h; rfl
 .rw [if_neg h]
  have:(n==0)=false:=by simpa using h
  rw [this]; cases s <;> rfl
theorem Am3 {data:List A7} {vars:List Aj} {res:Aj} (hc:Mq data vars res) {b1:List (ByteArray×Int)} (b2:List (ByteArray×List Bz)) (hm:Dl data vars res b1) (p:List Ah) (U:∀t∈p,TSz t) :
  ∃B,U6 p b1 b2 data vars res.Kind res.Num res.Args=some (Hz data vars res p,B)/\Dl data vars res B:=by
 unfold U6 Hz
 by_cases A:p.length<=1000
 .rw [Aq (by omega),Al A,Bool.true_and]
  simp only [cond_false]
  obtain ⟨r,V,S⟩:=Aek (M:=List (ByteArray×Int)) (R:=Bool×List (ByteArray×Int)) p (fun q=>Tu data vars res p q.1 q.2) (fun j o=>((j:Int),o)) (Dl data vars res)
   (fun r=>Dl data vars res r.2/\r.1=true) (fun r=>Dl data vars res r.2/\r.1=false) b1
   (s0:=((0:Int),b1))
   (step:=(fun (b,g)=>
    bif (decide (b<(p.length:Int))) then (
    (Ag p b).bind fun v12=>
    (M9 v12.Coef).bind fun f=>
    (show Option Bool from
    bif (f.Neg==v12.Coef.Neg) then (
    (Ma f.Num v12.Coef.Num).bind fun i=>
    bif i then (
    (Ma f.Den v12.Coef.Den).bind fun v17=>
    some v17)
    else some false)
    else some false).bind fun E=>
    bif (!E) then some (.inr (.inl (false,g)))
    else (
    (F1 f).bind fun D=>
    bif (D==(0:Int)) then some (.inr (.inl (false,g)))
    else (
    (Su v12.Mono g b2 data vars res.Kind res.Num res.Args).bind fun v20=>
    bif (!v20.1) then some (.inr (.inl (false,v20.2)))
    else (
    bif (decide (b>(0:Int))) then (
    (Ag p (Ac (b-1))).bind fun v21=>
    (Oa v21.Mono v12.Mono).bind fun v22=>
    bif (decide (v22>=(0:Int))) then some (.inr (.inl (false,v20.2)))
    else some (.inl ((Ac (b+1)),v20.2)))
    else some (.inl ((Ac (b+1)),v20.2))))))
    else some (.inr (.inr g)):Int×List (ByteArray×Int)->Option ((Int×List (ByteArray×Int))⊕((Bool×List (ByteArray×Int))⊕List (ByteArray×Int)))))
   (J:=(fun z=>match z with
    | .inl (I,G)=>some (I,G)
    | .inr L=>some (true,L)))
   rfl hm (by omega) (by
    intro j t o u hx _ h1 h2 h3
    have c:=U t (Cp hx)
    obtain ⟨B,d1,d2⟩:=Aya b2 hc u t.Mono c.mo
    have s:∀l:List Int,l=(Bs (sv t.Coef) (nv t.Coef) (dv t.Coef)).Num\/l=(Bs (sv t.Coef) (nv t.Coef) (dv t.Coef)).Den->l.length<1099511627776:=by
     intro l A
     have q:=Ln (sv t.Coef) (nv t.Coef) (dv t.Coef) 1048577 c.co.nv c.co.dv (by omega)
     have:=q.nl
     have:=q.dl
     rcases A with rfl | rfl <;> omega
    have k:(bif ((Bs (sv t.Coef) (nv t.Coef) (dv t.Coef)).Neg==t.Coef.Neg) then ((Ma (Bs (sv t.Coef) (nv t.Coef) (dv t.Coef)).Num t.Coef.Num).bind fun i=>bif i then ((Ma (Bs (sv t.Coef) (nv t.Coef) (dv t.Coef)).Den t.Coef.Den).bind fun v17=>some v17) else some false) else some false)=some (Tt (Bs (sv t.Coef) (nv t.Coef) (dv t.Coef)) t.Coef):=by
     unfold Tt
     rw [Am1 _ _ (s _ (.inl rfl)),Am1 _ _ (s _ (.inr rfl))]
     cases ((Bs (sv t.Coef) (nv t.Coef) (dv t.Coef)).Neg==t.Coef.Neg) <;> cases decide ((Bs (sv t.Coef) (nv t.Coef) (dv t.Coef)).Num=t.Coef.Num) <;> rfl
    simp only [h1,h2,h3,cond_true,Ad,Aeq t.Coef 1048576 c.co (by omega),k,Aye Oa p (fun y hy x=>Amr y.Mono x (U y hy).mo) hx (by omega),Tu,W3]
    cases N:Tt (Bs (sv t.Coef) (nv t.Coef) (dv t.Coef)) t.Coef with
    | false=>exact ⟨(fun h=>by cases h),fun _=>⟨_,rfl,_,rfl,u,rfl⟩⟩
    | true=>
     have e:=(Am2 _ _).1 N
     simp only [D5,cond_false,Bool.true_and]
     rw [e,Aer t.Coef 1048576 c.co (by omega),Ad,Ayf]
     cases (nv t.Coef==0) with
     | true=>exact ⟨(fun h=>by cases h),fun _=>⟨_,rfl,_,rfl,u,rfl⟩⟩
     | false=>
      simp only [cond_false,d1,Ad,Bool.not_false,Bool.true_and]
      cases Hy data vars res t.Mono with
      | false=>exact ⟨(fun h=>by cases h),fun _=>⟨_,rfl,_,rfl,d2,rfl⟩⟩
      | true=>
       cases Q9 p t j with
       | true=>exact ⟨fun _=>⟨B,rfl,d2⟩,fun h=>by cases h⟩
       | false=>exact ⟨(fun h=>by cases h),fun _=>⟨_,rfl,_,rfl,d2,rfl⟩⟩) (by
    intro o u h1 _
    exact ⟨.inr o,by simp only [h1]; rfl,_,rfl,u,rfl⟩)
  refine ⟨r.2,?_,?_⟩
  .have e:some r=some (p.zipIdx.all (fun q=>Tu data vars res p q.1 q.2),r.2):=by
    rcases S with ⟨h1,h2,h3⟩ | ⟨h1,h2,h3⟩
    .rw [h1,<-h3]
    .rw [h1,<-h3]
   rw [<-e]
   exact V
  .rcases S with ⟨h1,h2,h3⟩ | ⟨h1,h2,h3⟩ <;> exact h2
 .rw [Al (by omega),Aq A]
  exact ⟨b1,rfl,hm⟩
structure CSz (x:Bj):Prop where
 ds:DSz x.Data
 nv:x.Vars.length<=1048576
 vs:∀t∈x.Vars,B3 t<=1048576
 rs:B3 x.Res<=1048576
def Kv (data:List A7) (t:Aj):Bool:=F3 data 0 t&&decide (B3 t<=200)
def Fm (x:Bj):Prop:=x.Vars.length<=3000/\Mo x.Data/\Kv x.Data x.Res=true/\x.Vars.all (Kv x.Data)=true
theorem Fm.ctx {x:Bj} (h:Fm x) (c:CSz x):Mq x.Data x.Vars x.Res:=by
 refine ⟨h.2.1,c.ds.sz.short,fun v t ht=>?_,h.1⟩
 have good:∀t,Kv x.Data t=true->B3 t<=200:=fun t h=>by
  simp only [Kv,C5,decide_eq_true_eq] at h; exact h.2
 unfold tyX at ht
 by_cases b:v = -1
 .rw [if_pos b] at ht; cases ht; exact good _ h.2.2.1
 .rw [if_neg b] at ht
  exact good t (List.all_eq_true.1 h.2.2.2 t (J4 ht).2.2.2)
theorem Ra (x:Bj) (g:CSz x) (p:List Ah) (hp:∀t∈p,TSz t):∃b,Ju x p=some b/\(b=true↔Fm x/\Hz x.Data x.Vars x.Res p=true):=by
 obtain ⟨b,b1,b2⟩:=Al1 g.ds
 have I:=g.nv
 have G:=g.rs
 unfold Ju Jv
 rw [b1,Ws x.Data x.Res 0 (by omega)]
 by_cases y:x.Vars.length<=3000
 .rw [Aq (by omega)]
  simp only [cond_false,Ad]
  cases b with
  | false=>exact ⟨false,rfl,by simp; intro h; have:=b2.2 h.2.1; cases this⟩
  | true=>
   have E:=b2.1 rfl
   simp only [D5,cond_false]
   cases s:(F3 x.Data 0 x.Res&&decide (B3 x.Res<=200)) with
   | false=>exact ⟨false,rfl,by simp; intro h; have:=h.2.2.1; rw [show Kv x.Data x.Res=false from s] at this; cases this⟩
   | true=>
    simp only [D5,cond_false,Ad]
    rw [Option.bind_assoc]
    refine E7 (fun i=>∃j:Nat,i=j/\j<=x.Vars.length/\(x.Vars.take j).all (Kv x.Data)=true) (fun i=>x.Vars.length-i.toNat)
     (fun z=>match z with | .inl r=>r=false/\¬Fm x | .inr _=>Fm x) ⟨0,rfl,by omega,by simp⟩ ?_ ?_
    .rintro i ⟨j,rfl,hj,c⟩
     rcases Nat.lt_or_ge j x.Vars.length with h | h
     .have ht:x.Vars[j]? = some x.Vars[j]:=B2 h
      generalize x.Vars[j]=t at ht
      have:=g.vs t (Cp ht)
      simp only [Al (by omega:(j:Int)<(x.Vars.length:Int)),cond_true,Cf rfl ht,Ad,Ws x.Data t 0 (by omega),C7 h (by omega)]
      rw [show (F3 x.Data 0 t&&decide (B3 t<=200))=Kv x.Data t from rfl]
      cases A:Kv x.Data t with
      | true=>exact .inl ⟨_,rfl,⟨j+1,rfl,by omega,by rw [Df ht,List.all_append,c]; simp [A]⟩,by simp; omega⟩
      | false=>
       refine .inr ⟨.inl false,rfl,rfl,fun J=>?_⟩
       have:=List.all_eq_true.1 J.2.2.2 t (Cp ht)
       rw [A] at this; cases this
     .have:j=x.Vars.length:=by omega
      subst this
      rw [List.take_length] at c
      exact .inr ⟨.inr (),by simp,y,E,s,c⟩
    .rintro (r | u) f
     .obtain ⟨rfl,f⟩:=f
      exact ⟨false,rfl,by simp [f]⟩
     .have B:Fm x:=f
      have hm:Dl x.Data x.Vars x.Res []:=fun q h=>by cases h
      obtain ⟨D,l,L⟩:=Am3 (B.ctx g) [] hm p hp
      cases k:Hz x.Data x.Vars x.Res p with
      | true=>
       rw [k] at l
       refine ⟨true,?_,by simp [B]⟩
       simp only
       rw [Option.bind_assoc]
       refine Gz 1 (fun j=>match j with | 0=>((0:Int),[]) | _=>((1:Int),D)) rfl ?_ ⟨.inr D,rfl,rfl⟩
       intro j hj
       match j,hj with
       | 0,_=>
        show (bif decide ((0:Int)<1) then _ else _)=_
        simp only [Al (by omega:(0:Int)<1),cond_true]
        rw [show Ag [p] 0=some p from rfl,Ad,l]; rfl
      | false=>
       rw [k] at l
       refine ⟨false,?_,by simp⟩
       simp only
       rw [Option.bind_assoc]
       refine Gz 0 (fun _=>((0:Int),[])) rfl (fun j hj=>by omega) ⟨.inl false,?_,rfl⟩
       show (bif decide ((0:Int)<1) then _ else _)=_
       simp only [Al (by omega:(0:Int)<1),cond_true]
       rw [show Ag [p] 0=some p from rfl,Ad,l]; rfl
 .rw [Al (by omega)]
  exact ⟨false,rfl,by simp; intro h; exact absurd h.1 y⟩
end Go.Ab
namespace Go.Ab
open Go
end Go.Ab
namespace Go.Ab
open Go
end Go.Ab
namespace Go.Ab
open Go
end Go.Ab
namespace Go.Ab
open Go
end Go.Ab
namespace Go.Ab
open Go
theorem Ayg {data:List A7} {vars:List Aj} {res:Aj} {m:A9} (h:Hy data vars res m=true):(∀f∈m.Factors,∃t,tyX vars res f.Var=some t)/\m.Factors.length<=6:=by
 unfold Hy at h
 simp only [C5,decide_eq_true_eq] at h
 obtain ⟨⟨h1,h2⟩,h3⟩:=h
 have b:∀f∈m.Factors,1<=E4 data vars res f:=by
  intro f b
  obtain ⟨j,hj⟩:=List.getElem?_of_mem b
  have:=Ja h1 hj
  simp only [W0,C5,decide_eq_true_eq] at this
  exact this.1
 have ha:0<=Cd m.Atoms:=(Am0 m.Atoms (fun a ha=>by
  obtain ⟨j,hj⟩:=List.getElem?_of_mem ha
  have:=Ja h2 hj
  simp only [Mr,C5,decide_eq_true_eq] at this
  omega)).1
 refine ⟨fun f c=>?_,?_⟩
 .have:=b f c
  unfold E4 at this
  cases ht:tyX vars res f.Var with
  | none=>rw [ht] at this; have:(1:Int)<=-1:=this; omega
  | some t=>exact ⟨t,rfl⟩
 .have key:∀l:List Bx,(∀f∈l,1<=E4 data vars res f)->(l.length:Int)<=Dn data vars res l:=by
   intro l
   induction l with
   | nil=>intro _; simp [Dn]
   | cons f fs ih=>
    intro i
    have h1:=i f (by simp)
    have h2:=ih (fun g k=>i g (by simp [k]))
    unfold Dn at *
    simp only [List.map_cons,List.sum_cons,List.length_cons]; omega
  have:=key m.Factors b
  omega
theorem Ayh (a b:Ak) (j k:Nat) (ha:RB j a) (hb:RB k b) (hj:j<34359738000) (hk:k<34359738000):∃c,M6 a b=some c/\Vh a b=some c/\RB (j+k+3) c:=by
 refine ⟨_,Aeu a b j k ha hb (by omega) (by omega),Awi a b j k ha hb (by omega) (by omega),?_⟩
 have h1:=ha.nv
 have h2:=ha.dv
 have h3:=hb.nv
 have s:=hb.dv
 have q:=Gj (nv a) (dv b)
 have l:=Gj (nv b) (dv a)
 have i:=Gj (dv a) (dv b)
 have f:Hv (sv a) (nv a) (dv a) (sv b) (nv b) (dv b)<=nv a*dv b+nv b*dv a:=by
  unfold Hv
  split
  .omega
  .split <;> omega
 have h:=Gi f
 have g:=Tg (nv a*dv b) (nv b*dv a)
 exact Ln _ _ _ _ (by omega) (by omega) (by omega)
end Go.Ab
namespace Go.Ab
open Go
end Go.Ab
namespace Go.Ab
open Go
theorem Ayi (k:Nat):RB k ⟨false,[],[]⟩:=⟨(fun _ h=>by cases h),(fun _ h=>by cases h),by simp,by simp⟩
end Go.Ab
namespace Go.Ab
open Go
end Go.Ab
namespace Go.Ab
open Go
def sg (s:Bool) (n:Nat):Int:=if s then -(n:Int) else n
def rq (a:Ak):Rat:=mkRat (sg (sv a) (nv a)) (dv a)
def Hb (a:Ak):Prop:=a=Bs (sv a) (nv a) (dv a)
theorem Lu (s:Bool) (n d:Nat) (hd:d≠0):rq (Bs s n d)=mkRat (sg s n) d:=by
 obtain ⟨g,f,h1,h2,h3,i⟩:=Aao s n d hd
 unfold rq
 rw [Rat.mkRat_eq_iff (E2 _) hd]
 generalize nv (Bs s n d)=b at *
 generalize dv (Bs s n d)=j at *
 generalize sv (Bs s n d)=s' at *
 by_cases c:n=0
 .have:b=0:=by
   rcases Nat.eq_zero_or_pos b with h | h
   .exact h
   .have:=Nat.mul_pos (Nat.pos_of_ne_zero f) h; omega
  subst this; subst c
  cases s <;> cases s' <;> simp [sg]
 .rw [h3 c,h1,h2]
  cases s <;> simp only [sg,if_true,if_false,Bool.false_eq_true,Int.natCast_mul] <;> grind
theorem O4 (s:Bool) (n d:Nat) (hd:d≠0):Hb (Bs s n d):=by
 obtain ⟨g,b,h1,h2,h3,i⟩:=Aao s n d hd
 unfold Hb
 generalize hc:Bs s n d=c at h1 h2 h3 i
 have e:=Qz s (nv c) (dv c) g b
 rw [<-h1,<-h2,hc] at e
 by_cases f:n=0
 .have h0:nv c=0:=by
   rcases Nat.eq_zero_or_pos (nv c) with h | h
   .exact h
   .have:=Nat.mul_pos (Nat.pos_of_ne_zero b) h; omega
  rw [h0,Wp] at e ⊢
  exact e
 .rw [h3 f]; exact e
theorem Am4 (n m:Int) {d e:Nat} (hd:d≠0) (g:e≠0):mkRat n d<mkRat m e↔n*e<m*d:=by
 have c:(0:Rat)<(d:Rat):=Rat.natCast_pos.2 (by omega)
 have b:(0:Rat)<(e:Rat):=Rat.natCast_pos.2 (by omega)
 rw [Rat.mkRat_eq_div,Rat.mkRat_eq_div,Rat.div_lt_iff c]
 rw [<-Rat.mul_lt_mul_right b]
 have f:(m:Rat) / (e:Rat)*(d:Rat)*(e:Rat)=(m:Rat)*(d:Rat):=by grind
 rw [f]
 have a1:(n:Rat)*(e:Rat)=((n*(e:Int):Int):Rat):=by rw [Rat.intCast_mul]; rfl
 have a2:(m:Rat)*(d:Rat)=((m*(d:Int):Int):Rat):=by rw [Rat.intCast_mul]; rfl
 rw [a1,a2,Rat.intCast_lt_intCast]
theorem Aa0 {a b:Ak} (ha:Hb a) (hb:Hb b) (h:rq a=rq b):a=b:=by
 unfold rq at h
 rw [Rat.mkRat_eq_iff (E2 _) (E2 _)] at h
 rw [ha,hb]
 have q:=E2 a
 have l:=E2 b
 generalize nv a=n at *
 generalize dv a=d at *
 generalize sv a=s at *
 generalize nv b=m at *
 generalize dv b=e at *
 generalize sv b=t at *
 have f:n*e=m*d/\(n≠0->s=t):=by
  have c:n≠0->0<n*e:=fun h=>Nat.mul_pos (by omega) (by omega)
  have g:m≠0->0<m*d:=fun h=>Nat.mul_pos (by omega) (by omega)
  have x:((n*e:Nat):Int)=(n:Int)*e:=by simp
  have u:((m*d:Nat):Int)=(m:Int)*d:=by simp
  cases s <;> cases t <;> simp only [sg,if_true,if_false,Bool.false_eq_true,Int.neg_mul] at h
  .exact ⟨by omega,fun _=>rfl⟩
  .have:n*e=0/\m*d=0:=by omega
   refine ⟨by omega,fun i=>?_⟩
   have:=c i; omega
  .have:n*e=0/\m*d=0:=by omega
   refine ⟨by omega,fun i=>?_⟩
   have:=c i; omega
  .exact ⟨by omega,fun _=>rfl⟩
 have k:=Qz s n d e l
 have j:=Qz t m e d q
 rw [<-k,<-j,Nat.mul_comm e n,f.1,Nat.mul_comm e d,Nat.mul_comm m d]
 refine Alb fun h0=>f.2 ?_
 rintro rfl
 rw [Nat.zero_mul] at f
 have:=f.1
 rw [Nat.mul_comm d m] at h0
 omega
theorem Am5 (j:Bool) (c g:Nat) (i:Bool) (b f:Nat):sg (Jb j c g i b f) (Hv j c g i b f)=sg j c*f+sg i b*g:=by
 unfold Jb Hv sg
 have l:((c*f:Nat):Int)=(c:Int)*f:=by simp
 have k:((b*g:Nat):Int)=(b:Int)*g:=by simp
 cases j <;> cases i <;> simp only [if_true,if_false,Bool.false_eq_true,Bool.true_eq_false,Int.neg_mul]
 .omega
 .by_cases h:b*g<=c*f
  .simp only [if_pos h]; simp only [if_false,Bool.false_eq_true]; omega
  .simp only [if_neg h]; simp only [if_true]; omega
 .by_cases h:b*g<=c*f
  .simp only [if_pos h]; simp only [if_true]; omega
  .simp only [if_neg h]; simp only [if_false,Bool.false_eq_true]; omega
 .omega
theorem Ayj {a b:Ak} {j k:Nat} (ha:RB j a) (hb:RB k b) (hj:j<34359738000) (hk:k<34359738000):∃c,M6 a b=some c/\Vh a b=some c/\RB (j+k+3) c/\Hb c/\rq c=rq a+rq b:=by
 obtain ⟨c,h1,h2,h3⟩:=Ayh a b j k ha hb hj hk
 have e:=Aeu a b j k ha hb (by omega) (by omega)
 rw [h1] at e
 have e:=Option.some.inj e
 have hd:dv a*dv b≠0:=Nat.mul_ne_zero (E2 a) (E2 b)
 refine ⟨c,h1,h2,h3,?_,?_⟩
 .rw [e]; exact O4 _ _ _ hd
 .rw [e,Lu _ _ _ hd,Am5,rq,rq,Rat.mkRat_add_mkRat _ _ (E2 a) (E2 b)]
theorem Ayk (s t:Bool) (n m:Nat):sg (s != t) (n*m)=sg s n*sg t m:=by
 unfold sg
 cases s <;> cases t <;> simp [Int.neg_mul,Int.mul_neg]
theorem Rb {a b:Ak} {j k:Nat} (ha:RB j a) (hb:RB k b) (hj:j<34359738000) (hk:k<34359738000):∃c,Gc a b=some c/\RB (j+k+2) c/\Hb c/\rq c=rq a*rq b:=by
 have hd:dv a*dv b≠0:=Nat.mul_ne_zero (E2 a) (E2 b)
 have h1:=ha.nv
 have h2:=ha.dv
 have h3:=hb.nv
 have h:=hb.dv
 have g:=Gj (nv a) (nv b)
 have f:=Gj (dv a) (dv b)
 refine ⟨_,Aet a b j k ha hb (by omega) (by omega),Ln _ _ _ _ (by omega) (by omega) (by omega),O4 _ _ _ hd,?_⟩
 rw [Lu _ _ _ hd,Ayk,rq,rq,Rat.mkRat_mul_mkRat]
def G0 (x:Rat):Int:=if x<0 then -1 else if 0<x then 1 else 0
theorem Ayl (a:Ak):rq a<0↔Hu (sv a) (nv a) = -1:=by
 have e:(0:Rat)=mkRat 0 1:=by simp
 rw [rq,e,Am4 _ _ (E2 a) (by decide)]
 unfold sg Hu
 split <;> split <;> simp <;> omega
theorem Aym (a:Ak):0<rq a↔Hu (sv a) (nv a)=1:=by
 have e:(0:Rat)=mkRat 0 1:=by simp
 rw [rq,e,Am4 _ _ (by decide) (E2 a)]
 unfold sg Hu
 split <;> split <;> simp <;> omega
theorem Ayn (a:Ak):Hu (sv a) (nv a)=G0 (rq a):=by
 have h1:=Ayl a
 have h2:=Aym a
 have h3:Hu (sv a) (nv a) = -1\/Hu (sv a) (nv a)=0\/Hu (sv a) (nv a)=1:=by unfold Hu; split <;> (try split) <;> simp
 unfold G0
 split
 .rename_i h; exact h1.1 h
 .rename_i h
  split
  .rename_i h'; exact h2.1 h'
  .rename_i h'
   rcases h3 with h3 | h3 | h3
   .exact (h (h1.2 h3)).elim
   .exact h3
   .exact (h' (h2.2 h3)).elim
theorem Ms {a:Ak} {k:Nat} (h:RB k a) (hk:k<34359738000):F1 a=some (G0 (rq a))/\Vg a=some (G0 (rq a)):=by
 rw [<-Ayn]
 exact ⟨Aer a k h (by omega),Awj a k h (by omega)⟩
end Go.Ab
namespace Go.Ab
open Go
structure Ee {α:Type} (S:α->Prop) (g:α->α->Int):Prop where
 zero:∀a b,S a->S b->(g a b=0↔a=b)
 anti:∀a b,S a->S b->g b a = - g a b
 trans:∀a b c,S a->S b->S c->g a b<0->g b c<0->g a c<0
theorem Ee.cmpI:Ee (fun _:Int=>True) Ed:=by
 refine ⟨fun a b _ _=>Hx,fun a b _ _=>?_,fun a b c _ _ _=>?_⟩
 .unfold Go.Ab.Ed; split <;> split <;> (try split) <;> (try split) <;> omega
 .unfold Go.Ab.Ed; intro h1 h2; split at h1 <;> (try split at h1) <;> split at h2 <;> (try split at h2) <;> first | omega | (rw [if_pos (by omega)]; decide)
theorem Am6 {x y:Int}:orI x y<0↔x<0\/(x=0/\y<0):=by unfold orI; split <;> omega
theorem Am7 {x y:Int}:orI x y=0↔x=0/\y=0:=by unfold orI; split <;> omega
theorem Ee.or {α β γ:Type} {S:α->Prop} {s:β->Prop} {l:γ->Prop} {j:β->β->Int} {i:γ->γ->Int} (p:α->β) (q:α->γ) (g:∀a b,p a=p b->q a=q b->a=b) (h1:Ee s j) (h2:Ee l i) (f:∀a,S a->s (p a)/\l (q a)) :
  Ee S (fun a b=>orI (j (p a) (p b)) (i (q a) (q b))):=by
 refine ⟨fun a b ha hb=>?_,fun a b ha hb=>?_,fun a b c ha hb hc=>?_⟩
 .rw [Am7,h1.zero _ _ (f a ha).1 (f b hb).1,h2.zero _ _ (f a ha).2 (f b hb).2]
  exact ⟨fun h=>g a b h.1 h.2,fun h=>by subst h; exact ⟨rfl,rfl⟩⟩
 .show orI (j (p b) (p a)) (i (q b) (q a)) = - orI (j (p a) (p b)) (i (q a) (q b))
  have z:=h1.anti _ _ (f a ha).1 (f b hb).1
  have y:=h2.anti _ _ (f a ha).2 (f b hb).2
  rw [z,y]; unfold orI; split <;> split <;> omega
 .show orI _ _<0->orI _ _<0->orI _ _<0
  simp only [Am6]
  have u:=h1.zero _ _ (f a ha).1 (f b hb).1
  have z2:=h1.zero _ _ (f b hb).1 (f c hc).1
  have t1:=h1.trans _ _ _ (f a ha).1 (f b hb).1 (f c hc).1
  have t2:=h2.trans _ _ _ (f a ha).2 (f b hb).2 (f c hc).2
  rintro (h | ⟨h,h'⟩) (k | ⟨k,x⟩)
  .exact .inl (t1 h k)
  .rw [<-z2.1 k]; exact .inl h
  .rw [u.1 h]; exact .inl k
  .rw [<-z2.1 k,h]; exact .inr ⟨rfl,t2 h' x⟩
theorem Ee.mono {α:Type} {S i:α->Prop} {g:α->α->Int} (h:Ee S g) (f:∀a,i a->S a):Ee i g :=
 ⟨fun a b ha hb=>h.zero a b (f a ha) (f b hb),fun a b ha hb=>h.anti a b (f a ha) (f b hb),fun a b c ha hb hc=>h.trans a b c (f a ha) (f b hb) (f c hc)⟩
theorem Ee.congr {α:Type} {S:α->Prop} {g c:α->α->Int} (h:Ee S g) (e:∀a b,c a b=g a b):Ee S c:=by
 have:c=g:=funext fun a=>funext fun b=>e a b
 rw [this]; exact h
def LL {α:Type} (g:α->α->Int) (l m:List α):Int:=if l.length=m.length then E3 g l m else Go.Ab.Ed l.length m.length
theorem Am8 {α:Type} {S:α->Prop} {g:α->α->Int} (h:Ee S g):∀l m:List α,l.length=m.length->(∀x∈l,S x)->(∀x∈m,S x)->(E3 g l m=0↔l=m)
 | [],[],_,_,_=>by simp [E3]
 | x::xs,y::ys,b,h1,h2=>by
  simp only [E3,Am7,h.zero x y (h1 x (by simp)) (h2 y (by simp)),Am8 h xs ys (by simpa using b) (fun z c=>h1 z (by simp [c])) (fun z c=>h2 z (by simp [c])),List.cons.injEq]
 | [],_::_,b,_,_=>by simp at b
 | _::_,[],b,_,_=>by simp at b
theorem Am9 {α:Type} {S:α->Prop} {g:α->α->Int} (h:Ee S g):∀l m:List α,l.length=m.length->(∀x∈l,S x)->(∀x∈m,S x)->E3 g m l = - E3 g l m
 | [],[],_,_,_=>by simp [E3]
 | x::xs,y::ys,b,h1,h2=>by
  simp only [E3,h.anti x y (h1 x (by simp)) (h2 y (by simp)),Am9 h xs ys (by simpa using b) (fun z c=>h1 z (by simp [c])) (fun z c=>h2 z (by simp [c]))]
  unfold orI; split <;> split <;> omega
 | [],_::_,b,_,_=>by simp at b
 | _::_,[],b,_,_=>by simp at b
theorem Ana {α:Type} {S:α->Prop} {g:α->α->Int} (h:Ee S g):∀l m n:List α,l.length=m.length->m.length=n.length->(∀x∈l,S x)->(∀x∈m,S x)->(∀x∈n,S x)->E3 g l m<0->E3 g m n<0->E3 g l n<0
 | [],[],_,_,_,_,_,_=>by intro h; simp [E3] at h
 | x::xs,y::ys,z::i,f,hm,h1,h2,h3=>by
  simp only [E3,Am6]
  have j:=h.zero x y (h1 x (by simp)) (h2 y (by simp))
  have z2:=h.zero y z (h2 y (by simp)) (h3 z (by simp))
  have t1:=h.trans x y z (h1 x (by simp)) (h2 y (by simp)) (h3 z (by simp))
  have t2:=Ana h xs ys i (by simpa using f) (by simpa using hm) (fun z c=>h1 z (by simp [c])) (fun z c=>h2 z (by simp [c])) (fun z c=>h3 z (by simp [c]))
  rintro (a | ⟨a,q⟩) (b | ⟨b,k⟩)
  .exact .inl (t1 a b)
  .rw [<-z2.1 b]; exact .inl a
  .rw [j.1 a]; exact .inl b
  .rw [<-z2.1 b,a]; exact .inr ⟨rfl,t2 q k⟩
 | _::_,_::_,[],_,hm,_,_,_=>by simp at hm
 | [],_::_,_,f,_,_,_,_=>by simp at f
 | _::_,[],_,f,_,_,_,_=>by simp at f
theorem Ee.ll {α:Type} {S:α->Prop} {g:α->α->Int} (h:Ee S g):Ee (fun l=>∀x∈l,S x) (LL g):=by
 have c:=Ee.cmpI
 refine ⟨fun a b ha hb=>?_,fun a b ha hb=>?_,fun x y z hx hy q=>?_⟩
 .unfold LL
  split
  .rename_i i; exact Am8 h a b i ha hb
  .rename_i i
   rw [Hx]
   exact ⟨fun e=>(i (by omega)).elim,fun e=>(i (by rw [e])).elim⟩
 .unfold LL
  by_cases i:a.length=b.length
  .rw [if_pos i,if_pos i.symm]; exact Am9 h a b i ha hb
  .rw [if_neg i,if_neg (fun e=>i e.symm)]; exact c.anti _ _ trivial trivial
 .unfold LL
  intro h1 h2
  have neg:∀a b:Int,Go.Ab.Ed a b<0->a<b:=by intro a b h; unfold Go.Ab.Ed at h; split at h <;> (try split at h) <;> omega
  have f:∀a b:Int,a<b->Go.Ab.Ed a b<0:=by intro a b h; unfold Go.Ab.Ed; rw [if_pos h]; decide
  by_cases k:x.length=y.length
  .rw [if_pos k] at h1
   by_cases j:y.length=z.length
   .rw [if_pos j] at h2; rw [if_pos (by omega)]; exact Ana h x y z k j hx hy q h1 h2
   .rw [if_neg j] at h2; rw [if_neg (by omega)]
    have:=neg _ _ h2; exact f _ _ (by omega)
  .rw [if_neg k] at h1
   have:=neg _ _ h1
   by_cases j:y.length=z.length
   .rw [if_neg (by omega)]; exact f _ _ (by omega)
   .rw [if_neg j] at h2
    have:=neg _ _ h2
    rw [if_neg (by omega)]; exact f _ _ (by omega)
theorem Anb {α:Type} (g:α->α->Int) (l m:List α) (y:Int):orI (LL g l m) y=if l.length=m.length then orI (E3 g l m) y else Go.Ab.Ed l.length m.length:=by
 unfold LL
 by_cases h:l.length=m.length
 .rw [if_pos h,if_pos h]
 .rw [if_neg h,if_neg h]
  unfold orI
  rw [if_neg (fun e=>h (by have:=Hx.1 e; omega))]
theorem Ayo:Ee (fun _=>True) Wy :=
 (Ee.or (S:=fun _=>True) (fun t:Be=>t.Var) (fun t=>t.Coef) (fun a b h1 h2=>by cases a; cases b; cases h1; cases h2; rfl) Ee.cmpI Ee.cmpI (fun _ _=>⟨trivial,trivial⟩)).congr fun _ _=>rfl
theorem G1:Ee (fun _=>True) Er :=
 (Ee.or (S:=fun _=>True) (fun t:Ar=>t.Terms) (fun t=>t.Const) (fun a b h1 h2=>by cases a; cases b; cases h1; cases h2; rfl) Ayo.ll Ee.cmpI (fun _ _=>⟨fun _ _=>trivial,trivial⟩)).congr fun a b=>by
  show Er a b=orI (LL Wy a.Terms b.Terms) (Go.Ab.Ed a.Const b.Const)
  rw [Anb]; rfl
theorem Ayp (i j:Br):Lr i j=orI (Go.Ab.Ed i.Num j.Num) (LL Lr i.Kids j.Kids):=by
 rw [Amq,Afn]
 unfold orI LL
 by_cases h:i.Num=j.Num
 .rw [if_pos h,if_pos (Hx.2 h)]
 .rw [if_neg h,if_neg (fun e=>h (Hx.1 e))]
theorem Afp:∀n:Nat,Ee (fun i=>Di i<=n) Lr:=by
 intro n
 induction n with
 | zero=>exact ⟨fun a _ ha=>by have:=Ha a; omega,fun a _ ha=>by have:=Ha a; omega,fun a _ _ ha=>by have:=Ha a; omega⟩
 | succ n ih=>
  refine (Ee.or (S:=fun i=>Di i<=n+1) (fun i:Br=>i.Num) (fun i=>i.Kids) (fun a b h1 h2=>by cases a; cases b; cases h1; cases h2; rfl) Ee.cmpI ih.ll ?_).congr Ayp
  intro i c
  refine ⟨trivial,fun x hx=>?_⟩
  have h1:=Q5 hx
  have h2:=Ha i
  show Di x<=n
  omega
theorem Ayq:Ee (fun _=>True) Lr :=
 ⟨fun a b _ _=>(Afp (max (Di a) (Di b))).zero a b (by show Di a<=_; omega) (by show Di b<=_; omega),fun a b _ _=>(Afp (max (Di a) (Di b))).anti a b (by show Di a<=_; omega) (by show Di b<=_; omega),
  fun a b c _ _ _=>(Afp (max (Di a) (max (Di b) (Di c)))).trans a b c (by show Di a<=_; omega) (by show Di b<=_; omega) (by show Di c<=_; omega)⟩
theorem Ayr:Ee (fun _=>True) Ts :=
 (Ee.or (S:=fun _=>True) (fun t:Bx=>t.Var) (fun t=>t.Index) (fun a b h1 h2=>by cases a; cases b; cases h1; cases h2; rfl) Ee.cmpI Ayq (fun _ _=>⟨trivial,trivial⟩)).congr fun _ _=>rfl
theorem Ays:Ee (fun _=>True) Wz :=
 (Ee.or (S:=fun _=>True) (fun t:A5=>t.Lin) (fun t=>t.Deg) (fun a b h1 h2=>by cases a; cases b; cases h1; cases h2; rfl) G1 Ee.cmpI (fun _ _=>⟨trivial,trivial⟩)).congr fun _ _=>rfl
theorem Afq:Ee (fun _=>True) C6 :=
 (Ee.or (S:=fun _=>True) (fun t:A9=>t.Factors) (fun t=>t.Atoms) (fun a b h1 h2=>by cases a; cases b; cases h1; cases h2; rfl) Ayr.ll Ays.ll (fun _ _=>⟨fun _ _=>trivial,fun _ _=>trivial⟩)).congr fun a b=>by
  show C6 a b=orI (LL Ts a.Factors b.Factors) (LL Wz a.Atoms b.Atoms)
  rw [Anb]; rfl
theorem Jg {a b:A9}:C6 a b=0↔a=b:=Afq.zero a b trivial trivial
theorem Tv (a b:A9):C6 b a = - C6 a b:=Afq.anti a b trivial trivial
theorem Tw {a b c:A9} (h:C6 a b<0) (h':C6 b c<0):C6 a c<0:=Afq.trans a b c trivial trivial trivial h h'
end Go.Ab
namespace Go.Ab
open Go
theorem Anc (m:A9):C6 m m=0:=Jg.2 rfl
theorem Afr {a b:A9}:0<C6 a b↔C6 b a<0:=by rw [Tv a b]; omega
def cf:List Ah->A9->Rat
 | [],_=>0
 | t::p,m=>(if C6 t.Mono m=0 then rq t.Coef else 0)+cf p m
def ltT (t u:Ah):Prop:=C6 t.Mono u.Mono<0
structure CP (p:List Ah):Prop where
 srt:p.Pairwise ltT
 coe:∀t∈p,Hb t.Coef/\rq t.Coef≠0
theorem CP.tail {t:Ah} {p:List Ah} (h:CP (t::p)):CP p:=⟨(List.pairwise_cons.1 h.srt).2,fun u hu=>h.coe u (by simp [hu])⟩
theorem CP.head {t:Ah} {p:List Ah} (h:CP (t::p)):∀u∈p,C6 t.Mono u.Mono<0:=(List.pairwise_cons.1 h.srt).1
theorem CP.nil:CP []:=⟨List.Pairwise.nil,fun _ h=>by cases h⟩
theorem CP.cons {t:Ah} {p:List Ah} (h:CP p) (h1:∀u∈p,C6 t.Mono u.Mono<0) (h2:Hb t.Coef) (h3:rq t.Coef≠0):CP (t::p) :=
 ⟨List.pairwise_cons.2 ⟨h1,h.srt⟩,fun u hu=>by
  rcases List.mem_cons.1 hu with rfl | hu
  .exact ⟨h2,h3⟩
  .exact h.coe u hu⟩
theorem Aa1 {p:List Ah} {m:A9} (h:∀t∈p,C6 t.Mono m≠0):cf p m=0:=by
 induction p with
 | nil=>rfl
 | cons t p ih=>
  simp only [cf]
  rw [if_neg (h t (by simp)),ih (fun u hu=>h u (by simp [hu]))]; grind
theorem Re {p:List Ah} {m:A9} (h:∀t∈p,C6 m t.Mono<0):cf p m=0 :=
 Aa1 fun t ht e=>by have:=h t ht; rw [Tv,e] at this; omega
theorem Rf {t:Ah} {p:List Ah} (h:CP (t::p)):cf (t::p) t.Mono=rq t.Coef:=by
 simp only [cf]
 rw [if_pos (Anc _),Re h.head]; grind
theorem Afs {t:Ah} {p:List Ah} {m:A9} (h:C6 t.Mono m≠0):cf (t::p) m=cf p m:=by
 simp only [cf]; rw [if_neg h]; grind
theorem Rg (p q:List Ah) (m:A9):cf (p++q) m=cf p m+cf q m:=by
 induction p with
 | nil=>simp only [List.nil_append,cf]; grind
 | cons t p ih=>simp only [List.cons_append,cf,ih]; grind
theorem Mt {p:List Ah} (h:CP p) {t:Ah} (ht:t∈p):cf p t.Mono=rq t.Coef:=by
 induction p with
 | nil=>cases ht
 | cons u p ih=>
  rcases List.mem_cons.1 ht with rfl | ht
  .exact Rf h
  .have:=h.head t ht
   rw [Afs (by omega)]; exact ih h.tail ht
theorem CP.ext:∀{p q:List Ah},CP p->CP q->(∀m,cf p m=cf q m)->p=q
 | [],[],_,_,_=>rfl
 | [],u::q,_,h2,h=>by
  have:=h u.Mono
  rw [Rf h2] at this
  exact ((h2.coe u (by simp)).2 this.symm).elim
 | t::p,[],h1,_,h=>by
  have:=h t.Mono
  rw [Rf h1] at this
  exact ((h1.coe t (by simp)).2 this).elim
 | t::p,u::q,h1,h2,h=>by
  have b:C6 t.Mono u.Mono=0:=by
   rcases Int.lt_trichotomy (C6 t.Mono u.Mono) 0 with k | k | k
   .have e:=h t.Mono
    rw [Rf h1,Re (p:=u::q)] at e
    .exact ((h1.coe t (by simp)).2 e).elim
    .intro w hw
     rcases List.mem_cons.1 hw with rfl | hw
     .exact k
     .exact Tw k (h2.head w hw)
   .exact k
   .have k:=Afr.1 k
    have e:=h u.Mono
    rw [Rf h2,Re (p:=t::p)] at e
    .exact ((h2.coe u (by simp)).2 e.symm).elim
    .intro w hw
     rcases List.mem_cons.1 hw with rfl | hw
     .exact k
     .exact Tw k (h1.head w hw)
  have hm:=Jg.1 b
  have hc:t.Coef=u.Coef:=by
   refine Aa0 (h1.coe t (by simp)).1 (h2.coe u (by simp)).1 ?_
   have e:=h t.Mono
   rw [Rf h1,hm,Rf h2] at e
   exact e
  have ht:t=u:=by cases t; cases u; simp_all
  subst ht
  congr 1
  refine CP.ext h1.tail h2.tail fun m=>?_
  by_cases e:C6 t.Mono m=0
  .rw [<-Jg.1 e,Re h1.head,Re h2.head]
  .have:=h m
   rwa [Afs e,Afs e] at this
theorem Ane (c:Ak):W3 c=true↔Hb c/\rq c≠0:=by
 unfold W3 Hb
 rw [C5,Am2]
 have h:(!(nv c==0))=true↔rq c≠0:=by
  have e:rq c=0↔nv c=0:=by
   unfold rq
   rw [Rat.mkRat_eq_zero (E2 c)]
   unfold sg; split <;> omega
  rw [Ne,e]; simp
 rw [h]
 exact ⟨fun ⟨a,b⟩=>⟨a.symm,b⟩,fun ⟨a,b⟩=>⟨a.symm,b⟩⟩
theorem Ayt {l:List Ah} (h:∀(j:Nat) (x y:Ah),l[j]? = some x->l[j+1]? = some y->C6 x.Mono y.Mono<0):l.Pairwise ltT:=by
 induction l with
 | nil=>exact List.Pairwise.nil
 | cons t l ih=>
  have ih:=ih fun j x y hx hy=>h (j+1) x y (by simpa using hx) (by simpa using hy)
  refine List.pairwise_cons.2 ⟨?_,ih⟩
  cases l with
  | nil=>intro u hu; cases hu
  | cons v l=>
   have h0:=h 0 t v rfl rfl
   intro u hu
   rcases List.mem_cons.1 hu with rfl | hu
   .exact h0
   .exact Tw h0 ((List.pairwise_cons.1 ih).1 u hu)
theorem W4 {data:List A7} {vars:List Aj} {res:Aj} {p:List Ah}:Hz data vars res p=true↔p.length<=1000/\CP p/\∀t∈p,Hy data vars res t.Mono=true:=by
 unfold Hz
 rw [C5,decide_eq_true_eq]
 constructor
 .rintro ⟨h1,h2⟩
  have g:∀(j:Nat) (t:Ah),p[j]? = some t->W3 t.Coef=true/\Hy data vars res t.Mono=true/\Q9 p t j=true:=by
   intro j t hj
   have:=Ja h2 hj
   simp only [Tu,C5] at this
   exact ⟨this.1.1,this.1.2,this.2⟩
  refine ⟨h1,⟨Ayt fun j x y hx hy=>?_,fun t ht=>?_⟩,fun t ht=>?_⟩
  .have:=(g _ _ hy).2.2
   unfold Q9 at this
   rw [show j+1-1=j by omega,hx] at this
   simpa using this
  .obtain ⟨j,hj⟩:=List.getElem?_of_mem ht
   exact (Ane _).1 (g j t hj).1
  .obtain ⟨j,hj⟩:=List.getElem?_of_mem ht
   exact (g j t hj).2.1
 .rintro ⟨h1,h2,h3⟩
  refine ⟨h1,List.all_eq_true.2 fun q hq=>?_⟩
  have hq:=List.mem_zipIdx' hq
  have hj:p[q.2]? = some q.1:=(B2 hq.1).trans (congrArg some hq.2.symm)
  have hm:q.1∈p:=Cp hj
  simp only [Tu,C5]
  refine ⟨⟨(Ane _).2 (h2.coe _ hm),h3 _ hm⟩,?_⟩
  unfold Q9
  by_cases h0:q.2=0
  .rw [h0]; rfl
  .have b:q.2-1<p.length:=by omega
   rw [B2 b]
   have:=List.pairwise_iff_getElem.1 h2.srt (q.2-1) q.2 b hq.1 (by omega)
   rw [<-hq.2] at this
   simp only [Bool.or_eq_true,decide_eq_true_eq]
   exact .inr this
end Go.Ab
namespace Go.Ab
open Go
theorem Ayu:∀(k:Nat) (t:Br),Di t<=k->k<1099511627776->Qa k t=some t:=by
 intro k
 induction k with
 | zero=>intro t h; have:=Ha t; omega
 | succ k ih=>
  intro t h hk
  have c:=Ha t
  have b:=Tn t.Kids
  rw [Qa]
  refine Iq t.Kids (fun j=>((j:Int),(t.Kids.take j))) rfl (by omega) ?_ ?_
  .intro j x hj hx h1 h2 h3
   have:=Q5 (Cp hx)
   simp only [h1,h2,h3,cond_true,Ad,ih x (by omega) (by omega)]
   rw [De (by simp; omega),Ad,Df hx]
  .intro h1
   exact ⟨t.Kids,by simp,by cases t; rfl⟩
theorem Ayv (m:A9) (b:MSz m):Vo m=some m:=by
 have f:=b.nf
 have c:=b.na
 unfold Vo
 refine Iq m.Factors (fun j=>((j:Int),(m.Factors.take j))) rfl (by omega) ?_ ?_
 .intro j x hj hx h1 h2 h3
  have hm:=Cp hx
  have:=b.fi x hm
  simp only [h1,h2,h3,cond_true,Ad,Ayu 4000000 x.Index (by omega) (by omega)]
  rw [De (by simp; omega),Ad,Df hx]
 .intro h1
  refine ⟨m.Factors,by simp,?_⟩
  dsimp only
  refine Iq m.Atoms (fun j=>((j:Int),(m.Atoms.take j))) rfl (by omega) ?_ ?_
  .intro j x hj hx h1 h2 h3
   have hm:=Cp hx
   have:=b.al x hm
   simp only [h1,h2,h3,cond_true,Ad,So]
   rw [De (by simp; omega),Ad,De (by simp; omega),Ad,Df hx]; rfl
  .intro h1
   exact ⟨m.Atoms,by simp,by cases m; rfl⟩
end Go.Ab
namespace Go.Ab
open Go
structure TB (k:Nat) (t:Ah):Prop where
 co:RB k t.Coef
 mo:MSz t.Mono
theorem TSz.tb {t:Ah} (h:TSz t):TB 1048576 t:=⟨h.co,h.mo⟩
theorem TB.mono {j k:Nat} {t:Ah} (h:TB j t) (hk:j<=k):TB k t:=⟨h.co.mono hk,h.mo⟩
def Rh (c:Ak) (m:A9):List Ah:=if nv c=0 then [] else [⟨Bs (sv c) (nv c) (dv c),m⟩]
theorem Anf (c:Ak):rq c=0↔nv c=0:=by
 unfold rq
 rw [Rat.mkRat_eq_zero (E2 c)]
 unfold sg; split <;> omega
theorem Ayw (c:Ak) (m n:A9):cf (Rh c m) n=if C6 m n=0 then rq c else 0:=by
 unfold Rh
 split
 .rename_i h
  rw [(Anf c).2 h]; simp [cf]
 .simp only [cf,Lu _ _ _ (E2 c)]
  show (if C6 m n=0 then rq c else 0)+0=_
  grind
structure Mg (F:Rat->Rat->Rat) (k:Nat) (p q R:List Ah):Prop where
 cp:CP R
 val:∀m,cf R m=F (cf p m) (cf q m)
 mon:∀t∈R,(∃u∈p,u.Mono=t.Mono)\/(∃u∈q,u.Mono=t.Mono)
 len:R.length<=p.length+q.length
 rb:∀t∈R,RB (k+1) t.Coef
theorem Ayx {k:Nat} {c:Ak} {m:A9} (hc:RB k c):(∀t∈Rh c m,t.Mono=m/\Hb t.Coef/\rq t.Coef≠0/\RB (k+1) t.Coef)/\(Rh c m).length<=1:=by
 unfold Rh
 split
 .exact ⟨fun _ h=>(by cases h),by simp⟩
 .rename_i h
  refine ⟨fun t ht=>?_,by simp⟩
  simp only [List.mem_singleton] at ht
  subst ht
  exact ⟨rfl,O4 _ _ _ (E2 c),by rw [Lu _ _ _ (E2 c)]; exact fun e=>h ((Anf c).1 e),Alg hc⟩
theorem Mg.step {F:Rat->Rat->Rat} {k:Nat} {p q g f R:List Ah} {c:Ak} {m:A9} (h:Mg F k g f R) (y:F 0 0=0) (hc:RB k c)
  (s:∀n,C6 m n≠0->cf p n=cf g n/\cf q n=cf f n) (h0:rq c=F (cf p m) (cf q m)) (l:∀u∈g,C6 m u.Mono<0) (j:∀u∈f,C6 m u.Mono<0)
  (hm:(∃u∈p,u.Mono=m)\/(∃u∈q,u.Mono=m)) (hp:∀u∈g,u∈p) (hq:∀u∈f,u∈q) (A:g.length+f.length+1<=p.length+q.length):Mg F k p q (Rh c m++R):=by
 obtain ⟨i,z⟩:=Ayx (m:=m) hc
 have x:∀t∈R,C6 m t.Mono<0:=by
  intro t ht
  rcases h.mon t ht with ⟨u,hu,e⟩ | ⟨u,hu,e⟩
  .rw [<-e]; exact l u hu
  .rw [<-e]; exact j u hu
 refine ⟨?_,?_,?_,?_,?_⟩
 .refine ⟨List.pairwise_append.2 ⟨?_,h.cp.srt,?_⟩,?_⟩
  .unfold Rh; split
   .exact List.Pairwise.nil
   .exact List.pairwise_singleton _ _
  .intro a ha b hb
   show C6 a.Mono b.Mono<0
   rw [(i a ha).1]; exact x b hb
  .intro t ht
   rcases List.mem_append.1 ht with ht | ht
   .exact ⟨(i t ht).2.1,(i t ht).2.2.1⟩
   .exact h.cp.coe t ht
 .intro n
  rw [Rg,Ayw,h.val n]
  by_cases e:C6 m n=0
  .rw [if_pos e]
   have e':=Jg.1 e
   subst e'
   rw [Re l,Re j,y,h0]; grind
  .rw [if_neg e,(s n e).1,(s n e).2]; grind
 .intro t ht
  rcases List.mem_append.1 ht with ht | ht
  .rw [(i t ht).1]; exact hm
  .rcases h.mon t ht with ⟨u,hu,e⟩ | ⟨u,hu,e⟩
   .exact .inl ⟨u,hp u hu,e⟩
   .exact .inr ⟨u,hq u hu,e⟩
 .rw [List.length_append]; have:=h.len; omega
 .intro t ht
  rcases List.mem_append.1 ht with ht | ht
  .exact (i t ht).2.2.2
  .exact h.rb t ht
end Go.Ab
namespace Go.Ab
open Go
def Hc (n:Int) (f:Bool):List Int:=if f then (if n<0 then [45] else []) else (if n<0 then [32,45,32] else [32,43,32])
def Ia (n:Int):List Int:=if n.natAbs=1 then [] else ti n.natAbs++[42]
def Hk (v:Int):List Int:=if v = -1 then [114,101,115] else 118::ti v
def tT (f:Bool) (t:Be):List Int:=Hc t.Coef f++(Ia t.Coef++Hk t.Var)
def Gm:Bool->List Be->Int->List Int
 | f,[],c=>if c≠0\/f=true then Hc c f++ti c.natAbs else []
 | f,t::ts,c=>tT f t++Gm false ts c
def W5 (l:Ar):List Int:=Gm true l.Terms l.Const
def Hm (X:List Int):Prop:=∀c m,X=c::m->c=97
theorem Hm.nil:Hm []:=by intro c m h; cases h
theorem Hm.cons (X:List Int):Hm (97::X):=by intro c m h; cases h; rfl
theorem Hm.nonum {X:List Int} (h:Hm X):J6 X:=by intro c m e; rw [h c m e]; decide
theorem Aft (n:Nat):∃c m,ti n=c::m/\48<=c/\c<=57:=by
 have b:=Aff (n:Int)
 cases h:ti (n:Int) with
 | nil=>exact (b h).elim
 | cons c m=>
  refine ⟨c,m,rfl,?_⟩
  have hc:c∈ti (n:Int):=by rw [h]; simp
  unfold ti at hc
  obtain ⟨x,hx,rfl⟩:=List.mem_map.1 hc
  have e:Lib.itoa (n:Int)=Lib.decDigits n:=by
   unfold Lib.itoa
   first | rfl | (rw [if_neg (by omega)]; simp) | simp
  rw [e] at hx
  have:=Aat n n (Nat.le_refl _) x hx
  omega
theorem Ang (ts:List Be) (c:Int) {X:List Int} (b:Hm X):J6 (Gm false ts c++X):=by
 have k:∀(n:Int) (Y:List Int),J6 (Hc n false++Y):=by
  intro n Y c m e
  unfold Hc at e
  simp only [Bool.false_eq_true,if_false] at e
  split at e <;> (cases e; decide)
 cases ts with
 | nil=>
  simp only [Gm]
  split
  .rw [List.append_assoc]; exact k _ _
  .exact b.nonum
 | cons t ts=>simp only [Gm,tT,List.append_assoc]; exact k _ _
theorem Anh {v w:Int} {R S:List Int} (c:J6 R) (b:J6 S) (h:Hk v++R=Hk w++S):v=w/\R=S:=by
 unfold Hk at h
 split at h <;> split at h
 .simp only [List.cons_append,List.nil_append,List.cons.injEq,true_and] at h
  exact ⟨by omega,h⟩
 .simp at h
 .simp at h
 .simp only [List.cons_append,List.cons.injEq,true_and] at h
  obtain ⟨g,f⟩:=Nn _ _ _ _ (Gu v) (Gu w) c b h
  exact ⟨Q6 g,f⟩
theorem Afu (v:Int):∃c m,Hk v=c::m/\(c=114\/c=118):=by
 unfold Hk
 split
 .exact ⟨_,_,rfl,.inl rfl⟩
 .exact ⟨_,_,rfl,.inr rfl⟩
theorem Afv (X:List Int):J6 (42::X):=by intro c m e; cases e; decide
theorem Ayy {a b v w:Int} {R S:List Int} (i:J6 R) (g:J6 S) (h:Ia a++(Hk v++R)=Ia b++(Hk w++S)):a.natAbs=b.natAbs/\v=w/\R=S:=by
 unfold Ia at h
 have bad:∀(n:Nat) (u:Int) (X Y:List Int),Hk u++X=ti n++[42]++Y->False:=by
  intro n u X Y e
  obtain ⟨c,m,f,l⟩:=Afu u
  obtain ⟨d,k,j,e4⟩:=Aft n
  rw [f,j] at e
  simp only [List.cons_append,List.cons.injEq] at e
  omega
 split at h <;> split at h
 .rename_i h1 h2
  simp only [List.nil_append] at h
  exact ⟨h1.trans h2.symm,Anh i g h⟩
 .exact (bad _ _ _ _ h).elim
 .exact (bad _ _ _ _ h.symm).elim
 .simp only [List.append_assoc,List.cons_append,List.nil_append] at h
  obtain ⟨f,l⟩:=Nn _ _ _ _ (Gu _) (Gu _) (Afv _) (Afv _) h
  have j:=Q6 f
  obtain ⟨e4,q⟩:=Anh i g (List.cons.inj l).2
  exact ⟨by omega,e4,q⟩
def NoM (P:List Int):Prop:=∃c m,P=c::m/\c≠45
theorem NoM.ti (n:Nat) (X:List Int):NoM (Go.Ab.ti n++X):=by
 obtain ⟨c,m,e,h⟩:=Aft n
 exact ⟨c,m++X,by rw [e]; rfl,by omega⟩
theorem NoM.pT (a v:Int) (X:List Int):NoM (Ia a++(Hk v++X)):=by
 unfold Ia
 split
 .obtain ⟨c,m,e,h⟩:=Afu v
  exact ⟨c,m++X,by rw [e]; rfl,by omega⟩
 .rw [List.append_assoc]; exact NoM.ti _ _
theorem Afw {a b:Int} {f:Bool} {P Q:List Int} (i:NoM P) (g:NoM Q) (h:Hc a f++P=Hc b f++Q):(a<0↔b<0)/\P=Q:=by
 obtain ⟨c,m,rfl,hc⟩:=i
 obtain ⟨d,k,rfl,hd⟩:=g
 unfold Hc at h
 cases f with
 | true=>
  simp only [if_true] at h
  split at h <;> split at h
  .rename_i h1 h2; exact ⟨by simp [h1,h2],by simpa using h⟩
  .simp at h; exact (hd h.1.symm).elim
  .simp at h; exact (hc h.1).elim
  .rename_i h1 h2; exact ⟨by simp [h1,h2],by simpa using h⟩
 | false=>
  simp only [Bool.false_eq_true,if_false] at h
  split at h <;> split at h
  .rename_i h1 h2; exact ⟨by simp [h1,h2],by simpa using h⟩
  .simp at h
  .simp at h
  .rename_i h1 h2; exact ⟨by simp [h1,h2],by simpa using h⟩
theorem Afx {n:Int} {P X:List Int} (b:Hm X) (h:Hc n false++P=X):False:=by
 unfold Hc at h
 simp only [Bool.false_eq_true,if_false] at h
 split at h
 .have:=b _ _ h.symm; omega
 .have:=b _ _ h.symm; omega
theorem Ani {c d:Int} {f:Bool} {u:Be} {m:List Be} {X Y:List Int} (b:Hm X) (l:Hm Y) (h:Gm f [] c++X=Gm f (u::m) d++Y):False:=by
 simp only [Gm,tT] at h
 split at h
 .simp only [List.append_assoc] at h
  obtain ⟨_,e⟩:=Afw (NoM.ti _ _) (NoM.pT _ _ _) h
  unfold Ia at e
  split at e
  .obtain ⟨s,m1,k,h1⟩:=Afu u.Var
   obtain ⟨q,m2,g,h2⟩:=Aft c.natAbs
   rw [k,g] at e
   simp only [List.nil_append,List.cons_append,List.cons.injEq] at e
   omega
  .simp only [List.append_assoc,List.cons_append,List.nil_append] at e
   obtain ⟨_,g⟩:=Nn _ _ _ _ (Gu _) (Gu _) b.nonum (Afv _) e
   have:=b _ _ g; omega
 .rename_i i
  have j:f=false:=by cases f with | true=>simp at i | false=>rfl
  subst j
  simp only [List.nil_append,List.append_assoc] at h
  exact Afx b h.symm
theorem Anj:∀(l m:List Be) (f:Bool) (c d:Int) (X Y:List Int),Hm X->Hm Y->Gm f l c++X=Gm f m d++Y->l=m/\c=d/\X=Y
 | [],[],f,c,d,X,Y,g,b,h=>by
  simp only [Gm] at h
  split at h <;> split at h
  .simp only [List.append_assoc] at h
   obtain ⟨x,q⟩:=Afw (NoM.ti _ _) (NoM.ti _ _) h
   obtain ⟨j,e4⟩:=Nn _ _ _ _ (Gu _) (Gu _) g.nonum b.nonum q
   have s:=Q6 j
   exact ⟨rfl,by omega,e4⟩
  .rename_i h1 h2
   have i:f=false:=by cases f with | true=>simp at h2 | false=>rfl
   subst i
   simp only [List.append_assoc,List.nil_append] at h
   exact (Afx b h).elim
  .rename_i h1 h2
   have i:f=false:=by cases f with | true=>simp at h1 | false=>rfl
   subst i
   simp only [List.append_assoc,List.nil_append] at h
   exact (Afx g h.symm).elim
  .rename_i h1 h2
   refine ⟨rfl,?_,by simpa using h⟩
   have a1:c=0:=by by_cases k:c=0; exact k; exact (h1 (.inl k)).elim
   have a2:d=0:=by by_cases k:d=0; exact k; exact (h2 (.inl k)).elim
   omega
 | [],u::m,f,c,d,X,Y,g,b,h=>(Ani g b h).elim
 | t::l,[],f,c,d,X,Y,g,b,h=>(Ani b g h.symm).elim
 | t::l,u::m,f,c,d,X,Y,g,b,h=>by
  simp only [Gm,tT,List.append_assoc] at h
  obtain ⟨x,q⟩:=Afw (NoM.pT _ _ _) (NoM.pT _ _ _) h
  obtain ⟨j,e4,s⟩:=Ayy (Ang _ _ g) (Ang _ _ b) q
  obtain ⟨A,z,y⟩:=Anj l m false c d X Y g b s
  have:t=u:=by
   cases t; cases u
   simp only at x j e4
   subst e4
   congr 1; omega
  exact ⟨by rw [this,A],z,y⟩
def Gk (a:A5):List Int:=97::(ti a.Deg++58::W5 a.Lin)
def Fa (f:Bx):List Int:=Hw f.Var f.Index
def W6 (m:A9):List Int:=m.Factors.flatMap Fa++m.Atoms.flatMap Gk
theorem Aa2 (l:List A5):Hm (l.flatMap Gk):=by
 cases l with
 | nil=>exact Hm.nil
 | cons a l=>simp only [List.flatMap_cons,Gk,List.cons_append]; exact Hm.cons _
theorem Aa3 (X:List Int):J6 (58::X):=by intro c m e; cases e; decide
theorem Ank:∀(l m:List A5),l.flatMap Gk=m.flatMap Gk->l=m
 | [],[],_=>rfl
 | [],b::m,h=>by simp [Gk] at h
 | a::l,[],h=>by simp [Gk] at h
 | a::l,b::m,h=>by
  simp only [List.flatMap_cons,Gk,List.cons_append,List.append_assoc,List.cons.injEq,true_and] at h
  obtain ⟨q,k⟩:=Nn _ _ _ _ (Gu _) (Gu _) (Aa3 _) (Aa3 _) h
  have j:=(List.cons.inj k).2
  obtain ⟨e4,f,i⟩:=Anj _ _ true _ _ _ _ (Aa2 l) (Aa2 m) j
  have g:=Ank l m i
  have c:=Q6 q
  obtain ⟨⟨u,t1⟩,d1⟩:=a
  obtain ⟨⟨s,t2⟩,d2⟩:=b
  simp only at e4 f c
  rw [e4,f,c,g]
theorem Anl (l:List Bx) {X:List Int} (b:Hm X):O2 (l.flatMap Fa++X):=by
 cases l with
 | nil=>intro c m e; rw [b c m e]; exact ⟨by decide,by decide⟩
 | cons a l=>
  intro c m e
  simp only [List.flatMap_cons,Fa,Hw,List.cons_append] at e
  cases e; exact ⟨by decide,by decide⟩
theorem Anm:∀(l m:List Bx) (X Y:List Int),Hm X->Hm Y->l.flatMap Fa++X=m.flatMap Fa++Y->l=m/\X=Y
 | [],[],X,Y,_,_,h=>⟨rfl,by simpa using h⟩
 | [],b::m,X,Y,f,_,h=>by
  simp only [List.flatMap_cons,List.flatMap_nil,Fa,Hw,List.cons_append,List.nil_append] at h
  have:=f _ _ h; omega
 | a::l,[],X,Y,_,c,h=>by
  simp only [List.flatMap_cons,List.flatMap_nil,Fa,Hw,List.cons_append,List.nil_append] at h
  have:=c _ _ h.symm; omega
 | a::l,b::m,X,Y,f,c,h=>by
  simp only [List.flatMap_cons,Fa,Hw,List.cons_append,List.append_assoc,List.cons.injEq,true_and] at h
  obtain ⟨u,s⟩:=Nn _ _ _ _ (Gu _) (Gu _) (Aa3 _) (Aa3 _) h
  have q:=(List.cons.inj s).2
  obtain ⟨e4,k⟩:=Afh _ _ _ _ (Anl l f) (Anl m c) q
  obtain ⟨j,i⟩:=Anm l m X Y f c k
  have g:=Q6 u
  obtain ⟨x,i1⟩:=a
  obtain ⟨v2,i2⟩:=b
  simp only at e4 g
  exact ⟨by rw [e4,g,j],i⟩
theorem Ayz {m n:A9} (h:W6 m=W6 n):m=n:=by
 obtain ⟨c,f⟩:=Anm _ _ _ _ (Aa2 _) (Aa2 _) h
 have b:=Ank _ _ f
 cases m; cases n
 simp only at c b
 rw [c,b]
def By (l:List Int):Prop:=∀c∈l,0<=c/\c<256
theorem By.app {l m:List Int} (h:By l) (h':By m):By (l++m):=by
 intro c hc
 rcases List.mem_append.1 hc with k | k
 .exact h c k
 .exact h' c k
theorem By.ti (n:Int):By (Go.Ab.ti n):=by
 intro c h
 have:=Gu n c h
 simp only [Nm,Bool.or_eq_true,C5,beq_iff_eq,decide_eq_true_eq] at this
 omega
theorem By.cons {c:Int} {l:List Int} (hc:0<=c/\c<256) (h:By l):By (c::l):=by
 intro d hd
 rcases List.mem_cons.1 hd with rfl | k
 .exact hc
 .exact h d k
theorem By.nil:By []:=fun c h=>by cases h
theorem By.sgn (n:Int) (f:Bool):By (Hc n f):=by
 unfold Hc
 split <;> split <;> intro c hc <;> simp at hc <;> omega
theorem By.mag (n:Int):By (Ia n):=by
 unfold Ia
 split
 .exact By.nil
 .exact (By.ti _).app (By.cons (by omega) By.nil)
theorem By.var (n:Int):By (Hk n):=by
 unfold Hk
 split
 .intro c hc; simp at hc; omega
 .exact By.cons (by omega) (By.ti _)
theorem By.tT (f:Bool) (t:Be):By (tT f t):=(By.sgn _ _).app ((By.mag _).app (By.var _))
theorem By.lins:∀(l:List Be) (f:Bool) (c:Int),By (Gm f l c)
 | [],f,c=>by
  simp only [Gm]
  split
  .exact (By.sgn _ _).app (By.ti _)
  .exact By.nil
 | t::l,f,c=>(By.tT f t).app (By.lins l false c)
theorem By.at (a:A5):By (Gk a):=By.cons (by omega) ((By.ti _).app (By.cons (by omega) (By.lins _ _ _)))
theorem By.flat {α:Type} {g:α->List Int} (h:∀a,By (g a)) (l:List α):By (l.flatMap g):=by
 intro c hc
 obtain ⟨a,_,k⟩:=List.mem_flatMap.1 hc
 exact h a c k
theorem By.fac (f:Bx):By (Fa f):=Aaw f.Var f.Index
theorem By.mono (m:A9):By (W6 m):=(By.flat By.fac _).app (By.flat By.at _)
def bs (l:List Int):ByteArray:=⟨(D1 l).toArray⟩
theorem Ay0 {l m:List Int} (b:By l) (hm:By m) (h:bs l=bs m):l=m:=by
 unfold bs at h
 have h1:(D1 l).toArray=(D1 m).toArray:=by injection h
 have h2:D1 l=D1 m:=by simpa using congrArg Array.toList h1
 exact Afk _ _ b hm h2
def Jh (m:A9):ByteArray:=bs (W6 m)
theorem Ano {m n:A9} (h:Jh m=Jh n):m=n:=Ayz (Ay0 (By.mono m) (By.mono n) h)
theorem W7 (l:List Int):(bs l).size=l.length:=by unfold bs D1; simp [ByteArray.size]
theorem Anp {l:List Int} (h:By l):La (bs l)=l:=by
 unfold La bs D1
 simp only [List.map_map]
 conv=>rhs; rw [<-List.map_id l]
 refine List.map_congr_left fun c hc=>?_
 have:=h c hc
 simp only [Function.comp,UInt8.toNat_ofNat',id]
 omega
theorem Ay1 (l m:List Int):bs l++bs m=bs (l++m):=by
 apply ByteArray.ext
 rw [ByteArray.data_append]
 unfold bs D1
 simp
theorem Ri {l m:List Int} (h:l.length+m.length<=9223372036854775807):Ey (bs l) (bs m)=some (bs (l++m)):=by
 unfold Ey
 rw [if_pos (by rw [W7,W7]; exact h),Ay1]
theorem Aa4 {n:Int} (h:I64 n):My n=some (bs (ti n)):=by
 rw [Afj h]
 congr 2
 congr 1
 unfold D1 ti
 rw [List.map_map]
 conv=>lhs; rw [<-List.map_id (Lib.itoa n)]
 refine List.map_congr_left fun c _=>?_
 simp [Function.comp]
theorem Ay2 (v:Int) (i:Br):Gv v i=bs (Hw v i):=rfl
end Go.Ab
namespace Go.Ab
open Go
theorem Aa5 {S E R α:Type} {step:S->Option (S⊕E)} {s0:S} {J:E->Option R} {r:R} (c:α) (xs:List α) (b:Nat->S) (h0:s0=b 0) (h:xs.length<2305843009213693952)
  (f:∀(j:Nat) (x:α),xs[j]? = some x->decide (((j+1:Nat):Int)<((c::xs).length:Int))=true->Ag (c::xs) ((j+1:Nat):Int)=some x->Ac (((j+1:Nat):Int)+1)=((j+1+1:Nat):Int)->step (b j)=some (.inl (b (j+1))))
  (g:decide (((xs.length+1:Nat):Int)<((c::xs).length:Int))=false->∃e,step (b xs.length)=some (.inr e)/\J e=some r):(Am step s0).bind J=some r:=by
 refine Gz xs.length b h0 (fun j hj=>?_) (g (by simp))
 have hx:xs[j]? = some xs[j]:=B2 hj
 exact f j _ hx (Al (by simp only [List.length_cons]; omega)) (Cf rfl (by simp)) (C7 (n:=xs.length+1) (by omega) (by omega))
theorem bnd {α β:Type} {X:Option α} {a:α} {K:α->Option β} {r:Option β} (h:X=some a) (k:K a=r):X.bind K=r:=by rw [h]; exact k
theorem Lv {l b:List Int} (c:By l) (h:b.length+l.length<=140737488355328):Fv (bs l) b=some ((l.length:Int),b++l):=by
 simp only [Fv,Tf,Ad,Anp c,W7]
 rw [De (by omega)]; rfl
theorem Rj {l b:List Int} (c:By l) (h:b.length+l.length<=140737488355328):Hh (bs l) b=some ((l.length:Int),b++l):=by
 simp only [Hh,Vu,Ad,Anp c,W7]
 rw [De (by omega)]; rfl
theorem O5 {b:List Int} (hb:By b):Jx b=some (bs b):=by
 exact if_pos hb
theorem Ay3 {b:List Int} (hb:By b):Wi b=some (bs b):=O5 hb
theorem Afy (n:Int) (h : -1048576<=n/\n<=1048576):(Ia n).length<=22:=by
 unfold Ia
 split
 .simp
 .have:=Lq (n:=(n.natAbs:Int)) (by unfold I64; omega)
  simp; omega
theorem Aa6 (n:Int) (f:Bool):(Hc n f).length<=3:=by unfold Hc; split <;> split <;> simp
theorem Ay4 {v:Int} (h : -1<=v/\v<3000):(Hk v).length<=22:=by
 unfold Hk
 split
 .simp
 .have:=Lq (n:=v) (by unfold I64; omega)
  simp; omega
structure Anq (a:Ar):Prop where
 c : -1048576<=a.Const/\a.Const<=1048576
 n:a.Terms.length<=16
 t:∀t∈a.Terms,(-1<=t.Var/\t.Var<3000)/\(-1048576<=t.Coef/\t.Coef<=1048576)
theorem Afz {a:Ar} (h:B8 a=true):Anq a:=by
 unfold B8 at h
 simp only [C5,decide_eq_true_eq] at h
 refine ⟨⟨h.1.1,h.1.2.1⟩,h.1.2.2,fun t ht=>?_⟩
 obtain ⟨j,hj⟩:=List.getElem?_of_mem ht
 have:=Ja h.2 hj
 simp only [Q8,C5,decide_eq_true_eq] at this
 omega
theorem Af0 {t:Be} (f:Bool) (h:(-1<=t.Var/\t.Var<3000)/\(-1048576<=t.Coef/\t.Coef<=1048576)):(tT f t).length<=47:=by
 have:=Aa6 t.Coef f
 have:=Afy t.Coef h.2
 have:=Ay4 h.1
 unfold tT
 simp only [List.length_append]; omega
theorem Anr {n:Int} (h : -1048576<=n/\n<=1048576):(if Ac (0-n)>n then Ac (0-n) else n)=(n.natAbs:Int):=by
 rw [Ac,Bw (by omega) (by omega)]; split <;> omega
theorem c45:ByteArray.mk #[45]=bs [45]:=rfl
theorem Ay5:ByteArray.mk #[32,45,32]=bs [32,45,32]:=rfl
theorem Ay6:ByteArray.mk #[32,43,32]=bs [32,43,32]:=rfl
theorem c42:ByteArray.mk #[42]=bs [42]:=rfl
theorem Ans:ByteArray.mk #[118]=bs [118]:=rfl
theorem c97:ByteArray.mk #[97]=bs [97]:=rfl
theorem c58:ByteArray.mk #[58]=bs [58]:=rfl
theorem Ant:ByteArray.mk #[114,101,115]=bs [114,101,115]:=rfl
theorem Anu:By [45]:=By.cons (by omega) By.nil
theorem by3 (a b c:Int) (ha:0<=a/\a<256) (hb:0<=b/\b<256) (hc:0<=c/\c<256):By [a,b,c]:=By.cons ha (By.cons hb (By.cons hc By.nil))
theorem Anv {n:Int} (f:Bool) {b:List Int} (c : -1048576<=n/\n<=1048576) (hb:b.length<=1099511627776):Wj n f b=some ((n.natAbs:Int),b++Hc n f):=by
 unfold Wj Hc
 rw [Anr c,c45,Ay5,Ay6]
 rw [Lv Anu (by simp; omega),Lv (by3 _ _ _ (by omega) (by omega) (by omega)) (by simp; omega),Lv (by3 _ _ _ (by omega) (by omega) (by omega)) (by simp; omega)]
 by_cases h:n<0
 .rw [Al h,if_pos h,if_pos h]; cases f <;> rfl
 .rw [Aq h,if_neg h,if_neg h]; cases f <;> simp
theorem Ay7 {n:Int} {b:List Int} (c : -1048576<=n/\n<=1048576) (hb:b.length<=1099511627776):P7 n true b=some (if n<0 then .inl ((n.natAbs:Int),b++[45]) else .inr ((n.natAbs:Int),b)):=by
 unfold P7
 rw [Anr c,c45,Rj Anu (by simp; omega)]
 by_cases h:n<0
 .rw [Al h,if_pos h]; rfl
 .rw [Aq h,if_neg h]; rfl
theorem Af1 {n:Nat} (h:n<=1048576):Lh (n:Int) 10=some (bs (ti n)):=by
 unfold Lh Y0
 exact Aa4 (by unfold I64; omega)
theorem Aa7 {n:Nat} (h:n<=1048576):(ti (n:Int)).length<=21:=Lq (by unfold I64; omega)
theorem Anw {n:Int} {b:List Int} (c : -1048576<=n/\n<=1048576) (hb:b.length<=1099511627776) :
  (bif ((n.natAbs:Int) != (1:Int)) then (Lh (n.natAbs:Int) 10).bind fun v=>(Ey v (ByteArray.mk #[42])).bind fun u=>(Fv u b).bind fun w=>some w.2 else some b)=some (b++Ia n):=by
 have ht:=Aa7 (n:=n.natAbs) (by omega)
 unfold Ia
 by_cases h:n.natAbs=1
 .rw [E8 (by omega),if_pos h]; simp
 .rw [Eo (by omega),if_neg h,Af1 (by omega),c42]
  simp only [cond_true,Ad]
  rw [Ri (by simp; omega),Ad,Lv ((By.ti _).app (By.cons (by omega) By.nil)) (by simp; omega)]; rfl
theorem Af2 {v:Int} {b:List Int} {R:Type} (K:List Int->Option R) (c : -1<=v/\v<3000) (hb:b.length<=1099511627776) :
  (bif (v==(-1)) then (Fv (ByteArray.mk #[114,101,115]) b).bind fun w=>K w.2 else (G8 v).bind fun x=>(Ey (ByteArray.mk #[118]) x).bind fun y=>(Fv y b).bind fun w=>K w.2)=K (b++Hk v):=by
 have ht:=Lq (n:=v) (by unfold I64; omega)
 unfold Hk
 by_cases h:v = -1
 .rw [En h,if_pos h,Ant,Lv (by3 _ _ _ (by omega) (by omega) (by omega)) (by simp; omega)]; rfl
 .rw [Cr h,if_neg h,Ans]
  simp only [cond_false,G8]
  rw [Aa4 (by unfold I64; omega),Ad,Ri (by simp; omega),Ad]
  rw [show [118]++ti v=118::ti v from rfl,Lv (By.cons (by omega) (By.ti _)) (by simp; omega)]; rfl
theorem Aa8 {α:Type} {g:α->List Int} {l:List α} {j:Nat} {x:α} (h:l[j]? = some x):(l.take (j+1)).flatMap g=(l.take j).flatMap g++g x:=by
 rw [Df h]; simp
theorem Anx {α:Type} {g:α->List Int} {n:Nat}:∀(l:List α),(∀a∈l,(g a).length<=n)->(l.flatMap g).length<=l.length*n
 | [],_=>by simp
 | a::l,h=>by
  have h1:=h a (by simp)
  have h2:=Anx l fun b hb=>h b (by simp [hb])
  simp only [List.flatMap_cons,List.length_append,List.length_cons,Nat.add_mul]; omega
theorem Af3 {α:Type} {g:α->List Int} {n:Nat} (l:List α) (j:Nat) (h:∀a∈l,(g a).length<=n):((l.take j).flatMap g).length<=l.length*n:=by
 refine Nat.le_trans (Anx _ fun a ha=>h a (List.mem_of_mem_take ha)) (Nat.mul_le_mul_right _ ?_)
 rw [List.length_take]; omega
theorem Anz:∀(ts:List Be) (c:Int),Gm false ts c=ts.flatMap (tT false)++Gm false [] c
 | [],c=>by simp
 | t::ts,c=>by
  have:=Anz ts c
  simp only [List.flatMap_cons,List.append_assoc,<-this]; rfl
theorem Ay8 {a:Ar} (h:B8 a=true) (B:a.Terms≠[]):Na a=some (bs (W5 a)):=by
 have z:=Afz h
 unfold Na
 rw [Ku,h]
 obtain ⟨c,l⟩:=a
 cases l with
 | nil=>exact (B rfl).elim
 | cons t ts=>
  have hc : -1048576<=c/\c<=1048576:=z.c
  have M:ts.length<=15:=by have:=z.n; simp at this; omega
  have ht:(-1<=t.Var/\t.Var<3000)/\(-1048576<=t.Coef/\t.Coef<=1048576):=z.t t (by simp)
  have s:∀u∈ts,(-1<=u.Var/\u.Var<3000)/\(-1048576<=u.Coef/\u.Coef<=1048576):=fun u hu=>z.t u (by simp [hu])
  have x:=fun j=>Af3 (g:=tT false) (n:=47) ts j (fun u hu=>Af0 false (s u hu))
  have J:=Af0 true ht
  simp only [Ad,D5,cond_false]
  rw [Al (by simp only [List.length_cons]; omega),cond_true]
  refine bnd (a:=((t.Coef.natAbs:Int),tT true t)) ?_ ?_
  .rw [show Ag (t::ts) 0=some t from rfl,Ad,Ay7 ht.2 (by simp),Ad]
   have G:=Lq (n:=t.Var) (by unfold I64; omega)
   have I:=Aa7 (n:=t.Coef.natAbs) (by omega)
   have D:=Afy t.Coef ht.2
   by_cases q:t.Coef<0
   .rw [if_pos q]
    simp only
    rw [Anw ht.2 (by simp),Ad]
    refine (Af2 (fun b=>some ((t.Coef.natAbs:Int),b)) ht.1 (by simp; omega)).trans ?_
    simp [tT,Hc,q]
   .rw [if_neg q]
    simp only
    by_cases h1:t.Coef.natAbs=1
    .rw [E8 (by omega)]
     simp only [cond_false]
     by_cases y:t.Var = -1
     .rw [En y,Ant,cond_true,Rj (by3 _ _ _ (by omega) (by omega) (by omega)) (by simp)]
      simp [tT,Hc,q,Ia,h1,Hk,y]
     .rw [Cr y,cond_false,Ans,G8,Aa4 (by unfold I64; omega),Ad,Ri (by simp; omega),Ad,show [118]++ti t.Var=118::ti t.Var from rfl,
       Rj (By.cons (by omega) (By.ti _)) (by simp; omega)]
      simp [tT,Hc,q,Ia,h1,Hk,y]
    .rw [Eo (by omega)]
     simp only [cond_true]
     rw [Af1 (by omega),Ad,c42,Ri (by simp; omega),Ad,Rj ((By.ti _).app (By.cons (by omega) By.nil)) (by simp; omega),Ad]
     refine (Af2 (fun b=>some ((t.Coef.natAbs:Int),b)) ht.1 (by simp; omega)).trans ?_
     simp [tT,Hc,q,Ia,h1]
  .simp only
   refine Aa5 t ts (fun j=>(((j+1:Nat):Int),tT true t++(ts.take j).flatMap (tT false))) (by simp [Ac,Bw]) (by omega) ?_ ?_
   .intro j u hu h1 h2 h3
    have f:=s u (Cp hu)
    have:=x j
    have D:=Afy u.Coef f.2
    have A:=Aa6 u.Coef false
    simp only [h1,h2,h3,cond_true,Ad]
    rw [Cr (by omega),Anv false f.2 (by simp only [List.length_append]; omega),Ad,Anw f.2 (by simp only [List.length_append]; omega),Ad]
    refine (Af2 (R:=(Int×List Int)⊕List Int) (fun b=>some (.inl (((j+1+1:Nat):Int),b))) f.1 (by simp only [List.length_append]; omega)).trans ?_
    rw [Aa8 hu]
    simp [tT]
   .intro h1
    have h2:=x ts.length
    rw [List.take_length] at h2
    refine ⟨tT true t++ts.flatMap (tT false),by simp only [h1,cond_false,List.take_length],?_⟩
    have E:By (tT true t++ts.flatMap (tT false)):=(By.tT _ _).app (By.flat (By.tT _) _)
    have e:W5 ⟨c,t::ts⟩=tT true t++ts.flatMap (tT false)++Gm false [] c:=by
     have:=Anz ts c
     rw [List.append_assoc,<-this]; rfl
    rw [e]
    have k:((((t::ts).length:Nat):Int)==(0:Int))=false:=Cr (by simp only [List.length_cons]; omega)
    by_cases i:c=0
    .simp only [E8 i,cond_false,k,Ad]
     rw [O5 E]
     simp [Gm,i]
    .have L:=Aa7 (n:=c.natAbs) (by omega)
     have A:=Aa6 c false
     simp only [Eo i,cond_true,Ad,k]
     rw [Anv false hc (by simp only [List.length_append]; omega),Ad,Af1 (by omega),Ad,Lv (By.ti _) (by simp only [List.length_append]; omega),Ad,
      O5 ((E.app (By.sgn _ _)).app (By.ti _))]
     simp [Gm,i]
theorem An0 {a:Ar} (h:Anq a):(W5 a).length<=1024:=by
 have key:∀(l:List Be) (f:Bool),(∀t∈l,(-1<=t.Var/\t.Var<3000)/\(-1048576<=t.Coef/\t.Coef<=1048576))->(Gm f l a.Const).length<=47*l.length+24:=by
  intro l
  induction l with
  | nil=>
   intro f _
   have h1:=Aa7 (n:=a.Const.natAbs) (by have:=h.c; omega)
   have h2:=Aa6 a.Const f
   simp only [Gm]
   split <;> simp <;> omega
  | cons t l ih=>
   intro f b
   have h1:=Af0 f (b t (by simp))
   have h2:=ih false fun u hu=>b u (by simp [hu])
   simp only [Gm,List.length_append,List.length_cons]; omega
 have:=key a.Terms true h.t
 have:=h.n
 unfold W5; omega
structure CMo (m:A9):Prop where
 sz:MSz m
 nf:m.Factors.length<=6
 na:m.Atoms.length<=6
 al:∀a∈m.Atoms,B8 a.Lin=true/\a.Lin.Terms≠[]/\1<=a.Deg/\a.Deg<=6
theorem Aa9 {R:Type} {a:A5} (K:ByteArray->Option R) (h:B8 a.Lin=true/\a.Lin.Terms≠[]/\1<=a.Deg/\a.Deg<=6) :
  ((G8 a.Deg).bind fun u=>(Ey (ByteArray.mk #[97]) u).bind fun v=>(Ey v (ByteArray.mk #[58])).bind fun w=>(Na a.Lin).bind fun x=>(Ey w x).bind fun y=>K y)=K (bs (Gk a)):=by
 have h1:=Lq (n:=a.Deg) (by unfold I64; omega)
 have h2:=An0 (Afz h.1)
 rw [G8,Aa4 (by unfold I64; omega),Ad,c97,Ri (by simp; omega),Ad,c58,Ri (by simp; omega),Ad,Ay8 h.1 h.2.1,Ad,Ri (by simp; omega),Ad]
 simp [Gk]
theorem W8 {a:A5} (h:B8 a.Lin=true/\a.Lin.Terms≠[]/\1<=a.Deg/\a.Deg<=6):(Gk a).length<=1100:=by
 have h1:=Lq (n:=a.Deg) (by unfold I64; omega)
 have h2:=An0 (Afz h.1)
 simp [Gk]; omega
theorem Aba {f:Bx} (h:Di f.Index<=1048576) (b:iR f.Index/\I64 f.Var):(Fa f).length<=33554432:=by
 have h1:=Lq b.2
 have h2:=Afi f.Index b.1
 simp [Fa,Hw]; omega
theorem Ay9 {m:A9} (h:CMo m):U7 m=some (Jh m):=by
 obtain ⟨fs,c⟩:=m
 have q:∀f∈fs,Di f.Index<=1048576/\iR f.Index/\I64 f.Var:=fun f i=>⟨h.sz.fi f i,h.sz.fr f i⟩
 have u:∀a∈c,B8 a.Lin=true/\a.Lin.Terms≠[]/\1<=a.Deg/\a.Deg<=6:=h.al
 have nf:fs.length<=6:=h.nf
 have na:c.length<=6:=h.na
 have A:=fun (l:List Bx) (x:∀f∈l,f∈fs) (j:Nat)=>Af3 (g:=Fa) (n:=33554432) l j (fun f i=>Aba (q f (x f i)).1 (q f (x f i)).2)
 have D:=fun (l:List A5) (x:∀a∈l,a∈c) (j:Nat)=>Af3 (g:=Gk) (n:=1100) l j (fun a ha=>W8 (u a (x a ha)))
 have M:∀l:List Bx,By (l.flatMap Fa):=fun l=>By.flat By.fac l
 have G:∀l:List A5,By (l.flatMap Gk):=fun l=>By.flat By.at l
 have key:∀f:Bx,f∈fs->Jw f.Var f.Index=some (bs (Fa f)):=fun f i=>Afl f.Var f.Index (q f i).2.2 (q f i).2.1 (q f i).1
 unfold U7 Jh W6
 cases fs with
 | nil=>
  rw [Aq (by simp),cond_false]
  cases c with
  | nil=>
   rw [Aq (by simp),cond_false]
   rw [Ay3 By.nil]; rfl
  | cons a c=>
   have ha:=u a (by simp)
   have y:=W8 ha
   rw [Al (by simp only [List.length_cons]; omega),cond_true,show Ag (a::c) 0=some a from rfl,Ad]
   refine (Aa9 _ ha).trans ?_
   rw [Rj (By.at a) (by simp; omega),Ad]
   refine Aa5 a c (fun j=>(((j+1:Nat):Int),[]++Gk a++(c.take j).flatMap Gk)) (by simp [Ac,Bw]) (by simp at na; omega) ?_ ?_
   .intro j b hb h1 h2 h3
    have k:=u b (by simp [Cp hb])
    have:=W8 k
    have:=D c (fun b hb=>by simp [hb]) j
    simp at na
    simp only [h1,h2,h3,cond_true,Ad]
    refine (Aa9 _ k).trans ?_
    rw [Lv (By.at b) (by simp only [List.length_append,List.length_nil]; omega),Ad,Aa8 hb]
    simp
   .intro h1
    refine ⟨[]++Gk a++c.flatMap Gk,by simp only [h1,cond_false,List.take_length],?_⟩
    dsimp only
    rw [O5 ((By.nil.app (By.at a)).app (G c))]
    simp
 | cons f fs=>
  have i:=q f (by simp)
  have L:=Aba i.1 i.2
  rw [Al (by simp only [List.length_cons]; omega),cond_true,show Ag (f::fs) 0=some f from rfl,Ad,key f (by simp),Ad,Rj (By.fac f) (by simp; omega),Ad]
  refine Aa5 f fs (fun j=>(((j+1:Nat):Int),[]++Fa f++(fs.take j).flatMap Fa)) (by simp [Ac,Bw]) (by simp at nf; omega) ?_ ?_
  .intro j g E h1 h2 h3
   have s:g∈f::fs:=by simp [Cp E]
   have:=Aba (q g s).1 (q g s).2
   have:=A fs (fun b hb=>by simp [hb]) j
   simp at nf
   simp only [h1,h2,h3,cond_true,Ad]
   rw [key g s,Ad,Lv (By.fac g) (by simp only [List.length_append,List.length_nil]; omega),Ad,Aa8 E]
   simp
  .intro h1
   have I:=A fs (fun b hb=>by simp [hb]) fs.length
   rw [List.take_length] at I
   simp at nf
   refine ⟨[]++Fa f++fs.flatMap Fa,by simp only [h1,cond_false,List.take_length],?_⟩
   have z:By ([]++Fa f++fs.flatMap Fa):=(By.nil.app (By.fac f)).app (M fs)
   have J:([]++Fa f++fs.flatMap Fa).length<=234881024:=by simp only [List.length_append,List.length_nil]; omega
   have eB:(f::fs).flatMap Fa = []++Fa f++fs.flatMap Fa:=by simp
   rw [eB]
   generalize []++Fa f++fs.flatMap Fa=B at z J
   cases c with
   | nil=>
    rw [Aq (by simp),cond_false,O5 z]; simp
   | cons a c=>
    have ha:=u a (by simp)
    have y:=W8 ha
    rw [Al (by simp only [List.length_cons]; omega),cond_true,show Ag (a::c) 0=some a from rfl,Ad]
    refine (Aa9 _ ha).trans ?_
    rw [Lv (By.at a) (by omega),Ad]
    refine Aa5 a c (fun j=>(((j+1:Nat):Int),B++Gk a++(c.take j).flatMap Gk)) (by simp [Ac,Bw]) (by simp at na; omega) ?_ ?_
    .intro j b hb h1 h2 h3
     have k:=u b (by simp [Cp hb])
     have:=W8 k
     have:=D c (fun b hb=>by simp [hb]) j
     simp at na
     simp only [h1,h2,h3,cond_true,Ad]
     refine (Aa9 _ k).trans ?_
     rw [Lv (By.at b) (by simp only [List.length_append]; omega),Ad,Aa8 hb]
     simp
    .intro h1
     refine ⟨B++Gk a++c.flatMap Gk,by simp only [h1,cond_false,List.take_length],?_⟩
     dsimp only
     rw [O5 ((z.app (By.at a)).app (G c))]
     simp
end Go.Ab
namespace Go.Ab
open Go
def Dp (ts:List Ah):List (ByteArray×Int):=ts.zipIdx.map fun q=>(Jh q.1.Mono,(q.2:Int))
def Dst (ts:List Ah):Prop:=ts.Pairwise fun t u=>t.Mono≠u.Mono
theorem Aza (ts:List Ah) (t:Ah):Dp (ts++[t])=Dp ts++[(Jh t.Mono,(ts.length:Int))]:=by
 unfold Dp; simp [List.zipIdx_append]
theorem W9 (ts:List Ah) (j:Nat):(Dp ts)[j]? = (ts[j]?).map fun t=>(Jh t.Mono,(j:Int)):=by
 unfold Dp; simp [List.getElem?_map,List.getElem?_zipIdx]
 cases ts[j]? <;> rfl
theorem Azb {ts:List Ah} {j:Nat} {t u:Ah} (h:ts[j]? = some t) (hm:u.Mono=t.Mono):Dp (ts.set j u)=Dp ts:=by
 apply List.ext_getElem?
 intro i
 rw [W9,W9,List.getElem?_set]
 by_cases e:j=i
 .subst e
  rw [if_pos rfl,if_pos (E9 h),h]; simp [hm]
 .rw [if_neg e]
theorem An1 {α:Type}:∀(o:List (ByteArray×α)) (s:ByteArray) (v:α),Eg o s=false->E6 o s v=o++[(s,v)]
 | [],_,_,_=>rfl
 | p::o,s,v,h=>by
  simp only [Eg,List.any_cons,Bool.or_eq_false_iff] at h
  simp only [E6,h.1,cond_false,List.cons_append,List.cons.injEq,true_and]
  exact An1 o s v h.2
theorem Azc {ts:List Ah} {m:A9} (h:∀t∈ts,t.Mono≠m):Eg (Dp ts) (Jh m)=false:=by
 unfold Eg
 rw [List.any_eq_false]
 intro p hp
 obtain ⟨j,hj⟩:=List.getElem?_of_mem hp
 rw [W9] at hj
 cases ht:ts[j]? with
 | none=>rw [ht] at hj; cases hj
 | some t=>
  rw [ht] at hj
  simp only [Option.map_some,Option.some.injEq] at hj
  subst hj
  intro e
  have e:=(O0 _ _).1 e
  exact h t (Cp ht) (Ano e).symm
theorem Azd {ts:List Ah} (hd:Dst ts) {j:Nat} {t:Ah} (h:ts[j]? = some t):Eg (Dp ts) (Jh t.Mono)=true/\Gt (Dp ts) (Jh t.Mono) 0=(j:Int):=by
 have hp:(Dp ts)[j]? = some (Jh t.Mono,(j:Int)):=by rw [W9,h]; rfl
 refine ⟨List.any_eq_true.2 ⟨_,Cp hp,(O0 _ _).2 rfl⟩,?_⟩
 unfold Gt
 have c:(Dp ts).find? (fun p=>Jh t.Mono==p.1)=some (Jh t.Mono,(j:Int)):=by
  cases c:(Dp ts).find? (fun p=>Jh t.Mono==p.1) with
  | none=>
   have:=List.find?_eq_none.1 c _ (Cp hp)
   exact (this ((O0 _ _).2 rfl)).elim
  | some q=>
   have h1:=List.find?_some c
   obtain ⟨i,b⟩:=List.getElem?_of_mem (List.mem_of_find?_eq_some c)
   rw [W9] at b
   cases hu:ts[i]? with
   | none=>rw [hu] at b; cases b
   | some u=>
    rw [hu] at b
    simp only [Option.map_some,Option.some.injEq] at b
    subst b
    have e:=Ano ((O0 _ _).1 h1)
    have l:i=j:=by
     have g:=E9 hu
     have f:=E9 h
     rw [B2 g] at hu
     rw [B2 f] at h
     rcases Nat.lt_trichotomy i j with k | k | k
     .have:=List.pairwise_iff_getElem.1 hd i j g f k
      rw [Option.some.inj hu,Option.some.inj h] at this
      exact (this e.symm).elim
     .exact k
     .have:=List.pairwise_iff_getElem.1 hd j i f g k
      rw [Option.some.inj hu,Option.some.inj h] at this
      exact (this e).elim
    subst l
    rw [e]
 rw [c]; rfl
open Classical in
theorem Rk (t:Ah) (p:List Ah) (m:A9):cf (t::p) m=(if t.Mono=m then rq t.Coef else 0)+cf p m:=by
 simp only [cf]
 by_cases e:t.Mono=m
 .rw [if_pos (Jg.2 e),if_pos e]
 .rw [if_neg (fun h=>e (Jg.1 h)),if_neg e]
open Classical in
theorem An2:∀{ts:List Ah} {j:Nat} {t u:Ah},ts[j]? = some t->u.Mono=t.Mono->∀m,cf (ts.set j u) m=cf ts m+(if t.Mono=m then rq u.Coef-rq t.Coef else 0)
 | [],j,t,u,h,_,m=>by simp at h
 | s::ts,0,t,u,h,hm,m=>by
  simp only [List.getElem?_cons_zero,Option.some.injEq] at h
  subst h
  rw [List.set_cons_zero,Rk,Rk,hm]
  split <;> grind
 | s::ts,j+1,t,u,h,hm,m=>by
  simp only [List.getElem?_cons_succ] at h
  rw [List.set_cons_succ,Rk,Rk,An2 h hm m]
  grind
theorem Dst.set {ts:List Ah} (h:Dst ts) {j:Nat} {t u:Ah} (ht:ts[j]? = some t) (hm:u.Mono=t.Mono):Dst (ts.set j u):=by
 have e:(ts.set j u).map (·.Mono)=ts.map (·.Mono):=by
  apply List.ext_getElem?
  intro i
  rw [List.getElem?_map,List.getElem?_map,List.getElem?_set]
  by_cases e:j=i
  .subst e; rw [if_pos rfl,if_pos (E9 ht),ht]; simp [hm]
  .rw [if_neg e]
 have k:∀l:List Ah,Dst l↔(l.map (·.Mono)).Pairwise (·≠·):=fun l=>by rw [List.pairwise_map]; exact Iff.rfl
 rw [k,e,<-k]; exact h
structure Col (k:Nat) (P:A9->Prop) (ts:List Ah):Prop where
 dst:Dst ts
 tb:∀t∈ts,RB k t.Coef
 mo:∀t∈ts,P t.Mono
theorem Col.nil (k:Nat) (P:A9->Prop):Col k P []:=⟨List.Pairwise.nil,fun _ h=>(by cases h),fun _ h=>(by cases h)⟩
theorem Tx {k0 k:Nat} {P:A9->Prop} (L:∀m,P m->CMo m) (l ts:List Ah) (D:Col k0 P ts) (J:∀t∈l,RB k t.Coef/\P t.Mono) (hk:k<=k0) (U:k0+l.length*(k+3)<34359738000) (S:ts.length+l.length<=1099511627776) :
  ∃f,H7 l (Dp ts) ts=some (Dp f,f)/\Col (k0+l.length*(k+3)) P f/\f.length<=ts.length+l.length/\∀m,cf f m=cf ts m+cf l m:=by
 unfold H7
 refine Z8 (A:=List Ah) (fun f=>(Dp f,f)) ?_
 refine E7 (fun s=>∃(j:Nat) (u:List Ah),s=((j:Int),Dp u,u)/\j<=l.length/\Col (k0+j*(k+3)) P u/\u.length<=ts.length+j/\∀m,cf u m=cf ts m+cf (l.take j) m) (fun s=>l.length-s.1.toNat)
  (fun z=>∃u,z=(Dp u,u)/\Col (k0+l.length*(k+3)) P u/\u.length<=ts.length+l.length/\∀m,cf u m=cf ts m+cf l m) ⟨0,ts,rfl,by omega,by simpa using D,by omega,fun m=>by simp only [List.take_zero,cf]; grind⟩ ?_ ?_
 .rintro _ ⟨j,u,rfl,hj,hu,B,y⟩
  rcases Nat.lt_or_ge j l.length with h | h
  .have hx:l[j]? = some l[j]:=B2 h
   generalize l[j]=x at hx
   obtain ⟨hb,hm⟩:=J x (Cp hx)
   have G:j*(k+3)+(k+3)<=l.length*(k+3):=by rw [<-Nat.succ_mul]; exact Nat.mul_le_mul_right _ h
   have E:(j+1)*(k+3)=j*(k+3)+(k+3):=by rw [Nat.succ_mul]
   simp only [Al (by omega:(j:Int)<(l.length:Int)),cond_true,Cf rfl hx,Ad,Ay9 (L _ hm),C7 h (by omega)]
   left
   by_cases hex:∃t∈u,t.Mono=x.Mono
   .obtain ⟨t,ht,I⟩:=hex
    obtain ⟨i,q⟩:=List.getElem?_of_mem ht
    obtain ⟨g1,g2⟩:=Azd hu.dst q
    rw [I] at g1 g2
    obtain ⟨c,R,_,N,V,M⟩:=Ayj (hu.tb t ht) hb (by omega) (by omega)
    refine ⟨((j+1:Nat),Dp (u.set i ⟨c,t.Mono⟩),u.set i ⟨c,t.Mono⟩),?_,⟨j+1,u.set i ⟨c,t.Mono⟩,rfl,by omega,⟨hu.dst.set q rfl,?_,?_⟩,by rw [List.length_set]; omega,fun m=>?_⟩,by simp; omega⟩
    .simp only [g1,g2,cond_true,Ad,Cf rfl q,R,Fj rfl,Azb (u:=⟨c,t.Mono⟩) q rfl]
    .intro w hw
     rcases List.mem_or_eq_of_mem_set hw with hw | rfl
     .exact (hu.tb w hw).mono (by omega)
     .exact N.mono (by omega)
    .intro w hw
     rcases List.mem_or_eq_of_mem_set hw with hw | rfl
     .exact hu.mo w hw
     .exact hu.mo t ht
    .rw [An2 (u:=⟨c,t.Mono⟩) q rfl m,y m,Df hx,Rg,Rk]
     simp only [M,I,cf]
     split <;> grind
   .have g:=Azc (m:=x.Mono) (ts:=u) fun t ht e=>hex ⟨t,ht,e⟩
    refine ⟨((j+1:Nat),Dp (u++[x]),u++[x]),?_,⟨j+1,u++[x],rfl,by omega,⟨?_,?_,?_⟩,by simp; omega,fun m=>?_⟩,by simp; omega⟩
    .simp only [g,cond_false,Ad]
     rw [De (by simp; omega),Ad,An1 _ _ _ g,Aza]
    .refine List.pairwise_append.2 ⟨hu.dst,List.pairwise_singleton _ _,fun a ha b hb=>?_⟩
     simp only [List.mem_singleton] at hb
     subst hb
     exact fun e=>hex ⟨a,ha,e⟩
    .intro w hw
     rcases List.mem_append.1 hw with hw | hw
     .exact (hu.tb w hw).mono (by omega)
     .simp only [List.mem_singleton] at hw
      subst hw
      exact hb.mono (by omega)
    .intro w hw
     rcases List.mem_append.1 hw with hw | hw
     .exact hu.mo w hw
     .simp only [List.mem_singleton] at hw
      subst hw
      exact hm
    .rw [Rg,y m,Df hx,Rg]; grind
  .have:j=l.length:=by omega
   subst this
   rw [List.take_length] at y
   simp only [Aq (by omega:¬(l.length:Int)<(l.length:Int)),cond_false]
   exact .inr ⟨_,rfl,u,rfl,hu,B,y⟩
 .rintro _ ⟨u,rfl,h1,h2,h3⟩
  exact ⟨_,rfl,u,rfl,h1,h2,h3⟩
end Go.Ab
