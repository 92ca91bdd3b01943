/- Plain laws: what the plain functions answer. -/
import Derived.Test.YthjgkpbilpojpaaGreatDoorBzPl1
import Derived.KernelRfl
namespace Go.Ab
open Go
mutual
theorem Ajn (data:List Az):∀(i:Be) (t:Aj) (d:Nat),Hz data i t=some d->d<=6*Db i
 | ⟨n,kids⟩,t,d,h=>by
  rw [Ai8] at h
  simp only [Db]
  simp only at h
  split at h
  .split at h
   .have:=Uk data kids _ d h; omega
   .cases h
  .split at h
   .split at h
    .cases h; omega
    .cases h
   .split at h
    .split at h
     .have:=Ajo data kids _ d h; omega
     .cases h
    .split at h
     .cases h; omega
     .cases h
theorem Uk (data:List Az):∀(is:List Be) (ts:List Aj) (d:Nat),Fj data is ts=some d->d<=6*Fd is
 | [],[],d,h=>by simp only [Fj] at h; cases h; omega
 | i::is,t::ts,d,h=>by
  rw [Acv] at h
  cases h1:Hz data i t with
  | none=>rw [h1] at h; cases h
  | some a=>
   rw [h1,Ad] at h
   cases h2:Fj data is ts with
   | none=>rw [h2] at h; cases h
   | some b=>
    rw [h2] at h
    cases h
    have:=Ajn data i t a h1
    have:=Uk data is ts b h2
    simp only [Fd]; omega
 | [],_::_,d,h=>by simp only [Fj] at h; cases h
 | _::_,[],d,h=>by simp only [Fj] at h; cases h
theorem Ajo (data:List Az):∀(es:List Be) (t:Aj) (d:Nat),Jb data es t=some d->d<=6*Fd es
 | [],t,d,h=>by simp only [Jb] at h; cases h; omega
 | ⟨n,kids⟩::es,t,d,h=>by
  rw [Ai9] at h
  simp only at h
  cases h1:Ks data t n with
  | none=>rw [h1] at h; cases h
  | some ts=>
   rw [h1,Ad] at h
   cases h2:Fj data kids ts with
   | none=>rw [h2] at h; cases h
   | some a=>
    rw [h2,Ad] at h
    cases h3:Jb data es t with
    | none=>rw [h3] at h; cases h
    | some b=>
     rw [h3] at h
     cases h
     have:=Uk data kids ts a h2
     have:=Ajo data es t b h3
     simp only [Fd,Db]; omega
end
def Ro (data:List Az) (e:Be) (t:Aj):Option Nat:=(Ks data t e.Num).bind fun ts=>(Fj data e.Kids ts).map (1 + ·)
theorem Atq (data:List Az) (e:Be) (es:List Be) (t:Aj):Jb data (e::es) t=(Ro data e t).bind fun a=>(Jb data es t).map (a + ·):=by
 rw [Ai9]; unfold Ro
 cases Ks data t e.Num with
 | none=>rfl
 | some ts=>simp only [Ad]; cases Fj data e.Kids ts <;> rfl
theorem Atr (data:List Az) (e:Be) (t:Aj) (d:Nat) (h:Ro data e t=some d):d<=6*Db e:=by
 unfold Ro at h
 cases h1:Ks data t e.Num with
 | none=>rw [h1] at h; cases h
 | some ts=>
  rw [h1,Ad] at h
  cases h2:Fj data e.Kids ts with
  | none=>rw [h2] at h; cases h
  | some a=>
   rw [h2] at h
   cases h
   have:=Uk data _ ts a h2
   have:=G7 e
   show 1+a<=_
   omega
def Dg (v:Int) (o:Option Nat):Prop:=(v = -1/\∀d,o=some d->6<d)\/∃d:Nat,o=some d/\v=d
theorem Dg.clip {v:Int} {o:Option Nat} (h:Dg v o):(if v>6 then -1 else v)=Ik o:=by
 rcases h with ⟨rfl,h⟩ | ⟨d,rfl,rfl⟩
 .rw [if_neg (by omega),Atg h]
 .by_cases hd:6<d
  .rw [if_pos (by omega),Acw hd]
  .rw [if_neg (by omega),Ajb (by omega)]
theorem Yg {o p:Option Nat} {acc:Nat} {d:Nat} (h:(o.bind fun a=>p.map (a + ·)).map (acc + ·)=some d):∃a b,o=some a/\p=some b/\d=acc+(a+b):=by
 cases o with
 | none=>cases h
 | some a=>
  cases p with
  | none=>cases h
  | some b=>exact ⟨a,b,rfl,rfl,by simp at h; omega⟩
theorem Ats {data:List Az} (hz:Szv data) (hs:Ug data) (b1:List (ByteArray×Int)) (b2:List (ByteArray×List B7)) (vars:List Aj) (N M:Int) (L:List Aj):∀k:Nat,
  (∀(i:Be) (t:Aj),3*Db i<=k->Db i<=1048576->B2 t<=200->∃v,Mv k t i b1 b2 data vars N M L=some v/\Dg v (Hz data i t)) /\
  (∀(f:List Be) (ts:List Aj),3*Fd f+1<=k->Fd f<=1048576->(∀t∈ts,B2 t<=200)->∃v,Oi k ts f b1 b2 data vars N M L=some v/\Dg v (Fj data f ts)) /\
  (∀(e:Be) (t:Aj),3*Db e<=k->Db e<=1048576->B2 t<=200->∃v,Oj k t e b1 b2 data vars N M L=some v/\Dg v (Ro data e t)):=by
 intro k
 induction k with
 | zero=>exact ⟨fun i t h=>by have:=G7 i; omega,fun f ts h=>by omega,fun i t h=>by have:=G7 i; omega⟩
 | succ k ih=>
  obtain ⟨a6,R,a7⟩:=ih
  have D:∀o:Option Nat,o.map (0 + ·)=o:=by intro o; cases o <;> simp
  have c:∀d:Nat,(none:Option Nat)=some d->6<d:=fun d h=>by cases h
  refine ⟨?_,?_,?_⟩
  .intro i t hk hi ht
   have af:=G7 i
   have U:=Uj i.Kids
   rw [Mv,Ai8]
   by_cases h6:t.Kind=6
   .simp only [Fu h6,cond_true,if_pos h6]
    by_cases h0:i.Num=0
    .simp only [Fu h0,cond_true,if_pos h0]
     obtain ⟨p,p1,p2⟩:=R i.Kids t.Args (by omega) (by omega) (fun a ha=>by have:=Kr ha; have:=Jv t; omega)
     rw [p1]
     exact ⟨p,rfl,p2⟩
    .simp only [C2 h0,cond_false,if_neg h0]
     exact ⟨_,rfl,.inl ⟨rfl,c⟩⟩
   .simp only [C2 h6,cond_false,if_neg h6]
    by_cases Z:t.Kind=7
    .simp only [Fu Z,cond_true,if_pos Z]
     by_cases a1:0<=i.Num
     .by_cases a2:i.Num<=6
      .by_cases a3:i.Kids.length=0
       .rw [Ao (show i.Num>=0 from a1),Ao a2,if_pos ⟨a1,a2,a3⟩,Fu (by omega)]
        exact ⟨_,rfl,.inr ⟨i.Num.toNat,rfl,by omega⟩⟩
       .rw [Ao (show i.Num>=0 from a1),Ao a2,if_neg (fun h=>a3 h.2.2),C2 (by omega)]
        exact ⟨_,rfl,.inl ⟨rfl,c⟩⟩
      .rw [Ao (show i.Num>=0 from a1),Av a2,if_neg (fun h=>a2 h.2.1)]
       exact ⟨_,rfl,.inl ⟨rfl,c⟩⟩
     .rw [Av (show ¬i.Num>=0 from a1),if_neg (fun h=>a1 h.1)]
      exact ⟨_,rfl,.inl ⟨rfl,c⟩⟩
    .simp only [C2 Z,cond_false,if_neg Z]
     by_cases h5:t.Kind=5
     .simp only [Fu h5,cond_true,if_pos h5]
      by_cases h0:i.Num=0
      .simp only [F8 h0,cond_false,if_pos h0]
       have key:∀(m j acc:Nat),j+m=i.Kids.length->acc<=10000000->∃z,Al (S:=(Int×Int)) (E:=(Int⊕Int)) (fun (G,v8)=>
         bif (decide (v8<(i.Kids.length:Int))) then (
         (Af i.Kids v8).bind fun v9=>
         (Oj k t v9 b1 b2 data vars N M L).bind fun I=>
         bif (decide (I<(0:Int))) then some (.inr (.inl (-1)))
         else (
         bif (decide (G>(6:Int))) then some (.inr (.inl (-1)))
         else some (.inl ((Ac (G+I)),(Ac (v8+1))))))
         else some (.inr (.inr G))) ((acc:Int),(j:Int))=some z/\Dg (match z with | .inl v=>v | .inr v=>v) ((Jb data (i.Kids.drop j) t).map (acc + ·)):=by
        intro m
        induction m with
        | zero=>
         intro j acc Y A
         have:j=i.Kids.length:=by omega
         subst this
         exact ⟨.inr (acc:Int),Eh (by simp),.inr ⟨acc,by simp [Jb],rfl⟩⟩
        | succ m s=>
         intro j acc Y A
         have g:i.Kids[j]? = some i.Kids[j]:=Ci (by omega)
         generalize i.Kids[j]=e at g
         have ac:=Rm (Cm g)
         rw [Lg g,Atq]
         obtain ⟨v,B,v2⟩:=a7 e t (by omega) (by omega) ht
         rcases v2 with ⟨rfl,v2⟩ | ⟨a,a1,rfl⟩
         .refine ⟨.inl (-1),Eh ?_,.inl ⟨rfl,fun d h=>?_⟩⟩
          .simp only [Ao (by omega:(j:Int)<(i.Kids.length:Int)),cond_true,Ch rfl g,Ad,B]; rfl
          .obtain ⟨a,b,ha,hb,rfl⟩:=Yg h
           have:=v2 a ha; omega
         .have V:=Atr data e t a a1
          by_cases hb:acc>6
          .refine ⟨.inl (-1),Eh ?_,.inl ⟨rfl,fun d h=>?_⟩⟩
           .simp only [Ao (by omega:(j:Int)<(i.Kids.length:Int)),cond_true,Ch rfl g,Ad,B,Av (by omega:¬(a:Int)<0),Ao (by omega:(acc:Int)>6),cond_false]
           .obtain ⟨a,b,ha,hb,rfl⟩:=Yg h
            omega
          .have ew:Ac ((acc:Int)+(a:Int))=((acc+a:Nat):Int):=by rw [Ac,Bu] <;> omega
           obtain ⟨z,q,z2⟩:=s (j+1) (acc+a) (by omega) (by omega)
           refine ⟨z,?_,?_⟩
           .rw [Iw (s':=(((acc+a:Nat):Int),((j+1:Nat):Int)))]
            .exact q
            .simp only [Ao (by omega:(j:Int)<(i.Kids.length:Int)),cond_true,Ch rfl g,Ad,B,Av (by omega:¬(a:Int)<0),Av (by omega:¬(acc:Int)>6),cond_false,ew,C9 (show j<i.Kids.length by omega) (by omega)]
           .have D:∀o:Option Nat,(((some a:Option Nat).bind fun a=>o.map (a + ·)).map (acc + ·))=o.map (acc+a + ·):=by
             intro o; cases o <;> simp [Nat.add_assoc]
            rw [a1,D]
            exact z2
       obtain ⟨z,q,z2⟩:=key i.Kids.length 0 0 (by omega) (by omega)
       have q:Al _ ((0:Int),(0:Int))=some z:=q
       rw [q,Ad]
       rw [List.drop_zero,D] at z2
       cases z with
       | inl v=>exact ⟨v,rfl,z2⟩
       | inr v=>exact ⟨v,rfl,z2⟩
      .simp only [Fv h0,cond_true,if_neg h0]
       exact ⟨_,rfl,.inl ⟨rfl,c⟩⟩
     .simp only [C2 h5,cond_false,if_neg h5]
      by_cases h0:i.Num=0
      .simp only [Fu h0,cond_true]
       by_cases a3:i.Kids.length=0
       .rw [if_pos ⟨h0,a3⟩,Fu (by omega)]
        exact ⟨_,rfl,.inr ⟨0,rfl,rfl⟩⟩
       .rw [if_neg (fun h=>a3 h.2),C2 (by omega)]
        exact ⟨_,rfl,.inl ⟨rfl,c⟩⟩
      .simp only [C2 h0,cond_false]
       rw [if_neg (fun h=>h0 h.1)]
       exact ⟨_,rfl,.inl ⟨rfl,c⟩⟩
  .intro f ts hk hi ht
   have U:=Uj f
   rw [Oi]
   by_cases hl:ts.length=f.length
   .rw [F8 (by omega)]
    simp only [cond_false]
    have key:∀(m j acc:Nat),j+m=f.length->acc<=10000000->∃z,Al (S:=(Int×Int)) (E:=(Int⊕Int)) (fun (v5,X)=>
      bif (decide (X<(ts.length:Int))) then (
      (Af ts X).bind fun G=>
      (Af f X).bind fun v9=>
      (Mv k G v9 b1 b2 data vars N M L).bind fun J=>
      bif (decide (J<(0:Int))) then some (.inr (.inl (-1)))
      else (
      bif (decide (v5>(6:Int))) then some (.inr (.inl (-1)))
      else some (.inl ((Ac (v5+J)),(Ac (X+1))))))
      else some (.inr (.inr v5))) ((acc:Int),(j:Int))=some z/\Dg (match z with | .inl v=>v | .inr v=>v) ((Fj data (f.drop j) (ts.drop j)).map (acc + ·)):=by
     intro m
     induction m with
     | zero=>
      intro j acc Y A
      have:j=ts.length:=by omega
      subst this
      refine ⟨.inr (acc:Int),Eh (by simp),.inr ⟨acc,?_,rfl⟩⟩
      rw [List.drop_of_length_le (by omega),List.drop_of_length_le (by omega)]
      simp [Fj]
     | succ m s=>
      intro j acc Y A
      have g:f[j]? = some f[j]:=Ci (by omega)
      generalize f[j]=e at g
      have hu:ts[j]? = some ts[j]:=Ci (by omega)
      generalize ts[j]=u at hu
      have ac:=Rm (Cm g)
      rw [Lg g,Lg hu,Acv]
      obtain ⟨v,B,v2⟩:=a6 e u (by omega) (by omega) (ht u (Cm hu))
      rcases v2 with ⟨rfl,v2⟩ | ⟨a,a1,rfl⟩
      .refine ⟨.inl (-1),Eh ?_,.inl ⟨rfl,fun d h=>?_⟩⟩
       .simp only [Ao (by omega:(j:Int)<(ts.length:Int)),cond_true,Ch rfl g,Ch rfl hu,Ad,B]; rfl
       .obtain ⟨a,b,ha,hb,rfl⟩:=Yg h
        have:=v2 a ha; omega
      .have V:=Ajn data e u a a1
       by_cases hb:acc>6
       .refine ⟨.inl (-1),Eh ?_,.inl ⟨rfl,fun d h=>?_⟩⟩
        .simp only [Ao (by omega:(j:Int)<(ts.length:Int)),cond_true,Ch rfl g,Ch rfl hu,Ad,B,Av (by omega:¬(a:Int)<0),Ao (by omega:(acc:Int)>6),cond_false]
        .obtain ⟨a,b,ha,hb,rfl⟩:=Yg h
         omega
       .have ew:Ac ((acc:Int)+(a:Int))=((acc+a:Nat):Int):=by rw [Ac,Bu] <;> omega
        obtain ⟨z,q,z2⟩:=s (j+1) (acc+a) (by omega) (by omega)
        refine ⟨z,?_,?_⟩
        .rw [Iw (s':=(((acc+a:Nat):Int),((j+1:Nat):Int)))]
         .exact q
         .simp only [Ao (by omega:(j:Int)<(ts.length:Int)),cond_true,Ch rfl g,Ch rfl hu,Ad,B,Av (by omega:¬(a:Int)<0),Av (by omega:¬(acc:Int)>6),cond_false,ew,C9 (show j<f.length by omega) (by omega)]
        .have D:∀o:Option Nat,(((some a:Option Nat).bind fun a=>o.map (a + ·)).map (acc + ·))=o.map (acc+a + ·):=by
          intro o; cases o <;> simp [Nat.add_assoc]
         rw [a1,D]
         exact z2
    obtain ⟨z,q,z2⟩:=key f.length 0 0 (by omega) (by omega)
    have q:Al _ ((0:Int),(0:Int))=some z:=q
    rw [q,Ad]
    rw [List.drop_zero,List.drop_zero,D] at z2
    cases z with
    | inl v=>exact ⟨v,rfl,z2⟩
    | inr v=>exact ⟨v,rfl,z2⟩
   .rw [Fv (by omega),Aja data f ts hl]
    exact ⟨_,rfl,.inl ⟨rfl,c⟩⟩
  .intro e t hk g ht
   have ag:=G7 e
   rw [Oj]
   unfold Ro Ks
   rw [Ata hz t ht e.Num,Ad]
   cases hf:Ng data t e.Num with
   | none=>exact ⟨-1,rfl,.inl ⟨rfl,c⟩⟩
   | some l=>
    have ad:=Atb hf
    obtain ⟨x,y,_,hx,_,hy,hl,ab⟩:=Acu hf
    obtain ⟨y6,_⟩:=hz x (Ja hx).2.2.2 y (Ja hy).2.2.2
    have ae:l.length<=6:=by rw [hl]; simpa using y6
    have aa:∀a∈Ij l (Hy data t.Num e.Num),B2 a<=200:=(Ate (show Ks data t e.Num=some _ by unfold Ks; rw [hf]; rfl)).1
    obtain ⟨v,B,v2⟩:=R e.Kids (Ij l (Hy data t.Num e.Num)) (by omega) (by omega) aa
    have hd:Dg (if v<0 then -1 else 1+v) (((some l).map fun l=>Ij l (Hy data t.Num e.Num)).bind fun ts=>(Fj data e.Kids ts).map (1 + ·)):=by
     rw [Option.map_some,Ad]
     rcases v2 with ⟨rfl,v2⟩ | ⟨a,a1,rfl⟩
     .refine .inl ⟨rfl,fun d h=>?_⟩
      cases ha:Fj data e.Kids (Ij l (Hy data t.Num e.Num)) with
      | none=>rw [ha] at h; cases h
      | some a=>rw [ha] at h; have:=v2 a ha; simp at h; omega
     .rw [a1,if_neg (by omega)]
      exact .inr ⟨1+a,rfl,by omega⟩
    have a8:v = -1\/(0<=v/\v<=10000000):=by
     rcases v2 with ⟨rfl,v2⟩ | ⟨a,a1,rfl⟩
     .exact .inl rfl
     .have:=Uk data _ _ a a1; right; omega
    refine ⟨_,?_,hd⟩
    simp only [okL,bnt,cond_false,Aio data t.Num e.Num hs,Ad]
    refine Hw (Hy data t.Num e.Num) (fun j=>((j:Int),Ij (l.take j) ((Hy data t.Num e.Num).take j))) (by simp [Ij]) (by omega) ?_ ?_
    .intro j b Y hb h1 h2 h3
     have ha:l[j]? = some l[j]:=Ci (by omega)
     generalize l[j]=a at ha
     have U:=Atd (l.take j) ((Hy data t.Num e.Num).take j)
     have:(l.take j).length<=6:=by simp; omega
     simp only [h1,h2,h3,cond_true,Ad,Ch rfl ha,Atc ha hb]
     rw [Dp (by simp; omega)]
     cases b <;> simp
    .intro h1
     refine ⟨Ij l (Hy data t.Num e.Num),?_,?_⟩
     .simp only [h1]
      rw [List.take_of_length_le (by omega),List.take_of_length_le (Nat.le_refl _)]; rfl
     .rw [B,Ad]
      rcases a8 with h | h
      .subst h; rfl
      .rw [Av (by omega),if_neg (by omega)]
       simp only [cond_false]
       rw [Ac,Bu] <;> omega
def tyX (vars:List Aj) (res:Aj) (v:Int):Option Aj:=if v = -1 then some res else Af vars v
def Dj (data:List Az) (vars:List Aj) (res:Aj) (o:List (ByteArray×Int)):Prop:=∀p∈o,∀v i t,p.1=Gb v i->tyX vars res v=some t->p.2=Ik (Hz data i t)
theorem Ac4 {α:Type}:∀(o:List (ByteArray×α)) (s:ByteArray) (v:α),∀p∈Ej o s v,p∈o\/p=(s,v)
 | [],s,v,p,h=>by simp only [Ej,List.mem_singleton] at h; exact .inr h
 | q::o,s,v,p,h=>by
  unfold Ej at h
  cases hq:(s==q.1) with
  | true=>
   rw [hq] at h
   simp only [cond_true,List.mem_cons] at h
   rcases h with h | h
   .exact .inr h
   .exact .inl (by simp [h])
  | false=>
   rw [hq] at h
   simp only [cond_false,List.mem_cons] at h
   rcases h with h | h
   .exact .inl (by simp [h])
   .rcases Ac4 o s v p h with h | h
    .exact .inl (by simp [h])
    .exact .inr h
theorem Att {data:List Az} (E:Szv data) (I:Ug data) (b1:List (ByteArray×Int)) (b2:List (ByteArray×List B7)) (vars:List Aj) (res:Aj) (f:Dj data vars res b1)
  (v:Int) (i:Be) (t:Aj) (ht:tyX vars res v=some t) (b:B2 t<=200) (G:I64 v) (J:iR i) (k:Db i<=1048576) :
  ∃s,Kd v i b1 b2 data vars res.Kind res.Num res.Args=some (Ik (Hz data i t),s)/\Dj data vars res s:=by
 unfold Kd
 rw [Ac3 v i G J k,Ad]
 cases hh:D3 b1 (Gb v i) with
 | true=>
  refine ⟨b1,?_,f⟩
  have:F6 b1 (Gb v i) 0=Ik (Hz data i t):=by
   unfold F6
   unfold D3 at hh
   rw [List.any_eq_true] at hh
   obtain ⟨p,B,A⟩:=hh
   cases hf:b1.find? (fun p=>Gb v i==p.1) with
   | none=>exact absurd A (by have:=List.find?_eq_none.1 hf p B; simpa using this)
   | some q=>
    have hq:=List.find?_some hf
    exact f q (List.mem_of_find?_eq_some hf) v i t ((Nf _ _).1 hq).symm ht
  simp only [cond_true,Ad,bnt,cond_false,this]
 | false=>
  obtain ⟨w,x,u⟩:=(Ats E I b1 b2 vars res.Kind res.Num res.Args 4000000).1 i t (by omega) k b
  have c:Kh v b1 b2 data vars res.Kind res.Num res.Args=some t:=by
   unfold Kh
   unfold tyX at ht
   by_cases h:v = -1
   .rw [if_pos h] at ht; cases ht
    have L:(Aj.mk res.Kind res.Num res.Args)=res:=by cases res; rfl
    rw [Fu h,L]; rfl
   .rw [if_neg h] at ht
    rw [C2 h,ht]; rfl
  have g:(bif decide (w>6) then some (-1) else some w:Option Int)=some (Ik (Hz data i t)):=by
   rw [<-u.clip]
   by_cases h:w>6
   .rw [Ao h,if_pos h]; rfl
   .rw [Av h,if_neg h]; rfl
  refine ⟨Ej b1 (Gb v i) (Ik (Hz data i t)),?_,?_⟩
  .simp only [cond_false,Ad,Bool.not_false,cond_true,c,x,g]
  .intro p hp y D z l j
   rcases Ac4 _ _ _ p hp with h | h
   .exact f p h y D z l j
   .subst h
    obtain ⟨rfl,rfl⟩:=Ajm l
    rw [ht] at j; cases j; rfl
end Go.Ab
namespace Go.Ab
open Go
def Ef (a b:Int):Int:=if a<b then -1 else if a>b then 1 else 0
def orI (a b:Int):Int:=if a=0 then b else a
theorem G9 {a b:Int}:Ef a b=0↔a=b:=by unfold Ef; split <;> (try split) <;> omega
theorem L8 (a b:Int):I2 a b=some (Ef a b):=by
 unfold I2 Tm Ef
 simp only [Ad,bne_self_eq_false,cond_false]
 by_cases h:a<b
 .rw [Ao h,if_pos h]; rfl
 .rw [Av h,if_neg h]
  by_cases h':a>b
  .rw [Ao h',if_pos h']; rfl
  .rw [Av h',if_neg h']; rfl
theorem Ajp (a b:Int):S9 a b=some (Ef a b):=L8 a b
theorem Rp (a b:Int):K6 [a,b]=some (orI a b):=by
 unfold K6 orI
 by_cases ha:a=0
 .rw [if_pos ha]
  by_cases hb:b=0
  .refine Hv 2 (fun j=>(j:Int)) rfl ?_ ⟨.inr (),rfl,by rw [hb]⟩
   intro j c
   match j,c with
   | 0,_=>subst ha; rfl
   | 1,_=>subst hb; rfl
  .refine Hv 1 (fun j=>(j:Int)) rfl ?_ ⟨.inl b,?_,rfl⟩
   .intro j c
    match j,c with
    | 0,_=>subst ha; rfl
   .show (bif (b != 0) then _ else _)=_
    rw [Fv hb]; rfl
 .rw [if_neg ha]
  refine Hv 0 (fun j=>(j:Int)) rfl (fun j c=>by omega) ⟨.inl a,?_,rfl⟩
  show (bif (a != 0) then _ else _)=_
  rw [Fv ha]; rfl
def Eg {α:Type} (g:α->α->Int):List α->List α->Int
 | x::xs,y::ys=>orI (g x y) (Eg g xs ys)
 | _,_=>0
theorem Atu {α:Type} (g:α->α->Int) (l m:List α) {step:Int->Option (Int⊕(Int⊕Unit))} (q:l.length=m.length) (hb:l.length<4611686018427387904)
  (f:∀(j:Nat) (x y:α),l[j]? = some x->m[j]? = some y->decide ((j:Int)<(l.length:Int))=true->Af l (j:Int)=some x->Af m (j:Int)=some y->decide ((j:Int)>=(m.length:Int))=false->Ac ((j:Int)+1)=((j+1:Nat):Int) ->
   step (j:Int)=if g x y=0 then some (.inl ((j+1:Nat):Int)) else some (.inr (.inl (g x y))))
  (k:decide ((l.length:Int)<(l.length:Int))=false->step (l.length:Int)=some (.inr (.inr ()))) :
  ∃z,Al step 0=some z/\(match z with | .inl r=>r=Eg g l m/\r≠0 | .inr _=>Eg g l m=0):=by
 have key:∀(n j:Nat),j+n=l.length->∃z,Al step (j:Int)=some z/\(match z with | .inl r=>r=Eg g (l.drop j) (m.drop j)/\r≠0 | .inr _=>Eg g (l.drop j) (m.drop j)=0):=by
  intro n
  induction n with
  | zero=>
   intro j i
   have:j=l.length:=by omega
   subst this
   refine ⟨.inr (),Eh (k (by simp)),?_⟩
   rw [List.drop_of_length_le (by omega)]; simp [Eg]
  | succ n ih=>
   intro j i
   have hx:l[j]? = some l[j]:=Ci (by omega)
   have hy:m[j]? = some m[j]:=Ci (by omega)
   generalize l[j]=x at hx
   generalize m[j]=y at hy
   have h:=f j x y hx hy (Ao (by omega)) (Ch rfl hx) (Ch rfl hy) (Av (by omega)) (C9 (show j<l.length by omega) hb)
   rw [Lg hx,Lg hy]
   by_cases b:g x y=0
   .rw [if_pos b] at h
    obtain ⟨z,c,z2⟩:=ih (j+1) (by omega)
    refine ⟨z,by rw [Iw h]; exact c,?_⟩
    have e:Eg g (x::l.drop (j+1)) (y::m.drop (j+1))=Eg g (l.drop (j+1)) (m.drop (j+1)):=by simp only [Eg,orI,b,if_true]
    cases z with
    | inl r=>simp only [e]; exact z2
    | inr u=>simp only [e]; exact z2
   .rw [if_neg b] at h
    refine ⟨.inl (g x y),Eh h,?_,b⟩
    simp only [Eg,orI,b,if_false]
 exact key l.length 0 (by omega)
theorem Yh {α:Type} (f:α->α->Option Int) (g:α->α->Int) (l m:List α) (A:l.length=m.length) (hb:l.length<4611686018427387904) (B:∀(j:Nat) (x y:α),l[j]? = some x->m[j]? = some y->f x y=some (g x y)) :
  ((Al (S:=Int) (E:=(Int⊕Unit)) (fun b=>
   bif (decide (b<(l.length:Int))) then (
   (Af l b).bind fun s=>
   bif (decide (b>=(m.length:Int))) then some (.inr (.inl 1))
   else (
   (Af m b).bind fun v9=>
   (f s v9).bind fun c=>
   bif (c != (0:Int)) then some (.inr (.inl c))
   else some (.inl (Ac (b+1)))))
   else some (.inr (.inr ()))) 0).bind fun z=>
   match z with
   | .inl k=>some k
   | .inr _=>bif (decide ((l.length:Int)<(m.length:Int))) then some (-1) else some 0)=some (Eg g l m):=by
 refine Ah6 (Atu g l m A hb ?_ (fun h=>by simp only [h]; rfl)) ?_
 .intro j x y hx hy h1 h2 h3 G D
  simp only [h1,h2,h3,G,D,cond_true,cond_false,Ad,B j x y hx hy]
  by_cases i:g x y=0
  .rw [F8 i,if_pos i]; rfl
  .rw [Fv i,if_neg i]; rfl
 .rintro (r | u) q
  .rw [q.1]
  .simp only
   rw [Av (by omega),show Eg g l m=0 from q]; rfl
def Ul (x y:B6):Int:=orI (Ef x.Var y.Var) (Ef x.Coef y.Coef)
def Fz (a b:Ct):Int:=if a.Terms.length=b.Terms.length then orI (Eg Ul a.Terms b.Terms) (Ef a.Const b.Const) else Ef a.Terms.length b.Terms.length
theorem Yi (a b:Ct) (ha:a.Terms.length<1099511627776):Jr a b=some (Fz a b):=by
 unfold Jr Fz
 rw [L8,Ad]
 by_cases h:a.Terms.length=b.Terms.length
 .rw [F8 (G9.2 (by omega)),if_pos h]
  simp only [cond_false]
  have:=Yh S8 Ul a.Terms b.Terms h (by omega) (fun j x y _ _=>by
   unfold S8 Ul
   rw [L8,Ajp]; simp only [Ad,Rp])
  rw [show Wy a.Terms b.Terms=_ from this,Ad,Ajp]
  simp only [Ad,Rp]
 .rw [Fv (fun e=>h (by have:=G9.1 e; omega)),if_neg h]; rfl
mutual
def Ku:Be->Be->Int
 | ⟨n,k⟩,j=>if n=j.Num then (if k.length=j.Kids.length then O8 k j.Kids else Ef k.length j.Kids.length) else Ef n j.Num
def O8:List Be->List Be->Int
 | x::xs,y::ys=>orI (Ku x y) (O8 xs ys)
 | [],_=>0
 | _::_,[]=>0
end
theorem Ajq (i j:Be):Ku i j=if i.Num=j.Num then (if i.Kids.length=j.Kids.length then O8 i.Kids j.Kids else Ef i.Kids.length j.Kids.length) else Ef i.Num j.Num:=by cases i; simp only [Ku]
theorem Ac5:∀l m:List Be,O8 l m=Eg Ku l m
 | x::xs,y::ys=>by simp only [O8,Eg,Ac5 xs ys]
 | [],_=>by simp [O8,Eg]
 | _::_,[]=>by simp [O8,Eg]
theorem Atv:∀(n k:Nat) (i j:Be),Db i<=n->2*n<=k->n<1099511627776->Mx k i j=some (Ku i j):=by
 intro n
 induction n with
 | zero=>intro k i j h; have:=G7 i; omega
 | succ n ih=>
  intro k i j h hk c
  obtain ⟨k,rfl⟩:∃b,k=b+2:=⟨k-2,by omega⟩
  have g:=G7 i
  have f:=Uj i.Kids
  rw [Mx,Ajq,L8,L8]
  simp only [Ad,Rp]
  by_cases h1:i.Num=j.Num
  .rw [if_pos h1]
   by_cases h2:i.Kids.length=j.Kids.length
   .rw [if_pos h2,F8 (by unfold orI; rw [G9.2 h1,G9.2 (by omega)]; rfl),Ac5]
    simp only [cond_false]
    have:=Yh (Mx k) Ku i.Kids j.Kids h2 (by omega) (fun q x y hx hy=>ih k x y (by have:=Rm (Cm hx); omega) (by omega) (by omega))
    rw [Tq]
    refine Eq.trans (congrArg (fun q=>Option.bind q _) this) rfl
   .have e:orI (Ef i.Num j.Num) (Ef (i.Kids.length:Int) (j.Kids.length:Int))=Ef i.Kids.length j.Kids.length:=by unfold orI; rw [G9.2 h1]; rfl
    rw [if_neg h2,e,Fv (fun e=>h2 (by have:=G9.1 e; omega))]; rfl
  .have e:orI (Ef i.Num j.Num) (Ef (i.Kids.length:Int) (j.Kids.length:Int))=Ef i.Num j.Num:=by unfold orI; rw [if_neg (fun e=>h1 (G9.1 e))]
   rw [if_neg h1,e,Fv (fun e=>h1 (G9.1 e))]; rfl
def Rq (x y:Bq):Int:=orI (Ef x.Var y.Var) (Ku x.Index y.Index)
def Um (x y:Bb):Int:=orI (Fz x.Lin y.Lin) (Ef x.Deg y.Deg)
def Cz (a b:Bc):Int :=
 if a.Factors.length=b.Factors.length then
  orI (Eg Rq a.Factors b.Factors) (if a.Atoms.length=b.Atoms.length then Eg Um a.Atoms b.Atoms else Ef a.Atoms.length b.Atoms.length)
 else Ef a.Factors.length b.Factors.length
structure MSz (m:Bc):Prop where
 nf:m.Factors.length<=1048576
 na:m.Atoms.length<=1048576
 fi:∀f∈m.Factors,Db f.Index<=1048576
 fr:∀f∈m.Factors,iR f.Index/\I64 f.Var
 al:∀a∈m.Atoms,a.Lin.Terms.length<=1048576
theorem Ajr (a b:Bc) (ha:MSz a):K4 a b=some (Cz a b):=by
 have h1:=ha.nf
 have h2:=ha.na
 unfold K4 Cz
 rw [L8,Ad]
 by_cases h:a.Factors.length=b.Factors.length
 .rw [F8 (G9.2 (by omega)),if_pos h]
  simp only [cond_false]
  have:=Yh Tc Rq a.Factors b.Factors h (by omega) (fun j x y hx hy=>by
   unfold Tc Rq
   rw [L8,Atv 1048576 4000000 x.Index y.Index (ha.fi x (Cm hx)) (by omega) (by omega)]; simp only [Ad,Rp])
  rw [show Wz a.Factors b.Factors=_ from this,Ad,L8]
  simp only [Ad,Rp]
  by_cases h0:Eg Rq a.Factors b.Factors=0
  .simp only [h0,orI,if_true]
   by_cases h':a.Atoms.length=b.Atoms.length
   .rw [F8 (G9.2 (by omega)),if_pos h']
    simp only [cond_false]
    have:=Yh Td Um a.Atoms b.Atoms h' (by omega) (fun j x y hx hy=>by
     unfold Td Um
     rw [L8,Yi x.Lin y.Lin (by have:=ha.al x (Cm hx); omega)]; simp only [Ad,Rp])
    rw [show W0 a.Atoms b.Atoms=_ from this]; rfl
   .rw [Fv (fun e=>h' (by have:=G9.1 e; omega)),if_neg h']; rfl
  .simp only [orI,if_neg h0]
   rw [Fv h0]; rfl
 .rw [Fv (fun e=>h (by have:=G9.1 e; omega)),if_neg h]; rfl
def Lh {α:Type} (f:α->Int) (l:List α) (x:α) (j:Nat):Bool:=j==0||(match l[j-1]? with | some y=>decide (f y<f x) | none=>false)
def Yj (l:List B6) (x:B6) (j:Nat):Bool:=decide (-1<=x.Var/\x.Var<3000/\x.Coef≠0/\-1048576<=x.Coef/\x.Coef<=1048576)&&Lh (·.Var) l x j
def Gx (a:Ct):Bool:=decide (-1048576<=a.Const/\a.Const<=1048576/\a.Terms.length<=16)&&a.Terms.zipIdx.all (fun q=>Yj a.Terms q.1 q.2)
theorem Ajs (n:Int):Qu n=some (decide (-1048576<=n/\n<=1048576)):=by
 unfold Qu
 by_cases h:(-1048576:Int)<=n <;> simp [h]
theorem Atw (n:Int):Qd n=some (decide (-1<=n/\n<3000)):=by
 unfold Qd
 by_cases h:(-1:Int)<=n <;> simp [h]
theorem Ajt {α S E:Type} (f:α->Int) (l:List α) {x:α} {j:Nat} (hx:l[j]? = some x) (i:l.length<4611686018427387904) (c b:Option (S⊕E)) :
  (bif decide ((j:Int)>0) then ((Af l (Ac ((j:Int)-1))).bind fun g=>bif decide (f g>=f x) then c else b) else b)=bif Lh f l x j then b else c:=by
 have k:=E2 hx
 unfold Lh
 by_cases h:j=0
 .subst h; rfl
 .rw [Ao (by omega)]
  have e:Ac ((j:Int)-1)=((j-1:Nat):Int):=by rw [Ac,Bu] <;> omega
  have hy:l[j-1]? = some l[j-1]:=Ci (by omega)
  rw [e,Ch rfl hy,hy]
  have h0:(j==0)=false:=by simpa using h
  simp only [cond_true,Ad,h0,Bool.false_or]
  by_cases hc:f l[j-1]<f x
  .rw [Av (by omega),Ao hc]; rfl
  .rw [Ao (by omega),Av hc]; rfl
theorem Aju (a:Ct):Mw a=some (Gx a):=by
 unfold Mw Gx
 rw [Ajs]
 simp only [Ad]
 by_cases h1 : -1048576<=a.Const/\a.Const<=1048576
 .rw [Ao h1]
  by_cases h2:a.Terms.length<=16
  .rw [Av (by omega:¬(a.Terms.length:Int)>16),Ao ⟨h1.1,h1.2,h2⟩]
   simp only [bnt,cond_false,Ad,Bool.true_and]
   refine (Xt a.Terms (fun q=>Yj a.Terms q.1 q.2) (fun j=>(j:Int)) rfl (by omega) (rt:=true) (rf:=false) ?_ ?_).trans (by rw [Ab1])
   .intro j x hx _ h1 h2 h3
    simp only [h1,h2,h3,cond_true,Ad,Atw,Ajs,Ajt (·.Var) a.Terms hx (by omega),Yj]
    by_cases g1 : -1<=x.Var/\x.Var<3000
    .by_cases g2:x.Coef=0
     .rw [Ao g1,Fu g2,Av (fun h=>h.2.2.1 g2)]
      exact ⟨(fun h=>by cases h),fun _=>⟨.inl false,rfl,rfl⟩⟩
     .by_cases g3 : -1048576<=x.Coef/\x.Coef<=1048576
      .rw [Ao g1,C2 g2,Ao g3,Ao ⟨g1.1,g1.2,g2,g3.1,g3.2⟩]
       cases Lh (·.Var) a.Terms x j with
       | true=>exact ⟨fun _=>rfl,fun h=>by cases h⟩
       | false=>exact ⟨(fun h=>by cases h),fun _=>⟨.inl false,rfl,rfl⟩⟩
      .rw [Ao g1,C2 g2,Av g3,Av (fun h=>g3 h.2.2.2)]
       exact ⟨(fun h=>by cases h),fun _=>⟨.inl false,rfl,rfl⟩⟩
    .rw [Av g1,Av (fun h=>g1 ⟨h.1,h.2.1⟩)]
     exact ⟨(fun h=>by cases h),fun _=>⟨.inl false,rfl,rfl⟩⟩
   .intro h _
    exact ⟨.inr (),by simp only [h]; rfl,rfl⟩
  .rw [Ao (by omega:(a.Terms.length:Int)>16),Av (fun h=>h2 h.2.2)]; rfl
 .rw [Av h1,Av (fun h : -1048576<=a.Const/\a.Const<=1048576/\a.Terms.length<=16=>h1 ⟨h.1,h.2.1⟩)]; rfl
end Go.Ab
namespace Go.Ab
open Go
structure Ni (data:List Az) (vars:List Aj) (res:Aj):Prop where
 vd:Lf data
 sh:Ug data
 sz:∀v t,tyX vars res v=some t->B2 t<=200
 nv:vars.length<=3000
theorem Ajv (vars:List Aj) (res:Aj) (v:Int):(tyX vars res v).isSome=decide (-1<=v/\v<vars.length):=by
 unfold tyX
 by_cases h:v = -1
 .rw [if_pos h]; subst h; rw [Ao (by omega)]; rfl
 .rw [if_neg h]
  cases hx:Af vars v with
  | none=>rcases Uf hx with h' | h' <;> rw [Av (by omega)] <;> rfl
  | some t=>have:=Ja hx; rw [Ao (by omega)]; rfl
section
variable (b1:List (ByteArray×Int)) (b2:List (ByteArray×List B7)) (data:List Az) (vars:List Aj) (res:Aj)
theorem Ajw (v:Int) (f c:Int) (b:List Aj):N9 v b1 b2 data vars f c b=some (tyX vars res v).isSome:=by
 rw [Ajv]
 unfold N9
 by_cases h:v>=-1
 .rw [Ao h]
  by_cases h':v<(vars.length:Int)
  .rw [Ao h',Ao ⟨h,h'⟩]; rfl
  .rw [Av h',Av (fun g=>h' g.2)]; rfl
 .rw [Av h,Av (fun g : -1<=v/\v<(vars.length:Int)=>h g.1)]; rfl
theorem Ajx {v:Int} {t:Aj} (ht:tyX vars res v=some t):Kh v b1 b2 data vars res.Kind res.Num res.Args=some t:=by
 unfold Kh
 unfold tyX at ht
 by_cases h:v = -1
 .rw [if_pos h] at ht; cases ht
  have b:(Aj.mk res.Kind res.Num res.Args)=res:=by cases res; rfl
  rw [Fu h,b]; rfl
 .rw [if_neg h] at ht
  rw [C2 h,ht]; rfl
def Yk (t:B6):Bool:=match tyX vars res t.Var with | some u=>u.Kind==1 | none=>false
def Jx (l:Ct):Bool:=l.Terms.all (Yk vars res)
theorem Atx (l:Ct) (c:l.Terms.length<=1048576):Qc l b1 b2 data vars res.Kind res.Num res.Args=some (Jx vars res l):=by
 unfold Qc Wu W2
 have key:=Ah7 l.Terms (fun t=>!Yk vars res t) (by omega) (J:=fun z=>match z with | .inl b=>some b | .inr _=>some (-1)) (step:=fun v3=>bif (decide (v3<(l.Terms.length:Int))) then ((Af l.Terms v3).bind fun v4=>(Qp v4 b1 b2 data vars res.Kind res.Num res.Args).bind fun v5=>bif v5 then some (.inr (.inl v3)) else some (.inl (Ac (v3+1)))) else some (.inr (.inr ()))) (by
  intro j x hx h1 h2 h3
  have e:Qp x b1 b2 data vars res.Kind res.Num res.Args=some (!Yk vars res x):=by
   unfold Qp Yk
   rw [Ajw b1 b2 data vars res,Ad]
   cases ht:tyX vars res x.Var with
   | none=>rfl
   | some t=>rw [Ajx b1 b2 data vars res ht]; rfl
  simp only [h1,h2,h3,cond_true,Ad,e]) (fun h=>by simp only [h]; rfl) (fun _=>rfl) rfl
 obtain ⟨i,i1,i2⟩:=key
 erw [i1]
 simp only [Ad,i2]
 congr 1
 unfold Jx
 rw [List.any_eq_not_all_not]; simp
def El (f:Bq):Int:=match tyX vars res f.Var with | some t=>Ik (Hz data f.Index t) | none => -1
theorem Ajy (f:Bq) : -1<=El data vars res f/\El data vars res f<=6:=by
 unfold El
 cases tyX vars res f.Var with
 | none=>simp
 | some t=>rcases Atf (Hz data f.Index t) with ⟨h,_⟩ | ⟨d,_,h2,h⟩ <;> simp only [h] <;> omega
def Jd (m:Bc):Bool:=m.Factors.all (fun f=>decide (0<=El data vars res f))&&m.Atoms.all (fun a=>decide (0<=a.Deg)&&Jx vars res a.Lin)
def D9 (l:List Bq):Int:=(l.map (El data vars res)).sum
def Eu (l:List Bb):Int:=(l.map (·.Deg)).sum
def O9 (l:List Bb) (x:Bb) (j:Nat):Bool:=j==0||(match l[j-1]? with | some y=>decide (Fz y.Lin x.Lin<0) | none=>false)
def Un (l:List Bq) (f:Bq) (j:Nat):Bool:=decide (1<=El data vars res f)&&Lh (·.Var) l f j
def Uo (l:List Bb) (a:Bb) (j:Nat):Bool:=decide (1<=a.Deg)&&Gx a.Lin && !(a.Lin.Terms.length==0)&&Jx vars res a.Lin&&O9 l a j
def Je (m:Bc):Bool:=m.Factors.zipIdx.all (fun q=>Un data vars res m.Factors q.1 q.2)&&m.Atoms.zipIdx.all (fun q=>Uo vars res m.Atoms q.1 q.2)&&decide (D9 data vars res m.Factors+Eu m.Atoms<=6)
variable {b1 data vars res}
theorem Up (hc:Ni data vars res) (i:Dj data vars res b1) (f:Bq) (g:I64 f.Var) (h:iR f.Index) (j:Db f.Index<=1048576) (b:(tyX vars res f.Var).isSome=true) :
  ∃c,Kd f.Var f.Index b1 b2 data vars res.Kind res.Num res.Args=some (El data vars res f,c)/\Dj data vars res c:=by
 cases ht:tyX vars res f.Var with
 | none=>rw [ht] at b; cases b
 | some t=>
  obtain ⟨c,h1,h2⟩:=Att hc.vd.szv hc.sh b1 b2 vars res i f.Var f.Index t ht (hc.sz _ _ ht) g h j
  refine ⟨c,?_,h2⟩
  rw [h1]; unfold El; rw [ht]
theorem Ajz (hc:Ni data vars res) (V:Dj data vars res b1) (m:Bc) (l:MSz m) :
  ∃s,P6 m b1 b2 data vars res.Kind res.Num res.Args=some (Jd data vars res m,s)/\Dj data vars res s:=by
 have hf:=l.nf
 have ha:=l.na
 unfold P6
 refine Xo (fun s=>(Jd data vars res m,s)) ?_
 obtain ⟨r,U,N⟩:=Ab2 (M:=List (ByteArray×Int)) (R:=Bool×List (ByteArray×Int)) m.Factors (fun q=>decide (0<=El data vars res q.1)) (fun j o=>((j:Int),o)) (Dj data vars res)
  (fun r=>Dj data vars res r.2/\r.1=m.Atoms.all (fun a=>decide (0<=a.Deg)&&Jx vars res a.Lin)) (fun r=>Dj data vars res r.2/\r.1=false) b1
  (s0:=((0:Int),b1))
  (step:=(fun (A,x)=>
   bif (decide (A<(m.Factors.length:Int))) then (
   (Af m.Factors A).bind fun v8=>
   (N9 v8.Var x b2 data vars res.Kind res.Num res.Args).bind fun B=>
   bif (!B) then some (.inr (.inl (false,x)))
   else (
   (Kd v8.Var v8.Index x b2 data vars res.Kind res.Num res.Args).bind fun g=>
   bif (decide (g.1<(0:Int))) then some (.inr (.inl (false,g.2)))
   else some (.inl ((Ac (A+1)),g.2))))
   else some (.inr (.inr x)):Int×List (ByteArray×Int)->Option ((Int×List (ByteArray×Int))⊕((Bool×List (ByteArray×Int))⊕List (ByteArray×Int)))))
  (J:=(fun z=>match z with
   | .inl (L,I)=>some (L,I)
   | .inr b=>(Al (S:=Int) (E:=((Bool×(List (ByteArray×Int)))⊕Unit)) (fun c=>
     bif (decide (c<(m.Atoms.length:Int))) then (
     (Af m.Atoms c).bind fun u=>
     bif (decide (u.Deg<(0:Int))) then some (.inr (.inl (false,b)))
     else (
     (Qc u.Lin b b2 data vars res.Kind res.Num res.Args).bind fun v21=>
     bif (!v21) then some (.inr (.inl (false,b)))
     else some (.inl (Ac (c+1)))))
     else some (.inr (.inr ()))) 0).bind fun z=>match z with
      | .inl (G,D)=>some (G,D)
      | .inr _=>some (true,b)))
  rfl V (by omega) (by
   intro j f o y hx _ h1 h2 h3
   have k:=Cm hx
   simp only [h1,h2,h3,cond_true,Ad,Ajw o b2 data vars res]
   cases i:(tyX vars res f.Var).isSome with
   | false=>
    have e:El data vars res f = -1:=by
     unfold El
     cases ht:tyX vars res f.Var with
     | none=>rfl
     | some t=>rw [ht] at i; cases i
    rw [e]
    exact ⟨(fun h=>by cases h),fun _=>⟨_,rfl,_,rfl,y,rfl⟩⟩
   | true=>
    obtain ⟨s,d1,d2⟩:=Up b2 hc y f (l.fr f k).2 (l.fr f k).1 (l.fi f k) i
    simp only [bnt,cond_false,d1,Ad]
    by_cases h0:0<=El data vars res f
    .rw [Ao h0,Av (by omega)]
     exact ⟨fun _=>⟨s,rfl,d2⟩,fun h=>by cases h⟩
    .rw [Av h0,Ao (by omega)]
     exact ⟨(fun h=>by cases h),fun _=>⟨_,rfl,_,rfl,d2,rfl⟩⟩) (by
   intro o y h1 _
   refine ⟨.inr o,by simp only [h1]; rfl,?_⟩
   refine ⟨(m.Atoms.all (fun a=>decide (0<=a.Deg)&&Jx vars res a.Lin),o),?_,y,rfl⟩
   refine (Xv m.Atoms (fun a=>decide (0<=a.Deg)&&Jx vars res a.Lin) (fun j=>(j:Int)) rfl (by omega) (rt:=(true,o)) (rf:=(false,o)) ?_ ?_).trans (by cases m.Atoms.all (fun a=>decide (0<=a.Deg)&&Jx vars res a.Lin) <;> rfl)
   .intro j a hx h1 h2 h3
    simp only [h1,h2,h3,cond_true,Ad,Atx o b2 data vars res a.Lin (l.al a (Cm hx))]
    by_cases h0:0<=a.Deg
    .rw [Ao h0,Av (by omega)]
     cases Jx vars res a.Lin with
     | true=>exact ⟨fun _=>rfl,fun h=>by cases h⟩
     | false=>exact ⟨(fun h=>by cases h),fun _=>⟨_,rfl,rfl⟩⟩
    .rw [Av h0,Ao (by omega)]
     exact ⟨(fun h=>by cases h),fun _=>⟨_,rfl,rfl⟩⟩
   .intro h; exact ⟨.inr (),by simp only [h]; rfl,rfl⟩)
 refine ⟨r,U,r.2,?_,?_⟩
 .unfold Jd
  rw [<-Xu]
  rcases N with ⟨h1,h2,h3⟩ | ⟨h1,h2,h3⟩
  .rw [h1,Bool.true_and,<-h3]
  .rw [h1,Bool.false_and,<-h3]
 .rcases N with ⟨h1,h2,h3⟩ | ⟨h1,h2,h3⟩ <;> exact h2
theorem Aj0 (g:Bq->Int) {l:List Bq} {j:Nat} {x:Bq} (h:l[j]? = some x):((l.take (j+1)).map g).sum=((l.take j).map g).sum+g x:=by
 rw [Dy h]; simp
theorem Aj1 {l:List Bb} {j:Nat} {x:Bb} (h:l[j]? = some x):Eu (l.take (j+1))=Eu (l.take j)+x.Deg:=by
 unfold Eu; rw [Dy h]; simp
theorem Aty (hc:Ni data vars res) (A:Dj data vars res b1) (m:Bc) (k:MSz m) (hp:Jd data vars res m=true) :
  ∃p:Int×List (ByteArray×Int),Mr m b1 b2 data vars res.Kind res.Num res.Args=some p/\(decide (p.1>6) = !decide (D9 data vars res m.Factors+Eu m.Atoms<=6))/\Dj data vars res p.2:=by
 have hf:=k.nf
 have ha:=k.na
 unfold Jd at hp
 rw [Di,List.all_eq_true,List.all_eq_true] at hp
 unfold Mr
 refine D6 (fun (v5,u,g)=>∃j:Nat,u=j/\j<=m.Factors.length/\Dj data vars res g/\0<=v5/\v5<=12/\(v5=D9 data vars res (m.Factors.take j)\/(6<v5/\6<D9 data vars res (m.Factors.take j)))) (fun (_,u,_)=>m.Factors.length-u.toNat)
  (fun (v5,g)=>Dj data vars res g/\0<=v5/\v5<=12/\(v5=D9 data vars res m.Factors\/(6<v5/\6<D9 data vars res m.Factors))) ⟨0,rfl,by omega,A,by omega,by omega,.inl (by simp [D9])⟩ ?_ ?_
 .rintro ⟨v5,u,g⟩ ⟨j,rfl,B,q,h0,h12,l⟩
  rcases Nat.lt_or_ge j m.Factors.length with h | h
  .have hx:m.Factors[j]? = some m.Factors[j]:=Ci h
   generalize m.Factors[j]=f at hx
   have c:=Cm hx
   have hd:=hp.1 f c
   rw [decide_eq_true_eq] at hd
   have D:=(Ajy data vars res f).2
   have es:D9 data vars res (m.Factors.take (j+1))=D9 data vars res (m.Factors.take j)+El data vars res f:=Aj0 _ hx
   simp only [Ao (by omega:(j:Int)<(m.Factors.length:Int)),cond_true,Ch rfl hx,Ad,C9 h (by omega)]
   by_cases s:v5<=6
   .have x:(tyX vars res f.Var).isSome=true:=by
     unfold El at hd
     cases ht:tyX vars res f.Var with
     | none=>rw [ht] at hd; have hd:(0:Int)<=-1:=hd; omega
     | some t=>rfl
    obtain ⟨E,d1,d2⟩:=Up b2 hc q f (k.fr f c).2 (k.fr f c).1 (k.fi f c) x
    rw [Ao s]
    simp only [cond_true,d1,Ad]
    have b:Ac (v5+El data vars res f)=v5+El data vars res f:=by rw [Ac,Bu] <;> omega
    exact .inl ⟨_,rfl,⟨j+1,rfl,by omega,d2,by simp only [b]; omega,by simp only [b]; omega,by simp only [b,es]; omega⟩,by simp; omega⟩
   .rw [Av s]
    exact .inl ⟨_,rfl,⟨j+1,rfl,by omega,q,h0,h12,by simp only [es]; omega⟩,by simp; omega⟩
  .have:j=m.Factors.length:=by omega
   subst this
   rw [List.take_length] at l
   exact .inr ⟨(v5,g),by simp,q,h0,h12,l⟩
 .rintro ⟨v5,g⟩ ⟨q,h0,h12,l⟩
  simp only
  refine D6 (fun (v,i)=>∃j:Nat,i=j/\j<=m.Atoms.length/\0<=v/\v<=13/\(v=D9 data vars res m.Factors+Eu (m.Atoms.take j)\/(6<v/\6<D9 data vars res m.Factors+Eu (m.Atoms.take j)))) (fun (_,i)=>m.Atoms.length-i.toNat)
   (fun v=>(v=D9 data vars res m.Factors+Eu m.Atoms\/(6<v/\6<D9 data vars res m.Factors+Eu m.Atoms))) ⟨0,rfl,by omega,h0,by omega,by simpa [Eu] using l⟩ ?_ ?_
  .rintro ⟨v,i⟩ ⟨j,rfl,B,g0,g13,z⟩
   rcases Nat.lt_or_ge j m.Atoms.length with h | h
   .have hx:m.Atoms[j]? = some m.Atoms[j]:=Ci h
    generalize m.Atoms[j]=a at hx
    have hd:=hp.2 a (Cm hx)
    rw [Di,decide_eq_true_eq] at hd
    have es:=Aj1 hx
    simp only [Ao (by omega:(j:Int)<(m.Atoms.length:Int)),cond_true,Ch rfl hx,Ad,C9 h (by omega)]
    by_cases s:v<=6
    .rw [Ao s]
     simp only [cond_true]
     by_cases y:7<a.Deg
     .rw [if_pos y]
      have b:Ac (v+7)=v+7:=by rw [Ac,Bu] <;> omega
      exact .inl ⟨_,rfl,⟨j+1,rfl,by omega,by simp only [b]; omega,by simp only [b]; omega,by simp only [b,es]; omega⟩,by simp; omega⟩
     .rw [if_neg y]
      have b:Ac (v+a.Deg)=v+a.Deg:=by rw [Ac,Bu] <;> omega
      exact .inl ⟨_,rfl,⟨j+1,rfl,by omega,by simp only [b]; omega,by simp only [b]; omega,by simp only [b,es]; omega⟩,by simp; omega⟩
    .rw [Av s]
     exact .inl ⟨_,rfl,⟨j+1,rfl,by omega,g0,g13,by simp only [es]; omega⟩,by simp; omega⟩
   .have:j=m.Atoms.length:=by omega
    subst this
    rw [List.take_length] at z
    exact .inr ⟨v,by simp,z⟩
  .intro v l
   refine ⟨(v,g),rfl,?_,q⟩
   by_cases h:D9 data vars res m.Factors+Eu m.Atoms<=6
   .rw [Ao h,Av (by simp only; omega)]; rfl
   .rw [Av h,Ao (by simp only; omega)]; rfl
end
end Go.Ab
namespace Go.Ab
open Go
theorem Atz {S E:Type} (F:Ct->Ct->Option Int) (l:List Bb) (g:∀y∈l,∀x,F y.Lin x=some (Fz y.Lin x)) {x:Bb} {j:Nat} (hx:l[j]? = some x) (i:l.length<4611686018427387904) (c b:Option (S⊕E)) :
  (bif decide ((j:Int)>0) then ((Af l (Ac ((j:Int)-1))).bind fun f=>(F f.Lin x.Lin).bind fun v28=>bif decide (v28>=0) then c else b) else b)=bif O9 l x j then b else c:=by
 have k:=E2 hx
 unfold O9
 by_cases h:j=0
 .subst h; rfl
 .rw [Ao (by omega)]
  have e:Ac ((j:Int)-1)=((j-1:Nat):Int):=by rw [Ac,Bu] <;> omega
  have hy:l[j-1]? = some l[j-1]:=Ci (by omega)
  rw [e,Ch rfl hy,hy]
  have h0:(j==0)=false:=by simpa using h
  simp only [cond_true,Ad,h0,Bool.false_or,g _ (List.getElem_mem (by omega:j-1<l.length))]
  by_cases hc:Fz l[j-1].Lin x.Lin<0
  .rw [Av (by omega),Ao hc]; rfl
  .rw [Ao (by omega),Av hc]; rfl
section
variable {b1:List (ByteArray×Int)} (b2:List (ByteArray×List B7)) {data:List Az} {vars:List Aj} {res:Aj}
def Uq (data:List Az) (vars:List Aj) (res:Aj) (l:List Bq) (f:Bq) (j:Nat):Bool:=!(El data vars res f==0)&&Lh (·.Var) l f j
def Nj (l:List Bb) (a:Bb) (j:Nat):Bool:=!(a.Deg==0)&&Gx a.Lin && !(a.Lin.Terms.length==0)&&O9 l a j
theorem At0 (m:Bc):Je data vars res m=(Jd data vars res m&&decide (D9 data vars res m.Factors+Eu m.Atoms<=6)&&m.Factors.zipIdx.all (fun q=>Uq data vars res m.Factors q.1 q.2)&&m.Atoms.zipIdx.all (fun q=>Nj m.Atoms q.1 q.2)):=by
 rw [Bool.eq_iff_iff]
 unfold Je Jd
 rw [<-Xu m.Factors (fun f=>decide (0<=El data vars res f)),<-Xu m.Atoms (fun a=>decide (0<=a.Deg)&&Jx vars res a.Lin)]
 simp only [Di,List.all_eq_true,Un,Uo,Uq,Nj,decide_eq_true_eq,Bool.not_eq_true',beq_eq_false_iff_ne,ne_eq]
 constructor
 .rintro ⟨⟨h1,h2⟩,h3⟩
  refine ⟨⟨⟨⟨fun q hq=>?_,fun q hq=>?_⟩,h3⟩,fun q hq=>?_⟩,fun q hq=>?_⟩
  .have:=(h1 q hq).1; omega
  .have:=h2 q hq; exact ⟨by omega,this.1.2⟩
  .have:=h1 q hq; exact ⟨by omega,this.2⟩
  .have:=h2 q hq; exact ⟨⟨⟨by omega,this.1.1.1.2⟩,this.1.1.2⟩,this.2⟩
 .rintro ⟨⟨⟨⟨h1,h2⟩,h3⟩,c⟩,b⟩
  refine ⟨⟨fun q hq=>?_,fun q hq=>?_⟩,h3⟩
  .have:=h1 q hq; have g:=c q hq; exact ⟨by omega,g.2⟩
  .have:=h2 q hq; have g:=b q hq; exact ⟨⟨⟨⟨by omega,g.1.1.2⟩,g.1.2⟩,this.2⟩,g.2⟩
theorem At1 (hc:Ni data vars res) (hm:Dj data vars res b1) (m:Bc) (i:MSz m) :
  ∃A,Qo m b1 b2 data vars res.Kind res.Num res.Args=some (Je data vars res m,A)/\Dj data vars res A:=by
 have hf:=i.nf
 have ha:=i.na
 rw [At0]
 unfold Qo
 obtain ⟨b,p1,Z⟩:=Ajz b2 hc hm m i
 rw [p1]
 cases hp:Jd data vars res m with
 | false=>exact ⟨b,rfl,Z⟩
 | true=>
  obtain ⟨q,q1,q2,Y⟩:=Aty b2 hc Z m i hp
  simp only [Ad,bnt,cond_false,q1,q2]
  cases hs:decide (D9 data vars res m.Factors+Eu m.Atoms<=6) with
  | false=>exact ⟨q.2,rfl,Y⟩
  | true=>
   simp only [bnt,cond_false,Bool.true_and]
   have U:∀f∈m.Factors,(tyX vars res f.Var).isSome=true:=by
    intro f c
    unfold Jd at hp
    rw [Di,List.all_eq_true] at hp
    have hd:=hp.1 f c
    rw [decide_eq_true_eq] at hd
    unfold El at hd
    cases ht:tyX vars res f.Var with
    | none=>rw [ht] at hd; have hd:(0:Int)<=-1:=hd; omega
    | some t=>rfl
   obtain ⟨r,r1,X⟩:=Ab2 (M:=List (ByteArray×Int)) (R:=Bool×List (ByteArray×Int)) m.Factors (fun q=>Uq data vars res m.Factors q.1 q.2) (fun j o=>((j:Int),o)) (Dj data vars res)
    (fun r=>Dj data vars res r.2/\r.1=m.Atoms.zipIdx.all (fun q=>Nj m.Atoms q.1 q.2)) (fun r=>Dj data vars res r.2/\r.1=false) q.2
    (s0:=((0:Int),q.2))
    (step:=(fun (v9,s)=>
     bif (decide (v9<(m.Factors.length:Int))) then (
     (Af m.Factors v9).bind fun k=>
     (Kd k.Var k.Index s b2 data vars res.Kind res.Num res.Args).bind fun g=>
     bif (g.1==(0:Int)) then some (.inr (.inl (false,g.2)))
     else (
     bif (decide (v9>(0:Int))) then (
     (Af m.Factors (Ac (v9-1))).bind fun D=>
     bif (decide (D.Var>=k.Var)) then some (.inr (.inl (false,g.2)))
     else some (.inl ((Ac (v9+1)),g.2)))
     else some (.inl ((Ac (v9+1)),g.2))))
     else some (.inr (.inr s)):Int×List (ByteArray×Int)->Option ((Int×List (ByteArray×Int))⊕((Bool×List (ByteArray×Int))⊕List (ByteArray×Int)))))
    (J:=(fun z=>match z with
     | .inl (N,L)=>some (N,L)
     | .inr l=>(Al (S:=Int) (E:=((Bool×(List (ByteArray×Int)))⊕Unit)) (fun v22=>
       bif (decide (v22<(m.Atoms.length:Int))) then (
       (Af m.Atoms v22).bind fun v23=>
       (show Option Bool from
       bif (v23.Deg==(0:Int)) then some true
       else (
       (Mw v23.Lin).bind fun v25=>
       bif (!v25) then some true
       else some ((v23.Lin.Terms.length:Int)==(0:Int)))).bind fun v26=>
       bif v26 then some (.inr (.inl (false,l)))
       else (
       bif (decide (v22>(0:Int))) then (
       (Af m.Atoms (Ac (v22-1))).bind fun B=>
       (Jr B.Lin v23.Lin).bind fun v28=>
       bif (decide (v28>=(0:Int))) then some (.inr (.inl (false,l)))
       else some (.inl (Ac (v22+1))))
       else some (.inl (Ac (v22+1)))))
       else some (.inr (.inr ()))) 0).bind fun z=>match z with
        | .inl (I,G)=>some (I,G)
        | .inr _=>some (true,l)))
    rfl Y (by omega) (by
     intro j f o V hx _ h1 h2 h3
     have c:=Cm hx
     obtain ⟨A,d1,d2⟩:=Up b2 hc V f (i.fr f c).2 (i.fr f c).1 (i.fi f c) (U f c)
     simp only [h1,h2,h3,cond_true,Ad,d1,Ajt (·.Var) m.Factors hx (by omega),Uq]
     cases (El data vars res f==0) with
     | true=>exact ⟨(fun h=>by cases h),fun _=>⟨_,rfl,_,rfl,d2,rfl⟩⟩
     | false=>
      cases Lh (·.Var) m.Factors f j with
      | true=>exact ⟨fun _=>⟨A,rfl,d2⟩,fun h=>by cases h⟩
      | false=>exact ⟨(fun h=>by cases h),fun _=>⟨_,rfl,_,rfl,d2,rfl⟩⟩) (by
     intro o V h1 _
     refine ⟨.inr o,by simp only [h1]; rfl,?_⟩
     refine ⟨(m.Atoms.zipIdx.all (fun q=>Nj m.Atoms q.1 q.2),o),?_,V,rfl⟩
     refine (Xt m.Atoms (fun q=>Nj m.Atoms q.1 q.2) (fun j=>(j:Int)) rfl (by omega) (rt:=(true,o)) (rf:=(false,o)) ?_ ?_).trans (by cases m.Atoms.zipIdx.all (fun q=>Nj m.Atoms q.1 q.2) <;> rfl)
     .intro j a hx _ h1 h2 h3
      have u:((a.Lin.Terms.length:Int)==(0:Int))=(a.Lin.Terms.length==0):=Asf a.Lin.Terms 0
      simp only [h1,h2,h3,cond_true,Ad,Aju,Atz Jr m.Atoms (fun y hy x=>Yi y.Lin x (by have:=i.al y hy; omega)) hx (by omega),Nj,u]
      cases (a.Deg==0) with
      | true=>exact ⟨(fun h=>by cases h),fun _=>⟨_,rfl,rfl⟩⟩
      | false=>
       cases Gx a.Lin with
       | false=>exact ⟨(fun h=>by cases h),fun _=>⟨_,rfl,rfl⟩⟩
       | true=>
        cases (a.Lin.Terms.length==0) with
        | true=>exact ⟨(fun h=>by cases h),fun _=>⟨_,rfl,rfl⟩⟩
        | false=>
         cases O9 m.Atoms a j with
         | true=>exact ⟨fun _=>rfl,fun h=>by cases h⟩
         | false=>exact ⟨(fun h=>by cases h),fun _=>⟨_,rfl,rfl⟩⟩
     .intro h _; exact ⟨.inr (),by simp only [h]; rfl,rfl⟩)
   refine ⟨r.2,?_,?_⟩
   .have e:some r=some (m.Factors.zipIdx.all (fun q=>Uq data vars res m.Factors q.1 q.2)&&m.Atoms.zipIdx.all (fun q=>Nj m.Atoms q.1 q.2),r.2):=by
     rcases X with ⟨h1,h2,h3⟩ | ⟨h1,h2,h3⟩
     .rw [h1,Bool.true_and,<-h3]
     .rw [h1,Bool.false_and,<-h3]
    rw [<-e]
    exact r1
   .rcases X with ⟨h1,h2,h3⟩ | ⟨h1,h2,h3⟩ <;> exact h2
theorem At2 (l:List Bq) (h:∀f∈l,0<=El data vars res f):0<=D9 data vars res l:=by
 induction l with
 | nil=>simp [D9]
 | cons x xs ih=>
  have h1:=h x (by simp)
  have h2:=ih (fun f hf=>h f (by simp [hf]))
  unfold D9 at *
  simp only [List.map_cons,List.sum_cons]
  omega
theorem Aj2 (l:List Bb) (h:∀a∈l,0<=a.Deg):0<=Eu l/\((∀a∈l,a.Deg<=6)->Eu l<=6*l.length)/\∀a∈l,a.Deg<=Eu l:=by
 induction l with
 | nil=>simp [Eu]
 | cons x xs ih=>
  have h1:=h x (by simp)
  obtain ⟨i1,i2,i3⟩:=ih (fun f hf=>h f (by simp [hf]))
  unfold Eu at *
  simp only [List.map_cons,List.sum_cons,List.length_cons]
  refine ⟨by omega,fun g=>?_,fun a ha=>?_⟩
  .have:=g x (by simp)
   have:=i2 (fun a ha=>g a (by simp [ha]))
   omega
  .rcases List.mem_cons.1 ha with rfl | ha
   .omega
   .have:=i3 a ha; omega
end
end Go.Ab
namespace Go.Ab
open Go
theorem At3 {α:Type} [DecidableEq α] (l m:List α) (b:l.length=m.length):(decide (l=m))=l.zipIdx.all (fun q=>decide (m[q.2]? = some q.1)):=by
 rw [Bool.eq_iff_iff,decide_eq_true_eq]
 constructor
 .rintro rfl
  exact Ah5 fun j x hx=>by simpa using hx
 .intro h
  apply List.ext_getElem?
  intro j
  cases hx:l[j]? with
  | none=>rw [List.getElem?_eq_none_iff] at hx; rw [List.getElem?_eq_none (by omega)]
  | some x=>have:=Ig h hx; rw [decide_eq_true_eq] at this; rw [this]
theorem At4 {R:Type} (l m:List Int) (c:l.length<1099511627776) (h:l.length=m.length) {J:Bool⊕Unit->Option R} {rt rf:R} (h1:J (.inl false)=some rf) (h2:J (.inr ())=some rt) :
  (Al (S:=Int) (E:=(Bool⊕Unit)) (fun v3=>bif (decide (v3<(l.length:Int))) then ((Af l v3).bind fun v4=>(Af m v3).bind fun v5=>bif (v4 != v5) then some (.inr (.inl false)) else some (.inl (Ac (v3+1)))) else some (.inr (.inr ()))) 0).bind J=some (bif decide (l=m) then rt else rf):=by
 rw [At3 l m h]
 refine Xt l (fun q=>decide (m[q.2]? = some q.1)) (fun j=>(j:Int)) rfl (by omega) (rt:=rt) (rf:=rf) ?_ ?_
 .intro j x hx _ g1 g2 g3
  have b:j<m.length:=by have:=E2 hx; omega
  have hy:m[j]? = some m[j]:=Ci b
  generalize m[j]=y at hy
  simp only [g1,g2,g3,cond_true,Ad,Ch rfl hy,hy,Option.some.injEq]
  by_cases e:x=y
  .rw [F8 e,Ao e.symm]
   exact ⟨fun _=>rfl,fun h=>by cases h⟩
  .rw [Fv e,Av (fun h=>e h.symm)]
   exact ⟨(fun h=>by cases h),fun _=>⟨.inl false,rfl,h1⟩⟩
 .intro h _; exact ⟨.inr (),by simp only [h]; rfl,h2⟩
theorem Aj3 (l m:List Int) (b:l.length<1099511627776):K5 l m=some (decide (l=m)):=by
 unfold K5
 by_cases h:l.length=m.length
 .rw [F8 (by omega)]
  simp only [cond_false]
  refine (At4 l m b h (rt:=true) (rf:=false) ?_ ?_).trans (by rw [Ab1]) <;> rfl
 .rw [Fv (by omega),Av (fun e=>h (by rw [e]))]; rfl
def Rr (a b:Ak):Bool:=a.Neg==b.Neg&&decide (a.Num=b.Num)&&decide (a.Den=b.Den)
theorem Aj4 (a b:Ak):Rr a b=true↔a=b:=by
 unfold Rr
 simp only [Di,beq_iff_eq,decide_eq_true_eq]
 constructor
 .rintro ⟨⟨h1,h2⟩,h3⟩; cases a; cases b; simp_all
 .rintro rfl; simp
def Ur (c:Ak):Bool:=Rr (Bg (sv c) (nv c) (dv c)) c && !(nv c==0)
structure TSz (t:Ai):Prop where
 co:RB 1048576 t.Coef
 mo:MSz t.Mono
def Pa (l:List Ai) (x:Ai) (j:Nat):Bool:=j==0||(match l[j-1]? with | some y=>decide (Cz y.Mono x.Mono<0) | none=>false)
def Rs (data:List Az) (vars:List Aj) (res:Aj) (l:List Ai) (t:Ai) (j:Nat):Bool:=Ur t.Coef&&Je data vars res t.Mono&&Pa l t j
def Il (data:List Az) (vars:List Aj) (res:Aj) (p:List Ai):Bool:=decide (p.length<=1000)&&p.zipIdx.all (fun q=>Rs data vars res p q.1 q.2)
theorem At5 {S E:Type} (F:Bc->Bc->Option Int) (l:List Ai) (g:∀y∈l,∀x,F y.Mono x=some (Cz y.Mono x)) {x:Ai} {j:Nat} (hx:l[j]? = some x) (i:l.length<4611686018427387904) (c b:Option (S⊕E)) :
  (bif decide ((j:Int)>0) then ((Af l (Ac ((j:Int)-1))).bind fun f=>(F f.Mono x.Mono).bind fun v28=>bif decide (v28>=0) then c else b) else b)=bif Pa l x j then b else c:=by
 have k:=E2 hx
 unfold Pa
 by_cases h:j=0
 .subst h; rfl
 .rw [Ao (by omega)]
  have e:Ac ((j:Int)-1)=((j-1:Nat):Int):=by rw [Ac,Bu] <;> omega
  have hy:l[j-1]? = some l[j-1]:=Ci (by omega)
  rw [e,Ch rfl hy,hy]
  have h0:(j==0)=false:=by simpa using h
  simp only [cond_true,Ad,h0,Bool.false_or,g _ (List.getElem_mem (by omega:j-1<l.length))]
  by_cases hc:Cz l[j-1].Mono x.Mono<0
  .rw [Av (by omega),Ao hc]; rfl
  .rw [Ao (by omega),Av hc]; rfl
theorem At6 (s:Bool) (n:Nat):(G6 s n==0)=(n==0):=by
 unfold G6
 by_cases h:n=0
 .rw [if_pos h]; subst h; rfl
 .rw [if_neg h]
  have:(n==0)=false:=by simpa using h
  rw [this]; cases s <;> rfl
theorem Aj5 {data:List Az} {vars:List Aj} {res:Aj} (hc:Ni data vars res) {b1:List (ByteArray×Int)} (b2:List (ByteArray×List B7)) (V:Dj data vars res b1) (p:List Ai) (U:∀t∈p,TSz t) :
  ∃B,Sx p b1 b2 data vars res.Kind res.Num res.Args=some (Il data vars res p,B)/\Dj data vars res B:=by
 unfold Sx Il
 by_cases A:p.length<=1000
 .rw [Av (by omega),Ao A,Bool.true_and]
  simp only [cond_false]
  obtain ⟨r,X,S⟩:=Ab2 (M:=List (ByteArray×Int)) (R:=Bool×List (ByteArray×Int)) p (fun q=>Rs data vars res p q.1 q.2) (fun j o=>((j:Int),o)) (Dj data vars res)
   (fun r=>Dj data vars res r.2/\r.1=true) (fun r=>Dj data vars res r.2/\r.1=false) b1
   (s0:=((0:Int),b1))
   (step:=(fun (b,g)=>
    bif (decide (b<(p.length:Int))) then (
    (Af p b).bind fun v12=>
    (Iy v12.Coef).bind fun f=>
    (show Option Bool from
    bif (f.Neg==v12.Coef.Neg) then (
    (K5 f.Num v12.Coef.Num).bind fun i=>
    bif i then (
    (K5 f.Den v12.Coef.Den).bind fun v17=>
    some v17)
    else some false)
    else some false).bind fun E=>
    bif (!E) then some (.inr (.inl (false,g)))
    else (
    (Gl f).bind fun D=>
    bif (D==(0:Int)) then some (.inr (.inl (false,g)))
    else (
    (Qo v12.Mono g b2 data vars res.Kind res.Num res.Args).bind fun v20=>
    bif (!v20.1) then some (.inr (.inl (false,v20.2)))
    else (
    bif (decide (b>(0:Int))) then (
    (Af p (Ac (b-1))).bind fun v21=>
    (K4 v21.Mono v12.Mono).bind fun v22=>
    bif (decide (v22>=(0:Int))) then some (.inr (.inl (false,v20.2)))
    else some (.inl ((Ac (b+1)),v20.2)))
    else some (.inl ((Ac (b+1)),v20.2))))))
    else some (.inr (.inr g)):Int×List (ByteArray×Int)->Option ((Int×List (ByteArray×Int))⊕((Bool×List (ByteArray×Int))⊕List (ByteArray×Int)))))
   (J:=(fun z=>match z with
    | .inl (I,G)=>some (I,G)
    | .inr L=>some (true,L)))
   rfl V (by omega) (by
    intro j t o u hx _ h1 h2 h3
    have c:=U t (Cm hx)
    obtain ⟨B,d1,d2⟩:=At1 b2 hc u t.Mono c.mo
    have s:∀l:List Int,l=(Bg (sv t.Coef) (nv t.Coef) (dv t.Coef)).Num\/l=(Bg (sv t.Coef) (nv t.Coef) (dv t.Coef)).Den->l.length<1099511627776:=by
     intro l A
     have q:=Kq (sv t.Coef) (nv t.Coef) (dv t.Coef) 1048577 c.co.nv c.co.dv (by omega)
     have:=q.nl
     have:=q.dl
     rcases A with rfl | rfl <;> omega
    have k:(bif ((Bg (sv t.Coef) (nv t.Coef) (dv t.Coef)).Neg==t.Coef.Neg) then ((K5 (Bg (sv t.Coef) (nv t.Coef) (dv t.Coef)).Num t.Coef.Num).bind fun i=>bif i then ((K5 (Bg (sv t.Coef) (nv t.Coef) (dv t.Coef)).Den t.Coef.Den).bind fun v17=>some v17) else some false) else some false)=some (Rr (Bg (sv t.Coef) (nv t.Coef) (dv t.Coef)) t.Coef):=by
     unfold Rr
     rw [Aj3 _ _ (s _ (.inl rfl)),Aj3 _ _ (s _ (.inr rfl))]
     cases ((Bg (sv t.Coef) (nv t.Coef) (dv t.Coef)).Neg==t.Coef.Neg) <;> cases decide ((Bg (sv t.Coef) (nv t.Coef) (dv t.Coef)).Num=t.Coef.Num) <;> rfl
    simp only [h1,h2,h3,cond_true,Ad,X0 t.Coef 1048576 c.co (by omega),k,At5 K4 p (fun y hy x=>Ajr y.Mono x (U y hy).mo) hx (by omega),Rs,Ur]
    cases N:Rr (Bg (sv t.Coef) (nv t.Coef) (dv t.Coef)) t.Coef with
    | false=>exact ⟨(fun h=>by cases h),fun _=>⟨_,rfl,_,rfl,u,rfl⟩⟩
    | true=>
     have e:=(Aj4 _ _).1 N
     simp only [bnt,cond_false,Bool.true_and]
     rw [e,Ab8 t.Coef 1048576 c.co (by omega),Ad,At6]
     cases (nv t.Coef==0) with
     | true=>exact ⟨(fun h=>by cases h),fun _=>⟨_,rfl,_,rfl,u,rfl⟩⟩
     | false=>
      simp only [cond_false,d1,Ad,Bool.not_false,Bool.true_and]
      cases Je data vars res t.Mono with
      | false=>exact ⟨(fun h=>by cases h),fun _=>⟨_,rfl,_,rfl,d2,rfl⟩⟩
      | true=>
       cases Pa p t j with
       | true=>exact ⟨fun _=>⟨B,rfl,d2⟩,fun h=>by cases h⟩
       | false=>exact ⟨(fun h=>by cases h),fun _=>⟨_,rfl,_,rfl,d2,rfl⟩⟩) (by
    intro o u h1 _
    exact ⟨.inr o,by simp only [h1]; rfl,_,rfl,u,rfl⟩)
  refine ⟨r.2,?_,?_⟩
  .have e:some r=some (p.zipIdx.all (fun q=>Rs data vars res p q.1 q.2),r.2):=by
    rcases S with ⟨h1,h2,h3⟩ | ⟨h1,h2,h3⟩
    .rw [h1,<-h3]
    .rw [h1,<-h3]
   rw [<-e]
   exact X
  .rcases S with ⟨h1,h2,h3⟩ | ⟨h1,h2,h3⟩ <;> exact h2
 .rw [Ao (by omega),Av A]
  exact ⟨b1,rfl,V⟩
structure CSz (x:Cw):Prop where
 ds:DSz x.Data
 nv:x.Vars.length<=1048576
 vs:∀t∈x.Vars,B2 t<=1048576
 rs:B2 x.Res<=1048576
def Jy (data:List Az) (t:Aj):Bool:=Fi data 0 t&&decide (B2 t<=200)
def Jf (x:Cw):Prop:=x.Vars.length<=3000/\Lf x.Data/\Jy x.Data x.Res=true/\x.Vars.all (Jy x.Data)=true
theorem Jf.ctx {x:Cw} (h:Jf x) (c:CSz x):Ni x.Data x.Vars x.Res:=by
 refine ⟨h.2.1,c.ds.sz.short,fun v t ht=>?_,h.1⟩
 have good:∀t,Jy x.Data t=true->B2 t<=200:=fun t h=>by
  simp only [Jy,Di,decide_eq_true_eq] at h; exact h.2
 unfold tyX at ht
 by_cases b:v = -1
 .rw [if_pos b] at ht; cases ht; exact good _ h.2.2.1
 .rw [if_neg b] at ht
  exact good t (List.all_eq_true.1 h.2.2.2 t (Ja ht).2.2.2)
theorem Aj6 (x:Cw) (g:CSz x) (p:List Ai) (hp:∀t∈p,TSz t):∃b,Js x p=some b/\(b=true↔Jf x/\Il x.Data x.Vars x.Res p=true):=by
 obtain ⟨b,b1,b2⟩:=Ai1 g.ds
 have I:=g.nv
 have G:=g.rs
 unfold Js Lr
 rw [b1,Ue x.Data x.Res 0 (by omega)]
 by_cases A:x.Vars.length<=3000
 .rw [Av (by omega)]
  simp only [cond_false,Ad]
  cases b with
  | false=>exact ⟨false,rfl,by simp; intro h; have:=b2.2 h.2.1; cases this⟩
  | true=>
   have E:=b2.1 rfl
   simp only [bnt,cond_false]
   cases y:(Fi x.Data 0 x.Res&&decide (B2 x.Res<=200)) with
   | false=>exact ⟨false,rfl,by simp; intro h; have:=h.2.2.1; rw [show Jy x.Data x.Res=false from y] at this; cases this⟩
   | true=>
    simp only [bnt,cond_false,Ad]
    rw [Option.bind_assoc]
    refine D6 (fun i=>∃j:Nat,i=j/\j<=x.Vars.length/\(x.Vars.take j).all (Jy x.Data)=true) (fun i=>x.Vars.length-i.toNat)
     (fun z=>match z with | .inl r=>r=false/\¬Jf x | .inr _=>Jf x) ⟨0,rfl,by omega,by simp⟩ ?_ ?_
    .rintro i ⟨j,rfl,s,c⟩
     rcases Nat.lt_or_ge j x.Vars.length with h | h
     .have ht:x.Vars[j]? = some x.Vars[j]:=Ci h
      generalize x.Vars[j]=t at ht
      have:=g.vs t (Cm ht)
      simp only [Ao (by omega:(j:Int)<(x.Vars.length:Int)),cond_true,Ch rfl ht,Ad,Ue x.Data t 0 (by omega),C9 h (by omega)]
      rw [show (Fi x.Data 0 t&&decide (B2 t<=200))=Jy x.Data t from rfl]
      cases B:Jy x.Data t with
      | true=>exact .inl ⟨_,rfl,⟨j+1,rfl,by omega,by rw [Dy ht,List.all_append,c]; simp [B]⟩,by simp; omega⟩
      | false=>
       refine .inr ⟨.inl false,rfl,rfl,fun hh=>?_⟩
       have:=List.all_eq_true.1 hh.2.2.2 t (Cm ht)
       rw [B] at this; cases this
     .have:j=x.Vars.length:=by omega
      subst this
      rw [List.take_length] at c
      exact .inr ⟨.inr (),by simp,A,E,y,c⟩
    .rintro (r | u) f
     .obtain ⟨rfl,f⟩:=f
      exact ⟨false,rfl,by simp [f]⟩
     .have hf:Jf x:=f
      have J:Dj x.Data x.Vars x.Res []:=fun q h=>by cases h
      obtain ⟨D,l,L⟩:=Aj5 (hf.ctx g) [] J p hp
      cases k:Il x.Data x.Vars x.Res p with
      | true=>
       rw [k] at l
       refine ⟨true,?_,by simp [hf]⟩
       simp only
       rw [Option.bind_assoc]
       refine Hv 1 (fun j=>match j with | 0=>((0:Int),[]) | _=>((1:Int),D)) rfl ?_ ⟨.inr D,rfl,rfl⟩
       intro j s
       match j,s with
       | 0,_=>
        show (bif decide ((0:Int)<1) then _ else _)=_
        simp only [Ao (by omega:(0:Int)<1),cond_true]
        rw [show Af [p] 0=some p from rfl,Ad,l]; rfl
      | false=>
       rw [k] at l
       refine ⟨false,?_,by simp⟩
       simp only
       rw [Option.bind_assoc]
       refine Hv 0 (fun _=>((0:Int),[])) rfl (fun j s=>by omega) ⟨.inl false,?_,rfl⟩
       show (bif decide ((0:Int)<1) then _ else _)=_
       simp only [Ao (by omega:(0:Int)<1),cond_true]
       rw [show Af [p] 0=some p from rfl,Ad,l]; rfl
 .rw [Ao (by omega)]
  exact ⟨false,rfl,by simp; intro h; exact absurd h.1 A⟩
end Go.Ab
namespace Go.Ab
open Go
end Go.Ab
namespace Go.Ab
open Go
end Go.Ab
namespace Go.Ab
open Go
end Go.Ab
namespace Go.Ab
open Go
end Go.Ab
namespace Go.Ab
open Go
theorem At7 {data:List Az} {vars:List Aj} {res:Aj} {m:Bc} (h:Je data vars res m=true):(∀f∈m.Factors,∃t,tyX vars res f.Var=some t)/\m.Factors.length<=6:=by
 unfold Je at h
 simp only [Di,decide_eq_true_eq] at h
 obtain ⟨⟨h1,h2⟩,h3⟩:=h
 have hf:∀f∈m.Factors,1<=El data vars res f:=by
  intro f hf
  obtain ⟨j,b⟩:=List.getElem?_of_mem hf
  have:=Ig h1 b
  simp only [Un,Di,decide_eq_true_eq] at this
  exact this.1
 have ha:0<=Eu m.Atoms:=(Aj2 m.Atoms (fun a ha=>by
  obtain ⟨j,b⟩:=List.getElem?_of_mem ha
  have:=Ig h2 b
  simp only [Uo,Di,decide_eq_true_eq] at this
  omega)).1
 refine ⟨fun f c=>?_,?_⟩
 .have:=hf f c
  unfold El at this
  cases ht:tyX vars res f.Var with
  | none=>rw [ht] at this; have:(1:Int)<=-1:=this; omega
  | some t=>exact ⟨t,rfl⟩
 .have key:∀l:List Bq,(∀f∈l,1<=El data vars res f)->(l.length:Int)<=D9 data vars res l:=by
   intro l
   induction l with
   | nil=>intro _; simp [D9]
   | cons f fs ih=>
    intro i
    have h1:=i f (by simp)
    have h2:=ih (fun g k=>i g (by simp [k]))
    unfold D9 at *
    simp only [List.map_cons,List.sum_cons,List.length_cons]; omega
  have:=key m.Factors hf
  omega
theorem At8 (a b:Ak) (j k:Nat) (ha:RB j a) (hb:RB k b) (h:j<34359738000) (hk:k<34359738000):∃c,Iz a b=some c/\Od a b=some c/\RB (j+k+3) c:=by
 refine ⟨_,Acb a b j k ha hb (by omega) (by omega),Ar4 a b j k ha hb (by omega) (by omega),?_⟩
 have h1:=ha.nv
 have h2:=ha.dv
 have h3:=hb.nv
 have u:=hb.dv
 have s:=F9 (nv a) (dv b)
 have q:=F9 (nv b) (dv a)
 have l:=F9 (dv a) (dv b)
 have f:I9 (sv a) (nv a) (dv a) (sv b) (nv b) (dv b)<=nv a*dv b+nv b*dv a:=by
  unfold I9
  split
  .omega
  .split <;> omega
 have i:=G5 f
 have g:=Abz (nv a*dv b) (nv b*dv a)
 exact Kq _ _ _ _ (by omega) (by omega) (by omega)
end Go.Ab
namespace Go.Ab
open Go
end Go.Ab
namespace Go.Ab
open Go
theorem At9 (k:Nat):RB k ⟨false,[],[]⟩:=⟨(fun _ h=>by cases h),(fun _ h=>by cases h),by simp,by simp⟩
end Go.Ab
namespace Go.Ab
open Go
end Go.Ab
namespace Go.Ab
open Go
def sg (s:Bool) (n:Nat):Int:=if s then -(n:Int) else n
def rq (a:Ak):Rat:=mkRat (sg (sv a) (nv a)) (dv a)
def Ha (a:Ak):Prop:=a=Bg (sv a) (nv a) (dv a)
theorem Jz (s:Bool) (n d:Nat) (hd:d≠0):rq (Bg s n d)=mkRat (sg s n) d:=by
 obtain ⟨g,f,h1,h2,h3,i⟩:=X8 s n d hd
 unfold rq
 rw [Rat.mkRat_eq_iff (D8 _) hd]
 generalize nv (Bg s n d)=b at *
 generalize dv (Bg s n d)=j at *
 generalize sv (Bg s n d)=s' at *
 by_cases c:n=0
 .have:b=0:=by
   rcases Nat.eq_zero_or_pos b with h | h
   .exact h
   .have:=Nat.mul_pos (Nat.pos_of_ne_zero f) h; omega
  subst this; subst c
  cases s <;> cases s' <;> simp [sg]
 .rw [h3 c,h1,h2]
  cases s <;> simp only [sg,if_true,if_false,Bool.false_eq_true,Int.natCast_mul] <;> grind
theorem Nk (s:Bool) (n d:Nat) (hd:d≠0):Ha (Bg s n d):=by
 obtain ⟨g,b,h1,h2,h3,i⟩:=X8 s n d hd
 unfold Ha
 generalize hc:Bg s n d=c at h1 h2 h3 i
 have e:=L0 s (nv c) (dv c) g b
 rw [<-h1,<-h2,hc] at e
 by_cases f:n=0
 .have h0:nv c=0:=by
   rcases Nat.eq_zero_or_pos (nv c) with h | h
   .exact h
   .have:=Nat.mul_pos (Nat.pos_of_ne_zero b) h; omega
  rw [h0,Ua] at e ⊢
  exact e
 .rw [h3 f]; exact e
theorem Aj7 (n m:Int) {d e:Nat} (hd:d≠0) (g:e≠0):mkRat n d<mkRat m e↔n*e<m*d:=by
 have c:(0:Rat)<(d:Rat):=Rat.natCast_pos.2 (by omega)
 have b:(0:Rat)<(e:Rat):=Rat.natCast_pos.2 (by omega)
 rw [Rat.mkRat_eq_div,Rat.mkRat_eq_div,Rat.div_lt_iff c]
 rw [<-Rat.mul_lt_mul_right b]
 have f:(m:Rat) / (e:Rat)*(d:Rat)*(e:Rat)=(m:Rat)*(d:Rat):=by grind
 rw [f]
 have a1:(n:Rat)*(e:Rat)=((n*(e:Int):Int):Rat):=by rw [Rat.intCast_mul]; rfl
 have a2:(m:Rat)*(d:Rat)=((m*(d:Int):Int):Rat):=by rw [Rat.intCast_mul]; rfl
 rw [a1,a2,Rat.intCast_lt_intCast]
theorem Aj8 {a b:Ak} (ha:Ha a) (hb:Ha b) (h:rq a=rq b):a=b:=by
 unfold rq at h
 rw [Rat.mkRat_eq_iff (D8 _) (D8 _)] at h
 rw [ha,hb]
 have l:=D8 a
 have k:=D8 b
 generalize nv a=n at *
 generalize dv a=d at *
 generalize sv a=s at *
 generalize nv b=m at *
 generalize dv b=e at *
 generalize sv b=t at *
 have hh:n*e=m*d/\(n≠0->s=t):=by
  have c:n≠0->0<n*e:=fun h=>Nat.mul_pos (by omega) (by omega)
  have f:m≠0->0<m*d:=fun h=>Nat.mul_pos (by omega) (by omega)
  have u:((n*e:Nat):Int)=(n:Int)*e:=by simp
  have q:((m*d:Nat):Int)=(m:Int)*d:=by simp
  cases s <;> cases t <;> simp only [sg,if_true,if_false,Bool.false_eq_true,Int.neg_mul] at h
  .exact ⟨by omega,fun _=>rfl⟩
  .have:n*e=0/\m*d=0:=by omega
   refine ⟨by omega,fun g=>?_⟩
   have:=c g; omega
  .have:n*e=0/\m*d=0:=by omega
   refine ⟨by omega,fun g=>?_⟩
   have:=c g; omega
  .exact ⟨by omega,fun _=>rfl⟩
 have j:=L0 s n d e k
 have i:=L0 t m e d l
 rw [<-j,<-i,Nat.mul_comm e n,hh.1,Nat.mul_comm e d,Nat.mul_comm m d]
 refine Aig fun h0=>hh.2 ?_
 rintro rfl
 rw [Nat.zero_mul] at hh
 have:=hh.1
 rw [Nat.mul_comm d m] at h0
 omega
theorem Aua (j:Bool) (c g:Nat) (i:Bool) (b f:Nat):sg (Kp j c g i b f) (I9 j c g i b f)=sg j c*f+sg i b*g:=by
 unfold Kp I9 sg
 have l:((c*f:Nat):Int)=(c:Int)*f:=by simp
 have k:((b*g:Nat):Int)=(b:Int)*g:=by simp
 cases j <;> cases i <;> simp only [if_true,if_false,Bool.false_eq_true,Bool.true_eq_false,Int.neg_mul]
 .omega
 .by_cases h:b*g<=c*f
  .simp only [if_pos h]; simp only [if_false,Bool.false_eq_true]; omega
  .simp only [if_neg h]; simp only [if_true]; omega
 .by_cases h:b*g<=c*f
  .simp only [if_pos h]; simp only [if_true]; omega
  .simp only [if_neg h]; simp only [if_false,Bool.false_eq_true]; omega
 .omega
theorem Yl {a b:Ak} {j k:Nat} (ha:RB j a) (hb:RB k b) (f:j<34359738000) (hk:k<34359738000):∃c,Iz a b=some c/\Od a b=some c/\RB (j+k+3) c/\Ha c/\rq c=rq a+rq b:=by
 obtain ⟨c,h1,h2,h3⟩:=At8 a b j k ha hb f hk
 have e:=Acb a b j k ha hb (by omega) (by omega)
 rw [h1] at e
 have e:=Option.some.inj e
 have hd:dv a*dv b≠0:=Nat.mul_ne_zero (D8 a) (D8 b)
 refine ⟨c,h1,h2,h3,?_,?_⟩
 .rw [e]; exact Nk _ _ _ hd
 .rw [e,Jz _ _ _ hd,Aua,rq,rq,Rat.mkRat_add_mkRat _ _ (D8 a) (D8 b)]
theorem Aj9 (s t:Bool) (n m:Nat):sg (s != t) (n*m)=sg s n*sg t m:=by
 unfold sg
 cases s <;> cases t <;> simp [Int.neg_mul,Int.mul_neg]
theorem Ym {a b:Ak} {j k:Nat} (ha:RB j a) (hb:RB k b) (f:j<34359738000) (hk:k<34359738000):∃c,Gk a b=some c/\RB (j+k+2) c/\Ha c/\rq c=rq a*rq b:=by
 have hd:dv a*dv b≠0:=Nat.mul_ne_zero (D8 a) (D8 b)
 have h1:=ha.nv
 have h2:=ha.dv
 have h3:=hb.nv
 have i:=hb.dv
 have h:=F9 (nv a) (nv b)
 have g:=F9 (dv a) (dv b)
 refine ⟨_,Aca a b j k ha hb (by omega) (by omega),Kq _ _ _ _ (by omega) (by omega) (by omega),Nk _ _ _ hd,?_⟩
 rw [Jz _ _ _ hd,Aj9,rq,rq,Rat.mkRat_mul_mkRat]
def L9 (x:Rat):Int:=if x<0 then -1 else if 0<x then 1 else 0
theorem Aub (a:Ak):rq a<0↔G6 (sv a) (nv a) = -1:=by
 have e:(0:Rat)=mkRat 0 1:=by simp
 rw [rq,e,Aj7 _ _ (D8 a) (by decide)]
 unfold sg G6
 split <;> split <;> simp <;> omega
theorem Auc (a:Ak):0<rq a↔G6 (sv a) (nv a)=1:=by
 have e:(0:Rat)=mkRat 0 1:=by simp
 rw [rq,e,Aj7 _ _ (by decide) (D8 a)]
 unfold sg G6
 split <;> split <;> simp <;> omega
theorem Aud (a:Ak):G6 (sv a) (nv a)=L9 (rq a):=by
 have h1:=Aub a
 have h2:=Auc a
 have h3:G6 (sv a) (nv a) = -1\/G6 (sv a) (nv a)=0\/G6 (sv a) (nv a)=1:=by unfold G6; split <;> (try split) <;> simp
 unfold L9
 split
 .rename_i h; exact h1.1 h
 .rename_i h
  split
  .rename_i h'; exact h2.1 h'
  .rename_i h'
   rcases h3 with h3 | h3 | h3
   .exact (h (h1.2 h3)).elim
   .exact h3
   .exact (h' (h2.2 h3)).elim
theorem Yn {a:Ak} {k:Nat} (h:RB k a) (hk:k<34359738000):Gl a=some (L9 (rq a))/\Qa a=some (L9 (rq a)):=by
 rw [<-Aud]
 exact ⟨Ab8 a k h (by omega),Ar5 a k h (by omega)⟩
theorem Aue {a:Ak} {k:Nat} (h:RB k a) (hk:k<34359738000):∃c,Iy a=some c/\K2 a=some c/\Ha c/\rq c=rq a/\RB (k+1) c :=
 ⟨_,X0 a k h (by omega),Rh a k h (by omega),Nk _ _ _ (D8 a),Jz _ _ _ (D8 a),Ach h⟩
end Go.Ab
namespace Go.Ab
open Go
structure D1 {α:Type} (S:α->Prop) (g:α->α->Int):Prop where
 zero:∀a b,S a->S b->(g a b=0↔a=b)
 anti:∀a b,S a->S b->g b a = - g a b
 trans:∀a b c,S a->S b->S c->g a b<0->g b c<0->g a c<0
theorem D1.cmpI:D1 (fun _:Int=>True) Ef:=by
 refine ⟨fun a b _ _=>G9,fun a b _ _=>?_,fun a b c _ _ _=>?_⟩
 .unfold Go.Ab.Ef; split <;> split <;> (try split) <;> (try split) <;> omega
 .unfold Go.Ab.Ef; intro h1 h2; split at h1 <;> (try split at h1) <;> split at h2 <;> (try split at h2) <;> first | omega | (rw [if_pos (by omega)]; decide)
theorem Aka {x y:Int}:orI x y<0↔x<0\/(x=0/\y<0):=by unfold orI; split <;> omega
theorem Akb {x y:Int}:orI x y=0↔x=0/\y=0:=by unfold orI; split <;> omega
theorem D1.or {α β γ:Type} {S:α->Prop} {s:β->Prop} {l:γ->Prop} {j:β->β->Int} {i:γ->γ->Int} (p:α->β) (q:α->γ) (g:∀a b,p a=p b->q a=q b->a=b) (h1:D1 s j) (h2:D1 l i) (f:∀a,S a->s (p a)/\l (q a)) :
  D1 S (fun a b=>orI (j (p a) (p b)) (i (q a) (q b))):=by
 refine ⟨fun a b ha hb=>?_,fun a b ha hb=>?_,fun a b c ha hb hc=>?_⟩
 .rw [Akb,h1.zero _ _ (f a ha).1 (f b hb).1,h2.zero _ _ (f a ha).2 (f b hb).2]
  exact ⟨fun h=>g a b h.1 h.2,fun h=>by subst h; exact ⟨rfl,rfl⟩⟩
 .show orI (j (p b) (p a)) (i (q b) (q a)) = - orI (j (p a) (p b)) (i (q a) (q b))
  have z:=h1.anti _ _ (f a ha).1 (f b hb).1
  have y:=h2.anti _ _ (f a ha).2 (f b hb).2
  rw [z,y]; unfold orI; split <;> split <;> omega
 .show orI _ _<0->orI _ _<0->orI _ _<0
  simp only [Aka]
  have u:=h1.zero _ _ (f a ha).1 (f b hb).1
  have z2:=h1.zero _ _ (f b hb).1 (f c hc).1
  have t1:=h1.trans _ _ _ (f a ha).1 (f b hb).1 (f c hc).1
  have t2:=h2.trans _ _ _ (f a ha).2 (f b hb).2 (f c hc).2
  rintro (h | ⟨h,h'⟩) (k | ⟨k,x⟩)
  .exact .inl (t1 h k)
  .rw [<-z2.1 k]; exact .inl h
  .rw [u.1 h]; exact .inl k
  .rw [<-z2.1 k,h]; exact .inr ⟨rfl,t2 h' x⟩
theorem D1.mono {α:Type} {S i:α->Prop} {g:α->α->Int} (h:D1 S g) (f:∀a,i a->S a):D1 i g :=
 ⟨fun a b ha hb=>h.zero a b (f a ha) (f b hb),fun a b ha hb=>h.anti a b (f a ha) (f b hb),fun a b c ha hb hc=>h.trans a b c (f a ha) (f b hb) (f c hc)⟩
theorem D1.congr {α:Type} {S:α->Prop} {g c:α->α->Int} (h:D1 S g) (e:∀a b,c a b=g a b):D1 S c:=by
 have:c=g:=funext fun a=>funext fun b=>e a b
 rw [this]; exact h
def LL {α:Type} (g:α->α->Int) (l m:List α):Int:=if l.length=m.length then Eg g l m else Go.Ab.Ef l.length m.length
theorem Akc {α:Type} {S:α->Prop} {g:α->α->Int} (h:D1 S g):∀l m:List α,l.length=m.length->(∀x∈l,S x)->(∀x∈m,S x)->(Eg g l m=0↔l=m)
 | [],[],_,_,_=>by simp [Eg]
 | x::xs,y::ys,b,h1,h2=>by
  simp only [Eg,Akb,h.zero x y (h1 x (by simp)) (h2 y (by simp)),Akc h xs ys (by simpa using b) (fun z c=>h1 z (by simp [c])) (fun z c=>h2 z (by simp [c])),List.cons.injEq]
 | [],_::_,b,_,_=>by simp at b
 | _::_,[],b,_,_=>by simp at b
theorem Akd {α:Type} {S:α->Prop} {g:α->α->Int} (h:D1 S g):∀l m:List α,l.length=m.length->(∀x∈l,S x)->(∀x∈m,S x)->Eg g m l = - Eg g l m
 | [],[],_,_,_=>by simp [Eg]
 | x::xs,y::ys,b,h1,h2=>by
  simp only [Eg,h.anti x y (h1 x (by simp)) (h2 y (by simp)),Akd h xs ys (by simpa using b) (fun z c=>h1 z (by simp [c])) (fun z c=>h2 z (by simp [c]))]
  unfold orI; split <;> split <;> omega
 | [],_::_,b,_,_=>by simp at b
 | _::_,[],b,_,_=>by simp at b
theorem Ake {α:Type} {S:α->Prop} {g:α->α->Int} (h:D1 S g):∀l m n:List α,l.length=m.length->m.length=n.length->(∀x∈l,S x)->(∀x∈m,S x)->(∀x∈n,S x)->Eg g l m<0->Eg g m n<0->Eg g l n<0
 | [],[],_,_,_,_,_,_=>by intro h; simp [Eg] at h
 | x::xs,y::ys,z::j,f,i,h1,h2,h3=>by
  simp only [Eg,Aka]
  have k:=h.zero x y (h1 x (by simp)) (h2 y (by simp))
  have z2:=h.zero y z (h2 y (by simp)) (h3 z (by simp))
  have t1:=h.trans x y z (h1 x (by simp)) (h2 y (by simp)) (h3 z (by simp))
  have t2:=Ake h xs ys j (by simpa using f) (by simpa using i) (fun z c=>h1 z (by simp [c])) (fun z c=>h2 z (by simp [c])) (fun z c=>h3 z (by simp [c]))
  rintro (a | ⟨a,s⟩) (b | ⟨b,q⟩)
  .exact .inl (t1 a b)
  .rw [<-z2.1 b]; exact .inl a
  .rw [k.1 a]; exact .inl b
  .rw [<-z2.1 b,a]; exact .inr ⟨rfl,t2 s q⟩
 | _::_,_::_,[],_,i,_,_,_=>by simp at i
 | [],_::_,_,f,_,_,_,_=>by simp at f
 | _::_,[],_,f,_,_,_,_=>by simp at f
theorem D1.ll {α:Type} {S:α->Prop} {g:α->α->Int} (h:D1 S g):D1 (fun l=>∀x∈l,S x) (LL g):=by
 have c:=D1.cmpI
 refine ⟨fun a b ha hb=>?_,fun a b ha hb=>?_,fun x y z hx hy q=>?_⟩
 .unfold LL
  split
  .rename_i i; exact Akc h a b i ha hb
  .rename_i i
   rw [G9]
   exact ⟨fun e=>(i (by omega)).elim,fun e=>(i (by rw [e])).elim⟩
 .unfold LL
  by_cases i:a.length=b.length
  .rw [if_pos i,if_pos i.symm]; exact Akd h a b i ha hb
  .rw [if_neg i,if_neg (fun e=>i e.symm)]; exact c.anti _ _ trivial trivial
 .unfold LL
  intro h1 h2
  have neg:∀a b:Int,Go.Ab.Ef a b<0->a<b:=by intro a b h; unfold Go.Ab.Ef at h; split at h <;> (try split at h) <;> omega
  have f:∀a b:Int,a<b->Go.Ab.Ef a b<0:=by intro a b h; unfold Go.Ab.Ef; rw [if_pos h]; decide
  by_cases k:x.length=y.length
  .rw [if_pos k] at h1
   by_cases j:y.length=z.length
   .rw [if_pos j] at h2; rw [if_pos (by omega)]; exact Ake h x y z k j hx hy q h1 h2
   .rw [if_neg j] at h2; rw [if_neg (by omega)]
    have:=neg _ _ h2; exact f _ _ (by omega)
  .rw [if_neg k] at h1
   have:=neg _ _ h1
   by_cases j:y.length=z.length
   .rw [if_neg (by omega)]; exact f _ _ (by omega)
   .rw [if_neg j] at h2
    have:=neg _ _ h2
    rw [if_neg (by omega)]; exact f _ _ (by omega)
theorem Akf {α:Type} (g:α->α->Int) (l m:List α) (y:Int):orI (LL g l m) y=if l.length=m.length then orI (Eg g l m) y else Go.Ab.Ef l.length m.length:=by
 unfold LL
 by_cases h:l.length=m.length
 .rw [if_pos h,if_pos h]
 .rw [if_neg h,if_neg h]
  unfold orI
  rw [if_neg (fun e=>h (by have:=G9.1 e; omega))]
theorem Auf:D1 (fun _=>True) Ul :=
 (D1.or (S:=fun _=>True) (fun t:B6=>t.Var) (fun t=>t.Coef) (fun a b h1 h2=>by cases a; cases b; cases h1; cases h2; rfl) D1.cmpI D1.cmpI (fun _ _=>⟨trivial,trivial⟩)).congr fun _ _=>rfl
theorem Jg:D1 (fun _=>True) Fz :=
 (D1.or (S:=fun _=>True) (fun t:Ct=>t.Terms) (fun t=>t.Const) (fun a b h1 h2=>by cases a; cases b; cases h1; cases h2; rfl) Auf.ll D1.cmpI (fun _ _=>⟨fun _ _=>trivial,trivial⟩)).congr fun a b=>by
  show Fz a b=orI (LL Ul a.Terms b.Terms) (Go.Ab.Ef a.Const b.Const)
  rw [Akf]; rfl
theorem Aug (i j:Be):Ku i j=orI (Go.Ab.Ef i.Num j.Num) (LL Ku i.Kids j.Kids):=by
 rw [Ajq,Ac5]
 unfold orI LL
 by_cases h:i.Num=j.Num
 .rw [if_pos h,if_pos (G9.2 h)]
 .rw [if_neg h,if_neg (fun e=>h (G9.1 e))]
theorem Ac6:∀n:Nat,D1 (fun i=>Db i<=n) Ku:=by
 intro n
 induction n with
 | zero=>exact ⟨fun a _ ha=>by have:=G7 a; omega,fun a _ ha=>by have:=G7 a; omega,fun a _ _ ha=>by have:=G7 a; omega⟩
 | succ n ih=>
  refine (D1.or (S:=fun i=>Db i<=n+1) (fun i:Be=>i.Num) (fun i=>i.Kids) (fun a b h1 h2=>by cases a; cases b; cases h1; cases h2; rfl) D1.cmpI ih.ll ?_).congr Aug
  intro i c
  refine ⟨trivial,fun x hx=>?_⟩
  have h1:=Rm hx
  have h2:=G7 i
  show Db x<=n
  omega
theorem Auh:D1 (fun _=>True) Ku :=
 ⟨fun a b _ _=>(Ac6 (max (Db a) (Db b))).zero a b (by show Db a<=_; omega) (by show Db b<=_; omega),fun a b _ _=>(Ac6 (max (Db a) (Db b))).anti a b (by show Db a<=_; omega) (by show Db b<=_; omega),
  fun a b c _ _ _=>(Ac6 (max (Db a) (max (Db b) (Db c)))).trans a b c (by show Db a<=_; omega) (by show Db b<=_; omega) (by show Db c<=_; omega)⟩
theorem Aui:D1 (fun _=>True) Rq :=
 (D1.or (S:=fun _=>True) (fun t:Bq=>t.Var) (fun t=>t.Index) (fun a b h1 h2=>by cases a; cases b; cases h1; cases h2; rfl) D1.cmpI Auh (fun _ _=>⟨trivial,trivial⟩)).congr fun _ _=>rfl
theorem Auj:D1 (fun _=>True) Um :=
 (D1.or (S:=fun _=>True) (fun t:Bb=>t.Lin) (fun t=>t.Deg) (fun a b h1 h2=>by cases a; cases b; cases h1; cases h2; rfl) Jg D1.cmpI (fun _ _=>⟨trivial,trivial⟩)).congr fun _ _=>rfl
theorem Ac7:D1 (fun _=>True) Cz :=
 (D1.or (S:=fun _=>True) (fun t:Bc=>t.Factors) (fun t=>t.Atoms) (fun a b h1 h2=>by cases a; cases b; cases h1; cases h2; rfl) Aui.ll Auj.ll (fun _ _=>⟨fun _ _=>trivial,fun _ _=>trivial⟩)).congr fun a b=>by
  show Cz a b=orI (LL Rq a.Factors b.Factors) (LL Um a.Atoms b.Atoms)
  rw [Akf]; rfl
theorem Kv {a b:Bc}:Cz a b=0↔a=b:=Ac7.zero a b trivial trivial
theorem Rt (a b:Bc):Cz b a = - Cz a b:=Ac7.anti a b trivial trivial
theorem Ru {a b c:Bc} (h:Cz a b<0) (h':Cz b c<0):Cz a c<0:=Ac7.trans a b c trivial trivial trivial h h'
end Go.Ab
namespace Go.Ab
open Go
theorem Akg (m:Bc):Cz m m=0:=Kv.2 rfl
theorem Ac8 {a b:Bc}:0<Cz a b↔Cz b a<0:=by rw [Rt a b]; omega
def cf:List Ai->Bc->Rat
 | [],_=>0
 | t::p,m=>(if Cz t.Mono m=0 then rq t.Coef else 0)+cf p m
def ltT (t u:Ai):Prop:=Cz t.Mono u.Mono<0
structure CP (p:List Ai):Prop where
 srt:p.Pairwise ltT
 coe:∀t∈p,Ha t.Coef/\rq t.Coef≠0
theorem CP.tail {t:Ai} {p:List Ai} (h:CP (t::p)):CP p:=⟨(List.pairwise_cons.1 h.srt).2,fun u hu=>h.coe u (by simp [hu])⟩
theorem CP.head {t:Ai} {p:List Ai} (h:CP (t::p)):∀u∈p,Cz t.Mono u.Mono<0:=(List.pairwise_cons.1 h.srt).1
theorem CP.nil:CP []:=⟨List.Pairwise.nil,fun _ h=>by cases h⟩
theorem CP.cons {t:Ai} {p:List Ai} (h:CP p) (h1:∀u∈p,Cz t.Mono u.Mono<0) (h2:Ha t.Coef) (h3:rq t.Coef≠0):CP (t::p) :=
 ⟨List.pairwise_cons.2 ⟨h1,h.srt⟩,fun u hu=>by
  rcases List.mem_cons.1 hu with rfl | hu
  .exact ⟨h2,h3⟩
  .exact h.coe u hu⟩
theorem Auk {p:List Ai} {m:Bc} (h:∀t∈p,Cz t.Mono m≠0):cf p m=0:=by
 induction p with
 | nil=>rfl
 | cons t p ih=>
  simp only [cf]
  rw [if_neg (h t (by simp)),ih (fun u hu=>h u (by simp [hu]))]; grind
theorem Pb {p:List Ai} {m:Bc} (h:∀t∈p,Cz m t.Mono<0):cf p m=0 :=
 Auk fun t ht e=>by have:=h t ht; rw [Rt,e] at this; omega
theorem Pc {t:Ai} {p:List Ai} (h:CP (t::p)):cf (t::p) t.Mono=rq t.Coef:=by
 simp only [cf]
 rw [if_pos (Akg _),Pb h.head]; grind
theorem Ac9 {t:Ai} {p:List Ai} {m:Bc} (h:Cz t.Mono m≠0):cf (t::p) m=cf p m:=by
 simp only [cf]; rw [if_neg h]; grind
theorem Yo (p q:List Ai) (m:Bc):cf (p++q) m=cf p m+cf q m:=by
 induction p with
 | nil=>simp only [List.nil_append,cf]; grind
 | cons t p ih=>simp only [List.cons_append,cf,ih]; grind
theorem Aul {p:List Ai} (h:CP p) {t:Ai} (ht:t∈p):cf p t.Mono=rq t.Coef:=by
 induction p with
 | nil=>cases ht
 | cons u p ih=>
  rcases List.mem_cons.1 ht with rfl | ht
  .exact Pc h
  .have:=h.head t ht
   rw [Ac9 (by omega)]; exact ih h.tail ht
theorem CP.ext:∀{p q:List Ai},CP p->CP q->(∀m,cf p m=cf q m)->p=q
 | [],[],_,_,_=>rfl
 | [],u::q,_,h2,h=>by
  have:=h u.Mono
  rw [Pc h2] at this
  exact ((h2.coe u (by simp)).2 this.symm).elim
 | t::p,[],h1,_,h=>by
  have:=h t.Mono
  rw [Pc h1] at this
  exact ((h1.coe t (by simp)).2 this).elim
 | t::p,u::q,h1,h2,h=>by
  have b:Cz t.Mono u.Mono=0:=by
   rcases Int.lt_trichotomy (Cz t.Mono u.Mono) 0 with k | k | k
   .have e:=h t.Mono
    rw [Pc h1,Pb (p:=u::q)] at e
    .exact ((h1.coe t (by simp)).2 e).elim
    .intro w hw
     rcases List.mem_cons.1 hw with rfl | hw
     .exact k
     .exact Ru k (h2.head w hw)
   .exact k
   .have k:=Ac8.1 k
    have e:=h u.Mono
    rw [Pc h2,Pb (p:=t::p)] at e
    .exact ((h2.coe u (by simp)).2 e.symm).elim
    .intro w hw
     rcases List.mem_cons.1 hw with rfl | hw
     .exact k
     .exact Ru k (h1.head w hw)
  have c:=Kv.1 b
  have hc:t.Coef=u.Coef:=by
   refine Aj8 (h1.coe t (by simp)).1 (h2.coe u (by simp)).1 ?_
   have e:=h t.Mono
   rw [Pc h1,c,Pc h2] at e
   exact e
  have ht:t=u:=by cases t; cases u; simp_all
  subst ht
  congr 1
  refine CP.ext h1.tail h2.tail fun m=>?_
  by_cases e:Cz t.Mono m=0
  .rw [<-Kv.1 e,Pb h1.head,Pb h2.head]
  .have:=h m
   rwa [Ac9 e,Ac9 e] at this
theorem Akh (c:Ak):Ur c=true↔Ha c/\rq c≠0:=by
 unfold Ur Ha
 rw [Di,Aj4]
 have h:(!(nv c==0))=true↔rq c≠0:=by
  have e:rq c=0↔nv c=0:=by
   unfold rq
   rw [Rat.mkRat_eq_zero (D8 c)]
   unfold sg; split <;> omega
  rw [Ne,e]; simp
 rw [h]
 exact ⟨fun ⟨a,b⟩=>⟨a.symm,b⟩,fun ⟨a,b⟩=>⟨a.symm,b⟩⟩
theorem Aum {l:List Ai} (h:∀(j:Nat) (x y:Ai),l[j]? = some x->l[j+1]? = some y->Cz x.Mono y.Mono<0):l.Pairwise ltT:=by
 induction l with
 | nil=>exact List.Pairwise.nil
 | cons t l ih=>
  have ih:=ih fun j x y hx hy=>h (j+1) x y (by simpa using hx) (by simpa using hy)
  refine List.pairwise_cons.2 ⟨?_,ih⟩
  cases l with
  | nil=>intro u hu; cases hu
  | cons v l=>
   have h0:=h 0 t v rfl rfl
   intro u hu
   rcases List.mem_cons.1 hu with rfl | hu
   .exact h0
   .exact Ru h0 ((List.pairwise_cons.1 ih).1 u hu)
theorem Us {data:List Az} {vars:List Aj} {res:Aj} {p:List Ai}:Il data vars res p=true↔p.length<=1000/\CP p/\∀t∈p,Je data vars res t.Mono=true:=by
 unfold Il
 rw [Di,decide_eq_true_eq]
 constructor
 .rintro ⟨h1,h2⟩
  have g:∀(j:Nat) (t:Ai),p[j]? = some t->Ur t.Coef=true/\Je data vars res t.Mono=true/\Pa p t j=true:=by
   intro j t b
   have:=Ig h2 b
   simp only [Rs,Di] at this
   exact ⟨this.1.1,this.1.2,this.2⟩
  refine ⟨h1,⟨Aum fun j x y hx hy=>?_,fun t ht=>?_⟩,fun t ht=>?_⟩
  .have:=(g _ _ hy).2.2
   unfold Pa at this
   rw [show j+1-1=j by omega,hx] at this
   simpa using this
  .obtain ⟨j,b⟩:=List.getElem?_of_mem ht
   exact (Akh _).1 (g j t b).1
  .obtain ⟨j,b⟩:=List.getElem?_of_mem ht
   exact (g j t b).2.1
 .rintro ⟨h1,h2,h3⟩
  refine ⟨h1,List.all_eq_true.2 fun q hq=>?_⟩
  have hq:=List.mem_zipIdx' hq
  have b:p[q.2]? = some q.1:=(Ci hq.1).trans (congrArg some hq.2.symm)
  have f:q.1∈p:=Cm b
  simp only [Rs,Di]
  refine ⟨⟨(Akh _).2 (h2.coe _ f),h3 _ f⟩,?_⟩
  unfold Pa
  by_cases h0:q.2=0
  .rw [h0]; rfl
  .have c:q.2-1<p.length:=by omega
   rw [Ci c]
   have:=List.pairwise_iff_getElem.1 h2.srt (q.2-1) q.2 c hq.1 (by omega)
   rw [<-hq.2] at this
   simp only [Bool.or_eq_true,decide_eq_true_eq]
   exact .inr this
end Go.Ab
namespace Go.Ab
open Go
theorem Aun:∀(k:Nat) (t:Be),Db t<=k->k<1099511627776->Om k t=some t:=by
 intro k
 induction k with
 | zero=>intro t h; have:=G7 t; omega
 | succ k ih=>
  intro t h hk
  have c:=G7 t
  have b:=Uj t.Kids
  rw [Om]
  refine Hw t.Kids (fun j=>((j:Int),(t.Kids.take j))) rfl (by omega) ?_ ?_
  .intro j x f hx h1 h2 h3
   have:=Rm (Cm hx)
   simp only [h1,h2,h3,cond_true,Ad,ih x (by omega) (by omega)]
   rw [Dp (by simp; omega),Ad,Dy hx]
  .intro h1
   exact ⟨t.Kids,by simp,by cases t; rfl⟩
theorem Auo (m:Bc) (b:MSz m):Te m=some m:=by
 have h:=b.nf
 have g:=b.na
 unfold Te
 refine Hw m.Factors (fun j=>((j:Int),(m.Factors.take j))) rfl (by omega) ?_ ?_
 .intro j x f hx h1 h2 h3
  have c:=Cm hx
  have:=b.fi x c
  simp only [h1,h2,h3,cond_true,Ad,Aun 4000000 x.Index (by omega) (by omega)]
  rw [Dp (by simp; omega),Ad,Dy hx]
 .intro h1
  refine ⟨m.Factors,by simp,?_⟩
  dsimp only
  refine Hw m.Atoms (fun j=>((j:Int),(m.Atoms.take j))) rfl (by omega) ?_ ?_
  .intro j x f hx h1 h2 h3
   have c:=Cm hx
   have:=b.al x c
   simp only [h1,h2,h3,cond_true,Ad,S5]
   rw [Dp (by simp; omega),Ad,Dp (by simp; omega),Ad,Dy hx]; rfl
  .intro h1
   exact ⟨m.Atoms,by simp,by cases m; rfl⟩
end Go.Ab
namespace Go.Ab
open Go
structure TB (k:Nat) (t:Ai):Prop where
 co:RB k t.Coef
 mo:MSz t.Mono
theorem TSz.tb {t:Ai} (h:TSz t):TB 1048576 t:=⟨h.co,h.mo⟩
theorem TB.mono {j k:Nat} {t:Ai} (h:TB j t) (hk:j<=k):TB k t:=⟨h.co.mono hk,h.mo⟩
def Pd (c:Ak) (m:Bc):List Ai:=if nv c=0 then [] else [⟨Bg (sv c) (nv c) (dv c),m⟩]
theorem Aki (c:Ak):rq c=0↔nv c=0:=by
 unfold rq
 rw [Rat.mkRat_eq_zero (D8 c)]
 unfold sg; split <;> omega
theorem Aup (c:Ak) (m n:Bc):cf (Pd c m) n=if Cz m n=0 then rq c else 0:=by
 unfold Pd
 split
 .rename_i h
  rw [(Aki c).2 h]; simp [cf]
 .simp only [cf,Jz _ _ _ (D8 c)]
  show (if Cz m n=0 then rq c else 0)+0=_
  grind
structure Mg (F:Rat->Rat->Rat) (k:Nat) (p q R:List Ai):Prop where
 cp:CP R
 val:∀m,cf R m=F (cf p m) (cf q m)
 mon:∀t∈R,(∃u∈p,u.Mono=t.Mono)\/(∃u∈q,u.Mono=t.Mono)
 len:R.length<=p.length+q.length
 rb:∀t∈R,RB (k+1) t.Coef
theorem Auq {k:Nat} {c:Ak} {m:Bc} (hc:RB k c):(∀t∈Pd c m,t.Mono=m/\Ha t.Coef/\rq t.Coef≠0/\RB (k+1) t.Coef)/\(Pd c m).length<=1:=by
 unfold Pd
 split
 .exact ⟨fun _ h=>(by cases h),by simp⟩
 .rename_i h
  refine ⟨fun t ht=>?_,by simp⟩
  simp only [List.mem_singleton] at ht
  subst ht
  exact ⟨rfl,Nk _ _ _ (D8 c),by rw [Jz _ _ _ (D8 c)]; exact fun e=>h ((Aki c).1 e),Ach hc⟩
theorem Mg.step {F:Rat->Rat->Rat} {k:Nat} {p q g f R:List Ai} {c:Ak} {m:Bc} (h:Mg F k g f R) (z:F 0 0=0) (hc:RB k c)
  (s:∀n,Cz m n≠0->cf p n=cf g n/\cf q n=cf f n) (h0:rq c=F (cf p m) (cf q m)) (l:∀u∈g,Cz m u.Mono<0) (j:∀u∈f,Cz m u.Mono<0)
  (x:(∃u∈p,u.Mono=m)\/(∃u∈q,u.Mono=m)) (hp:∀u∈g,u∈p) (hq:∀u∈f,u∈q) (B:g.length+f.length+1<=p.length+q.length):Mg F k p q (Pd c m++R):=by
 obtain ⟨i,A⟩:=Auq (m:=m) hc
 have y:∀t∈R,Cz m t.Mono<0:=by
  intro t ht
  rcases h.mon t ht with ⟨u,hu,e⟩ | ⟨u,hu,e⟩
  .rw [<-e]; exact l u hu
  .rw [<-e]; exact j u hu
 refine ⟨?_,?_,?_,?_,?_⟩
 .refine ⟨List.pairwise_append.2 ⟨?_,h.cp.srt,?_⟩,?_⟩
  .unfold Pd; split
   .exact List.Pairwise.nil
   .exact List.pairwise_singleton _ _
  .intro a ha b hb
   show Cz a.Mono b.Mono<0
   rw [(i a ha).1]; exact y b hb
  .intro t ht
   rcases List.mem_append.1 ht with ht | ht
   .exact ⟨(i t ht).2.1,(i t ht).2.2.1⟩
   .exact h.cp.coe t ht
 .intro n
  rw [Yo,Aup,h.val n]
  by_cases e:Cz m n=0
  .rw [if_pos e]
   have e':=Kv.1 e
   subst e'
   rw [Pb l,Pb j,z,h0]; grind
  .rw [if_neg e,(s n e).1,(s n e).2]; grind
 .intro t ht
  rcases List.mem_append.1 ht with ht | ht
  .rw [(i t ht).1]; exact x
  .rcases h.mon t ht with ⟨u,hu,e⟩ | ⟨u,hu,e⟩
   .exact .inl ⟨u,hp u hu,e⟩
   .exact .inr ⟨u,hq u hu,e⟩
 .rw [List.length_append]; have:=h.len; omega
 .intro t ht
  rcases List.mem_append.1 ht with ht | ht
  .exact (i t ht).2.2.2
  .exact h.rb t ht
end Go.Ab
namespace Go.Ab
open Go
def Gr (n:Int) (f:Bool):List Int:=if f then (if n<0 then [45] else []) else (if n<0 then [32,45,32] else [32,43,32])
def He (n:Int):List Int:=if n.natAbs=1 then [] else ti n.natAbs++[42]
def Gy (v:Int):List Int:=if v = -1 then [114,101,115] else 118::ti v
def tT (f:Bool) (t:B6):List Int:=Gr t.Coef f++(He t.Coef++Gy t.Var)
def F0:Bool->List B6->Int->List Int
 | f,[],c=>if c≠0\/f=true then Gr c f++ti c.natAbs else []
 | f,t::ts,c=>tT f t++F0 false ts c
def Ut (l:Ct):List Int:=F0 true l.Terms l.Const
def Gz (X:List Int):Prop:=∀c m,X=c::m->c=97
theorem Gz.nil:Gz []:=by intro c m h; cases h
theorem Gz.cons (X:List Int):Gz (97::X):=by intro c m h; cases h; rfl
theorem Gz.nonum {X:List Int} (h:Gz X):Jc X:=by intro c m e; rw [h c m e]; decide
theorem Ada (n:Nat):∃c m,ti n=c::m/\48<=c/\c<=57:=by
 have b:=Acx (n:Int)
 cases h:ti (n:Int) with
 | nil=>exact (b h).elim
 | cons c m=>
  refine ⟨c,m,rfl,?_⟩
  have hc:c∈ti (n:Int):=by rw [h]; simp
  unfold ti at hc
  obtain ⟨x,hx,rfl⟩:=List.mem_map.1 hc
  have e:Lib.itoa (n:Int)=Lib.decDigits n:=by
   unfold Lib.itoa
   first | rfl | (rw [if_neg (by omega)]; simp) | simp
  rw [e] at hx
  have:=Yc n n (Nat.le_refl _) x hx
  omega
theorem Akj (ts:List B6) (c:Int) {X:List Int} (b:Gz X):Jc (F0 false ts c++X):=by
 have k:∀(n:Int) (Y:List Int),Jc (Gr n false++Y):=by
  intro n Y c m e
  unfold Gr at e
  simp only [Bool.false_eq_true,if_false] at e
  split at e <;> (cases e; decide)
 cases ts with
 | nil=>
  simp only [F0]
  split
  .rw [List.append_assoc]; exact k _ _
  .exact b.nonum
 | cons t ts=>simp only [F0,tT,List.append_assoc]; exact k _ _
theorem Akk {v w:Int} {R S:List Int} (c:Jc R) (b:Jc S) (h:Gy v++R=Gy w++S):v=w/\R=S:=by
 unfold Gy at h
 split at h <;> split at h
 .simp only [List.cons_append,List.nil_append,List.cons.injEq,true_and] at h
  exact ⟨by omega,h⟩
 .simp at h
 .simp at h
 .simp only [List.cons_append,List.cons.injEq,true_and] at h
  obtain ⟨g,f⟩:=L7 _ _ _ _ (Ga v) (Ga w) c b h
  exact ⟨O7 g,f⟩
theorem Adb (v:Int):∃c m,Gy v=c::m/\(c=114\/c=118):=by
 unfold Gy
 split
 .exact ⟨_,_,rfl,.inl rfl⟩
 .exact ⟨_,_,rfl,.inr rfl⟩
theorem Adc (X:List Int):Jc (42::X):=by intro c m e; cases e; decide
theorem Aur {a b v w:Int} {R S:List Int} (i:Jc R) (g:Jc S) (h:He a++(Gy v++R)=He b++(Gy w++S)):a.natAbs=b.natAbs/\v=w/\R=S:=by
 unfold He at h
 have bad:∀(n:Nat) (u:Int) (X Y:List Int),Gy u++X=ti n++[42]++Y->False:=by
  intro n u X Y e
  obtain ⟨c,m,f,q⟩:=Adb u
  obtain ⟨d,k,l,j⟩:=Ada n
  rw [f,l] at e
  simp only [List.cons_append,List.cons.injEq] at e
  omega
 split at h <;> split at h
 .rename_i h1 h2
  simp only [List.nil_append] at h
  exact ⟨h1.trans h2.symm,Akk i g h⟩
 .exact (bad _ _ _ _ h).elim
 .exact (bad _ _ _ _ h.symm).elim
 .simp only [List.append_assoc,List.cons_append,List.nil_append] at h
  obtain ⟨f,q⟩:=L7 _ _ _ _ (Ga _) (Ga _) (Adc _) (Adc _) h
  have l:=O7 f
  obtain ⟨j,s⟩:=Akk i g (List.cons.inj q).2
  exact ⟨by omega,j,s⟩
def NoM (P:List Int):Prop:=∃c m,P=c::m/\c≠45
theorem NoM.ti (n:Nat) (X:List Int):NoM (Go.Ab.ti n++X):=by
 obtain ⟨c,m,e,h⟩:=Ada n
 exact ⟨c,m++X,by rw [e]; rfl,by omega⟩
theorem NoM.pT (a v:Int) (X:List Int):NoM (He a++(Gy v++X)):=by
 unfold He
 split
 .obtain ⟨c,m,e,h⟩:=Adb v
  exact ⟨c,m++X,by rw [e]; rfl,by omega⟩
 .rw [List.append_assoc]; exact NoM.ti _ _
theorem Add {a b:Int} {f:Bool} {P Q:List Int} (i:NoM P) (g:NoM Q) (h:Gr a f++P=Gr b f++Q):(a<0↔b<0)/\P=Q:=by
 obtain ⟨c,m,rfl,hc⟩:=i
 obtain ⟨d,k,rfl,hd⟩:=g
 unfold Gr at h
 cases f with
 | true=>
  simp only [if_true] at h
  split at h <;> split at h
  .rename_i h1 h2; exact ⟨by simp [h1,h2],by simpa using h⟩
  .simp at h; exact (hd h.1.symm).elim
  .simp at h; exact (hc h.1).elim
  .rename_i h1 h2; exact ⟨by simp [h1,h2],by simpa using h⟩
 | false=>
  simp only [Bool.false_eq_true,if_false] at h
  split at h <;> split at h
  .rename_i h1 h2; exact ⟨by simp [h1,h2],by simpa using h⟩
  .simp at h
  .simp at h
  .rename_i h1 h2; exact ⟨by simp [h1,h2],by simpa using h⟩
theorem Ade {n:Int} {P X:List Int} (b:Gz X) (h:Gr n false++P=X):False:=by
 unfold Gr at h
 simp only [Bool.false_eq_true,if_false] at h
 split at h
 .have:=b _ _ h.symm; omega
 .have:=b _ _ h.symm; omega
theorem Akl {c d:Int} {f:Bool} {u:B6} {m:List B6} {X Y:List Int} (b:Gz X) (k:Gz Y) (h:F0 f [] c++X=F0 f (u::m) d++Y):False:=by
 simp only [F0,tT] at h
 split at h
 .simp only [List.append_assoc] at h
  obtain ⟨_,e⟩:=Add (NoM.ti _ _) (NoM.pT _ _ _) h
  unfold He at e
  split at e
  .obtain ⟨q,m1,j,h1⟩:=Adb u.Var
   obtain ⟨l,m2,g,h2⟩:=Ada c.natAbs
   rw [j,g] at e
   simp only [List.nil_append,List.cons_append,List.cons.injEq] at e
   omega
  .simp only [List.append_assoc,List.cons_append,List.nil_append] at e
   obtain ⟨_,g⟩:=L7 _ _ _ _ (Ga _) (Ga _) b.nonum (Adc _) e
   have:=b _ _ g; omega
 .rename_i i
  have hf:f=false:=by cases f with | true=>simp at i | false=>rfl
  subst hf
  simp only [List.nil_append,List.append_assoc] at h
  exact Ade b h.symm
theorem Akm:∀(l m:List B6) (f:Bool) (c d:Int) (X Y:List Int),Gz X->Gz Y->F0 f l c++X=F0 f m d++Y->l=m/\c=d/\X=Y
 | [],[],f,c,d,X,Y,g,b,h=>by
  simp only [F0] at h
  split at h <;> split at h
  .simp only [List.append_assoc] at h
   obtain ⟨x,q⟩:=Add (NoM.ti _ _) (NoM.ti _ _) h
   obtain ⟨j,i⟩:=L7 _ _ _ _ (Ga _) (Ga _) g.nonum b.nonum q
   have s:=O7 j
   exact ⟨rfl,by omega,i⟩
  .rename_i h1 h2
   have hf:f=false:=by cases f with | true=>simp at h2 | false=>rfl
   subst hf
   simp only [List.append_assoc,List.nil_append] at h
   exact (Ade b h).elim
  .rename_i h1 h2
   have hf:f=false:=by cases f with | true=>simp at h1 | false=>rfl
   subst hf
   simp only [List.append_assoc,List.nil_append] at h
   exact (Ade g h.symm).elim
  .rename_i h1 h2
   refine ⟨rfl,?_,by simpa using h⟩
   have a1:c=0:=by by_cases k:c=0; exact k; exact (h1 (.inl k)).elim
   have a2:d=0:=by by_cases k:d=0; exact k; exact (h2 (.inl k)).elim
   omega
 | [],u::m,f,c,d,X,Y,g,b,h=>(Akl g b h).elim
 | t::l,[],f,c,d,X,Y,g,b,h=>(Akl b g h.symm).elim
 | t::l,u::m,f,c,d,X,Y,g,b,h=>by
  simp only [F0,tT,List.append_assoc] at h
  obtain ⟨x,q⟩:=Add (NoM.pT _ _ _) (NoM.pT _ _ _) h
  obtain ⟨j,i,s⟩:=Aur (Akj _ _ g) (Akj _ _ b) q
  obtain ⟨A,z,y⟩:=Akm l m false c d X Y g b s
  have:t=u:=by
   cases t; cases u
   simp only at x j i
   subst i
   congr 1; omega
  exact ⟨by rw [this,A],z,y⟩
def Fx (a:Bb):List Int:=97::(ti a.Deg++58::Ut a.Lin)
def Em (f:Bq):List Int:=G8 f.Var f.Index
def Uu (m:Bc):List Int:=m.Factors.flatMap Em++m.Atoms.flatMap Fx
theorem Yp (l:List Bb):Gz (l.flatMap Fx):=by
 cases l with
 | nil=>exact Gz.nil
 | cons a l=>simp only [List.flatMap_cons,Fx,List.cons_append]; exact Gz.cons _
theorem Yq (X:List Int):Jc (58::X):=by intro c m e; cases e; decide
theorem Akn:∀(l m:List Bb),l.flatMap Fx=m.flatMap Fx->l=m
 | [],[],_=>rfl
 | [],b::m,h=>by simp [Fx] at h
 | a::l,[],h=>by simp [Fx] at h
 | a::l,b::m,h=>by
  simp only [List.flatMap_cons,Fx,List.cons_append,List.append_assoc,List.cons.injEq,true_and] at h
  obtain ⟨s,q⟩:=L7 _ _ _ _ (Ga _) (Ga _) (Yq _) (Yq _) h
  have k:=(List.cons.inj q).2
  obtain ⟨g,f,j⟩:=Akm _ _ true _ _ _ _ (Yp l) (Yp m) k
  have i:=Akn l m j
  have c:=O7 s
  obtain ⟨⟨x,t1⟩,d1⟩:=a
  obtain ⟨⟨u,t2⟩,d2⟩:=b
  simp only at g f c
  rw [g,f,c,i]
theorem Ako (l:List Bq) {X:List Int} (b:Gz X):Nh (l.flatMap Em++X):=by
 cases l with
 | nil=>intro c m e; rw [b c m e]; exact ⟨by decide,by decide⟩
 | cons a l=>
  intro c m e
  simp only [List.flatMap_cons,Em,G8,List.cons_append] at e
  cases e; exact ⟨by decide,by decide⟩
theorem Akp:∀(l m:List Bq) (X Y:List Int),Gz X->Gz Y->l.flatMap Em++X=m.flatMap Em++Y->l=m/\X=Y
 | [],[],X,Y,_,_,h=>⟨rfl,by simpa using h⟩
 | [],b::m,X,Y,f,_,h=>by
  simp only [List.flatMap_cons,List.flatMap_nil,Em,G8,List.cons_append,List.nil_append] at h
  have:=f _ _ h; omega
 | a::l,[],X,Y,_,c,h=>by
  simp only [List.flatMap_cons,List.flatMap_nil,Em,G8,List.cons_append,List.nil_append] at h
  have:=c _ _ h.symm; omega
 | a::l,b::m,X,Y,f,c,h=>by
  simp only [List.flatMap_cons,Em,G8,List.cons_append,List.append_assoc,List.cons.injEq,true_and] at h
  obtain ⟨x,u⟩:=L7 _ _ _ _ (Ga _) (Ga _) (Yq _) (Yq _) h
  have s:=(List.cons.inj u).2
  obtain ⟨i,q⟩:=Acz _ _ _ _ (Ako l f) (Ako m c) s
  obtain ⟨k,j⟩:=Akp l m X Y f c q
  have g:=O7 x
  obtain ⟨y,i1⟩:=a
  obtain ⟨v2,i2⟩:=b
  simp only at i g
  exact ⟨by rw [i,g,k],j⟩
theorem Aus {m n:Bc} (h:Uu m=Uu n):m=n:=by
 obtain ⟨c,f⟩:=Akp _ _ _ _ (Yp _) (Yp _) h
 have b:=Akn _ _ f
 cases m; cases n
 simp only at c b
 rw [c,b]
def By (l:List Int):Prop:=∀c∈l,0<=c/\c<256
theorem By.app {l m:List Int} (h:By l) (h':By m):By (l++m):=by
 intro c hc
 rcases List.mem_append.1 hc with k | k
 .exact h c k
 .exact h' c k
theorem By.ti (n:Int):By (Go.Ab.ti n):=by
 intro c h
 have:=Ga n c h
 simp only [L6,Bool.or_eq_true,Di,beq_iff_eq,decide_eq_true_eq] at this
 omega
theorem By.cons {c:Int} {l:List Int} (hc:0<=c/\c<256) (h:By l):By (c::l):=by
 intro d hd
 rcases List.mem_cons.1 hd with rfl | k
 .exact hc
 .exact h d k
theorem By.nil:By []:=fun c h=>by cases h
theorem By.sgn (n:Int) (f:Bool):By (Gr n f):=by
 unfold Gr
 split <;> split <;> intro c hc <;> simp at hc <;> omega
theorem By.mag (n:Int):By (He n):=by
 unfold He
 split
 .exact By.nil
 .exact (By.ti _).app (By.cons (by omega) By.nil)
theorem By.var (n:Int):By (Gy n):=by
 unfold Gy
 split
 .intro c hc; simp at hc; omega
 .exact By.cons (by omega) (By.ti _)
theorem By.tT (f:Bool) (t:B6):By (tT f t):=(By.sgn _ _).app ((By.mag _).app (By.var _))
theorem By.lins:∀(l:List B6) (f:Bool) (c:Int),By (F0 f l c)
 | [],f,c=>by
  simp only [F0]
  split
  .exact (By.sgn _ _).app (By.ti _)
  .exact By.nil
 | t::l,f,c=>(By.tT f t).app (By.lins l false c)
theorem By.at (a:Bb):By (Fx a):=By.cons (by omega) ((By.ti _).app (By.cons (by omega) (By.lins _ _ _)))
theorem By.flat {α:Type} {g:α->List Int} (h:∀a,By (g a)) (l:List α):By (l.flatMap g):=by
 intro c hc
 obtain ⟨a,_,k⟩:=List.mem_flatMap.1 hc
 exact h a c k
theorem By.fac (f:Bq):By (Em f):=Yf f.Var f.Index
theorem By.mono (m:Bc):By (Uu m):=(By.flat By.fac _).app (By.flat By.at _)
def bs (l:List Int):ByteArray:=⟨(Dr l).toArray⟩
theorem Aut {l m:List Int} (c:By l) (b:By m) (h:bs l=bs m):l=m:=by
 unfold bs at h
 have h1:(Dr l).toArray=(Dr m).toArray:=by injection h
 have h2:Dr l=Dr m:=by simpa using congrArg Array.toList h1
 exact Ac2 _ _ c b h2
def Im (m:Bc):ByteArray:=bs (Uu m)
theorem Akq {m n:Bc} (h:Im m=Im n):m=n:=Aus (Aut (By.mono m) (By.mono n) h)
theorem Uv (l:List Int):(bs l).size=l.length:=by unfold bs Dr; simp [ByteArray.size]
theorem Akr {l:List Int} (h:By l):Ka (bs l)=l:=by
 unfold Ka bs Dr
 simp only [List.map_map]
 conv=>rhs; rw [<-List.map_id l]
 refine List.map_congr_left fun c hc=>?_
 have:=h c hc
 simp only [Function.comp,UInt8.toNat_ofNat',id]
 omega
theorem Auu (l m:List Int):bs l++bs m=bs (l++m):=by
 apply ByteArray.ext
 rw [ByteArray.data_append]
 unfold bs Dr
 simp
theorem Pe {l m:List Int} (h:l.length+m.length<=9223372036854775807):Ed (bs l) (bs m)=some (bs (l++m)):=by
 unfold Ed
 rw [if_pos (by rw [Uv,Uv]; exact h),Auu]
theorem Yr {n:Int} (h:I64 n):Lo n=some (bs (ti n)):=by
 rw [Ac1 h]
 congr 2
 congr 1
 unfold Dr ti
 rw [List.map_map]
 conv=>lhs; rw [<-List.map_id (Lib.itoa n)]
 refine List.map_congr_left fun c _=>?_
 simp [Function.comp]
theorem Auv (v:Int) (i:Be):Gb v i=bs (G8 v i):=rfl
end Go.Ab
namespace Go.Ab
open Go
theorem Ys {S E R α:Type} {step:S->Option (S⊕E)} {s0:S} {J:E->Option R} {r:R} (c:α) (xs:List α) (b:Nat->S) (h0:s0=b 0) (i:xs.length<2305843009213693952)
  (f:∀(j:Nat) (x:α),xs[j]? = some x->decide (((j+1:Nat):Int)<((c::xs).length:Int))=true->Af (c::xs) ((j+1:Nat):Int)=some x->Ac (((j+1:Nat):Int)+1)=((j+1+1:Nat):Int)->step (b j)=some (.inl (b (j+1))))
  (h:decide (((xs.length+1:Nat):Int)<((c::xs).length:Int))=false->∃e,step (b xs.length)=some (.inr e)/\J e=some r):(Al step s0).bind J=some r:=by
 refine Hv xs.length b h0 (fun j g=>?_) (h (by simp))
 have hx:xs[j]? = some xs[j]:=Ci g
 exact f j _ hx (Ao (by simp only [List.length_cons]; omega)) (Ch rfl (by simp)) (C9 (n:=xs.length+1) (by omega) (by omega))
theorem bnd {α β:Type} {X:Option α} {a:α} {K:α->Option β} {r:Option β} (h:X=some a) (k:K a=r):X.bind K=r:=by rw [h]; exact k
theorem Kw {l b:List Int} (c:By l) (h:b.length+l.length<=140737488355328):E9 (bs l) b=some ((l.length:Int),b++l):=by
 simp only [E9,Q6,Ad,Akr c,Uv]
 rw [Dp (by omega)]; rfl
theorem Pf {l b:List Int} (c:By l) (h:b.length+l.length<=140737488355328):Gv (bs l) b=some ((l.length:Int),b++l):=by
 simp only [Gv,Tn,Ad,Akr c,Uv]
 rw [Dp (by omega)]; rfl
theorem Nl {b:List Int} (hb:By b):I3 b=some (bs b):=by
 exact if_pos hb
theorem Auw {b:List Int} (hb:By b):T5 b=some (bs b):=Nl hb
theorem Adf (n:Int) (h : -1048576<=n/\n<=1048576):(He n).length<=22:=by
 unfold He
 split
 .simp
 .have:=Kt (n:=(n.natAbs:Int)) (by unfold I64; omega)
  simp; omega
theorem Yt (n:Int) (f:Bool):(Gr n f).length<=3:=by unfold Gr; split <;> split <;> simp
theorem Aux {v:Int} (h : -1<=v/\v<3000):(Gy v).length<=22:=by
 unfold Gy
 split
 .simp
 .have:=Kt (n:=v) (by unfold I64; omega)
  simp; omega
structure Aks (a:Ct):Prop where
 c : -1048576<=a.Const/\a.Const<=1048576
 n:a.Terms.length<=16
 t:∀t∈a.Terms,(-1<=t.Var/\t.Var<3000)/\(-1048576<=t.Coef/\t.Coef<=1048576)
theorem Adg {a:Ct} (h:Gx a=true):Aks a:=by
 unfold Gx at h
 simp only [Di,decide_eq_true_eq] at h
 refine ⟨⟨h.1.1,h.1.2.1⟩,h.1.2.2,fun t ht=>?_⟩
 obtain ⟨j,b⟩:=List.getElem?_of_mem ht
 have:=Ig h.2 b
 simp only [Yj,Di,decide_eq_true_eq] at this
 omega
theorem Adh {t:B6} (f:Bool) (h:(-1<=t.Var/\t.Var<3000)/\(-1048576<=t.Coef/\t.Coef<=1048576)):(tT f t).length<=47:=by
 have:=Yt t.Coef f
 have:=Adf t.Coef h.2
 have:=Aux h.1
 unfold tT
 simp only [List.length_append]; omega
theorem Akt {n:Int} (h : -1048576<=n/\n<=1048576):(if Ac (0-n)>n then Ac (0-n) else n)=(n.natAbs:Int):=by
 rw [Ac,Bu (by omega) (by omega)]; split <;> omega
theorem c45:ByteArray.mk #[45]=bs [45]:=rfl
theorem Auy:ByteArray.mk #[32,45,32]=bs [32,45,32]:=rfl
theorem Auz:ByteArray.mk #[32,43,32]=bs [32,43,32]:=rfl
theorem c42:ByteArray.mk #[42]=bs [42]:=rfl
theorem Aku:ByteArray.mk #[118]=bs [118]:=rfl
theorem c97:ByteArray.mk #[97]=bs [97]:=rfl
theorem c58:ByteArray.mk #[58]=bs [58]:=rfl
theorem Akv:ByteArray.mk #[114,101,115]=bs [114,101,115]:=rfl
theorem Akw:By [45]:=By.cons (by omega) By.nil
theorem by3 (a b c:Int) (ha:0<=a/\a<256) (hb:0<=b/\b<256) (hc:0<=c/\c<256):By [a,b,c]:=By.cons ha (By.cons hb (By.cons hc By.nil))
theorem Akx {n:Int} (f:Bool) {b:List Int} (c : -1048576<=n/\n<=1048576) (hb:b.length<=1099511627776):T6 n f b=some ((n.natAbs:Int),b++Gr n f):=by
 unfold T6 Gr
 rw [Akt c,c45,Auy,Auz]
 rw [Kw Akw (by simp; omega),Kw (by3 _ _ _ (by omega) (by omega) (by omega)) (by simp; omega),Kw (by3 _ _ _ (by omega) (by omega) (by omega)) (by simp; omega)]
 by_cases h:n<0
 .rw [Ao h,if_pos h,if_pos h]; cases f <;> rfl
 .rw [Av h,if_neg h,if_neg h]; cases f <;> simp
theorem Au0 {n:Int} {b:List Int} (c : -1048576<=n/\n<=1048576) (hb:b.length<=1099511627776):Ol n true b=some (if n<0 then .inl ((n.natAbs:Int),b++[45]) else .inr ((n.natAbs:Int),b)):=by
 unfold Ol
 rw [Akt c,c45,Pf Akw (by simp; omega)]
 by_cases h:n<0
 .rw [Ao h,if_pos h]; rfl
 .rw [Av h,if_neg h]; rfl
theorem Adi {n:Nat} (h:n<=1048576):Ki (n:Int) 10=some (bs (ti n)):=by
 unfold Ki Wg
 exact Yr (by unfold I64; omega)
theorem Yu {n:Nat} (h:n<=1048576):(ti (n:Int)).length<=21:=Kt (by unfold I64; omega)
theorem Aky {n:Int} {b:List Int} (c : -1048576<=n/\n<=1048576) (hb:b.length<=1099511627776) :
  (bif ((n.natAbs:Int) != (1:Int)) then (Ki (n.natAbs:Int) 10).bind fun v=>(Ed v (ByteArray.mk #[42])).bind fun u=>(E9 u b).bind fun w=>some w.2 else some b)=some (b++He n):=by
 have ht:=Yu (n:=n.natAbs) (by omega)
 unfold He
 by_cases h:n.natAbs=1
 .rw [F8 (by omega),if_pos h]; simp
 .rw [Fv (by omega),if_neg h,Adi (by omega),c42]
  simp only [cond_true,Ad]
  rw [Pe (by simp; omega),Ad,Kw ((By.ti _).app (By.cons (by omega) By.nil)) (by simp; omega)]; rfl
theorem Adj {v:Int} {b:List Int} {R:Type} (K:List Int->Option R) (c : -1<=v/\v<3000) (hb:b.length<=1099511627776) :
  (bif (v==(-1)) then (E9 (ByteArray.mk #[114,101,115]) b).bind fun w=>K w.2 else (Gm v).bind fun x=>(Ed (ByteArray.mk #[118]) x).bind fun y=>(E9 y b).bind fun w=>K w.2)=K (b++Gy v):=by
 have ht:=Kt (n:=v) (by unfold I64; omega)
 unfold Gy
 by_cases h:v = -1
 .rw [Fu h,if_pos h,Akv,Kw (by3 _ _ _ (by omega) (by omega) (by omega)) (by simp; omega)]; rfl
 .rw [C2 h,if_neg h,Aku]
  simp only [cond_false,Gm]
  rw [Yr (by unfold I64; omega),Ad,Pe (by simp; omega),Ad]
  rw [show [118]++ti v=118::ti v from rfl,Kw (By.cons (by omega) (By.ti _)) (by simp; omega)]; rfl
theorem Yv {α:Type} {g:α->List Int} {l:List α} {j:Nat} {x:α} (h:l[j]? = some x):(l.take (j+1)).flatMap g=(l.take j).flatMap g++g x:=by
 rw [Dy h]; simp
theorem Akz {α:Type} {g:α->List Int} {n:Nat}:∀(l:List α),(∀a∈l,(g a).length<=n)->(l.flatMap g).length<=l.length*n
 | [],_=>by simp
 | a::l,h=>by
  have h1:=h a (by simp)
  have h2:=Akz l fun b hb=>h b (by simp [hb])
  simp only [List.flatMap_cons,List.length_append,List.length_cons,Nat.add_mul]; omega
theorem Adk {α:Type} {g:α->List Int} {n:Nat} (l:List α) (j:Nat) (h:∀a∈l,(g a).length<=n):((l.take j).flatMap g).length<=l.length*n:=by
 refine Nat.le_trans (Akz _ fun a ha=>h a (List.mem_of_mem_take ha)) (Nat.mul_le_mul_right _ ?_)
 rw [List.length_take]; omega
theorem Ak0:∀(ts:List B6) (c:Int),F0 false ts c=ts.flatMap (tT false)++F0 false [] c
 | [],c=>by simp
 | t::ts,c=>by
  have:=Ak0 ts c
  simp only [List.flatMap_cons,List.append_assoc,<-this]; rfl
theorem Au1 {a:Ct} (h:Gx a=true) (B:a.Terms≠[]):Ly a=some (bs (Ut a)):=by
 have z:=Adg h
 unfold Ly
 rw [Aju,h]
 obtain ⟨c,l⟩:=a
 cases l with
 | nil=>exact (B rfl).elim
 | cons t ts=>
  have hc : -1048576<=c/\c<=1048576:=z.c
  have M:ts.length<=15:=by have:=z.n; simp at this; omega
  have ht:(-1<=t.Var/\t.Var<3000)/\(-1048576<=t.Coef/\t.Coef<=1048576):=z.t t (by simp)
  have s:∀u∈ts,(-1<=u.Var/\u.Var<3000)/\(-1048576<=u.Coef/\u.Coef<=1048576):=fun u hu=>z.t u (by simp [hu])
  have x:=fun j=>Adk (g:=tT false) (n:=47) ts j (fun u hu=>Adh false (s u hu))
  have J:=Adh true ht
  simp only [Ad,bnt,cond_false]
  rw [Ao (by simp only [List.length_cons]; omega),cond_true]
  refine bnd (a:=((t.Coef.natAbs:Int),tT true t)) ?_ ?_
  .rw [show Af (t::ts) 0=some t from rfl,Ad,Au0 ht.2 (by simp),Ad]
   have G:=Kt (n:=t.Var) (by unfold I64; omega)
   have I:=Yu (n:=t.Coef.natAbs) (by omega)
   have D:=Adf t.Coef ht.2
   by_cases q:t.Coef<0
   .rw [if_pos q]
    simp only
    rw [Aky ht.2 (by simp),Ad]
    refine (Adj (fun b=>some ((t.Coef.natAbs:Int),b)) ht.1 (by simp; omega)).trans ?_
    simp [tT,Gr,q]
   .rw [if_neg q]
    simp only
    by_cases h1:t.Coef.natAbs=1
    .rw [F8 (by omega)]
     simp only [cond_false]
     by_cases y:t.Var = -1
     .rw [Fu y,Akv,cond_true,Pf (by3 _ _ _ (by omega) (by omega) (by omega)) (by simp)]
      simp [tT,Gr,q,He,h1,Gy,y]
     .rw [C2 y,cond_false,Aku,Gm,Yr (by unfold I64; omega),Ad,Pe (by simp; omega),Ad,show [118]++ti t.Var=118::ti t.Var from rfl,
       Pf (By.cons (by omega) (By.ti _)) (by simp; omega)]
      simp [tT,Gr,q,He,h1,Gy,y]
    .rw [Fv (by omega)]
     simp only [cond_true]
     rw [Adi (by omega),Ad,c42,Pe (by simp; omega),Ad,Pf ((By.ti _).app (By.cons (by omega) By.nil)) (by simp; omega),Ad]
     refine (Adj (fun b=>some ((t.Coef.natAbs:Int),b)) ht.1 (by simp; omega)).trans ?_
     simp [tT,Gr,q,He,h1]
  .simp only
   refine Ys t ts (fun j=>(((j+1:Nat):Int),tT true t++(ts.take j).flatMap (tT false))) (by simp [Ac,Bu]) (by omega) ?_ ?_
   .intro j u hu h1 h2 h3
    have f:=s u (Cm hu)
    have:=x j
    have D:=Adf u.Coef f.2
    have A:=Yt u.Coef false
    simp only [h1,h2,h3,cond_true,Ad]
    rw [C2 (by omega),Akx false f.2 (by simp only [List.length_append]; omega),Ad,Aky f.2 (by simp only [List.length_append]; omega),Ad]
    refine (Adj (R:=(Int×List Int)⊕List Int) (fun b=>some (.inl (((j+1+1:Nat):Int),b))) f.1 (by simp only [List.length_append]; omega)).trans ?_
    rw [Yv hu]
    simp [tT]
   .intro h1
    have h2:=x ts.length
    rw [List.take_length] at h2
    refine ⟨tT true t++ts.flatMap (tT false),by simp only [h1,cond_false,List.take_length],?_⟩
    have E:By (tT true t++ts.flatMap (tT false)):=(By.tT _ _).app (By.flat (By.tT _) _)
    have e:Ut ⟨c,t::ts⟩=tT true t++ts.flatMap (tT false)++F0 false [] c:=by
     have:=Ak0 ts c
     rw [List.append_assoc,<-this]; rfl
    rw [e]
    have k:((((t::ts).length:Nat):Int)==(0:Int))=false:=C2 (by simp only [List.length_cons]; omega)
    by_cases i:c=0
    .simp only [F8 i,cond_false,k,Ad]
     rw [Nl E]
     simp [F0,i]
    .have L:=Yu (n:=c.natAbs) (by omega)
     have A:=Yt c false
     simp only [Fv i,cond_true,Ad,k]
     rw [Akx false hc (by simp only [List.length_append]; omega),Ad,Adi (by omega),Ad,Kw (By.ti _) (by simp only [List.length_append]; omega),Ad,
      Nl ((E.app (By.sgn _ _)).app (By.ti _))]
     simp [F0,i]
theorem Ak1 {a:Ct} (h:Aks a):(Ut a).length<=1024:=by
 have key:∀(l:List B6) (f:Bool),(∀t∈l,(-1<=t.Var/\t.Var<3000)/\(-1048576<=t.Coef/\t.Coef<=1048576))->(F0 f l a.Const).length<=47*l.length+24:=by
  intro l
  induction l with
  | nil=>
   intro f _
   have h1:=Yu (n:=a.Const.natAbs) (by have:=h.c; omega)
   have h2:=Yt a.Const f
   simp only [F0]
   split <;> simp <;> omega
  | cons t l ih=>
   intro f b
   have h1:=Adh f (b t (by simp))
   have h2:=ih false fun u hu=>b u (by simp [hu])
   simp only [F0,List.length_append,List.length_cons]; omega
 have:=key a.Terms true h.t
 have:=h.n
 unfold Ut; omega
structure CMo (m:Bc):Prop where
 sz:MSz m
 nf:m.Factors.length<=6
 na:m.Atoms.length<=6
 al:∀a∈m.Atoms,Gx a.Lin=true/\a.Lin.Terms≠[]/\1<=a.Deg/\a.Deg<=6
theorem Yw {R:Type} {a:Bb} (K:ByteArray->Option R) (h:Gx a.Lin=true/\a.Lin.Terms≠[]/\1<=a.Deg/\a.Deg<=6) :
  ((Gm a.Deg).bind fun u=>(Ed (ByteArray.mk #[97]) u).bind fun v=>(Ed v (ByteArray.mk #[58])).bind fun w=>(Ly a.Lin).bind fun x=>(Ed w x).bind fun y=>K y)=K (bs (Fx a)):=by
 have h1:=Kt (n:=a.Deg) (by unfold I64; omega)
 have h2:=Ak1 (Adg h.1)
 rw [Gm,Yr (by unfold I64; omega),Ad,c97,Pe (by simp; omega),Ad,c58,Pe (by simp; omega),Ad,Au1 h.1 h.2.1,Ad,Pe (by simp; omega),Ad]
 simp [Fx]
theorem Uw {a:Bb} (h:Gx a.Lin=true/\a.Lin.Terms≠[]/\1<=a.Deg/\a.Deg<=6):(Fx a).length<=1100:=by
 have h1:=Kt (n:=a.Deg) (by unfold I64; omega)
 have h2:=Ak1 (Adg h.1)
 simp [Fx]; omega
theorem Yx {f:Bq} (h:Db f.Index<=1048576) (b:iR f.Index/\I64 f.Var):(Em f).length<=33554432:=by
 have h1:=Kt b.2
 have h2:=Ac0 f.Index b.1
 simp [Em,G8]; omega
theorem Au2 {m:Bc} (h:CMo m):Sy m=some (Im m):=by
 obtain ⟨fs,c⟩:=m
 have k:∀f∈fs,Db f.Index<=1048576/\iR f.Index/\I64 f.Var:=fun f hf=>⟨h.sz.fi f hf,h.sz.fr f hf⟩
 have s:∀a∈c,Gx a.Lin=true/\a.Lin.Terms≠[]/\1<=a.Deg/\a.Deg<=6:=h.al
 have nf:fs.length<=6:=h.nf
 have na:c.length<=6:=h.na
 have z:=fun (l:List Bq) (u:∀f∈l,f∈fs) (j:Nat)=>Adk (g:=Em) (n:=33554432) l j (fun f hf=>Yx (k f (u f hf)).1 (k f (u f hf)).2)
 have A:=fun (l:List Bb) (u:∀a∈l,a∈c) (j:Nat)=>Adk (g:=Fx) (n:=1100) l j (fun a ha=>Uw (s a (u a ha)))
 have M:∀l:List Bq,By (l.flatMap Em):=fun l=>By.flat By.fac l
 have E:∀l:List Bb,By (l.flatMap Fx):=fun l=>By.flat By.at l
 have key:∀f:Bq,f∈fs->I1 f.Var f.Index=some (bs (Em f)):=fun f hf=>Ac3 f.Var f.Index (k f hf).2.2 (k f hf).2.1 (k f hf).1
 unfold Sy Im Uu
 cases fs with
 | nil=>
  rw [Av (by simp),cond_false]
  cases c with
  | nil=>
   rw [Av (by simp),cond_false]
   rw [Auw By.nil]; rfl
  | cons a c=>
   have ha:=s a (by simp)
   have x:=Uw ha
   rw [Ao (by simp only [List.length_cons]; omega),cond_true,show Af (a::c) 0=some a from rfl,Ad]
   refine (Yw _ ha).trans ?_
   rw [Pf (By.at a) (by simp; omega),Ad]
   refine Ys a c (fun j=>(((j+1:Nat):Int),[]++Fx a++(c.take j).flatMap Fx)) (by simp [Ac,Bu]) (by simp at na; omega) ?_ ?_
   .intro j b hb h1 h2 h3
    have i:=s b (by simp [Cm hb])
    have:=Uw i
    have:=A c (fun b hb=>by simp [hb]) j
    simp at na
    simp only [h1,h2,h3,cond_true,Ad]
    refine (Yw _ i).trans ?_
    rw [Kw (By.at b) (by simp only [List.length_append,List.length_nil]; omega),Ad,Yv hb]
    simp
   .intro h1
    refine ⟨[]++Fx a++c.flatMap Fx,by simp only [h1,cond_false,List.take_length],?_⟩
    dsimp only
    rw [Nl ((By.nil.app (By.at a)).app (E c))]
    simp
 | cons f fs=>
  have hf:=k f (by simp)
  have J:=Yx hf.1 hf.2
  rw [Ao (by simp only [List.length_cons]; omega),cond_true,show Af (f::fs) 0=some f from rfl,Ad,key f (by simp),Ad,Pf (By.fac f) (by simp; omega),Ad]
  refine Ys f fs (fun j=>(((j+1:Nat):Int),[]++Em f++(fs.take j).flatMap Em)) (by simp [Ac,Bu]) (by simp at nf; omega) ?_ ?_
  .intro j g D h1 h2 h3
   have q:g∈f::fs:=by simp [Cm D]
   have:=Yx (k g q).1 (k g q).2
   have:=z fs (fun b hb=>by simp [hb]) j
   simp at nf
   simp only [h1,h2,h3,cond_true,Ad]
   rw [key g q,Ad,Kw (By.fac g) (by simp only [List.length_append,List.length_nil]; omega),Ad,Yv D]
   simp
  .intro h1
   have G:=z fs (fun b hb=>by simp [hb]) fs.length
   rw [List.take_length] at G
   simp at nf
   refine ⟨[]++Em f++fs.flatMap Em,by simp only [h1,cond_false,List.take_length],?_⟩
   have y:By ([]++Em f++fs.flatMap Em):=(By.nil.app (By.fac f)).app (M fs)
   have I:([]++Em f++fs.flatMap Em).length<=234881024:=by simp only [List.length_append,List.length_nil]; omega
   have L:(f::fs).flatMap Em = []++Em f++fs.flatMap Em:=by simp
   rw [L]
   generalize []++Em f++fs.flatMap Em=B at y I
   cases c with
   | nil=>
    rw [Av (by simp),cond_false,Nl y]; simp
   | cons a c=>
    have ha:=s a (by simp)
    have x:=Uw ha
    rw [Ao (by simp only [List.length_cons]; omega),cond_true,show Af (a::c) 0=some a from rfl,Ad]
    refine (Yw _ ha).trans ?_
    rw [Kw (By.at a) (by omega),Ad]
    refine Ys a c (fun j=>(((j+1:Nat):Int),B++Fx a++(c.take j).flatMap Fx)) (by simp [Ac,Bu]) (by simp at na; omega) ?_ ?_
    .intro j b hb h1 h2 h3
     have i:=s b (by simp [Cm hb])
     have:=Uw i
     have:=A c (fun b hb=>by simp [hb]) j
     simp at na
     simp only [h1,h2,h3,cond_true,Ad]
     refine (Yw _ i).trans ?_
     rw [Kw (By.at b) (by simp only [List.length_append]; omega),Ad,Yv hb]
     simp
    .intro h1
     refine ⟨B++Fx a++c.flatMap Fx,by simp only [h1,cond_false,List.take_length],?_⟩
     dsimp only
     rw [Nl ((y.app (By.at a)).app (E c))]
     simp
end Go.Ab
namespace Go.Ab
open Go
def plc (ts:List Ai):List (ByteArray×Int):=ts.zipIdx.map fun q=>(Im q.1.Mono,(q.2:Int))
def Dst (ts:List Ai):Prop:=ts.Pairwise fun t u=>t.Mono≠u.Mono
theorem Au3 (ts:List Ai) (t:Ai):plc (ts++[t])=plc ts++[(Im t.Mono,(ts.length:Int))]:=by
 unfold plc; simp [List.zipIdx_append]
theorem Ux (ts:List Ai) (j:Nat):(plc ts)[j]? = (ts[j]?).map fun t=>(Im t.Mono,(j:Int)):=by
 unfold plc; simp [List.getElem?_map,List.getElem?_zipIdx]
 cases ts[j]? <;> rfl
theorem Au4 {ts:List Ai} {j:Nat} {t u:Ai} (h:ts[j]? = some t) (b:u.Mono=t.Mono):plc (ts.set j u)=plc ts:=by
 apply List.ext_getElem?
 intro i
 rw [Ux,Ux,List.getElem?_set]
 by_cases e:j=i
 .subst e
  rw [if_pos rfl,if_pos (E2 h),h]; simp [b]
 .rw [if_neg e]
theorem Ak2 {α:Type}:∀(o:List (ByteArray×α)) (s:ByteArray) (v:α),D3 o s=false->Ej o s v=o++[(s,v)]
 | [],_,_,_=>rfl
 | p::o,s,v,h=>by
  simp only [D3,List.any_cons,Bool.or_eq_false_iff] at h
  simp only [Ej,h.1,cond_false,List.cons_append,List.cons.injEq,true_and]
  exact Ak2 o s v h.2
theorem Au5 {ts:List Ai} {m:Bc} (h:∀t∈ts,t.Mono≠m):D3 (plc ts) (Im m)=false:=by
 unfold D3
 rw [List.any_eq_false]
 intro p hp
 obtain ⟨j,b⟩:=List.getElem?_of_mem hp
 rw [Ux] at b
 cases ht:ts[j]? with
 | none=>rw [ht] at b; cases b
 | some t=>
  rw [ht] at b
  simp only [Option.map_some,Option.some.injEq] at b
  subst b
  intro e
  have e:=(Nf _ _).1 e
  exact h t (Cm ht) (Akq e).symm
theorem Au6 {ts:List Ai} (hd:Dst ts) {j:Nat} {t:Ai} (h:ts[j]? = some t):D3 (plc ts) (Im t.Mono)=true/\F6 (plc ts) (Im t.Mono) 0=(j:Int):=by
 have hp:(plc ts)[j]? = some (Im t.Mono,(j:Int)):=by rw [Ux,h]; rfl
 refine ⟨List.any_eq_true.2 ⟨_,Cm hp,(Nf _ _).2 rfl⟩,?_⟩
 unfold F6
 have hf:(plc ts).find? (fun p=>Im t.Mono==p.1)=some (Im t.Mono,(j:Int)):=by
  cases hf:(plc ts).find? (fun p=>Im t.Mono==p.1) with
  | none=>
   have:=List.find?_eq_none.1 hf _ (Cm hp)
   exact (this ((Nf _ _).2 rfl)).elim
  | some q=>
   have h1:=List.find?_some hf
   obtain ⟨i,b⟩:=List.getElem?_of_mem (List.mem_of_find?_eq_some hf)
   rw [Ux] at b
   cases hu:ts[i]? with
   | none=>rw [hu] at b; cases b
   | some u=>
    rw [hu] at b
    simp only [Option.map_some,Option.some.injEq] at b
    subst b
    have e:=Akq ((Nf _ _).1 h1)
    have g:i=j:=by
     have f:=E2 hu
     have c:=E2 h
     rw [Ci f] at hu
     rw [Ci c] at h
     rcases Nat.lt_trichotomy i j with k | k | k
     .have:=List.pairwise_iff_getElem.1 hd i j f c k
      rw [Option.some.inj hu,Option.some.inj h] at this
      exact (this e.symm).elim
     .exact k
     .have:=List.pairwise_iff_getElem.1 hd j i c f k
      rw [Option.some.inj hu,Option.some.inj h] at this
      exact (this e).elim
    subst g
    rw [e]
 rw [hf]; rfl
open Classical in
theorem Uy (t:Ai) (p:List Ai) (m:Bc):cf (t::p) m=(if t.Mono=m then rq t.Coef else 0)+cf p m:=by
 simp only [cf]
 by_cases e:t.Mono=m
 .rw [if_pos (Kv.2 e),if_pos e]
 .rw [if_neg (fun h=>e (Kv.1 h)),if_neg e]
open Classical in
theorem Ak3:∀{ts:List Ai} {j:Nat} {t u:Ai},ts[j]? = some t->u.Mono=t.Mono->∀m,cf (ts.set j u) m=cf ts m+(if t.Mono=m then rq u.Coef-rq t.Coef else 0)
 | [],j,t,u,h,_,m=>by simp at h
 | s::ts,0,t,u,h,hm,m=>by
  simp only [List.getElem?_cons_zero,Option.some.injEq] at h
  subst h
  rw [List.set_cons_zero,Uy,Uy,hm]
  split <;> grind
 | s::ts,j+1,t,u,h,hm,m=>by
  simp only [List.getElem?_cons_succ] at h
  rw [List.set_cons_succ,Uy,Uy,Ak3 h hm m]
  grind
theorem Dst.set {ts:List Ai} (h:Dst ts) {j:Nat} {t u:Ai} (ht:ts[j]? = some t) (b:u.Mono=t.Mono):Dst (ts.set j u):=by
 have e:(ts.set j u).map (·.Mono)=ts.map (·.Mono):=by
  apply List.ext_getElem?
  intro i
  rw [List.getElem?_map,List.getElem?_map,List.getElem?_set]
  by_cases e:j=i
  .subst e; rw [if_pos rfl,if_pos (E2 ht),ht]; simp [b]
  .rw [if_neg e]
 have k:∀l:List Ai,Dst l↔(l.map (·.Mono)).Pairwise (·≠·):=fun l=>by rw [List.pairwise_map]; exact Iff.rfl
 rw [k,e,<-k]; exact h
structure Col (k:Nat) (P:Bc->Prop) (ts:List Ai):Prop where
 dst:Dst ts
 tb:∀t∈ts,RB k t.Coef
 mo:∀t∈ts,P t.Mono
theorem Col.nil (k:Nat) (P:Bc->Prop):Col k P []:=⟨List.Pairwise.nil,fun _ h=>(by cases h),fun _ h=>(by cases h)⟩
theorem Au7 {q k:Nat} {P:Bc->Prop} (N:∀m,P m->CMo m) (l ts:List Ai) (E:Col q P ts) (M:∀t∈l,RB k t.Coef/\P t.Mono) (hk:k<=q) (Y:q+l.length*(k+3)<34359738000) (V:ts.length+l.length<=1099511627776) :
  ∃f,P7 l (plc ts) ts=some (plc f,f)/\Col (q+l.length*(k+3)) P f/\f.length<=ts.length+l.length/\∀m,cf f m=cf ts m+cf l m:=by
 unfold P7
 refine Xo (A:=List Ai) (fun f=>(plc f,f)) ?_
 refine D6 (fun s=>∃(j:Nat) (u:List Ai),s=((j:Int),plc u,u)/\j<=l.length/\Col (q+j*(k+3)) P u/\u.length<=ts.length+j/\∀m,cf u m=cf ts m+cf (l.take j) m) (fun s=>l.length-s.1.toNat)
  (fun z=>∃u,z=(plc u,u)/\Col (q+l.length*(k+3)) P u/\u.length<=ts.length+l.length/\∀m,cf u m=cf ts m+cf l m) ⟨0,ts,rfl,by omega,by simpa using E,by omega,fun m=>by simp only [List.take_zero,cf]; grind⟩ ?_ ?_
 .rintro _ ⟨j,u,rfl,X,hu,D,B⟩
  rcases Nat.lt_or_ge j l.length with h | h
  .have hx:l[j]? = some l[j]:=Ci h
   generalize l[j]=x at hx
   obtain ⟨hb,J⟩:=M x (Cm hx)
   have I:j*(k+3)+(k+3)<=l.length*(k+3):=by rw [<-Nat.succ_mul]; exact Nat.mul_le_mul_right _ h
   have G:(j+1)*(k+3)=j*(k+3)+(k+3):=by rw [Nat.succ_mul]
   simp only [Ao (by omega:(j:Int)<(l.length:Int)),cond_true,Ch rfl hx,Ad,Au2 (N _ J),C9 h (by omega)]
   left
   by_cases hex:∃t∈u,t.Mono=x.Mono
   .obtain ⟨t,ht,L⟩:=hex
    obtain ⟨i,y⟩:=List.getElem?_of_mem ht
    obtain ⟨g1,g2⟩:=Au6 hu.dst y
    rw [L] at g1 g2
    obtain ⟨c,U,_,S,Z,R⟩:=Yl (hu.tb t ht) hb (by omega) (by omega)
    refine ⟨((j+1:Nat),plc (u.set i ⟨c,t.Mono⟩),u.set i ⟨c,t.Mono⟩),?_,⟨j+1,u.set i ⟨c,t.Mono⟩,rfl,by omega,⟨hu.dst.set y rfl,?_,?_⟩,by rw [List.length_set]; omega,fun m=>?_⟩,by simp; omega⟩
    .simp only [g1,g2,cond_true,Ad,Ch rfl y,U,E7 rfl,Au4 (u:=⟨c,t.Mono⟩) y rfl]
    .intro w hw
     rcases List.mem_or_eq_of_mem_set hw with hw | rfl
     .exact (hu.tb w hw).mono (by omega)
     .exact S.mono (by omega)
    .intro w hw
     rcases List.mem_or_eq_of_mem_set hw with hw | rfl
     .exact hu.mo w hw
     .exact hu.mo t ht
    .rw [Ak3 (u:=⟨c,t.Mono⟩) y rfl m,B m,Dy hx,Yo,Uy]
     simp only [R,L,cf]
     split <;> grind
   .have g:=Au5 (m:=x.Mono) (ts:=u) fun t ht e=>hex ⟨t,ht,e⟩
    refine ⟨((j+1:Nat),plc (u++[x]),u++[x]),?_,⟨j+1,u++[x],rfl,by omega,⟨?_,?_,?_⟩,by simp; omega,fun m=>?_⟩,by simp; omega⟩
    .simp only [g,cond_false,Ad]
     rw [Dp (by simp; omega),Ad,Ak2 _ _ _ g,Au3]
    .refine List.pairwise_append.2 ⟨hu.dst,List.pairwise_singleton _ _,fun a ha b hb=>?_⟩
     simp only [List.mem_singleton] at hb
     subst hb
     exact fun e=>hex ⟨a,ha,e⟩
    .intro w hw
     rcases List.mem_append.1 hw with hw | hw
     .exact (hu.tb w hw).mono (by omega)
     .simp only [List.mem_singleton] at hw
      subst hw
      exact hb.mono (by omega)
    .intro w hw
     rcases List.mem_append.1 hw with hw | hw
     .exact hu.mo w hw
     .simp only [List.mem_singleton] at hw
      subst hw
      exact J
    .rw [Yo,B m,Dy hx,Yo]; grind
  .have:j=l.length:=by omega
   subst this
   rw [List.take_length] at B
   simp only [Av (by omega:¬(l.length:Int)<(l.length:Int)),cond_false]
   exact .inr ⟨_,rfl,u,rfl,hu,D,B⟩
 .rintro _ ⟨u,rfl,h1,h2,h3⟩
  exact ⟨_,rfl,u,rfl,h1,h2,h3⟩
end Go.Ab
