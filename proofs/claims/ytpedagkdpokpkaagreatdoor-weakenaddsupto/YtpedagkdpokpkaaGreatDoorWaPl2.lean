/- Plain laws: what the plain functions answer. -/
import Derived.Test.YtpedagkdpokpkaaGreatDoorWaPl1
import Derived.KernelRfl
namespace Go.Ab
open Go
mutual
theorem Amt (data:List A9):∀(i:Bs) (t:Aj) (d:Nat),Ix data i t=some d->d<=6*Dm i
 | ⟨n,kids⟩,t,d,h=>by
  rw [Ame] at h
  simp only [Dm]
  simp only at h
  split at h
  .split at h
   .have:=W2 data kids _ d h; omega
   .cases h
  .split at h
   .split at h
    .cases h; omega
    .cases h
   .split at h
    .split at h
     .have:=Amu data kids _ d h; omega
     .cases h
    .split at h
     .cases h; omega
     .cases h
theorem W2 (data:List A9):∀(is:List Bs) (ts:List Aj) (d:Nat),Ga data is ts=some d->d<=6*Fu is
 | [],[],d,h=>by simp only [Ga] at h; cases h; omega
 | i::is,t::ts,d,h=>by
  rw [Afl] at h
  cases h1:Ix data i t with
  | none=>rw [h1] at h; cases h
  | some a=>
   rw [h1,Ad] at h
   cases h2:Ga data is ts with
   | none=>rw [h2] at h; cases h
   | some b=>
    rw [h2] at h
    cases h
    have:=Amt data i t a h1
    have:=W2 data is ts b h2
    simp only [Fu]; omega
 | [],_::_,d,h=>by simp only [Ga] at h; cases h
 | _::_,[],d,h=>by simp only [Ga] at h; cases h
theorem Amu (data:List A9):∀(es:List Bs) (t:Aj) (d:Nat),J9 data es t=some d->d<=6*Fu es
 | [],t,d,h=>by simp only [J9] at h; cases h; omega
 | ⟨n,kids⟩::es,t,d,h=>by
  rw [Amf] at h
  simp only at h
  cases h1:Lu data t n with
  | none=>rw [h1] at h; cases h
  | some ts=>
   rw [h1,Ad] at h
   cases h2:Ga data kids ts with
   | none=>rw [h2] at h; cases h
   | some a=>
    rw [h2,Ad] at h
    cases h3:J9 data es t with
    | none=>rw [h3] at h; cases h
    | some b=>
     rw [h3] at h
     cases h
     have:=W2 data kids ts a h2
     have:=Amu data es t b h3
     simp only [Fu,Dm]; omega
end
def T1 (data:List A9) (e:Bs) (t:Aj):Option Nat:=(Lu data t e.Num).bind fun ts=>(Ga data e.Kids ts).map (1 + ·)
theorem Ax7 (data:List A9) (e:Bs) (es:List Bs) (t:Aj):J9 data (e::es) t=(T1 data e t).bind fun a=>(J9 data es t).map (a + ·):=by
 rw [Amf]; unfold T1
 cases Lu data t e.Num with
 | none=>rfl
 | some ts=>simp only [Ad]; cases Ga data e.Kids ts <;> rfl
theorem Ax8 (data:List A9) (e:Bs) (t:Aj) (d:Nat) (h:T1 data e t=some d):d<=6*Dm e:=by
 unfold T1 at h
 cases h1:Lu data t e.Num with
 | none=>rw [h1] at h; cases h
 | some ts=>
  rw [h1,Ad] at h
  cases h2:Ga data e.Kids ts with
  | none=>rw [h2] at h; cases h
  | some a=>
   rw [h2] at h
   cases h
   have:=W2 data _ ts a h2
   have:=Hg e
   show 1+a<=_
   omega
def Dg (v:Int) (o:Option Nat):Prop:=(v = -1/\∀d,o=some d->6<d)\/∃d:Nat,o=some d/\v=d
theorem Dg.clip {v:Int} {o:Option Nat} (h:Dg v o):(if v>6 then -1 else v)=Jk o:=by
 rcases h with ⟨rfl,h⟩ | ⟨d,rfl,rfl⟩
 .rw [if_neg (by omega),Axy h]
 .by_cases hd:6<d
  .rw [if_pos (by omega),Afm hd]
  .rw [if_neg (by omega),Amh (by omega)]
theorem Aa4 {o p:Option Nat} {acc:Nat} {d:Nat} (h:(o.bind fun a=>p.map (a + ·)).map (acc + ·)=some d):∃a b,o=some a/\p=some b/\d=acc+(a+b):=by
 cases o with
 | none=>cases h
 | some a=>
  cases p with
  | none=>cases h
  | some b=>exact ⟨a,b,rfl,rfl,by simp at h; omega⟩
theorem Ax9 {data:List A9} (hz:Szv data) (hs:Wz data) (b1:List (ByteArray×Int)) (b2:List (ByteArray×List B4)) (vars:List Aj) (N M:Int) (L:List Aj):∀k:Nat,
  (∀(i:Bs) (t:Aj),3*Dm i<=k->Dm i<=1048576->B8 t<=200->∃v,Oo k t i b1 b2 data vars N M L=some v/\Dg v (Ix data i t)) /\
  (∀(f:List Bs) (ts:List Aj),3*Fu f+1<=k->Fu f<=1048576->(∀t∈ts,B8 t<=200)->∃v,Qo k ts f b1 b2 data vars N M L=some v/\Dg v (Ga data f ts)) /\
  (∀(e:Bs) (t:Aj),3*Dm e<=k->Dm e<=1048576->B8 t<=200->∃v,Qp k t e b1 b2 data vars N M L=some v/\Dg v (T1 data e t)):=by
 intro k
 induction k with
 | zero=>exact ⟨fun i t h=>by have:=Hg i; omega,fun f ts h=>by omega,fun i t h=>by have:=Hg i; omega⟩
 | succ k ih=>
  obtain ⟨a6,R,a7⟩:=ih
  have D:∀o:Option Nat,o.map (0 + ·)=o:=by intro o; cases o <;> simp
  have c:∀d:Nat,(none:Option Nat)=some d->6<d:=fun d h=>by cases h
  refine ⟨?_,?_,?_⟩
  .intro i t hk hi ht
   have af:=Hg i
   have U:=Tz i.Kids
   rw [Oo,Ame]
   by_cases Z:t.Kind=6
   .simp only [Es Z,cond_true,if_pos Z]
    by_cases h0:i.Num=0
    .simp only [Es h0,cond_true,if_pos h0]
     obtain ⟨p,p1,p2⟩:=R i.Kids t.Args (by omega) (by omega) (fun a ha=>by have:=Lt ha; have:=Kw t; omega)
     rw [p1]
     exact ⟨p,rfl,p2⟩
    .simp only [Cv h0,cond_false,if_neg h0]
     exact ⟨_,rfl,.inl ⟨rfl,c⟩⟩
   .simp only [Cv Z,cond_false,if_neg Z]
    by_cases Y:t.Kind=7
    .simp only [Es Y,cond_true,if_pos Y]
     by_cases a1:0<=i.Num
     .by_cases a2:i.Num<=6
      .by_cases a3:i.Kids.length=0
       .rw [Al (show i.Num>=0 from a1),Al a2,if_pos ⟨a1,a2,a3⟩,Es (by omega)]
        exact ⟨_,rfl,.inr ⟨i.Num.toNat,rfl,by omega⟩⟩
       .rw [Al (show i.Num>=0 from a1),Al a2,if_neg (fun h=>a3 h.2.2),Cv (by omega)]
        exact ⟨_,rfl,.inl ⟨rfl,c⟩⟩
      .rw [Al (show i.Num>=0 from a1),Aq a2,if_neg (fun h=>a2 h.2.1)]
       exact ⟨_,rfl,.inl ⟨rfl,c⟩⟩
     .rw [Aq (show ¬i.Num>=0 from a1),if_neg (fun h=>a1 h.1)]
      exact ⟨_,rfl,.inl ⟨rfl,c⟩⟩
    .simp only [Cv Y,cond_false,if_neg Y]
     by_cases h5:t.Kind=5
     .simp only [Es h5,cond_true,if_pos h5]
      by_cases h0:i.Num=0
      .simp only [Fc h0,cond_false,if_pos h0]
       have key:∀(m j acc:Nat),j+m=i.Kids.length->acc<=10000000->∃z,Am (S:=(Int×Int)) (E:=(Int⊕Int)) (fun (G,v8)=>
         bif (decide (v8<(i.Kids.length:Int))) then (
         (Ag i.Kids v8).bind fun v9=>
         (Qp k t v9 b1 b2 data vars N M L).bind fun I=>
         bif (decide (I<(0:Int))) then some (.inr (.inl (-1)))
         else (
         bif (decide (G>(6:Int))) then some (.inr (.inl (-1)))
         else some (.inl ((Ac (G+I)),(Ac (v8+1))))))
         else some (.inr (.inr G))) ((acc:Int),(j:Int))=some z/\Dg (match z with | .inl v=>v | .inr v=>v) ((J9 data (i.Kids.drop j) t).map (acc + ·)):=by
        intro m
        induction m with
        | zero=>
         intro j acc hj A
         have:j=i.Kids.length:=by omega
         subst this
         exact ⟨.inr (acc:Int),D0 (by simp),.inr ⟨acc,by simp [J9],rfl⟩⟩
        | succ m s=>
         intro j acc hj A
         have g:i.Kids[j]? = some i.Kids[j]:=B7 (by omega)
         generalize i.Kids[j]=e at g
         have ac:=Ra (Ct g)
         rw [Iy g,Ax7]
         obtain ⟨v,B,v2⟩:=a7 e t (by omega) (by omega) ht
         rcases v2 with ⟨rfl,v2⟩ | ⟨a,a1,rfl⟩
         .refine ⟨.inl (-1),D0 ?_,.inl ⟨rfl,fun d h=>?_⟩⟩
          .simp only [Al (by omega:(j:Int)<(i.Kids.length:Int)),cond_true,Cj rfl g,Ad,B]; rfl
          .obtain ⟨a,b,ha,hb,rfl⟩:=Aa4 h
           have:=v2 a ha; omega
         .have V:=Ax8 data e t a a1
          by_cases hb:acc>6
          .refine ⟨.inl (-1),D0 ?_,.inl ⟨rfl,fun d h=>?_⟩⟩
           .simp only [Al (by omega:(j:Int)<(i.Kids.length:Int)),cond_true,Cj rfl g,Ad,B,Aq (by omega:¬(a:Int)<0),Al (by omega:(acc:Int)>6),cond_false]
           .obtain ⟨a,b,ha,hb,rfl⟩:=Aa4 h
            omega
          .have ew:Ac ((acc:Int)+(a:Int))=((acc+a:Nat):Int):=by rw [Ac,Bx] <;> omega
           obtain ⟨z,q,z2⟩:=s (j+1) (acc+a) (by omega) (by omega)
           refine ⟨z,?_,?_⟩
           .rw [Ha (s':=(((acc+a:Nat):Int),((j+1:Nat):Int)))]
            .exact q
            .simp only [Al (by omega:(j:Int)<(i.Kids.length:Int)),cond_true,Cj rfl g,Ad,B,Aq (by omega:¬(a:Int)<0),Aq (by omega:¬(acc:Int)>6),cond_false,ew,Db (show j<i.Kids.length by omega) (by omega)]
           .have D:∀o:Option Nat,(((some a:Option Nat).bind fun a=>o.map (a + ·)).map (acc + ·))=o.map (acc+a + ·):=by
             intro o; cases o <;> simp [Nat.add_assoc]
            rw [a1,D]
            exact z2
       obtain ⟨z,q,z2⟩:=key i.Kids.length 0 0 (by omega) (by omega)
       have q:Am _ ((0:Int),(0:Int))=some z:=q
       rw [q,Ad]
       rw [List.drop_zero,D] at z2
       cases z with
       | inl v=>exact ⟨v,rfl,z2⟩
       | inr v=>exact ⟨v,rfl,z2⟩
      .simp only [Et h0,cond_true,if_neg h0]
       exact ⟨_,rfl,.inl ⟨rfl,c⟩⟩
     .simp only [Cv h5,cond_false,if_neg h5]
      by_cases h0:i.Num=0
      .simp only [Es h0,cond_true]
       by_cases a3:i.Kids.length=0
       .rw [if_pos ⟨h0,a3⟩,Es (by omega)]
        exact ⟨_,rfl,.inr ⟨0,rfl,rfl⟩⟩
       .rw [if_neg (fun h=>a3 h.2),Cv (by omega)]
        exact ⟨_,rfl,.inl ⟨rfl,c⟩⟩
      .simp only [Cv h0,cond_false]
       rw [if_neg (fun h=>h0 h.1)]
       exact ⟨_,rfl,.inl ⟨rfl,c⟩⟩
  .intro f ts hk hi ht
   have U:=Tz f
   rw [Qo]
   by_cases hl:ts.length=f.length
   .rw [Fc (by omega)]
    simp only [cond_false]
    have key:∀(m j acc:Nat),j+m=f.length->acc<=10000000->∃z,Am (S:=(Int×Int)) (E:=(Int⊕Int)) (fun (v5,X)=>
      bif (decide (X<(ts.length:Int))) then (
      (Ag ts X).bind fun G=>
      (Ag f X).bind fun v9=>
      (Oo k G v9 b1 b2 data vars N M L).bind fun J=>
      bif (decide (J<(0:Int))) then some (.inr (.inl (-1)))
      else (
      bif (decide (v5>(6:Int))) then some (.inr (.inl (-1)))
      else some (.inl ((Ac (v5+J)),(Ac (X+1))))))
      else some (.inr (.inr v5))) ((acc:Int),(j:Int))=some z/\Dg (match z with | .inl v=>v | .inr v=>v) ((Ga data (f.drop j) (ts.drop j)).map (acc + ·)):=by
     intro m
     induction m with
     | zero=>
      intro j acc hj A
      have:j=ts.length:=by omega
      subst this
      refine ⟨.inr (acc:Int),D0 (by simp),.inr ⟨acc,?_,rfl⟩⟩
      rw [List.drop_of_length_le (by omega),List.drop_of_length_le (by omega)]
      simp [Ga]
     | succ m s=>
      intro j acc hj A
      have g:f[j]? = some f[j]:=B7 (by omega)
      generalize f[j]=e at g
      have hu:ts[j]? = some ts[j]:=B7 (by omega)
      generalize ts[j]=u at hu
      have ac:=Ra (Ct g)
      rw [Iy g,Iy hu,Afl]
      obtain ⟨v,B,v2⟩:=a6 e u (by omega) (by omega) (ht u (Ct hu))
      rcases v2 with ⟨rfl,v2⟩ | ⟨a,a1,rfl⟩
      .refine ⟨.inl (-1),D0 ?_,.inl ⟨rfl,fun d h=>?_⟩⟩
       .simp only [Al (by omega:(j:Int)<(ts.length:Int)),cond_true,Cj rfl g,Cj rfl hu,Ad,B]; rfl
       .obtain ⟨a,b,ha,hb,rfl⟩:=Aa4 h
        have:=v2 a ha; omega
      .have V:=Amt data e u a a1
       by_cases hb:acc>6
       .refine ⟨.inl (-1),D0 ?_,.inl ⟨rfl,fun d h=>?_⟩⟩
        .simp only [Al (by omega:(j:Int)<(ts.length:Int)),cond_true,Cj rfl g,Cj rfl hu,Ad,B,Aq (by omega:¬(a:Int)<0),Al (by omega:(acc:Int)>6),cond_false]
        .obtain ⟨a,b,ha,hb,rfl⟩:=Aa4 h
         omega
       .have ew:Ac ((acc:Int)+(a:Int))=((acc+a:Nat):Int):=by rw [Ac,Bx] <;> omega
        obtain ⟨z,q,z2⟩:=s (j+1) (acc+a) (by omega) (by omega)
        refine ⟨z,?_,?_⟩
        .rw [Ha (s':=(((acc+a:Nat):Int),((j+1:Nat):Int)))]
         .exact q
         .simp only [Al (by omega:(j:Int)<(ts.length:Int)),cond_true,Cj rfl g,Cj rfl hu,Ad,B,Aq (by omega:¬(a:Int)<0),Aq (by omega:¬(acc:Int)>6),cond_false,ew,Db (show j<f.length by omega) (by omega)]
        .have D:∀o:Option Nat,(((some a:Option Nat).bind fun a=>o.map (a + ·)).map (acc + ·))=o.map (acc+a + ·):=by
          intro o; cases o <;> simp [Nat.add_assoc]
         rw [a1,D]
         exact z2
    obtain ⟨z,q,z2⟩:=key f.length 0 0 (by omega) (by omega)
    have q:Am _ ((0:Int),(0:Int))=some z:=q
    rw [q,Ad]
    rw [List.drop_zero,List.drop_zero,D] at z2
    cases z with
    | inl v=>exact ⟨v,rfl,z2⟩
    | inr v=>exact ⟨v,rfl,z2⟩
   .rw [Et (by omega),Amg data f ts hl]
    exact ⟨_,rfl,.inl ⟨rfl,c⟩⟩
  .intro e t hk g ht
   have ag:=Hg e
   rw [Qp]
   unfold T1 Lu
   rw [Axs hz t ht e.Num,Ad]
   cases hf:O5 data t e.Num with
   | none=>exact ⟨-1,rfl,.inl ⟨rfl,c⟩⟩
   | some l=>
    have ad:=Axt hf
    obtain ⟨x,y,_,hx,_,hy,hl,ab⟩:=Afk hf
    obtain ⟨y6,_⟩:=hz x (J8 hx).2.2.2 y (J8 hy).2.2.2
    have ae:l.length<=6:=by rw [hl]; simpa using y6
    have aa:∀a∈Jj l (Iw data t.Num e.Num),B8 a<=200:=(Axw (show Lu data t e.Num=some _ by unfold Lu; rw [hf]; rfl)).1
    obtain ⟨v,B,v2⟩:=R e.Kids (Jj l (Iw data t.Num e.Num)) (by omega) (by omega) aa
    have hd:Dg (if v<0 then -1 else 1+v) (((some l).map fun l=>Jj l (Iw data t.Num e.Num)).bind fun ts=>(Ga data e.Kids ts).map (1 + ·)):=by
     rw [Option.map_some,Ad]
     rcases v2 with ⟨rfl,v2⟩ | ⟨a,a1,rfl⟩
     .refine .inl ⟨rfl,fun d h=>?_⟩
      cases ha:Ga data e.Kids (Jj l (Iw data t.Num e.Num)) with
      | none=>rw [ha] at h; cases h
      | some a=>rw [ha] at h; have:=v2 a ha; simp at h; omega
     .rw [a1,if_neg (by omega)]
      exact .inr ⟨1+a,rfl,by omega⟩
    have a8:v = -1\/(0<=v/\v<=10000000):=by
     rcases v2 with ⟨rfl,v2⟩ | ⟨a,a1,rfl⟩
     .exact .inl rfl
     .have:=W2 data _ _ a a1; right; omega
    refine ⟨_,?_,hd⟩
    simp only [okL,D6,cond_false,Alu data t.Num e.Num hs,Ad]
    refine Iu (Iw data t.Num e.Num) (fun j=>((j:Int),Jj (l.take j) ((Iw data t.Num e.Num).take j))) (by simp [Jj]) (by omega) ?_ ?_
    .intro j b hj hb h1 h2 h3
     have ha:l[j]? = some l[j]:=B7 (by omega)
     generalize l[j]=a at ha
     have U:=Axv (l.take j) ((Iw data t.Num e.Num).take j)
     have:(l.take j).length<=6:=by simp; omega
     simp only [h1,h2,h3,cond_true,Ad,Cj rfl ha,Axu ha hb]
     rw [Dj (by simp; omega)]
     cases b <;> simp
    .intro h1
     refine ⟨Jj l (Iw data t.Num e.Num),?_,?_⟩
     .simp only [h1]
      rw [List.take_of_length_le (by omega),List.take_of_length_le (Nat.le_refl _)]; rfl
     .rw [B,Ad]
      rcases a8 with h | h
      .subst h; rfl
      .rw [Aq (by omega),if_neg (by omega)]
       simp only [cond_false]
       rw [Ac,Bx] <;> omega
def tyX (vars:List Aj) (res:Aj) (v:Int):Option Aj:=if v = -1 then some res else Ag vars v
def Dq (data:List A9) (vars:List Aj) (res:Aj) (o:List (ByteArray×Int)):Prop:=∀p∈o,∀v i t,p.1=G0 v i->tyX vars res v=some t->p.2=Jk (Ix data i t)
theorem Afu {α:Type}:∀(o:List (ByteArray×α)) (s:ByteArray) (v:α),∀p∈Fa o s v,p∈o\/p=(s,v)
 | [],s,v,p,h=>by simp only [Fa,List.mem_singleton] at h; exact .inr h
 | q::o,s,v,p,h=>by
  unfold Fa at h
  cases hq:(s==q.1) with
  | true=>
   rw [hq] at h
   simp only [cond_true,List.mem_cons] at h
   rcases h with h | h
   .exact .inr h
   .exact .inl (by simp [h])
  | false=>
   rw [hq] at h
   simp only [cond_false,List.mem_cons] at h
   rcases h with h | h
   .exact .inl (by simp [h])
   .rcases Afu o s v p h with h | h
    .exact .inl (by simp [h])
    .exact .inr h
theorem Aya {data:List A9} (G:Szv data) (J:Wz data) (b1:List (ByteArray×Int)) (b2:List (ByteArray×List B4)) (vars:List Aj) (res:Aj) (hm:Dq data vars res b1)
  (v:Int) (i:Bs) (t:Aj) (ht:tyX vars res v=some t) (b:B8 t<=200) (I:I64 v) (L:iR i) (l:Dm i<=1048576) :
  ∃u,Lk v i b1 b2 data vars res.Kind res.Num res.Args=some (Jk (Ix data i t),u)/\Dq data vars res u:=by
 unfold Lk
 rw [Aft v i I L l,Ad]
 cases f:El b1 (G0 v i) with
 | true=>
  refine ⟨b1,?_,hm⟩
  have:Gx b1 (G0 v i) 0=Jk (Ix data i t):=by
   unfold Gx
   unfold El at f
   rw [List.any_eq_true] at f
   obtain ⟨p,D,B⟩:=f
   cases g:b1.find? (fun p=>G0 v i==p.1) with
   | none=>exact absurd B (by have:=List.find?_eq_none.1 g p D; simpa using this)
   | some q=>
    have hq:=List.find?_some g
    exact hm q (List.mem_of_find?_eq_some g) v i t ((O4 _ _).1 hq).symm ht
  simp only [cond_true,Ad,D6,cond_false,this]
 | false=>
  obtain ⟨w,y,x⟩:=(Ax9 G J b1 b2 vars res.Kind res.Num res.Args 4000000).1 i t (by omega) l b
  have c:Lm v b1 b2 data vars res.Kind res.Num res.Args=some t:=by
   unfold Lm
   unfold tyX at ht
   by_cases h:v = -1
   .rw [if_pos h] at ht; cases ht
    have M:(Aj.mk res.Kind res.Num res.Args)=res:=by cases res; rfl
    rw [Es h,M]; rfl
   .rw [if_neg h] at ht
    rw [Cv h,ht]; rfl
  have j:(bif decide (w>6) then some (-1) else some w:Option Int)=some (Jk (Ix data i t)):=by
   rw [<-x.clip]
   by_cases h:w>6
   .rw [Al h,if_pos h]; rfl
   .rw [Aq h,if_neg h]; rfl
  refine ⟨Fa b1 (G0 v i) (Jk (Ix data i t)),?_,?_⟩
  .simp only [cond_false,Ad,Bool.not_false,cond_true,c,y,j]
  .intro p hp z E A s k
   rcases Afu _ _ _ p hp with h | h
   .exact hm p h z E A s k
   .subst h
    obtain ⟨rfl,rfl⟩:=Ams s
    rw [ht] at k; cases k; rfl
end Go.Ab
namespace Go.Ab
open Go
def Ei (a b:Int):Int:=if a<b then -1 else if a>b then 1 else 0
def orI (a b:Int):Int:=if a=0 then b else a
theorem H7 {a b:Int}:Ei a b=0↔a=b:=by unfold Ei; split <;> (try split) <;> omega
theorem Mu (a b:Int):J2 a b=some (Ei a b):=by
 unfold J2 Qf Ei
 simp only [Ad,bne_self_eq_false,cond_false]
 by_cases h:a<b
 .rw [Al h,if_pos h]; rfl
 .rw [Aq h,if_neg h]
  by_cases h':a>b
  .rw [Al h',if_pos h']; rfl
  .rw [Aq h',if_neg h']; rfl
theorem Amv (a b:Int):V8 a b=some (Ei a b):=Mu a b
theorem T2 (a b:Int):Mi [a,b]=some (orI a b):=by
 unfold Mi orI
 by_cases ha:a=0
 .rw [if_pos ha]
  by_cases hb:b=0
  .refine G3 2 (fun j=>(j:Int)) rfl ?_ ⟨.inr (),rfl,by rw [hb]⟩
   intro j hj
   match j,hj with
   | 0,_=>subst ha; rfl
   | 1,_=>subst hb; rfl
  .refine G3 1 (fun j=>(j:Int)) rfl ?_ ⟨.inl b,?_,rfl⟩
   .intro j hj
    match j,hj with
    | 0,_=>subst ha; rfl
   .show (bif (b != 0) then _ else _)=_
    rw [Et hb]; rfl
 .rw [if_neg ha]
  refine G3 0 (fun j=>(j:Int)) rfl (fun j hj=>by omega) ⟨.inl a,?_,rfl⟩
  show (bif (a != 0) then _ else _)=_
  rw [Et ha]; rfl
def E7 {α:Type} (g:α->α->Int):List α->List α->Int
 | x::xs,y::ys=>orI (g x y) (E7 g xs ys)
 | _,_=>0
theorem Ayb {α:Type} (g:α->α->Int) (l m:List α) {step:Int->Option (Int⊕(Int⊕Unit))} (k:l.length=m.length) (hb:l.length<4611686018427387904)
  (f:∀(j:Nat) (x y:α),l[j]? = some x->m[j]? = some y->decide ((j:Int)<(l.length:Int))=true->Ag l (j:Int)=some x->Ag m (j:Int)=some y->decide ((j:Int)>=(m.length:Int))=false->Ac ((j:Int)+1)=((j+1:Nat):Int) ->
   step (j:Int)=if g x y=0 then some (.inl ((j+1:Nat):Int)) else some (.inr (.inl (g x y))))
  (i:decide ((l.length:Int)<(l.length:Int))=false->step (l.length:Int)=some (.inr (.inr ()))) :
  ∃z,Am step 0=some z/\(match z with | .inl r=>r=E7 g l m/\r≠0 | .inr _=>E7 g l m=0):=by
 have key:∀(n j:Nat),j+n=l.length->∃z,Am step (j:Int)=some z/\(match z with | .inl r=>r=E7 g (l.drop j) (m.drop j)/\r≠0 | .inr _=>E7 g (l.drop j) (m.drop j)=0):=by
  intro n
  induction n with
  | zero=>
   intro j hj
   have:j=l.length:=by omega
   subst this
   refine ⟨.inr (),D0 (i (by simp)),?_⟩
   rw [List.drop_of_length_le (by omega)]; simp [E7]
  | succ n ih=>
   intro j hj
   have hx:l[j]? = some l[j]:=B7 (by omega)
   have hy:m[j]? = some m[j]:=B7 (by omega)
   generalize l[j]=x at hx
   generalize m[j]=y at hy
   have h:=f j x y hx hy (Al (by omega)) (Cj rfl hx) (Cj rfl hy) (Aq (by omega)) (Db (show j<l.length by omega) hb)
   rw [Iy hx,Iy hy]
   by_cases b:g x y=0
   .rw [if_pos b] at h
    obtain ⟨z,c,z2⟩:=ih (j+1) (by omega)
    refine ⟨z,by rw [Ha h]; exact c,?_⟩
    have e:E7 g (x::l.drop (j+1)) (y::m.drop (j+1))=E7 g (l.drop (j+1)) (m.drop (j+1)):=by simp only [E7,orI,b,if_true]
    cases z with
    | inl r=>simp only [e]; exact z2
    | inr u=>simp only [e]; exact z2
   .rw [if_neg b] at h
    refine ⟨.inl (g x y),D0 h,?_,b⟩
    simp only [E7,orI,b,if_false]
 exact key l.length 0 (by omega)
theorem Aa5 {α:Type} (f:α->α->Option Int) (g:α->α->Int) (l m:List α) (A:l.length=m.length) (hb:l.length<4611686018427387904) (B:∀(j:Nat) (x y:α),l[j]? = some x->m[j]? = some y->f x y=some (g x y)) :
  ((Am (S:=Int) (E:=(Int⊕Unit)) (fun b=>
   bif (decide (b<(l.length:Int))) then (
   (Ag l b).bind fun s=>
   bif (decide (b>=(m.length:Int))) then some (.inr (.inl 1))
   else (
   (Ag m b).bind fun v9=>
   (f s v9).bind fun c=>
   bif (c != (0:Int)) then some (.inr (.inl c))
   else some (.inl (Ac (b+1)))))
   else some (.inr (.inr ()))) 0).bind fun z=>
   match z with
   | .inl k=>some k
   | .inr _=>bif (decide ((l.length:Int)<(m.length:Int))) then some (-1) else some 0)=some (E7 g l m):=by
 refine Ak8 (Ayb g l m A hb ?_ (fun h=>by simp only [h]; rfl)) ?_
 .intro j x y hx hy h1 h2 h3 G D
  simp only [h1,h2,h3,G,D,cond_true,cond_false,Ad,B j x y hx hy]
  by_cases i:g x y=0
  .rw [Fc i,if_pos i]; rfl
  .rw [Et i,if_neg i]; rfl
 .rintro (r | u) q
  .rw [q.1]
  .simp only
   rw [Aq (by omega),show E7 g l m=0 from q]; rfl
def W3 (x y:Bf):Int:=orI (Ei x.Var y.Var) (Ei x.Coef y.Coef)
def Ev (a b:Ar):Int:=if a.Terms.length=b.Terms.length then orI (E7 W3 a.Terms b.Terms) (Ei a.Const b.Const) else Ei a.Terms.length b.Terms.length
theorem Aa6 (a b:Ar) (ha:a.Terms.length<1099511627776):Ko a b=some (Ev a b):=by
 unfold Ko Ev
 rw [Mu,Ad]
 by_cases h:a.Terms.length=b.Terms.length
 .rw [Fc (H7.2 (by omega)),if_pos h]
  simp only [cond_false]
  have:=Aa5 V7 W3 a.Terms b.Terms h (by omega) (fun j x y _ _=>by
   unfold V7 W3
   rw [Mu,Amv]; simp only [Ad,T2])
  rw [show Zp a.Terms b.Terms=_ from this,Ad,Amv]
  simp only [Ad,T2]
 .rw [Et (fun e=>h (by have:=H7.1 e; omega)),if_neg h]; rfl
mutual
def Lw:Bs->Bs->Int
 | ⟨n,k⟩,j=>if n=j.Num then (if k.length=j.Kids.length then Re k j.Kids else Ei k.length j.Kids.length) else Ei n j.Num
def Re:List Bs->List Bs->Int
 | x::xs,y::ys=>orI (Lw x y) (Re xs ys)
 | [],_=>0
 | _::_,[]=>0
end
theorem Amw (i j:Bs):Lw i j=if i.Num=j.Num then (if i.Kids.length=j.Kids.length then Re i.Kids j.Kids else Ei i.Kids.length j.Kids.length) else Ei i.Num j.Num:=by cases i; simp only [Lw]
theorem Afv:∀l m:List Bs,Re l m=E7 Lw l m
 | x::xs,y::ys=>by simp only [Re,E7,Afv xs ys]
 | [],_=>by simp [Re,E7]
 | _::_,[]=>by simp [Re,E7]
theorem Ayc:∀(n k:Nat) (i j:Bs),Dm i<=n->2*n<=k->n<1099511627776->Of k i j=some (Lw i j):=by
 intro n
 induction n with
 | zero=>intro k i j h; have:=Hg i; omega
 | succ n ih=>
  intro k i j h hk c
  obtain ⟨k,rfl⟩:∃b,k=b+2:=⟨k-2,by omega⟩
  have g:=Hg i
  have f:=Tz i.Kids
  rw [Of,Amw,Mu,Mu]
  simp only [Ad,T2]
  by_cases h1:i.Num=j.Num
  .rw [if_pos h1]
   by_cases h2:i.Kids.length=j.Kids.length
   .rw [if_pos h2,Fc (by unfold orI; rw [H7.2 h1,H7.2 (by omega)]; rfl),Afv]
    simp only [cond_false]
    have:=Aa5 (Of k) Lw i.Kids j.Kids h2 (by omega) (fun q x y hx hy=>ih k x y (by have:=Ra (Ct hx); omega) (by omega) (by omega))
    rw [V6]
    refine Eq.trans (congrArg (fun q=>Option.bind q _) this) rfl
   .have e:orI (Ei i.Num j.Num) (Ei (i.Kids.length:Int) (j.Kids.length:Int))=Ei i.Kids.length j.Kids.length:=by unfold orI; rw [H7.2 h1]; rfl
    rw [if_neg h2,e,Et (fun e=>h2 (by have:=H7.1 e; omega))]; rfl
  .have e:orI (Ei i.Num j.Num) (Ei (i.Kids.length:Int) (j.Kids.length:Int))=Ei i.Num j.Num:=by unfold orI; rw [if_neg (fun e=>h1 (H7.1 e))]
   rw [if_neg h1,e,Et (fun e=>h1 (H7.1 e))]; rfl
def T3 (x y:Bz):Int:=orI (Ei x.Var y.Var) (Lw x.Index y.Index)
def W4 (x y:A6):Int:=orI (Ev x.Lin y.Lin) (Ei x.Deg y.Deg)
def Da (a b:Ba):Int :=
 if a.Factors.length=b.Factors.length then
  orI (E7 T3 a.Factors b.Factors) (if a.Atoms.length=b.Atoms.length then E7 W4 a.Atoms b.Atoms else Ei a.Atoms.length b.Atoms.length)
 else Ei a.Factors.length b.Factors.length
structure MSz (m:Ba):Prop where
 nf:m.Factors.length<=1048576
 na:m.Atoms.length<=1048576
 fi:∀f∈m.Factors,Dm f.Index<=1048576
 fr:∀f∈m.Factors,iR f.Index/\I64 f.Var
 al:∀a∈m.Atoms,a.Lin.Terms.length<=1048576
theorem Amx (a b:Ba) (ha:MSz a):Oe a b=some (Da a b):=by
 have h1:=ha.nf
 have h2:=ha.na
 unfold Oe Da
 rw [Mu,Ad]
 by_cases h:a.Factors.length=b.Factors.length
 .rw [Fc (H7.2 (by omega)),if_pos h]
  simp only [cond_false]
  have:=Aa5 Vt T3 a.Factors b.Factors h (by omega) (fun j x y hx hy=>by
   unfold Vt T3
   rw [Mu,Ayc 1048576 4000000 x.Index y.Index (ha.fi x (Ct hx)) (by omega) (by omega)]; simp only [Ad,T2])
  rw [show Zj a.Factors b.Factors=_ from this,Ad,Mu]
  simp only [Ad,T2]
  by_cases h0:E7 T3 a.Factors b.Factors=0
  .simp only [h0,orI,if_true]
   by_cases h':a.Atoms.length=b.Atoms.length
   .rw [Fc (H7.2 (by omega)),if_pos h']
    simp only [cond_false]
    have:=Aa5 Vu W4 a.Atoms b.Atoms h' (by omega) (fun j x y hx hy=>by
     unfold Vu W4
     rw [Mu,Aa6 x.Lin y.Lin (by have:=ha.al x (Ct hx); omega)]; simp only [Ad,T2])
    rw [show Zk a.Atoms b.Atoms=_ from this]; rfl
   .rw [Et (fun e=>h' (by have:=H7.1 e; omega)),if_neg h']; rfl
  .simp only [orI,if_neg h0]
   rw [Et h0]; rfl
 .rw [Et (fun e=>h (by have:=H7.1 e; omega)),if_neg h]; rfl
def Lx {α:Type} (f:α->Int) (l:List α) (x:α) (j:Nat):Bool:=j==0||(match l[j-1]? with | some y=>decide (f y<f x) | none=>false)
def Rf (l:List Bf) (x:Bf) (j:Nat):Bool:=decide (-1<=x.Var/\x.Var<3000/\x.Coef≠0/\-1048576<=x.Coef/\x.Coef<=1048576)&&Lx (·.Var) l x j
def Cd (a:Ar):Bool:=decide (-1048576<=a.Const/\a.Const<=1048576/\a.Terms.length<=16)&&a.Terms.zipIdx.all (fun q=>Rf a.Terms q.1 q.2)
theorem Amy (n:Int):Sw n=some (decide (-1048576<=n/\n<=1048576)):=by
 unfold Sw
 by_cases h:(-1048576:Int)<=n <;> simp [h]
theorem Ayd (n:Int):Vg n=some (decide (-1<=n/\n<3000)):=by
 unfold Vg
 by_cases h:(-1:Int)<=n <;> simp [h]
theorem Afw {α S E:Type} (f:α->Int) (l:List α) {x:α} {j:Nat} (hx:l[j]? = some x) (i:l.length<4611686018427387904) (c b:Option (S⊕E)) :
  (bif decide ((j:Int)>0) then ((Ag l (Ac ((j:Int)-1))).bind fun g=>bif decide (f g>=f x) then c else b) else b)=bif Lx f l x j then b else c:=by
 have hj:=Fd hx
 unfold Lx
 by_cases h:j=0
 .subst h; rfl
 .rw [Al (by omega)]
  have e:Ac ((j:Int)-1)=((j-1:Nat):Int):=by rw [Ac,Bx] <;> omega
  have hy:l[j-1]? = some l[j-1]:=B7 (by omega)
  rw [e,Cj rfl hy,hy]
  have h0:(j==0)=false:=by simpa using h
  simp only [cond_true,Ad,h0,Bool.false_or]
  by_cases hc:f l[j-1]<f x
  .rw [Aq (by omega),Al hc]; rfl
  .rw [Al (by omega),Aq hc]; rfl
theorem Ky (a:Ar):Hm a=some (Cd a):=by
 unfold Hm Cd
 rw [Amy]
 simp only [Ad]
 by_cases h1 : -1048576<=a.Const/\a.Const<=1048576
 .rw [Al h1]
  by_cases h2:a.Terms.length<=16
  .rw [Aq (by omega:¬(a.Terms.length:Int)>16),Al ⟨h1.1,h1.2,h2⟩]
   simp only [D6,cond_false,Ad,Bool.true_and]
   refine (Tt a.Terms (fun q=>Rf a.Terms q.1 q.2) (fun j=>(j:Int)) rfl (by omega) (rt:=true) (rf:=false) ?_ ?_).trans (by rw [Kv])
   .intro j x hx _ h1 h2 h3
    simp only [h1,h2,h3,cond_true,Ad,Ayd,Amy,Afw (·.Var) a.Terms hx (by omega),Rf]
    by_cases g1 : -1<=x.Var/\x.Var<3000
    .by_cases g2:x.Coef=0
     .rw [Al g1,Es g2,Aq (fun h=>h.2.2.1 g2)]
      exact ⟨(fun h=>by cases h),fun _=>⟨.inl false,rfl,rfl⟩⟩
     .by_cases g3 : -1048576<=x.Coef/\x.Coef<=1048576
      .rw [Al g1,Cv g2,Al g3,Al ⟨g1.1,g1.2,g2,g3.1,g3.2⟩]
       cases Lx (·.Var) a.Terms x j with
       | true=>exact ⟨fun _=>rfl,fun h=>by cases h⟩
       | false=>exact ⟨(fun h=>by cases h),fun _=>⟨.inl false,rfl,rfl⟩⟩
      .rw [Al g1,Cv g2,Aq g3,Aq (fun h=>g3 h.2.2.2)]
       exact ⟨(fun h=>by cases h),fun _=>⟨.inl false,rfl,rfl⟩⟩
    .rw [Aq g1,Aq (fun h=>g1 ⟨h.1,h.2.1⟩)]
     exact ⟨(fun h=>by cases h),fun _=>⟨.inl false,rfl,rfl⟩⟩
   .intro h _
    exact ⟨.inr (),by simp only [h]; rfl,rfl⟩
  .rw [Al (by omega:(a.Terms.length:Int)>16),Aq (fun h=>h2 h.2.2)]; rfl
 .rw [Aq h1,Aq (fun h : -1048576<=a.Const/\a.Const<=1048576/\a.Terms.length<=16=>h1 ⟨h.1,h.2.1⟩)]; rfl
end Go.Ab
namespace Go.Ab
open Go
structure Mv (data:List A9) (vars:List Aj) (res:Aj):Prop where
 vd:Mt data
 sh:Wz data
 sz:∀v t,tyX vars res v=some t->B8 t<=200
 nv:vars.length<=3000
theorem Amz (vars:List Aj) (res:Aj) (v:Int):(tyX vars res v).isSome=decide (-1<=v/\v<vars.length):=by
 unfold tyX
 by_cases h:v = -1
 .rw [if_pos h]; subst h; rw [Al (by omega)]; rfl
 .rw [if_neg h]
  cases hx:Ag vars v with
  | none=>rcases Wy hx with h' | h' <;> rw [Aq (by omega)] <;> rfl
  | some t=>have:=J8 hx; rw [Al (by omega)]; rfl
section
variable (b1:List (ByteArray×Int)) (b2:List (ByteArray×List B4)) (data:List A9) (vars:List Aj) (res:Aj)
theorem Am0 (v:Int) (f c:Int) (b:List Aj):Qh v b1 b2 data vars f c b=some (tyX vars res v).isSome:=by
 rw [Amz]
 unfold Qh
 by_cases h:v>=-1
 .rw [Al h]
  by_cases h':v<(vars.length:Int)
  .rw [Al h',Al ⟨h,h'⟩]; rfl
  .rw [Aq h',Aq (fun g=>h' g.2)]; rfl
 .rw [Aq h,Aq (fun g : -1<=v/\v<(vars.length:Int)=>h g.1)]; rfl
theorem Am1 {v:Int} {t:Aj} (ht:tyX vars res v=some t):Lm v b1 b2 data vars res.Kind res.Num res.Args=some t:=by
 unfold Lm
 unfold tyX at ht
 by_cases h:v = -1
 .rw [if_pos h] at ht; cases ht
  have b:(Aj.mk res.Kind res.Num res.Args)=res:=by cases res; rfl
  rw [Es h,b]; rfl
 .rw [if_neg h] at ht
  rw [Cv h,ht]; rfl
def Kb (t:Bf):Bool:=match tyX vars res t.Var with | some u=>u.Kind==1 | none=>false
def D3 (l:Ar):Bool:=l.Terms.all (Kb vars res)
theorem Am2 (l:Ar) (c:l.Terms.length<=1048576):P8 l b1 b2 data vars res.Kind res.Num res.Args=some (D3 vars res l):=by
 unfold P8 Zq Zv
 have key:=Aer l.Terms (fun t=>!Kb vars res t) (by omega) (J:=fun z=>match z with | .inl b=>some b | .inr _=>some (-1)) (step:=fun v3=>bif (decide (v3<(l.Terms.length:Int))) then ((Ag l.Terms v3).bind fun v4=>(Ta v4 b1 b2 data vars res.Kind res.Num res.Args).bind fun v5=>bif v5 then some (.inr (.inl v3)) else some (.inl (Ac (v3+1)))) else some (.inr (.inr ()))) (by
  intro j x hx h1 h2 h3
  have e:Ta x b1 b2 data vars res.Kind res.Num res.Args=some (!Kb vars res x):=by
   unfold Ta Kb
   rw [Am0 b1 b2 data vars res,Ad]
   cases ht:tyX vars res x.Var with
   | none=>rfl
   | some t=>rw [Am1 b1 b2 data vars res ht]; rfl
  simp only [h1,h2,h3,cond_true,Ad,e]) (fun h=>by simp only [h]; rfl) (fun _=>rfl) rfl
 obtain ⟨i,i1,i2⟩:=key
 erw [i1]
 simp only [Ad,i2]
 congr 1
 unfold D3
 rw [List.any_eq_not_all_not]; simp
def E8 (f:Bz):Int:=match tyX vars res f.Var with | some t=>Jk (Ix data f.Index t) | none => -1
theorem Am3 (f:Bz) : -1<=E8 data vars res f/\E8 data vars res f<=6:=by
 unfold E8
 cases tyX vars res f.Var with
 | none=>simp
 | some t=>rcases Axx (Ix data f.Index t) with ⟨h,_⟩ | ⟨d,_,h2,h⟩ <;> simp only [h] <;> omega
def Kc (m:Ba):Bool:=m.Factors.all (fun f=>decide (0<=E8 data vars res f))&&m.Atoms.all (fun a=>decide (0<=a.Deg)&&D3 vars res a.Lin)
def Dt (l:List Bz):Int:=(l.map (E8 data vars res)).sum
def Ch (l:List A6):Int:=(l.map (·.Deg)).sum
def Nt (l:List A6) (x:A6) (j:Nat):Bool:=j==0||(match l[j-1]? with | some y=>decide (Ev y.Lin x.Lin<0) | none=>false)
def W5 (l:List Bz) (f:Bz) (j:Nat):Bool:=decide (1<=E8 data vars res f)&&Lx (·.Var) l f j
def Mw (l:List A6) (a:A6) (j:Nat):Bool:=decide (1<=a.Deg)&&Cd a.Lin && !(a.Lin.Terms.length==0)&&D3 vars res a.Lin&&Nt l a j
def H8 (m:Ba):Bool:=m.Factors.zipIdx.all (fun q=>W5 data vars res m.Factors q.1 q.2)&&m.Atoms.zipIdx.all (fun q=>Mw vars res m.Atoms q.1 q.2)&&decide (Dt data vars res m.Factors+Ch m.Atoms<=6)
variable {b1 data vars res}
theorem W6 (hc:Mv data vars res) (hm:Dq data vars res b1) (f:Bz) (g:I64 f.Var) (h:iR f.Index) (i:Dm f.Index<=1048576) (b:(tyX vars res f.Var).isSome=true) :
  ∃c,Lk f.Var f.Index b1 b2 data vars res.Kind res.Num res.Args=some (E8 data vars res f,c)/\Dq data vars res c:=by
 cases ht:tyX vars res f.Var with
 | none=>rw [ht] at b; cases b
 | some t=>
  obtain ⟨c,h1,h2⟩:=Aya hc.vd.szv hc.sh b1 b2 vars res hm f.Var f.Index t ht (hc.sz _ _ ht) g h i
  refine ⟨c,?_,h2⟩
  rw [h1]; unfold E8; rw [ht]
theorem Aye (hc:Mv data vars res) (hm:Dq data vars res b1) (m:Ba) (l:MSz m) :
  ∃s,V2 m b1 b2 data vars res.Kind res.Num res.Args=some (Kc data vars res m,s)/\Dq data vars res s:=by
 have V:=l.nf
 have ha:=l.na
 unfold V2
 refine Aaf (fun s=>(Kc data vars res m,s)) ?_
 obtain ⟨r,U,N⟩:=Aes (M:=List (ByteArray×Int)) (R:=Bool×List (ByteArray×Int)) m.Factors (fun q=>decide (0<=E8 data vars res q.1)) (fun j o=>((j:Int),o)) (Dq data vars res)
  (fun r=>Dq data vars res r.2/\r.1=m.Atoms.all (fun a=>decide (0<=a.Deg)&&D3 vars res a.Lin)) (fun r=>Dq data vars res r.2/\r.1=false) b1
  (s0:=((0:Int),b1))
  (step:=(fun (A,x)=>
   bif (decide (A<(m.Factors.length:Int))) then (
   (Ag m.Factors A).bind fun v8=>
   (Qh v8.Var x b2 data vars res.Kind res.Num res.Args).bind fun B=>
   bif (!B) then some (.inr (.inl (false,x)))
   else (
   (Lk v8.Var v8.Index x b2 data vars res.Kind res.Num res.Args).bind fun g=>
   bif (decide (g.1<(0:Int))) then some (.inr (.inl (false,g.2)))
   else some (.inl ((Ac (A+1)),g.2))))
   else some (.inr (.inr x)):Int×List (ByteArray×Int)->Option ((Int×List (ByteArray×Int))⊕((Bool×List (ByteArray×Int))⊕List (ByteArray×Int)))))
  (J:=(fun z=>match z with
   | .inl (L,I)=>some (L,I)
   | .inr b=>(Am (S:=Int) (E:=((Bool×(List (ByteArray×Int)))⊕Unit)) (fun c=>
     bif (decide (c<(m.Atoms.length:Int))) then (
     (Ag m.Atoms c).bind fun u=>
     bif (decide (u.Deg<(0:Int))) then some (.inr (.inl (false,b)))
     else (
     (P8 u.Lin b b2 data vars res.Kind res.Num res.Args).bind fun v21=>
     bif (!v21) then some (.inr (.inl (false,b)))
     else some (.inl (Ac (c+1)))))
     else some (.inr (.inr ()))) 0).bind fun z=>match z with
      | .inl (G,D)=>some (G,D)
      | .inr _=>some (true,b)))
  rfl hm (by omega) (by
   intro j f o y hx _ h1 h2 h3
   have k:=Ct hx
   simp only [h1,h2,h3,cond_true,Ad,Am0 o b2 data vars res]
   cases i:(tyX vars res f.Var).isSome with
   | false=>
    have e:E8 data vars res f = -1:=by
     unfold E8
     cases ht:tyX vars res f.Var with
     | none=>rfl
     | some t=>rw [ht] at i; cases i
    rw [e]
    exact ⟨(fun h=>by cases h),fun _=>⟨_,rfl,_,rfl,y,rfl⟩⟩
   | true=>
    obtain ⟨s,d1,d2⟩:=W6 b2 hc y f (l.fr f k).2 (l.fr f k).1 (l.fi f k) i
    simp only [D6,cond_false,d1,Ad]
    by_cases h0:0<=E8 data vars res f
    .rw [Al h0,Aq (by omega)]
     exact ⟨fun _=>⟨s,rfl,d2⟩,fun h=>by cases h⟩
    .rw [Aq h0,Al (by omega)]
     exact ⟨(fun h=>by cases h),fun _=>⟨_,rfl,_,rfl,d2,rfl⟩⟩) (by
   intro o y h1 _
   refine ⟨.inr o,by simp only [h1]; rfl,?_⟩
   refine ⟨(m.Atoms.all (fun a=>decide (0<=a.Deg)&&D3 vars res a.Lin),o),?_,y,rfl⟩
   refine (Ig m.Atoms (fun a=>decide (0<=a.Deg)&&D3 vars res a.Lin) (fun j=>(j:Int)) rfl (by omega) (rt:=(true,o)) (rf:=(false,o)) ?_ ?_).trans (by cases m.Atoms.all (fun a=>decide (0<=a.Deg)&&D3 vars res a.Lin) <;> rfl)
   .intro j a hx h1 h2 h3
    simp only [h1,h2,h3,cond_true,Ad,Am2 o b2 data vars res a.Lin (l.al a (Ct hx))]
    by_cases h0:0<=a.Deg
    .rw [Al h0,Aq (by omega)]
     cases D3 vars res a.Lin with
     | true=>exact ⟨fun _=>rfl,fun h=>by cases h⟩
     | false=>exact ⟨(fun h=>by cases h),fun _=>⟨_,rfl,rfl⟩⟩
    .rw [Aq h0,Al (by omega)]
     exact ⟨(fun h=>by cases h),fun _=>⟨_,rfl,rfl⟩⟩
   .intro h; exact ⟨.inr (),by simp only [h]; rfl,rfl⟩)
 refine ⟨r,U,r.2,?_,?_⟩
 .unfold Kc
  rw [<-Aak]
  rcases N with ⟨h1,h2,h3⟩ | ⟨h1,h2,h3⟩
  .rw [h1,Bool.true_and,<-h3]
  .rw [h1,Bool.false_and,<-h3]
 .rcases N with ⟨h1,h2,h3⟩ | ⟨h1,h2,h3⟩ <;> exact h2
theorem Am4 (g:Bz->Int) {l:List Bz} {j:Nat} {x:Bz} (h:l[j]? = some x):((l.take (j+1)).map g).sum=((l.take j).map g).sum+g x:=by
 rw [Dk h]; simp
theorem Am5 {l:List A6} {j:Nat} {x:A6} (h:l[j]? = some x):Ch (l.take (j+1))=Ch (l.take j)+x.Deg:=by
 unfold Ch; rw [Dk h]; simp
theorem Ayf (hc:Mv data vars res) (hm:Dq data vars res b1) (m:Ba) (k:MSz m) (hp:Kc data vars res m=true) :
  ∃p:Int×List (ByteArray×Int),Kp m b1 b2 data vars res.Kind res.Num res.Args=some p/\(decide (p.1>6) = !decide (Dt data vars res m.Factors+Ch m.Atoms<=6))/\Dq data vars res p.2:=by
 have B:=k.nf
 have ha:=k.na
 unfold Kc at hp
 rw [C9,List.all_eq_true,List.all_eq_true] at hp
 unfold Kp
 refine Fb (fun (v5,u,g)=>∃j:Nat,u=j/\j<=m.Factors.length/\Dq data vars res g/\0<=v5/\v5<=12/\(v5=Dt data vars res (m.Factors.take j)\/(6<v5/\6<Dt data vars res (m.Factors.take j)))) (fun (_,u,_)=>m.Factors.length-u.toNat)
  (fun (v5,g)=>Dq data vars res g/\0<=v5/\v5<=12/\(v5=Dt data vars res m.Factors\/(6<v5/\6<Dt data vars res m.Factors))) ⟨0,rfl,by omega,hm,by omega,by omega,.inl (by simp [Dt])⟩ ?_ ?_
 .rintro ⟨v5,u,g⟩ ⟨j,rfl,hj,q,h0,h12,l⟩
  rcases Nat.lt_or_ge j m.Factors.length with h | h
  .have hx:m.Factors[j]? = some m.Factors[j]:=B7 h
   generalize m.Factors[j]=f at hx
   have c:=Ct hx
   have hd:=hp.1 f c
   rw [decide_eq_true_eq] at hd
   have A:=(Am3 data vars res f).2
   have es:Dt data vars res (m.Factors.take (j+1))=Dt data vars res (m.Factors.take j)+E8 data vars res f:=Am4 _ hx
   simp only [Al (by omega:(j:Int)<(m.Factors.length:Int)),cond_true,Cj rfl hx,Ad,Db h (by omega)]
   by_cases s:v5<=6
   .have x:(tyX vars res f.Var).isSome=true:=by
     unfold E8 at hd
     cases ht:tyX vars res f.Var with
     | none=>rw [ht] at hd; have hd:(0:Int)<=-1:=hd; omega
     | some t=>rfl
    obtain ⟨D,d1,d2⟩:=W6 b2 hc q f (k.fr f c).2 (k.fr f c).1 (k.fi f c) x
    rw [Al s]
    simp only [cond_true,d1,Ad]
    have b:Ac (v5+E8 data vars res f)=v5+E8 data vars res f:=by rw [Ac,Bx] <;> omega
    exact .inl ⟨_,rfl,⟨j+1,rfl,by omega,d2,by simp only [b]; omega,by simp only [b]; omega,by simp only [b,es]; omega⟩,by simp; omega⟩
   .rw [Aq s]
    exact .inl ⟨_,rfl,⟨j+1,rfl,by omega,q,h0,h12,by simp only [es]; omega⟩,by simp; omega⟩
  .have:j=m.Factors.length:=by omega
   subst this
   rw [List.take_length] at l
   exact .inr ⟨(v5,g),by simp,q,h0,h12,l⟩
 .rintro ⟨v5,g⟩ ⟨q,h0,h12,l⟩
  simp only
  refine Fb (fun (v,i)=>∃j:Nat,i=j/\j<=m.Atoms.length/\0<=v/\v<=13/\(v=Dt data vars res m.Factors+Ch (m.Atoms.take j)\/(6<v/\6<Dt data vars res m.Factors+Ch (m.Atoms.take j)))) (fun (_,i)=>m.Atoms.length-i.toNat)
   (fun v=>(v=Dt data vars res m.Factors+Ch m.Atoms\/(6<v/\6<Dt data vars res m.Factors+Ch m.Atoms))) ⟨0,rfl,by omega,h0,by omega,by simpa [Ch] using l⟩ ?_ ?_
  .rintro ⟨v,i⟩ ⟨j,rfl,hj,g0,g13,z⟩
   rcases Nat.lt_or_ge j m.Atoms.length with h | h
   .have hx:m.Atoms[j]? = some m.Atoms[j]:=B7 h
    generalize m.Atoms[j]=a at hx
    have hd:=hp.2 a (Ct hx)
    rw [C9,decide_eq_true_eq] at hd
    have es:=Am5 hx
    simp only [Al (by omega:(j:Int)<(m.Atoms.length:Int)),cond_true,Cj rfl hx,Ad,Db h (by omega)]
    by_cases s:v<=6
    .rw [Al s]
     simp only [cond_true]
     by_cases y:7<a.Deg
     .rw [if_pos y]
      have b:Ac (v+7)=v+7:=by rw [Ac,Bx] <;> omega
      exact .inl ⟨_,rfl,⟨j+1,rfl,by omega,by simp only [b]; omega,by simp only [b]; omega,by simp only [b,es]; omega⟩,by simp; omega⟩
     .rw [if_neg y]
      have b:Ac (v+a.Deg)=v+a.Deg:=by rw [Ac,Bx] <;> omega
      exact .inl ⟨_,rfl,⟨j+1,rfl,by omega,by simp only [b]; omega,by simp only [b]; omega,by simp only [b,es]; omega⟩,by simp; omega⟩
    .rw [Aq s]
     exact .inl ⟨_,rfl,⟨j+1,rfl,by omega,g0,g13,by simp only [es]; omega⟩,by simp; omega⟩
   .have:j=m.Atoms.length:=by omega
    subst this
    rw [List.take_length] at z
    exact .inr ⟨v,by simp,z⟩
  .intro v l
   refine ⟨(v,g),rfl,?_,q⟩
   by_cases h:Dt data vars res m.Factors+Ch m.Atoms<=6
   .rw [Al h,Aq (by simp only; omega)]; rfl
   .rw [Aq h,Al (by simp only; omega)]; rfl
end
end Go.Ab
namespace Go.Ab
open Go
theorem Ayg {S E:Type} (F:Ar->Ar->Option Int) (l:List A6) (g:∀y∈l,∀x,F y.Lin x=some (Ev y.Lin x)) {x:A6} {j:Nat} (hx:l[j]? = some x) (i:l.length<4611686018427387904) (c b:Option (S⊕E)) :
  (bif decide ((j:Int)>0) then ((Ag l (Ac ((j:Int)-1))).bind fun f=>(F f.Lin x.Lin).bind fun v28=>bif decide (v28>=0) then c else b) else b)=bif Nt l x j then b else c:=by
 have hj:=Fd hx
 unfold Nt
 by_cases h:j=0
 .subst h; rfl
 .rw [Al (by omega)]
  have e:Ac ((j:Int)-1)=((j-1:Nat):Int):=by rw [Ac,Bx] <;> omega
  have hy:l[j-1]? = some l[j-1]:=B7 (by omega)
  rw [e,Cj rfl hy,hy]
  have h0:(j==0)=false:=by simpa using h
  simp only [cond_true,Ad,h0,Bool.false_or,g _ (List.getElem_mem (by omega:j-1<l.length))]
  by_cases hc:Ev l[j-1].Lin x.Lin<0
  .rw [Aq (by omega),Al hc]; rfl
  .rw [Al (by omega),Aq hc]; rfl
section
variable {b1:List (ByteArray×Int)} (b2:List (ByteArray×List B4)) {data:List A9} {vars:List Aj} {res:Aj}
def W7 (data:List A9) (vars:List Aj) (res:Aj) (l:List Bz) (f:Bz) (j:Nat):Bool:=!(E8 data vars res f==0)&&Lx (·.Var) l f j
def O7 (l:List A6) (a:A6) (j:Nat):Bool:=!(a.Deg==0)&&Cd a.Lin && !(a.Lin.Terms.length==0)&&Nt l a j
theorem Ayh (m:Ba):H8 data vars res m=(Kc data vars res m&&decide (Dt data vars res m.Factors+Ch m.Atoms<=6)&&m.Factors.zipIdx.all (fun q=>W7 data vars res m.Factors q.1 q.2)&&m.Atoms.zipIdx.all (fun q=>O7 m.Atoms q.1 q.2)):=by
 rw [Bool.eq_iff_iff]
 unfold H8 Kc
 rw [<-Aak m.Factors (fun f=>decide (0<=E8 data vars res f)),<-Aak m.Atoms (fun a=>decide (0<=a.Deg)&&D3 vars res a.Lin)]
 simp only [C9,List.all_eq_true,W5,Mw,W7,O7,decide_eq_true_eq,Bool.not_eq_true',beq_eq_false_iff_ne,ne_eq]
 constructor
 .rintro ⟨⟨h1,h2⟩,h3⟩
  refine ⟨⟨⟨⟨fun q hq=>?_,fun q hq=>?_⟩,h3⟩,fun q hq=>?_⟩,fun q hq=>?_⟩
  .have:=(h1 q hq).1; omega
  .have:=h2 q hq; exact ⟨by omega,this.1.2⟩
  .have:=h1 q hq; exact ⟨by omega,this.2⟩
  .have:=h2 q hq; exact ⟨⟨⟨by omega,this.1.1.1.2⟩,this.1.1.2⟩,this.2⟩
 .rintro ⟨⟨⟨⟨h1,h2⟩,h3⟩,c⟩,b⟩
  refine ⟨⟨fun q hq=>?_,fun q hq=>?_⟩,h3⟩
  .have:=h1 q hq; have g:=c q hq; exact ⟨by omega,g.2⟩
  .have:=h2 q hq; have g:=b q hq; exact ⟨⟨⟨⟨by omega,g.1.1.2⟩,g.1.2⟩,this.2⟩,g.2⟩
theorem Ayi (hc:Mv data vars res) (hm:Dq data vars res b1) (m:Ba) (i:MSz m) :
  ∃A,S5 m b1 b2 data vars res.Kind res.Num res.Args=some (H8 data vars res m,A)/\Dq data vars res A:=by
 have hf:=i.nf
 have ha:=i.na
 rw [Ayh]
 unfold S5
 obtain ⟨b,p1,Z⟩:=Aye b2 hc hm m i
 rw [p1]
 cases hp:Kc data vars res m with
 | false=>exact ⟨b,rfl,Z⟩
 | true=>
  obtain ⟨q,q1,q2,Y⟩:=Ayf b2 hc Z m i hp
  simp only [Ad,D6,cond_false,q1,q2]
  cases hs:decide (Dt data vars res m.Factors+Ch m.Atoms<=6) with
  | false=>exact ⟨q.2,rfl,Y⟩
  | true=>
   simp only [D6,cond_false,Bool.true_and]
   have U:∀f∈m.Factors,(tyX vars res f.Var).isSome=true:=by
    intro f c
    unfold Kc at hp
    rw [C9,List.all_eq_true] at hp
    have hd:=hp.1 f c
    rw [decide_eq_true_eq] at hd
    unfold E8 at hd
    cases ht:tyX vars res f.Var with
    | none=>rw [ht] at hd; have hd:(0:Int)<=-1:=hd; omega
    | some t=>rfl
   obtain ⟨r,r1,X⟩:=Aes (M:=List (ByteArray×Int)) (R:=Bool×List (ByteArray×Int)) m.Factors (fun q=>W7 data vars res m.Factors q.1 q.2) (fun j o=>((j:Int),o)) (Dq data vars res)
    (fun r=>Dq data vars res r.2/\r.1=m.Atoms.zipIdx.all (fun q=>O7 m.Atoms q.1 q.2)) (fun r=>Dq data vars res r.2/\r.1=false) q.2
    (s0:=((0:Int),q.2))
    (step:=(fun (v9,s)=>
     bif (decide (v9<(m.Factors.length:Int))) then (
     (Ag m.Factors v9).bind fun k=>
     (Lk k.Var k.Index s b2 data vars res.Kind res.Num res.Args).bind fun g=>
     bif (g.1==(0:Int)) then some (.inr (.inl (false,g.2)))
     else (
     bif (decide (v9>(0:Int))) then (
     (Ag m.Factors (Ac (v9-1))).bind fun D=>
     bif (decide (D.Var>=k.Var)) then some (.inr (.inl (false,g.2)))
     else some (.inl ((Ac (v9+1)),g.2)))
     else some (.inl ((Ac (v9+1)),g.2))))
     else some (.inr (.inr s)):Int×List (ByteArray×Int)->Option ((Int×List (ByteArray×Int))⊕((Bool×List (ByteArray×Int))⊕List (ByteArray×Int)))))
    (J:=(fun z=>match z with
     | .inl (N,L)=>some (N,L)
     | .inr l=>(Am (S:=Int) (E:=((Bool×(List (ByteArray×Int)))⊕Unit)) (fun v22=>
       bif (decide (v22<(m.Atoms.length:Int))) then (
       (Ag m.Atoms v22).bind fun v23=>
       (show Option Bool from
       bif (v23.Deg==(0:Int)) then some true
       else (
       (Hm v23.Lin).bind fun v25=>
       bif (!v25) then some true
       else some ((v23.Lin.Terms.length:Int)==(0:Int)))).bind fun v26=>
       bif v26 then some (.inr (.inl (false,l)))
       else (
       bif (decide (v22>(0:Int))) then (
       (Ag m.Atoms (Ac (v22-1))).bind fun B=>
       (Ko B.Lin v23.Lin).bind fun v28=>
       bif (decide (v28>=(0:Int))) then some (.inr (.inl (false,l)))
       else some (.inl (Ac (v22+1))))
       else some (.inl (Ac (v22+1)))))
       else some (.inr (.inr ()))) 0).bind fun z=>match z with
        | .inl (I,G)=>some (I,G)
        | .inr _=>some (true,l)))
    rfl Y (by omega) (by
     intro j f o V hx _ h1 h2 h3
     have c:=Ct hx
     obtain ⟨A,d1,d2⟩:=W6 b2 hc V f (i.fr f c).2 (i.fr f c).1 (i.fi f c) (U f c)
     simp only [h1,h2,h3,cond_true,Ad,d1,Afw (·.Var) m.Factors hx (by omega),W7]
     cases (E8 data vars res f==0) with
     | true=>exact ⟨(fun h=>by cases h),fun _=>⟨_,rfl,_,rfl,d2,rfl⟩⟩
     | false=>
      cases Lx (·.Var) m.Factors f j with
      | true=>exact ⟨fun _=>⟨A,rfl,d2⟩,fun h=>by cases h⟩
      | false=>exact ⟨(fun h=>by cases h),fun _=>⟨_,rfl,_,rfl,d2,rfl⟩⟩) (by
     intro o V h1 _
     refine ⟨.inr o,by simp only [h1]; rfl,?_⟩
     refine ⟨(m.Atoms.zipIdx.all (fun q=>O7 m.Atoms q.1 q.2),o),?_,V,rfl⟩
     refine (Tt m.Atoms (fun q=>O7 m.Atoms q.1 q.2) (fun j=>(j:Int)) rfl (by omega) (rt:=(true,o)) (rf:=(false,o)) ?_ ?_).trans (by cases m.Atoms.zipIdx.all (fun q=>O7 m.Atoms q.1 q.2) <;> rfl)
     .intro j a hx _ h1 h2 h3
      have u:((a.Lin.Terms.length:Int)==(0:Int))=(a.Lin.Terms.length==0):=Awx a.Lin.Terms 0
      simp only [h1,h2,h3,cond_true,Ad,Ky,Ayg Ko m.Atoms (fun y hy x=>Aa6 y.Lin x (by have:=i.al y hy; omega)) hx (by omega),O7,u]
      cases (a.Deg==0) with
      | true=>exact ⟨(fun h=>by cases h),fun _=>⟨_,rfl,rfl⟩⟩
      | false=>
       cases Cd a.Lin with
       | false=>exact ⟨(fun h=>by cases h),fun _=>⟨_,rfl,rfl⟩⟩
       | true=>
        cases (a.Lin.Terms.length==0) with
        | true=>exact ⟨(fun h=>by cases h),fun _=>⟨_,rfl,rfl⟩⟩
        | false=>
         cases Nt m.Atoms a j with
         | true=>exact ⟨fun _=>rfl,fun h=>by cases h⟩
         | false=>exact ⟨(fun h=>by cases h),fun _=>⟨_,rfl,rfl⟩⟩
     .intro h _; exact ⟨.inr (),by simp only [h]; rfl,rfl⟩)
   refine ⟨r.2,?_,?_⟩
   .have e:some r=some (m.Factors.zipIdx.all (fun q=>W7 data vars res m.Factors q.1 q.2)&&m.Atoms.zipIdx.all (fun q=>O7 m.Atoms q.1 q.2),r.2):=by
     rcases X with ⟨h1,h2,h3⟩ | ⟨h1,h2,h3⟩
     .rw [h1,Bool.true_and,<-h3]
     .rw [h1,Bool.false_and,<-h3]
    rw [<-e]
    exact r1
   .rcases X with ⟨h1,h2,h3⟩ | ⟨h1,h2,h3⟩ <;> exact h2
theorem Ayj (l:List Bz) (h:∀f∈l,0<=E8 data vars res f):0<=Dt data vars res l:=by
 induction l with
 | nil=>simp [Dt]
 | cons x xs ih=>
  have h1:=h x (by simp)
  have h2:=ih (fun f b=>h f (by simp [b]))
  unfold Dt at *
  simp only [List.map_cons,List.sum_cons]
  omega
theorem Am6 (l:List A6) (h:∀a∈l,0<=a.Deg):0<=Ch l/\((∀a∈l,a.Deg<=6)->Ch l<=6*l.length)/\∀a∈l,a.Deg<=Ch l:=by
 induction l with
 | nil=>simp [Ch]
 | cons x xs ih=>
  have h1:=h x (by simp)
  obtain ⟨i1,i2,i3⟩:=ih (fun f b=>h f (by simp [b]))
  unfold Ch at *
  simp only [List.map_cons,List.sum_cons,List.length_cons]
  refine ⟨by omega,fun g=>?_,fun a ha=>?_⟩
  .have:=g x (by simp)
   have:=i2 (fun a ha=>g a (by simp [ha]))
   omega
  .rcases List.mem_cons.1 ha with rfl | ha
   .omega
   .have:=i3 a ha; omega
end
end Go.Ab
namespace Go.Ab
open Go
theorem Ayk {α:Type} [DecidableEq α] (l m:List α) (b:l.length=m.length):(decide (l=m))=l.zipIdx.all (fun q=>decide (m[q.2]? = some q.1)):=by
 rw [Bool.eq_iff_iff,decide_eq_true_eq]
 constructor
 .rintro rfl
  exact Ak7 fun j x hx=>by simpa using hx
 .intro h
  apply List.ext_getElem?
  intro j
  cases hx:l[j]? with
  | none=>rw [List.getElem?_eq_none_iff] at hx; rw [List.getElem?_eq_none (by omega)]
  | some x=>have:=Jf h hx; rw [decide_eq_true_eq] at this; rw [this]
theorem Ayl {R:Type} (l m:List Int) (b:l.length<1099511627776) (h:l.length=m.length) {J:Bool⊕Unit->Option R} {rt rf:R} (h1:J (.inl false)=some rf) (h2:J (.inr ())=some rt) :
  (Am (S:=Int) (E:=(Bool⊕Unit)) (fun v3=>bif (decide (v3<(l.length:Int))) then ((Ag l v3).bind fun v4=>(Ag m v3).bind fun v5=>bif (v4 != v5) then some (.inr (.inl false)) else some (.inl (Ac (v3+1)))) else some (.inr (.inr ()))) 0).bind J=some (bif decide (l=m) then rt else rf):=by
 rw [Ayk l m h]
 refine Tt l (fun q=>decide (m[q.2]? = some q.1)) (fun j=>(j:Int)) rfl (by omega) (rt:=rt) (rf:=rf) ?_ ?_
 .intro j x hx _ g1 g2 g3
  have hj:j<m.length:=by have:=Fd hx; omega
  have hy:m[j]? = some m[j]:=B7 hj
  generalize m[j]=y at hy
  simp only [g1,g2,g3,cond_true,Ad,Cj rfl hy,hy,Option.some.injEq]
  by_cases e:x=y
  .rw [Fc e,Al e.symm]
   exact ⟨fun _=>rfl,fun h=>by cases h⟩
  .rw [Et e,Aq (fun h=>e h.symm)]
   exact ⟨(fun h=>by cases h),fun _=>⟨.inl false,rfl,h1⟩⟩
 .intro h _; exact ⟨.inr (),by simp only [h]; rfl,h2⟩
theorem Am7 (l m:List Int) (b:l.length<1099511627776):Mf l m=some (decide (l=m)):=by
 unfold Mf
 by_cases h:l.length=m.length
 .rw [Fc (by omega)]
  simp only [cond_false]
  refine (Ayl l m b h (rt:=true) (rf:=false) ?_ ?_).trans (by rw [Kv]) <;> rfl
 .rw [Et (by omega),Aq (fun e=>h (by rw [e]))]; rfl
def T5 (a b:Ak):Bool:=a.Neg==b.Neg&&decide (a.Num=b.Num)&&decide (a.Den=b.Den)
theorem Am8 (a b:Ak):T5 a b=true↔a=b:=by
 unfold T5
 simp only [C9,beq_iff_eq,decide_eq_true_eq]
 constructor
 .rintro ⟨⟨h1,h2⟩,h3⟩; cases a; cases b; simp_all
 .rintro rfl; simp
def W8 (c:Ak):Bool:=T5 (Bt (sv c) (nv c) (dv c)) c && !(nv c==0)
structure TSz (t:Ah):Prop where
 co:RB 1048576 t.Coef
 mo:MSz t.Mono
def Rg (l:List Ah) (x:Ah) (j:Nat):Bool:=j==0||(match l[j-1]? with | some y=>decide (Da y.Mono x.Mono<0) | none=>false)
def T6 (data:List A9) (vars:List Aj) (res:Aj) (l:List Ah) (t:Ah) (j:Nat):Bool:=W8 t.Coef&&H8 data vars res t.Mono&&Rg l t j
def Hr (data:List A9) (vars:List Aj) (res:Aj) (p:List Ah):Bool:=decide (p.length<=1000)&&p.zipIdx.all (fun q=>T6 data vars res p q.1 q.2)
theorem Aym {S E:Type} (F:Ba->Ba->Option Int) (l:List Ah) (g:∀y∈l,∀x,F y.Mono x=some (Da y.Mono x)) {x:Ah} {j:Nat} (hx:l[j]? = some x) (i:l.length<4611686018427387904) (c b:Option (S⊕E)) :
  (bif decide ((j:Int)>0) then ((Ag l (Ac ((j:Int)-1))).bind fun f=>(F f.Mono x.Mono).bind fun v28=>bif decide (v28>=0) then c else b) else b)=bif Rg l x j then b else c:=by
 have hj:=Fd hx
 unfold Rg
 by_cases h:j=0
 .subst h; rfl
 .rw [Al (by omega)]
  have e:Ac ((j:Int)-1)=((j-1:Nat):Int):=by rw [Ac,Bx] <;> omega
  have hy:l[j-1]? = some l[j-1]:=B7 (by omega)
  rw [e,Cj rfl hy,hy]
  have h0:(j==0)=false:=by simpa using h
  simp only [cond_true,Ad,h0,Bool.false_or,g _ (List.getElem_mem (by omega:j-1<l.length))]
  by_cases hc:Da l[j-1].Mono x.Mono<0
  .rw [Aq (by omega),Al hc]; rfl
  .rw [Al (by omega),Aq hc]; rfl
theorem Ayn (s:Bool) (n:Nat):(H4 s n==0)=(n==0):=by
 unfold H4
 by_cases h:n=0
 .rw [if_pos h]; subst h; rfl
 .rw [if_neg h]
  have:(n==0)=false:=by simpa using h
  rw [this]; cases s <;> rfl
theorem Am9 {data:List A9} {vars:List Aj} {res:Aj} (hc:Mv data vars res) {b1:List (ByteArray×Int)} (b2:List (ByteArray×List B4)) (hm:Dq data vars res b1) (p:List Ah) (U:∀t∈p,TSz t) :
  ∃B,Vd p b1 b2 data vars res.Kind res.Num res.Args=some (Hr data vars res p,B)/\Dq data vars res B:=by
 unfold Vd Hr
 by_cases A:p.length<=1000
 .rw [Aq (by omega),Al A,Bool.true_and]
  simp only [cond_false]
  obtain ⟨r,V,S⟩:=Aes (M:=List (ByteArray×Int)) (R:=Bool×List (ByteArray×Int)) p (fun q=>T6 data vars res p q.1 q.2) (fun j o=>((j:Int),o)) (Dq data vars res)
   (fun r=>Dq data vars res r.2/\r.1=true) (fun r=>Dq data vars res r.2/\r.1=false) b1
   (s0:=((0:Int),b1))
   (step:=(fun (b,g)=>
    bif (decide (b<(p.length:Int))) then (
    (Ag p b).bind fun v12=>
    (Nd v12.Coef).bind fun f=>
    (show Option Bool from
    bif (f.Neg==v12.Coef.Neg) then (
    (Mf f.Num v12.Coef.Num).bind fun i=>
    bif i then (
    (Mf f.Den v12.Coef.Den).bind fun v17=>
    some v17)
    else some false)
    else some false).bind fun E=>
    bif (!E) then some (.inr (.inl (false,g)))
    else (
    (F7 f).bind fun D=>
    bif (D==(0:Int)) then some (.inr (.inl (false,g)))
    else (
    (S5 v12.Mono g b2 data vars res.Kind res.Num res.Args).bind fun v20=>
    bif (!v20.1) then some (.inr (.inl (false,v20.2)))
    else (
    bif (decide (b>(0:Int))) then (
    (Ag p (Ac (b-1))).bind fun v21=>
    (Oe v21.Mono v12.Mono).bind fun v22=>
    bif (decide (v22>=(0:Int))) then some (.inr (.inl (false,v20.2)))
    else some (.inl ((Ac (b+1)),v20.2)))
    else some (.inl ((Ac (b+1)),v20.2))))))
    else some (.inr (.inr g)):Int×List (ByteArray×Int)->Option ((Int×List (ByteArray×Int))⊕((Bool×List (ByteArray×Int))⊕List (ByteArray×Int)))))
   (J:=(fun z=>match z with
    | .inl (I,G)=>some (I,G)
    | .inr L=>some (true,L)))
   rfl hm (by omega) (by
    intro j t o u hx _ h1 h2 h3
    have c:=U t (Ct hx)
    obtain ⟨B,d1,d2⟩:=Ayi b2 hc u t.Mono c.mo
    have s:∀l:List Int,l=(Bt (sv t.Coef) (nv t.Coef) (dv t.Coef)).Num\/l=(Bt (sv t.Coef) (nv t.Coef) (dv t.Coef)).Den->l.length<1099511627776:=by
     intro l A
     have q:=Lr (sv t.Coef) (nv t.Coef) (dv t.Coef) 1048577 c.co.nv c.co.dv (by omega)
     have:=q.nl
     have:=q.dl
     rcases A with rfl | rfl <;> omega
    have k:(bif ((Bt (sv t.Coef) (nv t.Coef) (dv t.Coef)).Neg==t.Coef.Neg) then ((Mf (Bt (sv t.Coef) (nv t.Coef) (dv t.Coef)).Num t.Coef.Num).bind fun i=>bif i then ((Mf (Bt (sv t.Coef) (nv t.Coef) (dv t.Coef)).Den t.Coef.Den).bind fun v17=>some v17) else some false) else some false)=some (T5 (Bt (sv t.Coef) (nv t.Coef) (dv t.Coef)) t.Coef):=by
     unfold T5
     rw [Am7 _ _ (s _ (.inl rfl)),Am7 _ _ (s _ (.inr rfl))]
     cases ((Bt (sv t.Coef) (nv t.Coef) (dv t.Coef)).Neg==t.Coef.Neg) <;> cases decide ((Bt (sv t.Coef) (nv t.Coef) (dv t.Coef)).Num=t.Coef.Num) <;> rfl
    simp only [h1,h2,h3,cond_true,Ad,Aey t.Coef 1048576 c.co (by omega),k,Aym Oe p (fun y hy x=>Amx y.Mono x (U y hy).mo) hx (by omega),T6,W8]
    cases N:T5 (Bt (sv t.Coef) (nv t.Coef) (dv t.Coef)) t.Coef with
    | false=>exact ⟨(fun h=>by cases h),fun _=>⟨_,rfl,_,rfl,u,rfl⟩⟩
    | true=>
     have e:=(Am8 _ _).1 N
     simp only [D6,cond_false,Bool.true_and]
     rw [e,Aez t.Coef 1048576 c.co (by omega),Ad,Ayn]
     cases (nv t.Coef==0) with
     | true=>exact ⟨(fun h=>by cases h),fun _=>⟨_,rfl,_,rfl,u,rfl⟩⟩
     | false=>
      simp only [cond_false,d1,Ad,Bool.not_false,Bool.true_and]
      cases H8 data vars res t.Mono with
      | false=>exact ⟨(fun h=>by cases h),fun _=>⟨_,rfl,_,rfl,d2,rfl⟩⟩
      | true=>
       cases Rg p t j with
       | true=>exact ⟨fun _=>⟨B,rfl,d2⟩,fun h=>by cases h⟩
       | false=>exact ⟨(fun h=>by cases h),fun _=>⟨_,rfl,_,rfl,d2,rfl⟩⟩) (by
    intro o u h1 _
    exact ⟨.inr o,by simp only [h1]; rfl,_,rfl,u,rfl⟩)
  refine ⟨r.2,?_,?_⟩
  .have e:some r=some (p.zipIdx.all (fun q=>T6 data vars res p q.1 q.2),r.2):=by
    rcases S with ⟨h1,h2,h3⟩ | ⟨h1,h2,h3⟩
    .rw [h1,<-h3]
    .rw [h1,<-h3]
   rw [<-e]
   exact V
  .rcases S with ⟨h1,h2,h3⟩ | ⟨h1,h2,h3⟩ <;> exact h2
 .rw [Al (by omega),Aq A]
  exact ⟨b1,rfl,hm⟩
structure CSz (x:Bj):Prop where
 ds:DSz x.Data
 nv:x.Vars.length<=1048576
 vs:∀t∈x.Vars,B8 t<=1048576
 rs:B8 x.Res<=1048576
def Kz (data:List A9) (t:Aj):Bool:=F9 data 0 t&&decide (B8 t<=200)
def Fj (x:Bj):Prop:=x.Vars.length<=3000/\Mt x.Data/\Kz x.Data x.Res=true/\x.Vars.all (Kz x.Data)=true
theorem Fj.ctx {x:Bj} (h:Fj x) (c:CSz x):Mv x.Data x.Vars x.Res:=by
 refine ⟨h.2.1,c.ds.sz.short,fun v t ht=>?_,h.1⟩
 have good:∀t,Kz x.Data t=true->B8 t<=200:=fun t h=>by
  simp only [Kz,C9,decide_eq_true_eq] at h; exact h.2
 unfold tyX at ht
 by_cases b:v = -1
 .rw [if_pos b] at ht; cases ht; exact good _ h.2.2.1
 .rw [if_neg b] at ht
  exact good t (List.all_eq_true.1 h.2.2.2 t (J8 ht).2.2.2)
theorem Rh (x:Bj) (g:CSz x) (p:List Ah) (hp:∀t∈p,TSz t):∃b,Jz x p=some b/\(b=true↔Fj x/\Hr x.Data x.Vars x.Res p=true):=by
 obtain ⟨b,b1,b2⟩:=Al7 g.ds
 have I:=g.nv
 have G:=g.rs
 unfold Jz I5
 rw [b1,Wx x.Data x.Res 0 (by omega)]
 by_cases y:x.Vars.length<=3000
 .rw [Aq (by omega)]
  simp only [cond_false,Ad]
  cases b with
  | false=>exact ⟨false,rfl,by simp; intro h; have:=b2.2 h.2.1; cases this⟩
  | true=>
   have E:=b2.1 rfl
   simp only [D6,cond_false]
   cases s:(F9 x.Data 0 x.Res&&decide (B8 x.Res<=200)) with
   | false=>exact ⟨false,rfl,by simp; intro h; have:=h.2.2.1; rw [show Kz x.Data x.Res=false from s] at this; cases this⟩
   | true=>
    simp only [D6,cond_false,Ad]
    rw [Option.bind_assoc]
    refine Fb (fun i=>∃j:Nat,i=j/\j<=x.Vars.length/\(x.Vars.take j).all (Kz x.Data)=true) (fun i=>x.Vars.length-i.toNat)
     (fun z=>match z with | .inl r=>r=false/\¬Fj x | .inr _=>Fj x) ⟨0,rfl,by omega,by simp⟩ ?_ ?_
    .rintro i ⟨j,rfl,hj,c⟩
     rcases Nat.lt_or_ge j x.Vars.length with h | h
     .have ht:x.Vars[j]? = some x.Vars[j]:=B7 h
      generalize x.Vars[j]=t at ht
      have:=g.vs t (Ct ht)
      simp only [Al (by omega:(j:Int)<(x.Vars.length:Int)),cond_true,Cj rfl ht,Ad,Wx x.Data t 0 (by omega),Db h (by omega)]
      rw [show (F9 x.Data 0 t&&decide (B8 t<=200))=Kz x.Data t from rfl]
      cases A:Kz x.Data t with
      | true=>exact .inl ⟨_,rfl,⟨j+1,rfl,by omega,by rw [Dk ht,List.all_append,c]; simp [A]⟩,by simp; omega⟩
      | false=>
       refine .inr ⟨.inl false,rfl,rfl,fun J=>?_⟩
       have:=List.all_eq_true.1 J.2.2.2 t (Ct ht)
       rw [A] at this; cases this
     .have:j=x.Vars.length:=by omega
      subst this
      rw [List.take_length] at c
      exact .inr ⟨.inr (),by simp,y,E,s,c⟩
    .rintro (r | u) f
     .obtain ⟨rfl,f⟩:=f
      exact ⟨false,rfl,by simp [f]⟩
     .have B:Fj x:=f
      have hm:Dq x.Data x.Vars x.Res []:=fun q h=>by cases h
      obtain ⟨D,l,L⟩:=Am9 (B.ctx g) [] hm p hp
      cases k:Hr x.Data x.Vars x.Res p with
      | true=>
       rw [k] at l
       refine ⟨true,?_,by simp [B]⟩
       simp only
       rw [Option.bind_assoc]
       refine G3 1 (fun j=>match j with | 0=>((0:Int),[]) | _=>((1:Int),D)) rfl ?_ ⟨.inr D,rfl,rfl⟩
       intro j hj
       match j,hj with
       | 0,_=>
        show (bif decide ((0:Int)<1) then _ else _)=_
        simp only [Al (by omega:(0:Int)<1),cond_true]
        rw [show Ag [p] 0=some p from rfl,Ad,l]; rfl
      | false=>
       rw [k] at l
       refine ⟨false,?_,by simp⟩
       simp only
       rw [Option.bind_assoc]
       refine G3 0 (fun _=>((0:Int),[])) rfl (fun j hj=>by omega) ⟨.inl false,?_,rfl⟩
       show (bif decide ((0:Int)<1) then _ else _)=_
       simp only [Al (by omega:(0:Int)<1),cond_true]
       rw [show Ag [p] 0=some p from rfl,Ad,l]; rfl
 .rw [Al (by omega)]
  exact ⟨false,rfl,by simp; intro h; exact absurd h.1 y⟩
end Go.Ab
namespace Go.Ab
open Go
end Go.Ab
namespace Go.Ab
open Go
end Go.Ab
namespace Go.Ab
open Go
end Go.Ab
namespace Go.Ab
open Go
end Go.Ab
namespace Go.Ab
open Go
theorem Ayo {data:List A9} {vars:List Aj} {res:Aj} {m:Ba} (h:H8 data vars res m=true):(∀f∈m.Factors,∃t,tyX vars res f.Var=some t)/\m.Factors.length<=6:=by
 unfold H8 at h
 simp only [C9,decide_eq_true_eq] at h
 obtain ⟨⟨h1,h2⟩,h3⟩:=h
 have b:∀f∈m.Factors,1<=E8 data vars res f:=by
  intro f b
  obtain ⟨j,hj⟩:=List.getElem?_of_mem b
  have:=Jf h1 hj
  simp only [W5,C9,decide_eq_true_eq] at this
  exact this.1
 have ha:0<=Ch m.Atoms:=(Am6 m.Atoms (fun a ha=>by
  obtain ⟨j,hj⟩:=List.getElem?_of_mem ha
  have:=Jf h2 hj
  simp only [Mw,C9,decide_eq_true_eq] at this
  omega)).1
 refine ⟨fun f c=>?_,?_⟩
 .have:=b f c
  unfold E8 at this
  cases ht:tyX vars res f.Var with
  | none=>rw [ht] at this; have:(1:Int)<=-1:=this; omega
  | some t=>exact ⟨t,rfl⟩
 .have key:∀l:List Bz,(∀f∈l,1<=E8 data vars res f)->(l.length:Int)<=Dt data vars res l:=by
   intro l
   induction l with
   | nil=>intro _; simp [Dt]
   | cons f fs ih=>
    intro i
    have h1:=i f (by simp)
    have h2:=ih (fun g k=>i g (by simp [k]))
    unfold Dt at *
    simp only [List.map_cons,List.sum_cons,List.length_cons]; omega
  have:=key m.Factors b
  omega
theorem Ayp (a b:Ak) (j k:Nat) (ha:RB j a) (hb:RB k b) (hj:j<34359738000) (hk:k<34359738000):∃c,Na a b=some c/\Vo a b=some c/\RB (j+k+3) c:=by
 refine ⟨_,Ae2 a b j k ha hb (by omega) (by omega),Awq a b j k ha hb (by omega) (by omega),?_⟩
 have h1:=ha.nv
 have h2:=ha.dv
 have h3:=hb.nv
 have s:=hb.dv
 have q:=Gp (nv a) (dv b)
 have l:=Gp (nv b) (dv a)
 have i:=Gp (dv a) (dv b)
 have f:H5 (sv a) (nv a) (dv a) (sv b) (nv b) (dv b)<=nv a*dv b+nv b*dv a:=by
  unfold H5
  split
  .omega
  .split <;> omega
 have h:=Gn f
 have g:=Ts (nv a*dv b) (nv b*dv a)
 exact Lr _ _ _ _ (by omega) (by omega) (by omega)
end Go.Ab
namespace Go.Ab
open Go
end Go.Ab
namespace Go.Ab
open Go
theorem Ayq (k:Nat):RB k ⟨false,[],[]⟩:=⟨(fun _ h=>by cases h),(fun _ h=>by cases h),by simp,by simp⟩
end Go.Ab
namespace Go.Ab
open Go
end Go.Ab
namespace Go.Ab
open Go
def sg (s:Bool) (n:Nat):Int:=if s then -(n:Int) else n
def rq (a:Ak):Rat:=mkRat (sg (sv a) (nv a)) (dv a)
def Hh (a:Ak):Prop:=a=Bt (sv a) (nv a) (dv a)
theorem Ly (s:Bool) (n d:Nat) (hd:d≠0):rq (Bt s n d)=mkRat (sg s n) d:=by
 obtain ⟨g,f,h1,h2,h3,i⟩:=Aav s n d hd
 unfold rq
 rw [Rat.mkRat_eq_iff (E6 _) hd]
 generalize nv (Bt s n d)=b at *
 generalize dv (Bt s n d)=j at *
 generalize sv (Bt s n d)=s' at *
 by_cases c:n=0
 .have:b=0:=by
   rcases Nat.eq_zero_or_pos b with h | h
   .exact h
   .have:=Nat.mul_pos (Nat.pos_of_ne_zero f) h; omega
  subst this; subst c
  cases s <;> cases s' <;> simp [sg]
 .rw [h3 c,h1,h2]
  cases s <;> simp only [sg,if_true,if_false,Bool.false_eq_true,Int.natCast_mul] <;> grind
theorem O8 (s:Bool) (n d:Nat) (hd:d≠0):Hh (Bt s n d):=by
 obtain ⟨g,b,h1,h2,h3,i⟩:=Aav s n d hd
 unfold Hh
 generalize hc:Bt s n d=c at h1 h2 h3 i
 have e:=Q6 s (nv c) (dv c) g b
 rw [<-h1,<-h2,hc] at e
 by_cases f:n=0
 .have h0:nv c=0:=by
   rcases Nat.eq_zero_or_pos (nv c) with h | h
   .exact h
   .have:=Nat.mul_pos (Nat.pos_of_ne_zero b) h; omega
  rw [h0,Wu] at e ⊢
  exact e
 .rw [h3 f]; exact e
theorem Ana (n m:Int) {d e:Nat} (hd:d≠0) (g:e≠0):mkRat n d<mkRat m e↔n*e<m*d:=by
 have c:(0:Rat)<(d:Rat):=Rat.natCast_pos.2 (by omega)
 have b:(0:Rat)<(e:Rat):=Rat.natCast_pos.2 (by omega)
 rw [Rat.mkRat_eq_div,Rat.mkRat_eq_div,Rat.div_lt_iff c]
 rw [<-Rat.mul_lt_mul_right b]
 have f:(m:Rat) / (e:Rat)*(d:Rat)*(e:Rat)=(m:Rat)*(d:Rat):=by grind
 rw [f]
 have a1:(n:Rat)*(e:Rat)=((n*(e:Int):Int):Rat):=by rw [Rat.intCast_mul]; rfl
 have a2:(m:Rat)*(d:Rat)=((m*(d:Int):Int):Rat):=by rw [Rat.intCast_mul]; rfl
 rw [a1,a2,Rat.intCast_lt_intCast]
theorem W9 {a b:Ak} (ha:Hh a) (hb:Hh b) (h:rq a=rq b):a=b:=by
 unfold rq at h
 rw [Rat.mkRat_eq_iff (E6 _) (E6 _)] at h
 rw [ha,hb]
 have q:=E6 a
 have l:=E6 b
 generalize nv a=n at *
 generalize dv a=d at *
 generalize sv a=s at *
 generalize nv b=m at *
 generalize dv b=e at *
 generalize sv b=t at *
 have f:n*e=m*d/\(n≠0->s=t):=by
  have c:n≠0->0<n*e:=fun h=>Nat.mul_pos (by omega) (by omega)
  have g:m≠0->0<m*d:=fun h=>Nat.mul_pos (by omega) (by omega)
  have x:((n*e:Nat):Int)=(n:Int)*e:=by simp
  have u:((m*d:Nat):Int)=(m:Int)*d:=by simp
  cases s <;> cases t <;> simp only [sg,if_true,if_false,Bool.false_eq_true,Int.neg_mul] at h
  .exact ⟨by omega,fun _=>rfl⟩
  .have:n*e=0/\m*d=0:=by omega
   refine ⟨by omega,fun i=>?_⟩
   have:=c i; omega
  .have:n*e=0/\m*d=0:=by omega
   refine ⟨by omega,fun i=>?_⟩
   have:=c i; omega
  .exact ⟨by omega,fun _=>rfl⟩
 have k:=Q6 s n d e l
 have j:=Q6 t m e d q
 rw [<-k,<-j,Nat.mul_comm e n,f.1,Nat.mul_comm e d,Nat.mul_comm m d]
 refine Alh fun h0=>f.2 ?_
 rintro rfl
 rw [Nat.zero_mul] at f
 have:=f.1
 rw [Nat.mul_comm d m] at h0
 omega
theorem Anb (j:Bool) (c g:Nat) (i:Bool) (b f:Nat):sg (Jg j c g i b f) (H5 j c g i b f)=sg j c*f+sg i b*g:=by
 unfold Jg H5 sg
 have l:((c*f:Nat):Int)=(c:Int)*f:=by simp
 have k:((b*g:Nat):Int)=(b:Int)*g:=by simp
 cases j <;> cases i <;> simp only [if_true,if_false,Bool.false_eq_true,Bool.true_eq_false,Int.neg_mul]
 .omega
 .by_cases h:b*g<=c*f
  .simp only [if_pos h]; simp only [if_false,Bool.false_eq_true]; omega
  .simp only [if_neg h]; simp only [if_true]; omega
 .by_cases h:b*g<=c*f
  .simp only [if_pos h]; simp only [if_true]; omega
  .simp only [if_neg h]; simp only [if_false,Bool.false_eq_true]; omega
 .omega
theorem Anc {a b:Ak} {j k:Nat} (ha:RB j a) (hb:RB k b) (hj:j<34359738000) (hk:k<34359738000):∃c,Na a b=some c/\Vo a b=some c/\RB (j+k+3) c/\Hh c/\rq c=rq a+rq b:=by
 obtain ⟨c,h1,h2,h3⟩:=Ayp a b j k ha hb hj hk
 have e:=Ae2 a b j k ha hb (by omega) (by omega)
 rw [h1] at e
 have e:=Option.some.inj e
 have hd:dv a*dv b≠0:=Nat.mul_ne_zero (E6 a) (E6 b)
 refine ⟨c,h1,h2,h3,?_,?_⟩
 .rw [e]; exact O8 _ _ _ hd
 .rw [e,Ly _ _ _ hd,Anb,rq,rq,Rat.mkRat_add_mkRat _ _ (E6 a) (E6 b)]
theorem Ayr (s t:Bool) (n m:Nat):sg (s != t) (n*m)=sg s n*sg t m:=by
 unfold sg
 cases s <;> cases t <;> simp [Int.neg_mul,Int.mul_neg]
theorem Ri {a b:Ak} {j k:Nat} (ha:RB j a) (hb:RB k b) (hj:j<34359738000) (hk:k<34359738000):∃c,Gi a b=some c/\RB (j+k+2) c/\Hh c/\rq c=rq a*rq b:=by
 have hd:dv a*dv b≠0:=Nat.mul_ne_zero (E6 a) (E6 b)
 have h1:=ha.nv
 have h2:=ha.dv
 have h3:=hb.nv
 have h:=hb.dv
 have g:=Gp (nv a) (nv b)
 have f:=Gp (dv a) (dv b)
 refine ⟨_,Ae1 a b j k ha hb (by omega) (by omega),Lr _ _ _ _ (by omega) (by omega) (by omega),O8 _ _ _ hd,?_⟩
 rw [Ly _ _ _ hd,Ayr,rq,rq,Rat.mkRat_mul_mkRat]
def G4 (x:Rat):Int:=if x<0 then -1 else if 0<x then 1 else 0
theorem Ays (a:Ak):rq a<0↔H4 (sv a) (nv a) = -1:=by
 have e:(0:Rat)=mkRat 0 1:=by simp
 rw [rq,e,Ana _ _ (E6 a) (by decide)]
 unfold sg H4
 split <;> split <;> simp <;> omega
theorem Ayt (a:Ak):0<rq a↔H4 (sv a) (nv a)=1:=by
 have e:(0:Rat)=mkRat 0 1:=by simp
 rw [rq,e,Ana _ _ (by decide) (E6 a)]
 unfold sg H4
 split <;> split <;> simp <;> omega
theorem Ayu (a:Ak):H4 (sv a) (nv a)=G4 (rq a):=by
 have h1:=Ays a
 have h2:=Ayt a
 have h3:H4 (sv a) (nv a) = -1\/H4 (sv a) (nv a)=0\/H4 (sv a) (nv a)=1:=by unfold H4; split <;> (try split) <;> simp
 unfold G4
 split
 .rename_i h; exact h1.1 h
 .rename_i h
  split
  .rename_i h'; exact h2.1 h'
  .rename_i h'
   rcases h3 with h3 | h3 | h3
   .exact (h (h1.2 h3)).elim
   .exact h3
   .exact (h' (h2.2 h3)).elim
theorem Mx {a:Ak} {k:Nat} (h:RB k a) (hk:k<34359738000):F7 a=some (G4 (rq a))/\Vn a=some (G4 (rq a)):=by
 rw [<-Ayu]
 exact ⟨Aez a k h (by omega),Awr a k h (by omega)⟩
end Go.Ab
namespace Go.Ab
open Go
structure Ej {α:Type} (S:α->Prop) (g:α->α->Int):Prop where
 zero:∀a b,S a->S b->(g a b=0↔a=b)
 anti:∀a b,S a->S b->g b a = - g a b
 trans:∀a b c,S a->S b->S c->g a b<0->g b c<0->g a c<0
theorem Ej.cmpI:Ej (fun _:Int=>True) Ei:=by
 refine ⟨fun a b _ _=>H7,fun a b _ _=>?_,fun a b c _ _ _=>?_⟩
 .unfold Go.Ab.Ei; split <;> split <;> (try split) <;> (try split) <;> omega
 .unfold Go.Ab.Ei; intro h1 h2; split at h1 <;> (try split at h1) <;> split at h2 <;> (try split at h2) <;> first | omega | (rw [if_pos (by omega)]; decide)
theorem Ane {x y:Int}:orI x y<0↔x<0\/(x=0/\y<0):=by unfold orI; split <;> omega
theorem Anf {x y:Int}:orI x y=0↔x=0/\y=0:=by unfold orI; split <;> omega
theorem Ej.or {α β γ:Type} {S:α->Prop} {s:β->Prop} {l:γ->Prop} {j:β->β->Int} {i:γ->γ->Int} (p:α->β) (q:α->γ) (g:∀a b,p a=p b->q a=q b->a=b) (h1:Ej s j) (h2:Ej l i) (f:∀a,S a->s (p a)/\l (q a)) :
  Ej S (fun a b=>orI (j (p a) (p b)) (i (q a) (q b))):=by
 refine ⟨fun a b ha hb=>?_,fun a b ha hb=>?_,fun a b c ha hb hc=>?_⟩
 .rw [Anf,h1.zero _ _ (f a ha).1 (f b hb).1,h2.zero _ _ (f a ha).2 (f b hb).2]
  exact ⟨fun h=>g a b h.1 h.2,fun h=>by subst h; exact ⟨rfl,rfl⟩⟩
 .show orI (j (p b) (p a)) (i (q b) (q a)) = - orI (j (p a) (p b)) (i (q a) (q b))
  have z:=h1.anti _ _ (f a ha).1 (f b hb).1
  have y:=h2.anti _ _ (f a ha).2 (f b hb).2
  rw [z,y]; unfold orI; split <;> split <;> omega
 .show orI _ _<0->orI _ _<0->orI _ _<0
  simp only [Ane]
  have u:=h1.zero _ _ (f a ha).1 (f b hb).1
  have z2:=h1.zero _ _ (f b hb).1 (f c hc).1
  have t1:=h1.trans _ _ _ (f a ha).1 (f b hb).1 (f c hc).1
  have t2:=h2.trans _ _ _ (f a ha).2 (f b hb).2 (f c hc).2
  rintro (h | ⟨h,h'⟩) (k | ⟨k,x⟩)
  .exact .inl (t1 h k)
  .rw [<-z2.1 k]; exact .inl h
  .rw [u.1 h]; exact .inl k
  .rw [<-z2.1 k,h]; exact .inr ⟨rfl,t2 h' x⟩
theorem Ej.mono {α:Type} {S i:α->Prop} {g:α->α->Int} (h:Ej S g) (f:∀a,i a->S a):Ej i g :=
 ⟨fun a b ha hb=>h.zero a b (f a ha) (f b hb),fun a b ha hb=>h.anti a b (f a ha) (f b hb),fun a b c ha hb hc=>h.trans a b c (f a ha) (f b hb) (f c hc)⟩
theorem Ej.congr {α:Type} {S:α->Prop} {g c:α->α->Int} (h:Ej S g) (e:∀a b,c a b=g a b):Ej S c:=by
 have:c=g:=funext fun a=>funext fun b=>e a b
 rw [this]; exact h
def LL {α:Type} (g:α->α->Int) (l m:List α):Int:=if l.length=m.length then E7 g l m else Go.Ab.Ei l.length m.length
theorem Ang {α:Type} {S:α->Prop} {g:α->α->Int} (h:Ej S g):∀l m:List α,l.length=m.length->(∀x∈l,S x)->(∀x∈m,S x)->(E7 g l m=0↔l=m)
 | [],[],_,_,_=>by simp [E7]
 | x::xs,y::ys,b,h1,h2=>by
  simp only [E7,Anf,h.zero x y (h1 x (by simp)) (h2 y (by simp)),Ang h xs ys (by simpa using b) (fun z c=>h1 z (by simp [c])) (fun z c=>h2 z (by simp [c])),List.cons.injEq]
 | [],_::_,b,_,_=>by simp at b
 | _::_,[],b,_,_=>by simp at b
theorem Anh {α:Type} {S:α->Prop} {g:α->α->Int} (h:Ej S g):∀l m:List α,l.length=m.length->(∀x∈l,S x)->(∀x∈m,S x)->E7 g m l = - E7 g l m
 | [],[],_,_,_=>by simp [E7]
 | x::xs,y::ys,b,h1,h2=>by
  simp only [E7,h.anti x y (h1 x (by simp)) (h2 y (by simp)),Anh h xs ys (by simpa using b) (fun z c=>h1 z (by simp [c])) (fun z c=>h2 z (by simp [c]))]
  unfold orI; split <;> split <;> omega
 | [],_::_,b,_,_=>by simp at b
 | _::_,[],b,_,_=>by simp at b
theorem Ani {α:Type} {S:α->Prop} {g:α->α->Int} (h:Ej S g):∀l m n:List α,l.length=m.length->m.length=n.length->(∀x∈l,S x)->(∀x∈m,S x)->(∀x∈n,S x)->E7 g l m<0->E7 g m n<0->E7 g l n<0
 | [],[],_,_,_,_,_,_=>by intro h; simp [E7] at h
 | x::xs,y::ys,z::i,f,hm,h1,h2,h3=>by
  simp only [E7,Ane]
  have j:=h.zero x y (h1 x (by simp)) (h2 y (by simp))
  have z2:=h.zero y z (h2 y (by simp)) (h3 z (by simp))
  have t1:=h.trans x y z (h1 x (by simp)) (h2 y (by simp)) (h3 z (by simp))
  have t2:=Ani h xs ys i (by simpa using f) (by simpa using hm) (fun z c=>h1 z (by simp [c])) (fun z c=>h2 z (by simp [c])) (fun z c=>h3 z (by simp [c]))
  rintro (a | ⟨a,q⟩) (b | ⟨b,k⟩)
  .exact .inl (t1 a b)
  .rw [<-z2.1 b]; exact .inl a
  .rw [j.1 a]; exact .inl b
  .rw [<-z2.1 b,a]; exact .inr ⟨rfl,t2 q k⟩
 | _::_,_::_,[],_,hm,_,_,_=>by simp at hm
 | [],_::_,_,f,_,_,_,_=>by simp at f
 | _::_,[],_,f,_,_,_,_=>by simp at f
theorem Ej.ll {α:Type} {S:α->Prop} {g:α->α->Int} (h:Ej S g):Ej (fun l=>∀x∈l,S x) (LL g):=by
 have c:=Ej.cmpI
 refine ⟨fun a b ha hb=>?_,fun a b ha hb=>?_,fun x y z hx hy q=>?_⟩
 .unfold LL
  split
  .rename_i i; exact Ang h a b i ha hb
  .rename_i i
   rw [H7]
   exact ⟨fun e=>(i (by omega)).elim,fun e=>(i (by rw [e])).elim⟩
 .unfold LL
  by_cases i:a.length=b.length
  .rw [if_pos i,if_pos i.symm]; exact Anh h a b i ha hb
  .rw [if_neg i,if_neg (fun e=>i e.symm)]; exact c.anti _ _ trivial trivial
 .unfold LL
  intro h1 h2
  have neg:∀a b:Int,Go.Ab.Ei a b<0->a<b:=by intro a b h; unfold Go.Ab.Ei at h; split at h <;> (try split at h) <;> omega
  have f:∀a b:Int,a<b->Go.Ab.Ei a b<0:=by intro a b h; unfold Go.Ab.Ei; rw [if_pos h]; decide
  by_cases k:x.length=y.length
  .rw [if_pos k] at h1
   by_cases j:y.length=z.length
   .rw [if_pos j] at h2; rw [if_pos (by omega)]; exact Ani h x y z k j hx hy q h1 h2
   .rw [if_neg j] at h2; rw [if_neg (by omega)]
    have:=neg _ _ h2; exact f _ _ (by omega)
  .rw [if_neg k] at h1
   have:=neg _ _ h1
   by_cases j:y.length=z.length
   .rw [if_neg (by omega)]; exact f _ _ (by omega)
   .rw [if_neg j] at h2
    have:=neg _ _ h2
    rw [if_neg (by omega)]; exact f _ _ (by omega)
theorem Anj {α:Type} (g:α->α->Int) (l m:List α) (y:Int):orI (LL g l m) y=if l.length=m.length then orI (E7 g l m) y else Go.Ab.Ei l.length m.length:=by
 unfold LL
 by_cases h:l.length=m.length
 .rw [if_pos h,if_pos h]
 .rw [if_neg h,if_neg h]
  unfold orI
  rw [if_neg (fun e=>h (by have:=H7.1 e; omega))]
theorem Ayv:Ej (fun _=>True) W3 :=
 (Ej.or (S:=fun _=>True) (fun t:Bf=>t.Var) (fun t=>t.Coef) (fun a b h1 h2=>by cases a; cases b; cases h1; cases h2; rfl) Ej.cmpI Ej.cmpI (fun _ _=>⟨trivial,trivial⟩)).congr fun _ _=>rfl
theorem G5:Ej (fun _=>True) Ev :=
 (Ej.or (S:=fun _=>True) (fun t:Ar=>t.Terms) (fun t=>t.Const) (fun a b h1 h2=>by cases a; cases b; cases h1; cases h2; rfl) Ayv.ll Ej.cmpI (fun _ _=>⟨fun _ _=>trivial,trivial⟩)).congr fun a b=>by
  show Ev a b=orI (LL W3 a.Terms b.Terms) (Go.Ab.Ei a.Const b.Const)
  rw [Anj]; rfl
theorem Ayw (i j:Bs):Lw i j=orI (Go.Ab.Ei i.Num j.Num) (LL Lw i.Kids j.Kids):=by
 rw [Amw,Afv]
 unfold orI LL
 by_cases h:i.Num=j.Num
 .rw [if_pos h,if_pos (H7.2 h)]
 .rw [if_neg h,if_neg (fun e=>h (H7.1 e))]
theorem Afx:∀n:Nat,Ej (fun i=>Dm i<=n) Lw:=by
 intro n
 induction n with
 | zero=>exact ⟨fun a _ ha=>by have:=Hg a; omega,fun a _ ha=>by have:=Hg a; omega,fun a _ _ ha=>by have:=Hg a; omega⟩
 | succ n ih=>
  refine (Ej.or (S:=fun i=>Dm i<=n+1) (fun i:Bs=>i.Num) (fun i=>i.Kids) (fun a b h1 h2=>by cases a; cases b; cases h1; cases h2; rfl) Ej.cmpI ih.ll ?_).congr Ayw
  intro i c
  refine ⟨trivial,fun x hx=>?_⟩
  have h1:=Ra hx
  have h2:=Hg i
  show Dm x<=n
  omega
theorem Ayx:Ej (fun _=>True) Lw :=
 ⟨fun a b _ _=>(Afx (max (Dm a) (Dm b))).zero a b (by show Dm a<=_; omega) (by show Dm b<=_; omega),fun a b _ _=>(Afx (max (Dm a) (Dm b))).anti a b (by show Dm a<=_; omega) (by show Dm b<=_; omega),
  fun a b c _ _ _=>(Afx (max (Dm a) (max (Dm b) (Dm c)))).trans a b c (by show Dm a<=_; omega) (by show Dm b<=_; omega) (by show Dm c<=_; omega)⟩
theorem Ayy:Ej (fun _=>True) T3 :=
 (Ej.or (S:=fun _=>True) (fun t:Bz=>t.Var) (fun t=>t.Index) (fun a b h1 h2=>by cases a; cases b; cases h1; cases h2; rfl) Ej.cmpI Ayx (fun _ _=>⟨trivial,trivial⟩)).congr fun _ _=>rfl
theorem Ayz:Ej (fun _=>True) W4 :=
 (Ej.or (S:=fun _=>True) (fun t:A6=>t.Lin) (fun t=>t.Deg) (fun a b h1 h2=>by cases a; cases b; cases h1; cases h2; rfl) G5 Ej.cmpI (fun _ _=>⟨trivial,trivial⟩)).congr fun _ _=>rfl
theorem Afy:Ej (fun _=>True) Da :=
 (Ej.or (S:=fun _=>True) (fun t:Ba=>t.Factors) (fun t=>t.Atoms) (fun a b h1 h2=>by cases a; cases b; cases h1; cases h2; rfl) Ayy.ll Ayz.ll (fun _ _=>⟨fun _ _=>trivial,fun _ _=>trivial⟩)).congr fun a b=>by
  show Da a b=orI (LL T3 a.Factors b.Factors) (LL W4 a.Atoms b.Atoms)
  rw [Anj]; rfl
theorem Jl {a b:Ba}:Da a b=0↔a=b:=Afy.zero a b trivial trivial
theorem T7 (a b:Ba):Da b a = - Da a b:=Afy.anti a b trivial trivial
theorem T8 {a b c:Ba} (h:Da a b<0) (h':Da b c<0):Da a c<0:=Afy.trans a b c trivial trivial trivial h h'
end Go.Ab
namespace Go.Ab
open Go
theorem Ank (m:Ba):Da m m=0:=Jl.2 rfl
theorem Afz {a b:Ba}:0<Da a b↔Da b a<0:=by rw [T7 a b]; omega
def cf:List Ah->Ba->Rat
 | [],_=>0
 | t::p,m=>(if Da t.Mono m=0 then rq t.Coef else 0)+cf p m
def ltT (t u:Ah):Prop:=Da t.Mono u.Mono<0
structure CP (p:List Ah):Prop where
 srt:p.Pairwise ltT
 coe:∀t∈p,Hh t.Coef/\rq t.Coef≠0
theorem CP.tail {t:Ah} {p:List Ah} (h:CP (t::p)):CP p:=⟨(List.pairwise_cons.1 h.srt).2,fun u hu=>h.coe u (by simp [hu])⟩
theorem CP.head {t:Ah} {p:List Ah} (h:CP (t::p)):∀u∈p,Da t.Mono u.Mono<0:=(List.pairwise_cons.1 h.srt).1
theorem CP.nil:CP []:=⟨List.Pairwise.nil,fun _ h=>by cases h⟩
theorem CP.cons {t:Ah} {p:List Ah} (h:CP p) (h1:∀u∈p,Da t.Mono u.Mono<0) (h2:Hh t.Coef) (h3:rq t.Coef≠0):CP (t::p) :=
 ⟨List.pairwise_cons.2 ⟨h1,h.srt⟩,fun u hu=>by
  rcases List.mem_cons.1 hu with rfl | hu
  .exact ⟨h2,h3⟩
  .exact h.coe u hu⟩
theorem Aa7 {p:List Ah} {m:Ba} (h:∀t∈p,Da t.Mono m≠0):cf p m=0:=by
 induction p with
 | nil=>rfl
 | cons t p ih=>
  simp only [cf]
  rw [if_neg (h t (by simp)),ih (fun u hu=>h u (by simp [hu]))]; grind
theorem Rj {p:List Ah} {m:Ba} (h:∀t∈p,Da m t.Mono<0):cf p m=0 :=
 Aa7 fun t ht e=>by have:=h t ht; rw [T7,e] at this; omega
theorem Rk {t:Ah} {p:List Ah} (h:CP (t::p)):cf (t::p) t.Mono=rq t.Coef:=by
 simp only [cf]
 rw [if_pos (Ank _),Rj h.head]; grind
theorem Af0 {t:Ah} {p:List Ah} {m:Ba} (h:Da t.Mono m≠0):cf (t::p) m=cf p m:=by
 simp only [cf]; rw [if_neg h]; grind
theorem Rl (p q:List Ah) (m:Ba):cf (p++q) m=cf p m+cf q m:=by
 induction p with
 | nil=>simp only [List.nil_append,cf]; grind
 | cons t p ih=>simp only [List.cons_append,cf,ih]; grind
theorem Lz {p:List Ah} (h:CP p) {t:Ah} (ht:t∈p):cf p t.Mono=rq t.Coef:=by
 induction p with
 | nil=>cases ht
 | cons u p ih=>
  rcases List.mem_cons.1 ht with rfl | ht
  .exact Rk h
  .have:=h.head t ht
   rw [Af0 (by omega)]; exact ih h.tail ht
theorem CP.ext:∀{p q:List Ah},CP p->CP q->(∀m,cf p m=cf q m)->p=q
 | [],[],_,_,_=>rfl
 | [],u::q,_,h2,h=>by
  have:=h u.Mono
  rw [Rk h2] at this
  exact ((h2.coe u (by simp)).2 this.symm).elim
 | t::p,[],h1,_,h=>by
  have:=h t.Mono
  rw [Rk h1] at this
  exact ((h1.coe t (by simp)).2 this).elim
 | t::p,u::q,h1,h2,h=>by
  have b:Da t.Mono u.Mono=0:=by
   rcases Int.lt_trichotomy (Da t.Mono u.Mono) 0 with k | k | k
   .have e:=h t.Mono
    rw [Rk h1,Rj (p:=u::q)] at e
    .exact ((h1.coe t (by simp)).2 e).elim
    .intro w hw
     rcases List.mem_cons.1 hw with rfl | hw
     .exact k
     .exact T8 k (h2.head w hw)
   .exact k
   .have k:=Afz.1 k
    have e:=h u.Mono
    rw [Rk h2,Rj (p:=t::p)] at e
    .exact ((h2.coe u (by simp)).2 e.symm).elim
    .intro w hw
     rcases List.mem_cons.1 hw with rfl | hw
     .exact k
     .exact T8 k (h1.head w hw)
  have hm:=Jl.1 b
  have hc:t.Coef=u.Coef:=by
   refine W9 (h1.coe t (by simp)).1 (h2.coe u (by simp)).1 ?_
   have e:=h t.Mono
   rw [Rk h1,hm,Rk h2] at e
   exact e
  have ht:t=u:=by cases t; cases u; simp_all
  subst ht
  congr 1
  refine CP.ext h1.tail h2.tail fun m=>?_
  by_cases e:Da t.Mono m=0
  .rw [<-Jl.1 e,Rj h1.head,Rj h2.head]
  .have:=h m
   rwa [Af0 e,Af0 e] at this
theorem Anl (c:Ak):W8 c=true↔Hh c/\rq c≠0:=by
 unfold W8 Hh
 rw [C9,Am8]
 have h:(!(nv c==0))=true↔rq c≠0:=by
  have e:rq c=0↔nv c=0:=by
   unfold rq
   rw [Rat.mkRat_eq_zero (E6 c)]
   unfold sg; split <;> omega
  rw [Ne,e]; simp
 rw [h]
 exact ⟨fun ⟨a,b⟩=>⟨a.symm,b⟩,fun ⟨a,b⟩=>⟨a.symm,b⟩⟩
theorem Ay0 {l:List Ah} (h:∀(j:Nat) (x y:Ah),l[j]? = some x->l[j+1]? = some y->Da x.Mono y.Mono<0):l.Pairwise ltT:=by
 induction l with
 | nil=>exact List.Pairwise.nil
 | cons t l ih=>
  have ih:=ih fun j x y hx hy=>h (j+1) x y (by simpa using hx) (by simpa using hy)
  refine List.pairwise_cons.2 ⟨?_,ih⟩
  cases l with
  | nil=>intro u hu; cases hu
  | cons v l=>
   have h0:=h 0 t v rfl rfl
   intro u hu
   rcases List.mem_cons.1 hu with rfl | hu
   .exact h0
   .exact T8 h0 ((List.pairwise_cons.1 ih).1 u hu)
theorem Xa {data:List A9} {vars:List Aj} {res:Aj} {p:List Ah}:Hr data vars res p=true↔p.length<=1000/\CP p/\∀t∈p,H8 data vars res t.Mono=true:=by
 unfold Hr
 rw [C9,decide_eq_true_eq]
 constructor
 .rintro ⟨h1,h2⟩
  have g:∀(j:Nat) (t:Ah),p[j]? = some t->W8 t.Coef=true/\H8 data vars res t.Mono=true/\Rg p t j=true:=by
   intro j t hj
   have:=Jf h2 hj
   simp only [T6,C9] at this
   exact ⟨this.1.1,this.1.2,this.2⟩
  refine ⟨h1,⟨Ay0 fun j x y hx hy=>?_,fun t ht=>?_⟩,fun t ht=>?_⟩
  .have:=(g _ _ hy).2.2
   unfold Rg at this
   rw [show j+1-1=j by omega,hx] at this
   simpa using this
  .obtain ⟨j,hj⟩:=List.getElem?_of_mem ht
   exact (Anl _).1 (g j t hj).1
  .obtain ⟨j,hj⟩:=List.getElem?_of_mem ht
   exact (g j t hj).2.1
 .rintro ⟨h1,h2,h3⟩
  refine ⟨h1,List.all_eq_true.2 fun q hq=>?_⟩
  have hq:=List.mem_zipIdx' hq
  have hj:p[q.2]? = some q.1:=(B7 hq.1).trans (congrArg some hq.2.symm)
  have hm:q.1∈p:=Ct hj
  simp only [T6,C9]
  refine ⟨⟨(Anl _).2 (h2.coe _ hm),h3 _ hm⟩,?_⟩
  unfold Rg
  by_cases h0:q.2=0
  .rw [h0]; rfl
  .have b:q.2-1<p.length:=by omega
   rw [B7 b]
   have:=List.pairwise_iff_getElem.1 h2.srt (q.2-1) q.2 b hq.1 (by omega)
   rw [<-hq.2] at this
   simp only [Bool.or_eq_true,decide_eq_true_eq]
   exact .inr this
end Go.Ab
namespace Go.Ab
open Go
theorem Ay1:∀(k:Nat) (t:Bs),Dm t<=k->k<1099511627776->Qg k t=some t:=by
 intro k
 induction k with
 | zero=>intro t h; have:=Hg t; omega
 | succ k ih=>
  intro t h hk
  have c:=Hg t
  have b:=Tz t.Kids
  rw [Qg]
  refine Iu t.Kids (fun j=>((j:Int),(t.Kids.take j))) rfl (by omega) ?_ ?_
  .intro j x hj hx h1 h2 h3
   have:=Ra (Ct hx)
   simp only [h1,h2,h3,cond_true,Ad,ih x (by omega) (by omega)]
   rw [Dj (by simp; omega),Ad,Dk hx]
  .intro h1
   exact ⟨t.Kids,by simp,by cases t; rfl⟩
theorem Ay2 (m:Ba) (b:MSz m):Vv m=some m:=by
 have f:=b.nf
 have c:=b.na
 unfold Vv
 refine Iu m.Factors (fun j=>((j:Int),(m.Factors.take j))) rfl (by omega) ?_ ?_
 .intro j x hj hx h1 h2 h3
  have hm:=Ct hx
  have:=b.fi x hm
  simp only [h1,h2,h3,cond_true,Ad,Ay1 4000000 x.Index (by omega) (by omega)]
  rw [Dj (by simp; omega),Ad,Dk hx]
 .intro h1
  refine ⟨m.Factors,by simp,?_⟩
  dsimp only
  refine Iu m.Atoms (fun j=>((j:Int),(m.Atoms.take j))) rfl (by omega) ?_ ?_
  .intro j x hj hx h1 h2 h3
   have hm:=Ct hx
   have:=b.al x hm
   simp only [h1,h2,h3,cond_true,Ad,Sy]
   rw [Dj (by simp; omega),Ad,Dj (by simp; omega),Ad,Dk hx]; rfl
  .intro h1
   exact ⟨m.Atoms,by simp,by cases m; rfl⟩
end Go.Ab
namespace Go.Ab
open Go
structure TB (k:Nat) (t:Ah):Prop where
 co:RB k t.Coef
 mo:MSz t.Mono
theorem TSz.tb {t:Ah} (h:TSz t):TB 1048576 t:=⟨h.co,h.mo⟩
theorem TB.mono {j k:Nat} {t:Ah} (h:TB j t) (hk:j<=k):TB k t:=⟨h.co.mono hk,h.mo⟩
def Rm (c:Ak) (m:Ba):List Ah:=if nv c=0 then [] else [⟨Bt (sv c) (nv c) (dv c),m⟩]
theorem Anm (c:Ak):rq c=0↔nv c=0:=by
 unfold rq
 rw [Rat.mkRat_eq_zero (E6 c)]
 unfold sg; split <;> omega
theorem Ay3 (c:Ak) (m n:Ba):cf (Rm c m) n=if Da m n=0 then rq c else 0:=by
 unfold Rm
 split
 .rename_i h
  rw [(Anm c).2 h]; simp [cf]
 .simp only [cf,Ly _ _ _ (E6 c)]
  show (if Da m n=0 then rq c else 0)+0=_
  grind
structure Mg (F:Rat->Rat->Rat) (k:Nat) (p q R:List Ah):Prop where
 cp:CP R
 val:∀m,cf R m=F (cf p m) (cf q m)
 mon:∀t∈R,(∃u∈p,u.Mono=t.Mono)\/(∃u∈q,u.Mono=t.Mono)
 len:R.length<=p.length+q.length
 rb:∀t∈R,RB (k+1) t.Coef
theorem Ay4 {k:Nat} {c:Ak} {m:Ba} (hc:RB k c):(∀t∈Rm c m,t.Mono=m/\Hh t.Coef/\rq t.Coef≠0/\RB (k+1) t.Coef)/\(Rm c m).length<=1:=by
 unfold Rm
 split
 .exact ⟨fun _ h=>(by cases h),by simp⟩
 .rename_i h
  refine ⟨fun t ht=>?_,by simp⟩
  simp only [List.mem_singleton] at ht
  subst ht
  exact ⟨rfl,O8 _ _ _ (E6 c),by rw [Ly _ _ _ (E6 c)]; exact fun e=>h ((Anm c).1 e),Alm hc⟩
theorem Mg.step {F:Rat->Rat->Rat} {k:Nat} {p q g f R:List Ah} {c:Ak} {m:Ba} (h:Mg F k g f R) (y:F 0 0=0) (hc:RB k c)
  (s:∀n,Da m n≠0->cf p n=cf g n/\cf q n=cf f n) (h0:rq c=F (cf p m) (cf q m)) (l:∀u∈g,Da m u.Mono<0) (j:∀u∈f,Da m u.Mono<0)
  (hm:(∃u∈p,u.Mono=m)\/(∃u∈q,u.Mono=m)) (hp:∀u∈g,u∈p) (hq:∀u∈f,u∈q) (A:g.length+f.length+1<=p.length+q.length):Mg F k p q (Rm c m++R):=by
 obtain ⟨i,z⟩:=Ay4 (m:=m) hc
 have x:∀t∈R,Da m t.Mono<0:=by
  intro t ht
  rcases h.mon t ht with ⟨u,hu,e⟩ | ⟨u,hu,e⟩
  .rw [<-e]; exact l u hu
  .rw [<-e]; exact j u hu
 refine ⟨?_,?_,?_,?_,?_⟩
 .refine ⟨List.pairwise_append.2 ⟨?_,h.cp.srt,?_⟩,?_⟩
  .unfold Rm; split
   .exact List.Pairwise.nil
   .exact List.pairwise_singleton _ _
  .intro a ha b hb
   show Da a.Mono b.Mono<0
   rw [(i a ha).1]; exact x b hb
  .intro t ht
   rcases List.mem_append.1 ht with ht | ht
   .exact ⟨(i t ht).2.1,(i t ht).2.2.1⟩
   .exact h.cp.coe t ht
 .intro n
  rw [Rl,Ay3,h.val n]
  by_cases e:Da m n=0
  .rw [if_pos e]
   have e':=Jl.1 e
   subst e'
   rw [Rj l,Rj j,y,h0]; grind
  .rw [if_neg e,(s n e).1,(s n e).2]; grind
 .intro t ht
  rcases List.mem_append.1 ht with ht | ht
  .rw [(i t ht).1]; exact hm
  .rcases h.mon t ht with ⟨u,hu,e⟩ | ⟨u,hu,e⟩
   .exact .inl ⟨u,hp u hu,e⟩
   .exact .inr ⟨u,hq u hu,e⟩
 .rw [List.length_append]; have:=h.len; omega
 .intro t ht
  rcases List.mem_append.1 ht with ht | ht
  .exact (i t ht).2.2.2
  .exact h.rb t ht
end Go.Ab
namespace Go.Ab
open Go
def Hi (n:Int) (f:Bool):List Int:=if f then (if n<0 then [45] else []) else (if n<0 then [32,45,32] else [32,43,32])
def Ii (n:Int):List Int:=if n.natAbs=1 then [] else ti n.natAbs++[42]
def Hs (v:Int):List Int:=if v = -1 then [114,101,115] else 118::ti v
def tT (f:Bool) (t:Bf):List Int:=Hi t.Coef f++(Ii t.Coef++Hs t.Var)
def Gr:Bool->List Bf->Int->List Int
 | f,[],c=>if c≠0\/f=true then Hi c f++ti c.natAbs else []
 | f,t::ts,c=>tT f t++Gr false ts c
def Xb (l:Ar):List Int:=Gr true l.Terms l.Const
def Ht (X:List Int):Prop:=∀c m,X=c::m->c=97
theorem Ht.nil:Ht []:=by intro c m h; cases h
theorem Ht.cons (X:List Int):Ht (97::X):=by intro c m h; cases h; rfl
theorem Ht.nonum {X:List Int} (h:Ht X):Ka X:=by intro c m e; rw [h c m e]; decide
theorem Af1 (n:Nat):∃c m,ti n=c::m/\48<=c/\c<=57:=by
 have b:=Afn (n:Int)
 cases h:ti (n:Int) with
 | nil=>exact (b h).elim
 | cons c m=>
  refine ⟨c,m,rfl,?_⟩
  have hc:c∈ti (n:Int):=by rw [h]; simp
  unfold ti at hc
  obtain ⟨x,hx,rfl⟩:=List.mem_map.1 hc
  have e:Lib.itoa (n:Int)=Lib.decDigits n:=by
   unfold Lib.itoa
   first | rfl | (rw [if_neg (by omega)]; simp) | simp
  rw [e] at hx
  have:=Aa0 n n (Nat.le_refl _) x hx
  omega
theorem Ano (ts:List Bf) (c:Int) {X:List Int} (b:Ht X):Ka (Gr false ts c++X):=by
 have k:∀(n:Int) (Y:List Int),Ka (Hi n false++Y):=by
  intro n Y c m e
  unfold Hi at e
  simp only [Bool.false_eq_true,if_false] at e
  split at e <;> (cases e; decide)
 cases ts with
 | nil=>
  simp only [Gr]
  split
  .rw [List.append_assoc]; exact k _ _
  .exact b.nonum
 | cons t ts=>simp only [Gr,tT,List.append_assoc]; exact k _ _
theorem Anp {v w:Int} {R S:List Int} (c:Ka R) (b:Ka S) (h:Hs v++R=Hs w++S):v=w/\R=S:=by
 unfold Hs at h
 split at h <;> split at h
 .simp only [List.cons_append,List.nil_append,List.cons.injEq,true_and] at h
  exact ⟨by omega,h⟩
 .simp at h
 .simp at h
 .simp only [List.cons_append,List.cons.injEq,true_and] at h
  obtain ⟨g,f⟩:=Ns _ _ _ _ (Gz v) (Gz w) c b h
  exact ⟨Rb g,f⟩
theorem Af2 (v:Int):∃c m,Hs v=c::m/\(c=114\/c=118):=by
 unfold Hs
 split
 .exact ⟨_,_,rfl,.inl rfl⟩
 .exact ⟨_,_,rfl,.inr rfl⟩
theorem Af3 (X:List Int):Ka (42::X):=by intro c m e; cases e; decide
theorem Ay5 {a b v w:Int} {R S:List Int} (i:Ka R) (g:Ka S) (h:Ii a++(Hs v++R)=Ii b++(Hs w++S)):a.natAbs=b.natAbs/\v=w/\R=S:=by
 unfold Ii at h
 have bad:∀(n:Nat) (u:Int) (X Y:List Int),Hs u++X=ti n++[42]++Y->False:=by
  intro n u X Y e
  obtain ⟨c,m,f,l⟩:=Af2 u
  obtain ⟨d,k,j,e4⟩:=Af1 n
  rw [f,j] at e
  simp only [List.cons_append,List.cons.injEq] at e
  omega
 split at h <;> split at h
 .rename_i h1 h2
  simp only [List.nil_append] at h
  exact ⟨h1.trans h2.symm,Anp i g h⟩
 .exact (bad _ _ _ _ h).elim
 .exact (bad _ _ _ _ h.symm).elim
 .simp only [List.append_assoc,List.cons_append,List.nil_append] at h
  obtain ⟨f,l⟩:=Ns _ _ _ _ (Gz _) (Gz _) (Af3 _) (Af3 _) h
  have j:=Rb f
  obtain ⟨e4,q⟩:=Anp i g (List.cons.inj l).2
  exact ⟨by omega,e4,q⟩
def NoM (P:List Int):Prop:=∃c m,P=c::m/\c≠45
theorem NoM.ti (n:Nat) (X:List Int):NoM (Go.Ab.ti n++X):=by
 obtain ⟨c,m,e,h⟩:=Af1 n
 exact ⟨c,m++X,by rw [e]; rfl,by omega⟩
theorem NoM.pT (a v:Int) (X:List Int):NoM (Ii a++(Hs v++X)):=by
 unfold Ii
 split
 .obtain ⟨c,m,e,h⟩:=Af2 v
  exact ⟨c,m++X,by rw [e]; rfl,by omega⟩
 .rw [List.append_assoc]; exact NoM.ti _ _
theorem Af4 {a b:Int} {f:Bool} {P Q:List Int} (i:NoM P) (g:NoM Q) (h:Hi a f++P=Hi b f++Q):(a<0↔b<0)/\P=Q:=by
 obtain ⟨c,m,rfl,hc⟩:=i
 obtain ⟨d,k,rfl,hd⟩:=g
 unfold Hi at h
 cases f with
 | true=>
  simp only [if_true] at h
  split at h <;> split at h
  .rename_i h1 h2; exact ⟨by simp [h1,h2],by simpa using h⟩
  .simp at h; exact (hd h.1.symm).elim
  .simp at h; exact (hc h.1).elim
  .rename_i h1 h2; exact ⟨by simp [h1,h2],by simpa using h⟩
 | false=>
  simp only [Bool.false_eq_true,if_false] at h
  split at h <;> split at h
  .rename_i h1 h2; exact ⟨by simp [h1,h2],by simpa using h⟩
  .simp at h
  .simp at h
  .rename_i h1 h2; exact ⟨by simp [h1,h2],by simpa using h⟩
theorem Af5 {n:Int} {P X:List Int} (b:Ht X) (h:Hi n false++P=X):False:=by
 unfold Hi at h
 simp only [Bool.false_eq_true,if_false] at h
 split at h
 .have:=b _ _ h.symm; omega
 .have:=b _ _ h.symm; omega
theorem Anq {c d:Int} {f:Bool} {u:Bf} {m:List Bf} {X Y:List Int} (b:Ht X) (l:Ht Y) (h:Gr f [] c++X=Gr f (u::m) d++Y):False:=by
 simp only [Gr,tT] at h
 split at h
 .simp only [List.append_assoc] at h
  obtain ⟨_,e⟩:=Af4 (NoM.ti _ _) (NoM.pT _ _ _) h
  unfold Ii at e
  split at e
  .obtain ⟨s,m1,k,h1⟩:=Af2 u.Var
   obtain ⟨q,m2,g,h2⟩:=Af1 c.natAbs
   rw [k,g] at e
   simp only [List.nil_append,List.cons_append,List.cons.injEq] at e
   omega
  .simp only [List.append_assoc,List.cons_append,List.nil_append] at e
   obtain ⟨_,g⟩:=Ns _ _ _ _ (Gz _) (Gz _) b.nonum (Af3 _) e
   have:=b _ _ g; omega
 .rename_i i
  have j:f=false:=by cases f with | true=>simp at i | false=>rfl
  subst j
  simp only [List.nil_append,List.append_assoc] at h
  exact Af5 b h.symm
theorem Anr:∀(l m:List Bf) (f:Bool) (c d:Int) (X Y:List Int),Ht X->Ht Y->Gr f l c++X=Gr f m d++Y->l=m/\c=d/\X=Y
 | [],[],f,c,d,X,Y,g,b,h=>by
  simp only [Gr] at h
  split at h <;> split at h
  .simp only [List.append_assoc] at h
   obtain ⟨x,q⟩:=Af4 (NoM.ti _ _) (NoM.ti _ _) h
   obtain ⟨j,e4⟩:=Ns _ _ _ _ (Gz _) (Gz _) g.nonum b.nonum q
   have s:=Rb j
   exact ⟨rfl,by omega,e4⟩
  .rename_i h1 h2
   have i:f=false:=by cases f with | true=>simp at h2 | false=>rfl
   subst i
   simp only [List.append_assoc,List.nil_append] at h
   exact (Af5 b h).elim
  .rename_i h1 h2
   have i:f=false:=by cases f with | true=>simp at h1 | false=>rfl
   subst i
   simp only [List.append_assoc,List.nil_append] at h
   exact (Af5 g h.symm).elim
  .rename_i h1 h2
   refine ⟨rfl,?_,by simpa using h⟩
   have a1:c=0:=by by_cases k:c=0; exact k; exact (h1 (.inl k)).elim
   have a2:d=0:=by by_cases k:d=0; exact k; exact (h2 (.inl k)).elim
   omega
 | [],u::m,f,c,d,X,Y,g,b,h=>(Anq g b h).elim
 | t::l,[],f,c,d,X,Y,g,b,h=>(Anq b g h.symm).elim
 | t::l,u::m,f,c,d,X,Y,g,b,h=>by
  simp only [Gr,tT,List.append_assoc] at h
  obtain ⟨x,q⟩:=Af4 (NoM.pT _ _ _) (NoM.pT _ _ _) h
  obtain ⟨j,e4,s⟩:=Ay5 (Ano _ _ g) (Ano _ _ b) q
  obtain ⟨A,z,y⟩:=Anr l m false c d X Y g b s
  have:t=u:=by
   cases t; cases u
   simp only at x j e4
   subst e4
   congr 1; omega
  exact ⟨by rw [this,A],z,y⟩
def Gq (a:A6):List Int:=97::(ti a.Deg++58::Xb a.Lin)
def Fe (f:Bz):List Int:=H6 f.Var f.Index
def Xc (m:Ba):List Int:=m.Factors.flatMap Fe++m.Atoms.flatMap Gq
theorem Aa8 (l:List A6):Ht (l.flatMap Gq):=by
 cases l with
 | nil=>exact Ht.nil
 | cons a l=>simp only [List.flatMap_cons,Gq,List.cons_append]; exact Ht.cons _
theorem Aa9 (X:List Int):Ka (58::X):=by intro c m e; cases e; decide
theorem Ans:∀(l m:List A6),l.flatMap Gq=m.flatMap Gq->l=m
 | [],[],_=>rfl
 | [],b::m,h=>by simp [Gq] at h
 | a::l,[],h=>by simp [Gq] at h
 | a::l,b::m,h=>by
  simp only [List.flatMap_cons,Gq,List.cons_append,List.append_assoc,List.cons.injEq,true_and] at h
  obtain ⟨q,k⟩:=Ns _ _ _ _ (Gz _) (Gz _) (Aa9 _) (Aa9 _) h
  have j:=(List.cons.inj k).2
  obtain ⟨e4,f,i⟩:=Anr _ _ true _ _ _ _ (Aa8 l) (Aa8 m) j
  have g:=Ans l m i
  have c:=Rb q
  obtain ⟨⟨u,t1⟩,d1⟩:=a
  obtain ⟨⟨s,t2⟩,d2⟩:=b
  simp only at e4 f c
  rw [e4,f,c,g]
theorem Ant (l:List Bz) {X:List Int} (b:Ht X):O6 (l.flatMap Fe++X):=by
 cases l with
 | nil=>intro c m e; rw [b c m e]; exact ⟨by decide,by decide⟩
 | cons a l=>
  intro c m e
  simp only [List.flatMap_cons,Fe,H6,List.cons_append] at e
  cases e; exact ⟨by decide,by decide⟩
theorem Anu:∀(l m:List Bz) (X Y:List Int),Ht X->Ht Y->l.flatMap Fe++X=m.flatMap Fe++Y->l=m/\X=Y
 | [],[],X,Y,_,_,h=>⟨rfl,by simpa using h⟩
 | [],b::m,X,Y,f,_,h=>by
  simp only [List.flatMap_cons,List.flatMap_nil,Fe,H6,List.cons_append,List.nil_append] at h
  have:=f _ _ h; omega
 | a::l,[],X,Y,_,c,h=>by
  simp only [List.flatMap_cons,List.flatMap_nil,Fe,H6,List.cons_append,List.nil_append] at h
  have:=c _ _ h.symm; omega
 | a::l,b::m,X,Y,f,c,h=>by
  simp only [List.flatMap_cons,Fe,H6,List.cons_append,List.append_assoc,List.cons.injEq,true_and] at h
  obtain ⟨u,s⟩:=Ns _ _ _ _ (Gz _) (Gz _) (Aa9 _) (Aa9 _) h
  have q:=(List.cons.inj s).2
  obtain ⟨e4,k⟩:=Afp _ _ _ _ (Ant l f) (Ant m c) q
  obtain ⟨j,i⟩:=Anu l m X Y f c k
  have g:=Rb u
  obtain ⟨x,i1⟩:=a
  obtain ⟨v2,i2⟩:=b
  simp only at e4 g
  exact ⟨by rw [e4,g,j],i⟩
theorem Ay6 {m n:Ba} (h:Xc m=Xc n):m=n:=by
 obtain ⟨c,f⟩:=Anu _ _ _ _ (Aa8 _) (Aa8 _) h
 have b:=Ans _ _ f
 cases m; cases n
 simp only at c b
 rw [c,b]
def By (l:List Int):Prop:=∀c∈l,0<=c/\c<256
theorem By.app {l m:List Int} (h:By l) (h':By m):By (l++m):=by
 intro c hc
 rcases List.mem_append.1 hc with k | k
 .exact h c k
 .exact h' c k
theorem By.ti (n:Int):By (Go.Ab.ti n):=by
 intro c h
 have:=Gz n c h
 simp only [Nr,Bool.or_eq_true,C9,beq_iff_eq,decide_eq_true_eq] at this
 omega
theorem By.cons {c:Int} {l:List Int} (hc:0<=c/\c<256) (h:By l):By (c::l):=by
 intro d hd
 rcases List.mem_cons.1 hd with rfl | k
 .exact hc
 .exact h d k
theorem By.nil:By []:=fun c h=>by cases h
theorem By.sgn (n:Int) (f:Bool):By (Hi n f):=by
 unfold Hi
 split <;> split <;> intro c hc <;> simp at hc <;> omega
theorem By.mag (n:Int):By (Ii n):=by
 unfold Ii
 split
 .exact By.nil
 .exact (By.ti _).app (By.cons (by omega) By.nil)
theorem By.var (n:Int):By (Hs n):=by
 unfold Hs
 split
 .intro c hc; simp at hc; omega
 .exact By.cons (by omega) (By.ti _)
theorem By.tT (f:Bool) (t:Bf):By (tT f t):=(By.sgn _ _).app ((By.mag _).app (By.var _))
theorem By.lins:∀(l:List Bf) (f:Bool) (c:Int),By (Gr f l c)
 | [],f,c=>by
  simp only [Gr]
  split
  .exact (By.sgn _ _).app (By.ti _)
  .exact By.nil
 | t::l,f,c=>(By.tT f t).app (By.lins l false c)
theorem By.at (a:A6):By (Gq a):=By.cons (by omega) ((By.ti _).app (By.cons (by omega) (By.lins _ _ _)))
theorem By.flat {α:Type} {g:α->List Int} (h:∀a,By (g a)) (l:List α):By (l.flatMap g):=by
 intro c hc
 obtain ⟨a,_,k⟩:=List.mem_flatMap.1 hc
 exact h a c k
theorem By.fac (f:Bz):By (Fe f):=Aa3 f.Var f.Index
theorem By.mono (m:Ba):By (Xc m):=(By.flat By.fac _).app (By.flat By.at _)
def bs (l:List Int):ByteArray:=⟨(D5 l).toArray⟩
theorem Ay7 {l m:List Int} (b:By l) (hm:By m) (h:bs l=bs m):l=m:=by
 unfold bs at h
 have h1:(D5 l).toArray=(D5 m).toArray:=by injection h
 have h2:D5 l=D5 m:=by simpa using congrArg Array.toList h1
 exact Afs _ _ b hm h2
def Jm (m:Ba):ByteArray:=bs (Xc m)
theorem Anv {m n:Ba} (h:Jm m=Jm n):m=n:=Ay6 (Ay7 (By.mono m) (By.mono n) h)
theorem Xd (l:List Int):(bs l).size=l.length:=by unfold bs D5; simp [ByteArray.size]
theorem Anw {l:List Int} (h:By l):Lf (bs l)=l:=by
 unfold Lf bs D5
 simp only [List.map_map]
 conv=>rhs; rw [<-List.map_id l]
 refine List.map_congr_left fun c hc=>?_
 have:=h c hc
 simp only [Function.comp,UInt8.toNat_ofNat',id]
 omega
theorem Ay8 (l m:List Int):bs l++bs m=bs (l++m):=by
 apply ByteArray.ext
 rw [ByteArray.data_append]
 unfold bs D5
 simp
theorem Rn {l m:List Int} (h:l.length+m.length<=9223372036854775807):E4 (bs l) (bs m)=some (bs (l++m)):=by
 unfold E4
 rw [if_pos (by rw [Xd,Xd]; exact h),Ay8]
theorem Aba {n:Int} (h:I64 n):M2 n=some (bs (ti n)):=by
 rw [Afr h]
 congr 2
 congr 1
 unfold D5 ti
 rw [List.map_map]
 conv=>lhs; rw [<-List.map_id (Lib.itoa n)]
 refine List.map_congr_left fun c _=>?_
 simp [Function.comp]
theorem Ay9 (v:Int) (i:Bs):G0 v i=bs (H6 v i):=rfl
end Go.Ab
namespace Go.Ab
open Go
theorem Abb {S E R α:Type} {step:S->Option (S⊕E)} {s0:S} {J:E->Option R} {r:R} (c:α) (xs:List α) (b:Nat->S) (h0:s0=b 0) (h:xs.length<2305843009213693952)
  (f:∀(j:Nat) (x:α),xs[j]? = some x->decide (((j+1:Nat):Int)<((c::xs).length:Int))=true->Ag (c::xs) ((j+1:Nat):Int)=some x->Ac (((j+1:Nat):Int)+1)=((j+1+1:Nat):Int)->step (b j)=some (.inl (b (j+1))))
  (g:decide (((xs.length+1:Nat):Int)<((c::xs).length:Int))=false->∃e,step (b xs.length)=some (.inr e)/\J e=some r):(Am step s0).bind J=some r:=by
 refine G3 xs.length b h0 (fun j hj=>?_) (g (by simp))
 have hx:xs[j]? = some xs[j]:=B7 hj
 exact f j _ hx (Al (by simp only [List.length_cons]; omega)) (Cj rfl (by simp)) (Db (n:=xs.length+1) (by omega) (by omega))
theorem bnd {α β:Type} {X:Option α} {a:α} {K:α->Option β} {r:Option β} (h:X=some a) (k:K a=r):X.bind K=r:=by rw [h]; exact k
theorem L0 {l b:List Int} (c:By l) (h:b.length+l.length<=140737488355328):Fz (bs l) b=some ((l.length:Int),b++l):=by
 simp only [Fz,To,Ad,Anw c,Xd]
 rw [Dj (by omega)]; rfl
theorem Ro {l b:List Int} (c:By l) (h:b.length+l.length<=140737488355328):Hn (bs l) b=some ((l.length:Int),b++l):=by
 simp only [Hn,V3,Ad,Anw c,Xd]
 rw [Dj (by omega)]; rfl
theorem O9 {b:List Int} (hb:By b):J1 b=some (bs b):=by
 exact if_pos hb
theorem Aza {b:List Int} (hb:By b):Wp b=some (bs b):=O9 hb
theorem Af6 (n:Int) (h : -1048576<=n/\n<=1048576):(Ii n).length<=22:=by
 unfold Ii
 split
 .simp
 .have:=Lv (n:=(n.natAbs:Int)) (by unfold I64; omega)
  simp; omega
theorem Abc (n:Int) (f:Bool):(Hi n f).length<=3:=by unfold Hi; split <;> split <;> simp
theorem Azb {v:Int} (h : -1<=v/\v<3000):(Hs v).length<=22:=by
 unfold Hs
 split
 .simp
 .have:=Lv (n:=v) (by unfold I64; omega)
  simp; omega
structure Anx (a:Ar):Prop where
 c : -1048576<=a.Const/\a.Const<=1048576
 n:a.Terms.length<=16
 t:∀t∈a.Terms,(-1<=t.Var/\t.Var<3000)/\(-1048576<=t.Coef/\t.Coef<=1048576)
theorem Af7 {a:Ar} (h:Cd a=true):Anx a:=by
 unfold Cd at h
 simp only [C9,decide_eq_true_eq] at h
 refine ⟨⟨h.1.1,h.1.2.1⟩,h.1.2.2,fun t ht=>?_⟩
 obtain ⟨j,hj⟩:=List.getElem?_of_mem ht
 have:=Jf h.2 hj
 simp only [Rf,C9,decide_eq_true_eq] at this
 omega
theorem Af8 {t:Bf} (f:Bool) (h:(-1<=t.Var/\t.Var<3000)/\(-1048576<=t.Coef/\t.Coef<=1048576)):(tT f t).length<=47:=by
 have:=Abc t.Coef f
 have:=Af6 t.Coef h.2
 have:=Azb h.1
 unfold tT
 simp only [List.length_append]; omega
theorem Anz {n:Int} (h : -1048576<=n/\n<=1048576):(if Ac (0-n)>n then Ac (0-n) else n)=(n.natAbs:Int):=by
 rw [Ac,Bx (by omega) (by omega)]; split <;> omega
theorem c45:ByteArray.mk #[45]=bs [45]:=rfl
theorem Azc:ByteArray.mk #[32,45,32]=bs [32,45,32]:=rfl
theorem Azd:ByteArray.mk #[32,43,32]=bs [32,43,32]:=rfl
theorem c42:ByteArray.mk #[42]=bs [42]:=rfl
theorem An0:ByteArray.mk #[118]=bs [118]:=rfl
theorem c97:ByteArray.mk #[97]=bs [97]:=rfl
theorem c58:ByteArray.mk #[58]=bs [58]:=rfl
theorem An1:ByteArray.mk #[114,101,115]=bs [114,101,115]:=rfl
theorem An2:By [45]:=By.cons (by omega) By.nil
theorem by3 (a b c:Int) (ha:0<=a/\a<256) (hb:0<=b/\b<256) (hc:0<=c/\c<256):By [a,b,c]:=By.cons ha (By.cons hb (By.cons hc By.nil))
theorem An3 {n:Int} (f:Bool) {b:List Int} (c : -1048576<=n/\n<=1048576) (hb:b.length<=1099511627776):Wq n f b=some ((n.natAbs:Int),b++Hi n f):=by
 unfold Wq Hi
 rw [Anz c,c45,Azc,Azd]
 rw [L0 An2 (by simp; omega),L0 (by3 _ _ _ (by omega) (by omega) (by omega)) (by simp; omega),L0 (by3 _ _ _ (by omega) (by omega) (by omega)) (by simp; omega)]
 by_cases h:n<0
 .rw [Al h,if_pos h,if_pos h]; cases f <;> rfl
 .rw [Aq h,if_neg h,if_neg h]; cases f <;> simp
theorem Aze {n:Int} {b:List Int} (c : -1048576<=n/\n<=1048576) (hb:b.length<=1099511627776):Qc n true b=some (if n<0 then .inl ((n.natAbs:Int),b++[45]) else .inr ((n.natAbs:Int),b)):=by
 unfold Qc
 rw [Anz c,c45,Ro An2 (by simp; omega)]
 by_cases h:n<0
 .rw [Al h,if_pos h]; rfl
 .rw [Aq h,if_neg h]; rfl
theorem Af9 {n:Nat} (h:n<=1048576):Ll (n:Int) 10=some (bs (ti n)):=by
 unfold Ll Y7
 exact Aba (by unfold I64; omega)
theorem Abd {n:Nat} (h:n<=1048576):(ti (n:Int)).length<=21:=Lv (by unfold I64; omega)
theorem An4 {n:Int} {b:List Int} (c : -1048576<=n/\n<=1048576) (hb:b.length<=1099511627776) :
  (bif ((n.natAbs:Int) != (1:Int)) then (Ll (n.natAbs:Int) 10).bind fun v=>(E4 v (ByteArray.mk #[42])).bind fun u=>(Fz u b).bind fun w=>some w.2 else some b)=some (b++Ii n):=by
 have ht:=Abd (n:=n.natAbs) (by omega)
 unfold Ii
 by_cases h:n.natAbs=1
 .rw [Fc (by omega),if_pos h]; simp
 .rw [Et (by omega),if_neg h,Af9 (by omega),c42]
  simp only [cond_true,Ad]
  rw [Rn (by simp; omega),Ad,L0 ((By.ti _).app (By.cons (by omega) By.nil)) (by simp; omega)]; rfl
theorem Aga {v:Int} {b:List Int} {R:Type} (K:List Int->Option R) (c : -1<=v/\v<3000) (hb:b.length<=1099511627776) :
  (bif (v==(-1)) then (Fz (ByteArray.mk #[114,101,115]) b).bind fun w=>K w.2 else (He v).bind fun x=>(E4 (ByteArray.mk #[118]) x).bind fun y=>(Fz y b).bind fun w=>K w.2)=K (b++Hs v):=by
 have ht:=Lv (n:=v) (by unfold I64; omega)
 unfold Hs
 by_cases h:v = -1
 .rw [Es h,if_pos h,An1,L0 (by3 _ _ _ (by omega) (by omega) (by omega)) (by simp; omega)]; rfl
 .rw [Cv h,if_neg h,An0]
  simp only [cond_false,He]
  rw [Aba (by unfold I64; omega),Ad,Rn (by simp; omega),Ad]
  rw [show [118]++ti v=118::ti v from rfl,L0 (By.cons (by omega) (By.ti _)) (by simp; omega)]; rfl
theorem Abe {α:Type} {g:α->List Int} {l:List α} {j:Nat} {x:α} (h:l[j]? = some x):(l.take (j+1)).flatMap g=(l.take j).flatMap g++g x:=by
 rw [Dk h]; simp
theorem An5 {α:Type} {g:α->List Int} {n:Nat}:∀(l:List α),(∀a∈l,(g a).length<=n)->(l.flatMap g).length<=l.length*n
 | [],_=>by simp
 | a::l,h=>by
  have h1:=h a (by simp)
  have h2:=An5 l fun b hb=>h b (by simp [hb])
  simp only [List.flatMap_cons,List.length_append,List.length_cons,Nat.add_mul]; omega
theorem Agb {α:Type} {g:α->List Int} {n:Nat} (l:List α) (j:Nat) (h:∀a∈l,(g a).length<=n):((l.take j).flatMap g).length<=l.length*n:=by
 refine Nat.le_trans (An5 _ fun a ha=>h a (List.mem_of_mem_take ha)) (Nat.mul_le_mul_right _ ?_)
 rw [List.length_take]; omega
theorem An6:∀(ts:List Bf) (c:Int),Gr false ts c=ts.flatMap (tT false)++Gr false [] c
 | [],c=>by simp
 | t::ts,c=>by
  have:=An6 ts c
  simp only [List.flatMap_cons,List.append_assoc,<-this]; rfl
theorem Azf {a:Ar} (h:Cd a=true) (B:a.Terms≠[]):Nf a=some (bs (Xb a)):=by
 have z:=Af7 h
 unfold Nf
 rw [Ky,h]
 obtain ⟨c,l⟩:=a
 cases l with
 | nil=>exact (B rfl).elim
 | cons t ts=>
  have hc : -1048576<=c/\c<=1048576:=z.c
  have M:ts.length<=15:=by have:=z.n; simp at this; omega
  have ht:(-1<=t.Var/\t.Var<3000)/\(-1048576<=t.Coef/\t.Coef<=1048576):=z.t t (by simp)
  have s:∀u∈ts,(-1<=u.Var/\u.Var<3000)/\(-1048576<=u.Coef/\u.Coef<=1048576):=fun u hu=>z.t u (by simp [hu])
  have x:=fun j=>Agb (g:=tT false) (n:=47) ts j (fun u hu=>Af8 false (s u hu))
  have J:=Af8 true ht
  simp only [Ad,D6,cond_false]
  rw [Al (by simp only [List.length_cons]; omega),cond_true]
  refine bnd (a:=((t.Coef.natAbs:Int),tT true t)) ?_ ?_
  .rw [show Ag (t::ts) 0=some t from rfl,Ad,Aze ht.2 (by simp),Ad]
   have G:=Lv (n:=t.Var) (by unfold I64; omega)
   have I:=Abd (n:=t.Coef.natAbs) (by omega)
   have D:=Af6 t.Coef ht.2
   by_cases q:t.Coef<0
   .rw [if_pos q]
    simp only
    rw [An4 ht.2 (by simp),Ad]
    refine (Aga (fun b=>some ((t.Coef.natAbs:Int),b)) ht.1 (by simp; omega)).trans ?_
    simp [tT,Hi,q]
   .rw [if_neg q]
    simp only
    by_cases h1:t.Coef.natAbs=1
    .rw [Fc (by omega)]
     simp only [cond_false]
     by_cases y:t.Var = -1
     .rw [Es y,An1,cond_true,Ro (by3 _ _ _ (by omega) (by omega) (by omega)) (by simp)]
      simp [tT,Hi,q,Ii,h1,Hs,y]
     .rw [Cv y,cond_false,An0,He,Aba (by unfold I64; omega),Ad,Rn (by simp; omega),Ad,show [118]++ti t.Var=118::ti t.Var from rfl,
       Ro (By.cons (by omega) (By.ti _)) (by simp; omega)]
      simp [tT,Hi,q,Ii,h1,Hs,y]
    .rw [Et (by omega)]
     simp only [cond_true]
     rw [Af9 (by omega),Ad,c42,Rn (by simp; omega),Ad,Ro ((By.ti _).app (By.cons (by omega) By.nil)) (by simp; omega),Ad]
     refine (Aga (fun b=>some ((t.Coef.natAbs:Int),b)) ht.1 (by simp; omega)).trans ?_
     simp [tT,Hi,q,Ii,h1]
  .simp only
   refine Abb t ts (fun j=>(((j+1:Nat):Int),tT true t++(ts.take j).flatMap (tT false))) (by simp [Ac,Bx]) (by omega) ?_ ?_
   .intro j u hu h1 h2 h3
    have f:=s u (Ct hu)
    have:=x j
    have D:=Af6 u.Coef f.2
    have A:=Abc u.Coef false
    simp only [h1,h2,h3,cond_true,Ad]
    rw [Cv (by omega),An3 false f.2 (by simp only [List.length_append]; omega),Ad,An4 f.2 (by simp only [List.length_append]; omega),Ad]
    refine (Aga (R:=(Int×List Int)⊕List Int) (fun b=>some (.inl (((j+1+1:Nat):Int),b))) f.1 (by simp only [List.length_append]; omega)).trans ?_
    rw [Abe hu]
    simp [tT]
   .intro h1
    have h2:=x ts.length
    rw [List.take_length] at h2
    refine ⟨tT true t++ts.flatMap (tT false),by simp only [h1,cond_false,List.take_length],?_⟩
    have E:By (tT true t++ts.flatMap (tT false)):=(By.tT _ _).app (By.flat (By.tT _) _)
    have e:Xb ⟨c,t::ts⟩=tT true t++ts.flatMap (tT false)++Gr false [] c:=by
     have:=An6 ts c
     rw [List.append_assoc,<-this]; rfl
    rw [e]
    have k:((((t::ts).length:Nat):Int)==(0:Int))=false:=Cv (by simp only [List.length_cons]; omega)
    by_cases i:c=0
    .simp only [Fc i,cond_false,k,Ad]
     rw [O9 E]
     simp [Gr,i]
    .have L:=Abd (n:=c.natAbs) (by omega)
     have A:=Abc c false
     simp only [Et i,cond_true,Ad,k]
     rw [An3 false hc (by simp only [List.length_append]; omega),Ad,Af9 (by omega),Ad,L0 (By.ti _) (by simp only [List.length_append]; omega),Ad,
      O9 ((E.app (By.sgn _ _)).app (By.ti _))]
     simp [Gr,i]
theorem An7 {a:Ar} (h:Anx a):(Xb a).length<=1024:=by
 have key:∀(l:List Bf) (f:Bool),(∀t∈l,(-1<=t.Var/\t.Var<3000)/\(-1048576<=t.Coef/\t.Coef<=1048576))->(Gr f l a.Const).length<=47*l.length+24:=by
  intro l
  induction l with
  | nil=>
   intro f _
   have h1:=Abd (n:=a.Const.natAbs) (by have:=h.c; omega)
   have h2:=Abc a.Const f
   simp only [Gr]
   split <;> simp <;> omega
  | cons t l ih=>
   intro f b
   have h1:=Af8 f (b t (by simp))
   have h2:=ih false fun u hu=>b u (by simp [hu])
   simp only [Gr,List.length_append,List.length_cons]; omega
 have:=key a.Terms true h.t
 have:=h.n
 unfold Xb; omega
structure CMo (m:Ba):Prop where
 sz:MSz m
 nf:m.Factors.length<=6
 na:m.Atoms.length<=6
 al:∀a∈m.Atoms,Cd a.Lin=true/\a.Lin.Terms≠[]/\1<=a.Deg/\a.Deg<=6
theorem Abf {R:Type} {a:A6} (K:ByteArray->Option R) (h:Cd a.Lin=true/\a.Lin.Terms≠[]/\1<=a.Deg/\a.Deg<=6) :
  ((He a.Deg).bind fun u=>(E4 (ByteArray.mk #[97]) u).bind fun v=>(E4 v (ByteArray.mk #[58])).bind fun w=>(Nf a.Lin).bind fun x=>(E4 w x).bind fun y=>K y)=K (bs (Gq a)):=by
 have h1:=Lv (n:=a.Deg) (by unfold I64; omega)
 have h2:=An7 (Af7 h.1)
 rw [He,Aba (by unfold I64; omega),Ad,c97,Rn (by simp; omega),Ad,c58,Rn (by simp; omega),Ad,Azf h.1 h.2.1,Ad,Rn (by simp; omega),Ad]
 simp [Gq]
theorem Xe {a:A6} (h:Cd a.Lin=true/\a.Lin.Terms≠[]/\1<=a.Deg/\a.Deg<=6):(Gq a).length<=1100:=by
 have h1:=Lv (n:=a.Deg) (by unfold I64; omega)
 have h2:=An7 (Af7 h.1)
 simp [Gq]; omega
theorem Abg {f:Bz} (h:Dm f.Index<=1048576) (b:iR f.Index/\I64 f.Var):(Fe f).length<=33554432:=by
 have h1:=Lv b.2
 have h2:=Afq f.Index b.1
 simp [Fe,H6]; omega
theorem Azg {m:Ba} (h:CMo m):Ve m=some (Jm m):=by
 obtain ⟨fs,c⟩:=m
 have q:∀f∈fs,Dm f.Index<=1048576/\iR f.Index/\I64 f.Var:=fun f i=>⟨h.sz.fi f i,h.sz.fr f i⟩
 have u:∀a∈c,Cd a.Lin=true/\a.Lin.Terms≠[]/\1<=a.Deg/\a.Deg<=6:=h.al
 have nf:fs.length<=6:=h.nf
 have na:c.length<=6:=h.na
 have A:=fun (l:List Bz) (x:∀f∈l,f∈fs) (j:Nat)=>Agb (g:=Fe) (n:=33554432) l j (fun f i=>Abg (q f (x f i)).1 (q f (x f i)).2)
 have D:=fun (l:List A6) (x:∀a∈l,a∈c) (j:Nat)=>Agb (g:=Gq) (n:=1100) l j (fun a ha=>Xe (u a (x a ha)))
 have M:∀l:List Bz,By (l.flatMap Fe):=fun l=>By.flat By.fac l
 have G:∀l:List A6,By (l.flatMap Gq):=fun l=>By.flat By.at l
 have key:∀f:Bz,f∈fs->J0 f.Var f.Index=some (bs (Fe f)):=fun f i=>Aft f.Var f.Index (q f i).2.2 (q f i).2.1 (q f i).1
 unfold Ve Jm Xc
 cases fs with
 | nil=>
  rw [Aq (by simp),cond_false]
  cases c with
  | nil=>
   rw [Aq (by simp),cond_false]
   rw [Aza By.nil]; rfl
  | cons a c=>
   have ha:=u a (by simp)
   have y:=Xe ha
   rw [Al (by simp only [List.length_cons]; omega),cond_true,show Ag (a::c) 0=some a from rfl,Ad]
   refine (Abf _ ha).trans ?_
   rw [Ro (By.at a) (by simp; omega),Ad]
   refine Abb a c (fun j=>(((j+1:Nat):Int),[]++Gq a++(c.take j).flatMap Gq)) (by simp [Ac,Bx]) (by simp at na; omega) ?_ ?_
   .intro j b hb h1 h2 h3
    have k:=u b (by simp [Ct hb])
    have:=Xe k
    have:=D c (fun b hb=>by simp [hb]) j
    simp at na
    simp only [h1,h2,h3,cond_true,Ad]
    refine (Abf _ k).trans ?_
    rw [L0 (By.at b) (by simp only [List.length_append,List.length_nil]; omega),Ad,Abe hb]
    simp
   .intro h1
    refine ⟨[]++Gq a++c.flatMap Gq,by simp only [h1,cond_false,List.take_length],?_⟩
    dsimp only
    rw [O9 ((By.nil.app (By.at a)).app (G c))]
    simp
 | cons f fs=>
  have i:=q f (by simp)
  have L:=Abg i.1 i.2
  rw [Al (by simp only [List.length_cons]; omega),cond_true,show Ag (f::fs) 0=some f from rfl,Ad,key f (by simp),Ad,Ro (By.fac f) (by simp; omega),Ad]
  refine Abb f fs (fun j=>(((j+1:Nat):Int),[]++Fe f++(fs.take j).flatMap Fe)) (by simp [Ac,Bx]) (by simp at nf; omega) ?_ ?_
  .intro j g E h1 h2 h3
   have s:g∈f::fs:=by simp [Ct E]
   have:=Abg (q g s).1 (q g s).2
   have:=A fs (fun b hb=>by simp [hb]) j
   simp at nf
   simp only [h1,h2,h3,cond_true,Ad]
   rw [key g s,Ad,L0 (By.fac g) (by simp only [List.length_append,List.length_nil]; omega),Ad,Abe E]
   simp
  .intro h1
   have I:=A fs (fun b hb=>by simp [hb]) fs.length
   rw [List.take_length] at I
   simp at nf
   refine ⟨[]++Fe f++fs.flatMap Fe,by simp only [h1,cond_false,List.take_length],?_⟩
   have z:By ([]++Fe f++fs.flatMap Fe):=(By.nil.app (By.fac f)).app (M fs)
   have J:([]++Fe f++fs.flatMap Fe).length<=234881024:=by simp only [List.length_append,List.length_nil]; omega
   have eB:(f::fs).flatMap Fe = []++Fe f++fs.flatMap Fe:=by simp
   rw [eB]
   generalize []++Fe f++fs.flatMap Fe=B at z J
   cases c with
   | nil=>
    rw [Aq (by simp),cond_false,O9 z]; simp
   | cons a c=>
    have ha:=u a (by simp)
    have y:=Xe ha
    rw [Al (by simp only [List.length_cons]; omega),cond_true,show Ag (a::c) 0=some a from rfl,Ad]
    refine (Abf _ ha).trans ?_
    rw [L0 (By.at a) (by omega),Ad]
    refine Abb a c (fun j=>(((j+1:Nat):Int),B++Gq a++(c.take j).flatMap Gq)) (by simp [Ac,Bx]) (by simp at na; omega) ?_ ?_
    .intro j b hb h1 h2 h3
     have k:=u b (by simp [Ct hb])
     have:=Xe k
     have:=D c (fun b hb=>by simp [hb]) j
     simp at na
     simp only [h1,h2,h3,cond_true,Ad]
     refine (Abf _ k).trans ?_
     rw [L0 (By.at b) (by simp only [List.length_append]; omega),Ad,Abe hb]
     simp
    .intro h1
     refine ⟨B++Gq a++c.flatMap Gq,by simp only [h1,cond_false,List.take_length],?_⟩
     dsimp only
     rw [O9 ((z.app (By.at a)).app (G c))]
     simp
end Go.Ab
namespace Go.Ab
open Go
def Dr (ts:List Ah):List (ByteArray×Int):=ts.zipIdx.map fun q=>(Jm q.1.Mono,(q.2:Int))
def Dst (ts:List Ah):Prop:=ts.Pairwise fun t u=>t.Mono≠u.Mono
theorem Azh (ts:List Ah) (t:Ah):Dr (ts++[t])=Dr ts++[(Jm t.Mono,(ts.length:Int))]:=by
 unfold Dr; simp [List.zipIdx_append]
theorem Xf (ts:List Ah) (j:Nat):(Dr ts)[j]? = (ts[j]?).map fun t=>(Jm t.Mono,(j:Int)):=by
 unfold Dr; simp [List.getElem?_map,List.getElem?_zipIdx]
 cases ts[j]? <;> rfl
theorem Azi {ts:List Ah} {j:Nat} {t u:Ah} (h:ts[j]? = some t) (hm:u.Mono=t.Mono):Dr (ts.set j u)=Dr ts:=by
 apply List.ext_getElem?
 intro i
 rw [Xf,Xf,List.getElem?_set]
 by_cases e:j=i
 .subst e
  rw [if_pos rfl,if_pos (Fd h),h]; simp [hm]
 .rw [if_neg e]
theorem An8 {α:Type}:∀(o:List (ByteArray×α)) (s:ByteArray) (v:α),El o s=false->Fa o s v=o++[(s,v)]
 | [],_,_,_=>rfl
 | p::o,s,v,h=>by
  simp only [El,List.any_cons,Bool.or_eq_false_iff] at h
  simp only [Fa,h.1,cond_false,List.cons_append,List.cons.injEq,true_and]
  exact An8 o s v h.2
theorem Azj {ts:List Ah} {m:Ba} (h:∀t∈ts,t.Mono≠m):El (Dr ts) (Jm m)=false:=by
 unfold El
 rw [List.any_eq_false]
 intro p hp
 obtain ⟨j,hj⟩:=List.getElem?_of_mem hp
 rw [Xf] at hj
 cases ht:ts[j]? with
 | none=>rw [ht] at hj; cases hj
 | some t=>
  rw [ht] at hj
  simp only [Option.map_some,Option.some.injEq] at hj
  subst hj
  intro e
  have e:=(O4 _ _).1 e
  exact h t (Ct ht) (Anv e).symm
theorem Azk {ts:List Ah} (hd:Dst ts) {j:Nat} {t:Ah} (h:ts[j]? = some t):El (Dr ts) (Jm t.Mono)=true/\Gx (Dr ts) (Jm t.Mono) 0=(j:Int):=by
 have hp:(Dr ts)[j]? = some (Jm t.Mono,(j:Int)):=by rw [Xf,h]; rfl
 refine ⟨List.any_eq_true.2 ⟨_,Ct hp,(O4 _ _).2 rfl⟩,?_⟩
 unfold Gx
 have c:(Dr ts).find? (fun p=>Jm t.Mono==p.1)=some (Jm t.Mono,(j:Int)):=by
  cases c:(Dr ts).find? (fun p=>Jm t.Mono==p.1) with
  | none=>
   have:=List.find?_eq_none.1 c _ (Ct hp)
   exact (this ((O4 _ _).2 rfl)).elim
  | some q=>
   have h1:=List.find?_some c
   obtain ⟨i,b⟩:=List.getElem?_of_mem (List.mem_of_find?_eq_some c)
   rw [Xf] at b
   cases hu:ts[i]? with
   | none=>rw [hu] at b; cases b
   | some u=>
    rw [hu] at b
    simp only [Option.map_some,Option.some.injEq] at b
    subst b
    have e:=Anv ((O4 _ _).1 h1)
    have l:i=j:=by
     have g:=Fd hu
     have f:=Fd h
     rw [B7 g] at hu
     rw [B7 f] at h
     rcases Nat.lt_trichotomy i j with k | k | k
     .have:=List.pairwise_iff_getElem.1 hd i j g f k
      rw [Option.some.inj hu,Option.some.inj h] at this
      exact (this e.symm).elim
     .exact k
     .have:=List.pairwise_iff_getElem.1 hd j i f g k
      rw [Option.some.inj hu,Option.some.inj h] at this
      exact (this e).elim
    subst l
    rw [e]
 rw [c]; rfl
open Classical in
theorem Rp (t:Ah) (p:List Ah) (m:Ba):cf (t::p) m=(if t.Mono=m then rq t.Coef else 0)+cf p m:=by
 simp only [cf]
 by_cases e:t.Mono=m
 .rw [if_pos (Jl.2 e),if_pos e]
 .rw [if_neg (fun h=>e (Jl.1 h)),if_neg e]
open Classical in
theorem An9:∀{ts:List Ah} {j:Nat} {t u:Ah},ts[j]? = some t->u.Mono=t.Mono->∀m,cf (ts.set j u) m=cf ts m+(if t.Mono=m then rq u.Coef-rq t.Coef else 0)
 | [],j,t,u,h,_,m=>by simp at h
 | s::ts,0,t,u,h,hm,m=>by
  simp only [List.getElem?_cons_zero,Option.some.injEq] at h
  subst h
  rw [List.set_cons_zero,Rp,Rp,hm]
  split <;> grind
 | s::ts,j+1,t,u,h,hm,m=>by
  simp only [List.getElem?_cons_succ] at h
  rw [List.set_cons_succ,Rp,Rp,An9 h hm m]
  grind
theorem Dst.set {ts:List Ah} (h:Dst ts) {j:Nat} {t u:Ah} (ht:ts[j]? = some t) (hm:u.Mono=t.Mono):Dst (ts.set j u):=by
 have e:(ts.set j u).map (·.Mono)=ts.map (·.Mono):=by
  apply List.ext_getElem?
  intro i
  rw [List.getElem?_map,List.getElem?_map,List.getElem?_set]
  by_cases e:j=i
  .subst e; rw [if_pos rfl,if_pos (Fd ht),ht]; simp [hm]
  .rw [if_neg e]
 have k:∀l:List Ah,Dst l↔(l.map (·.Mono)).Pairwise (·≠·):=fun l=>by rw [List.pairwise_map]; exact Iff.rfl
 rw [k,e,<-k]; exact h
structure Col (k:Nat) (P:Ba->Prop) (ts:List Ah):Prop where
 dst:Dst ts
 tb:∀t∈ts,RB k t.Coef
 mo:∀t∈ts,P t.Mono
theorem Col.nil (k:Nat) (P:Ba->Prop):Col k P []:=⟨List.Pairwise.nil,fun _ h=>(by cases h),fun _ h=>(by cases h)⟩
theorem Pa {k0 k:Nat} {P:Ba->Prop} (L:∀m,P m->CMo m) (l ts:List Ah) (D:Col k0 P ts) (J:∀t∈l,RB k t.Coef/\P t.Mono) (hk:k<=k0) (U:k0+l.length*(k+3)<34359738000) (S:ts.length+l.length<=1099511627776) :
  ∃f,Hc l (Dr ts) ts=some (Dr f,f)/\Col (k0+l.length*(k+3)) P f/\f.length<=ts.length+l.length/\∀m,cf f m=cf ts m+cf l m:=by
 unfold Hc
 refine Aaf (A:=List Ah) (fun f=>(Dr f,f)) ?_
 refine Fb (fun s=>∃(j:Nat) (u:List Ah),s=((j:Int),Dr u,u)/\j<=l.length/\Col (k0+j*(k+3)) P u/\u.length<=ts.length+j/\∀m,cf u m=cf ts m+cf (l.take j) m) (fun s=>l.length-s.1.toNat)
  (fun z=>∃u,z=(Dr u,u)/\Col (k0+l.length*(k+3)) P u/\u.length<=ts.length+l.length/\∀m,cf u m=cf ts m+cf l m) ⟨0,ts,rfl,by omega,by simpa using D,by omega,fun m=>by simp only [List.take_zero,cf]; grind⟩ ?_ ?_
 .rintro _ ⟨j,u,rfl,hj,hu,B,y⟩
  rcases Nat.lt_or_ge j l.length with h | h
  .have hx:l[j]? = some l[j]:=B7 h
   generalize l[j]=x at hx
   obtain ⟨hb,hm⟩:=J x (Ct hx)
   have G:j*(k+3)+(k+3)<=l.length*(k+3):=by rw [<-Nat.succ_mul]; exact Nat.mul_le_mul_right _ h
   have E:(j+1)*(k+3)=j*(k+3)+(k+3):=by rw [Nat.succ_mul]
   simp only [Al (by omega:(j:Int)<(l.length:Int)),cond_true,Cj rfl hx,Ad,Azg (L _ hm),Db h (by omega)]
   left
   by_cases hex:∃t∈u,t.Mono=x.Mono
   .obtain ⟨t,ht,I⟩:=hex
    obtain ⟨i,q⟩:=List.getElem?_of_mem ht
    obtain ⟨g1,g2⟩:=Azk hu.dst q
    rw [I] at g1 g2
    obtain ⟨c,R,_,N,V,M⟩:=Anc (hu.tb t ht) hb (by omega) (by omega)
    refine ⟨((j+1:Nat),Dr (u.set i ⟨c,t.Mono⟩),u.set i ⟨c,t.Mono⟩),?_,⟨j+1,u.set i ⟨c,t.Mono⟩,rfl,by omega,⟨hu.dst.set q rfl,?_,?_⟩,by rw [List.length_set]; omega,fun m=>?_⟩,by simp; omega⟩
    .simp only [g1,g2,cond_true,Ad,Cj rfl q,R,Fq rfl,Azi (u:=⟨c,t.Mono⟩) q rfl]
    .intro w hw
     rcases List.mem_or_eq_of_mem_set hw with hw | rfl
     .exact (hu.tb w hw).mono (by omega)
     .exact N.mono (by omega)
    .intro w hw
     rcases List.mem_or_eq_of_mem_set hw with hw | rfl
     .exact hu.mo w hw
     .exact hu.mo t ht
    .rw [An9 (u:=⟨c,t.Mono⟩) q rfl m,y m,Dk hx,Rl,Rp]
     simp only [M,I,cf]
     split <;> grind
   .have g:=Azj (m:=x.Mono) (ts:=u) fun t ht e=>hex ⟨t,ht,e⟩
    refine ⟨((j+1:Nat),Dr (u++[x]),u++[x]),?_,⟨j+1,u++[x],rfl,by omega,⟨?_,?_,?_⟩,by simp; omega,fun m=>?_⟩,by simp; omega⟩
    .simp only [g,cond_false,Ad]
     rw [Dj (by simp; omega),Ad,An8 _ _ _ g,Azh]
    .refine List.pairwise_append.2 ⟨hu.dst,List.pairwise_singleton _ _,fun a ha b hb=>?_⟩
     simp only [List.mem_singleton] at hb
     subst hb
     exact fun e=>hex ⟨a,ha,e⟩
    .intro w hw
     rcases List.mem_append.1 hw with hw | hw
     .exact (hu.tb w hw).mono (by omega)
     .simp only [List.mem_singleton] at hw
      subst hw
      exact hb.mono (by omega)
    .intro w hw
     rcases List.mem_append.1 hw with hw | hw
     .exact hu.mo w hw
     .simp only [List.mem_singleton] at hw
      subst hw
      exact hm
    .rw [Rl,y m,Dk hx,Rl]; grind
  .have:j=l.length:=by omega
   subst this
   rw [List.take_length] at y
   simp only [Aq (by omega:¬(l.length:Int)<(l.length:Int)),cond_false]
   exact .inr ⟨_,rfl,u,rfl,hu,B,y⟩
 .rintro _ ⟨u,rfl,h1,h2,h3⟩
  exact ⟨_,rfl,u,rfl,h1,h2,h3⟩
end Go.Ab
