/- Plain laws: what the plain functions answer. -/
import Derived.Test.YtpedagkdpokpkaaGreatDoorWgPl1
import Derived.KernelRfl
namespace Go.Ab
open Go
mutual
theorem Amp (data:List A8):∀(i:Br) (t:Aj) (d:Nat),Iy data i t=some d->d<=6*Dj i
 | ⟨n,kids⟩,t,d,h=>by
  rw [Ama] at h
  simp only [Dj]
  simp only at h
  split at h
  .split at h
   .have:=W3 data kids _ d h; omega
   .cases h
  .split at h
   .split at h
    .cases h; omega
    .cases h
   .split at h
    .split at h
     .have:=Amq data kids _ d h; omega
     .cases h
    .split at h
     .cases h; omega
     .cases h
theorem W3 (data:List A8):∀(is:List Br) (ts:List Aj) (d:Nat),F5 data is ts=some d->d<=6*Fs is
 | [],[],d,h=>by simp only [F5] at h; cases h; omega
 | i::is,t::ts,d,h=>by
  rw [Afh] at h
  cases h1:Iy data i t with
  | none=>rw [h1] at h; cases h
  | some a=>
   rw [h1,Ad] at h
   cases h2:F5 data is ts with
   | none=>rw [h2] at h; cases h
   | some b=>
    rw [h2] at h
    cases h
    have:=Amp data i t a h1
    have:=W3 data is ts b h2
    simp only [Fs]; omega
 | [],_::_,d,h=>by simp only [F5] at h; cases h
 | _::_,[],d,h=>by simp only [F5] at h; cases h
theorem Amq (data:List A8):∀(es:List Br) (t:Aj) (d:Nat),J7 data es t=some d->d<=6*Fs es
 | [],t,d,h=>by simp only [J7] at h; cases h; omega
 | ⟨n,kids⟩::es,t,d,h=>by
  rw [Amb] at h
  simp only at h
  cases h1:Lt data t n with
  | none=>rw [h1] at h; cases h
  | some ts=>
   rw [h1,Ad] at h
   cases h2:F5 data kids ts with
   | none=>rw [h2] at h; cases h
   | some a=>
    rw [h2,Ad] at h
    cases h3:J7 data es t with
    | none=>rw [h3] at h; cases h
    | some b=>
     rw [h3] at h
     cases h
     have:=W3 data kids ts a h2
     have:=Amq data es t b h3
     simp only [Fs,Dj]; omega
end
def Tw (data:List A8) (e:Br) (t:Aj):Option Nat:=(Lt data t e.Num).bind fun ts=>(F5 data e.Kids ts).map (1 + ·)
theorem Ax6 (data:List A8) (e:Br) (es:List Br) (t:Aj):J7 data (e::es) t=(Tw data e t).bind fun a=>(J7 data es t).map (a + ·):=by
 rw [Amb]; unfold Tw
 cases Lt data t e.Num with
 | none=>rfl
 | some ts=>simp only [Ad]; cases F5 data e.Kids ts <;> rfl
theorem Ax7 (data:List A8) (e:Br) (t:Aj) (d:Nat) (h:Tw data e t=some d):d<=6*Dj e:=by
 unfold Tw at h
 cases h1:Lt data t e.Num with
 | none=>rw [h1] at h; cases h
 | some ts=>
  rw [h1,Ad] at h
  cases h2:F5 data e.Kids ts with
  | none=>rw [h2] at h; cases h
  | some a=>
   rw [h2] at h
   cases h
   have:=W3 data _ ts a h2
   have:=Hb e
   show 1+a<=_
   omega
def Dg (v:Int) (o:Option Nat):Prop:=(v = -1/\∀d,o=some d->6<d)\/∃d:Nat,o=some d/\v=d
theorem Dg.clip {v:Int} {o:Option Nat} (h:Dg v o):(if v>6 then -1 else v)=Jh o:=by
 rcases h with ⟨rfl,h⟩ | ⟨d,rfl,rfl⟩
 .rw [if_neg (by omega),Axx h]
 .by_cases hd:6<d
  .rw [if_pos (by omega),Afi hd]
  .rw [if_neg (by omega),Amd (by omega)]
theorem Aa3 {o p:Option Nat} {acc:Nat} {d:Nat} (h:(o.bind fun a=>p.map (a + ·)).map (acc + ·)=some d):∃a b,o=some a/\p=some b/\d=acc+(a+b):=by
 cases o with
 | none=>cases h
 | some a=>
  cases p with
  | none=>cases h
  | some b=>exact ⟨a,b,rfl,rfl,by simp at h; omega⟩
theorem Ax8 {data:List A8} (hz:Szv data) (hs:W0 data) (b1:List (ByteArray×Int)) (b2:List (ByteArray×List Bz)) (vars:List Aj) (N M:Int) (L:List Aj):∀k:Nat,
  (∀(i:Br) (t:Aj),3*Dj i<=k->Dj i<=1048576->B4 t<=200->∃v,Oq k t i b1 b2 data vars N M L=some v/\Dg v (Iy data i t)) /\
  (∀(f:List Br) (ts:List Aj),3*Fs f+1<=k->Fs f<=1048576->(∀t∈ts,B4 t<=200)->∃v,Qm k ts f b1 b2 data vars N M L=some v/\Dg v (F5 data f ts)) /\
  (∀(e:Br) (t:Aj),3*Dj e<=k->Dj e<=1048576->B4 t<=200->∃v,Qo k t e b1 b2 data vars N M L=some v/\Dg v (Tw data e t)):=by
 intro k
 induction k with
 | zero=>exact ⟨fun i t h=>by have:=Hb i; omega,fun f ts h=>by omega,fun i t h=>by have:=Hb i; omega⟩
 | succ k ih=>
  obtain ⟨a6,R,a7⟩:=ih
  have D:∀o:Option Nat,o.map (0 + ·)=o:=by intro o; cases o <;> simp
  have c:∀d:Nat,(none:Option Nat)=some d->6<d:=fun d h=>by cases h
  refine ⟨?_,?_,?_⟩
  .intro i t hk hi ht
   have af:=Hb i
   have U:=Tu i.Kids
   rw [Oq,Ama]
   by_cases Z:t.Kind=6
   .simp only [Ej Z,cond_true,if_pos Z]
    by_cases h0:i.Num=0
    .simp only [Ej h0,cond_true,if_pos h0]
     obtain ⟨p,p1,p2⟩:=R i.Kids t.Args (by omega) (by omega) (fun a ha=>by have:=Lr ha; have:=Kw t; omega)
     rw [p1]
     exact ⟨p,rfl,p2⟩
    .simp only [Cq h0,cond_false,if_neg h0]
     exact ⟨_,rfl,.inl ⟨rfl,c⟩⟩
   .simp only [Cq Z,cond_false,if_neg Z]
    by_cases Y:t.Kind=7
    .simp only [Ej Y,cond_true,if_pos Y]
     by_cases a1:0<=i.Num
     .by_cases a2:i.Num<=6
      .by_cases a3:i.Kids.length=0
       .rw [Al (show i.Num>=0 from a1),Al a2,if_pos ⟨a1,a2,a3⟩,Ej (by omega)]
        exact ⟨_,rfl,.inr ⟨i.Num.toNat,rfl,by omega⟩⟩
       .rw [Al (show i.Num>=0 from a1),Al a2,if_neg (fun h=>a3 h.2.2),Cq (by omega)]
        exact ⟨_,rfl,.inl ⟨rfl,c⟩⟩
      .rw [Al (show i.Num>=0 from a1),Ar a2,if_neg (fun h=>a2 h.2.1)]
       exact ⟨_,rfl,.inl ⟨rfl,c⟩⟩
     .rw [Ar (show ¬i.Num>=0 from a1),if_neg (fun h=>a1 h.1)]
      exact ⟨_,rfl,.inl ⟨rfl,c⟩⟩
    .simp only [Cq Y,cond_false,if_neg Y]
     by_cases h5:t.Kind=5
     .simp only [Ej h5,cond_true,if_pos h5]
      by_cases h0:i.Num=0
      .simp only [Fb h0,cond_false,if_pos h0]
       have key:∀(m j acc:Nat),j+m=i.Kids.length->acc<=10000000->∃z,Am (S:=(Int×Int)) (E:=(Int⊕Int)) (fun (G,v8)=>
         bif (decide (v8<(i.Kids.length:Int))) then (
         (Ag i.Kids v8).bind fun v9=>
         (Qo k t v9 b1 b2 data vars N M L).bind fun I=>
         bif (decide (I<(0:Int))) then some (.inr (.inl (-1)))
         else (
         bif (decide (G>(6:Int))) then some (.inr (.inl (-1)))
         else some (.inl ((Ac (G+I)),(Ac (v8+1))))))
         else some (.inr (.inr G))) ((acc:Int),(j:Int))=some z/\Dg (match z with | .inl v=>v | .inr v=>v) ((J7 data (i.Kids.drop j) t).map (acc + ·)):=by
        intro m
        induction m with
        | zero=>
         intro j acc hj A
         have:j=i.Kids.length:=by omega
         subst this
         exact ⟨.inr (acc:Int),Dx (by simp),.inr ⟨acc,by simp [J7],rfl⟩⟩
        | succ m s=>
         intro j acc hj A
         have g:i.Kids[j]? = some i.Kids[j]:=B3 (by omega)
         generalize i.Kids[j]=e at g
         have ac:=Q9 (Cp g)
         rw [Ic g,Ax6]
         obtain ⟨v,B,v2⟩:=a7 e t (by omega) (by omega) ht
         rcases v2 with ⟨rfl,v2⟩ | ⟨a,a1,rfl⟩
         .refine ⟨.inl (-1),Dx ?_,.inl ⟨rfl,fun d h=>?_⟩⟩
          .simp only [Al (by omega:(j:Int)<(i.Kids.length:Int)),cond_true,Cd rfl g,Ad,B]; rfl
          .obtain ⟨a,b,ha,hb,rfl⟩:=Aa3 h
           have:=v2 a ha; omega
         .have V:=Ax7 data e t a a1
          by_cases hb:acc>6
          .refine ⟨.inl (-1),Dx ?_,.inl ⟨rfl,fun d h=>?_⟩⟩
           .simp only [Al (by omega:(j:Int)<(i.Kids.length:Int)),cond_true,Cd rfl g,Ad,B,Ar (by omega:¬(a:Int)<0),Al (by omega:(acc:Int)>6),cond_false]
           .obtain ⟨a,b,ha,hb,rfl⟩:=Aa3 h
            omega
          .have ew:Ac ((acc:Int)+(a:Int))=((acc+a:Nat):Int):=by rw [Ac,Bw] <;> omega
           obtain ⟨z,q,z2⟩:=s (j+1) (acc+a) (by omega) (by omega)
           refine ⟨z,?_,?_⟩
           .rw [G6 (s':=(((acc+a:Nat):Int),((j+1:Nat):Int)))]
            .exact q
            .simp only [Al (by omega:(j:Int)<(i.Kids.length:Int)),cond_true,Cd rfl g,Ad,B,Ar (by omega:¬(a:Int)<0),Ar (by omega:¬(acc:Int)>6),cond_false,ew,C7 (show j<i.Kids.length by omega) (by omega)]
           .have D:∀o:Option Nat,(((some a:Option Nat).bind fun a=>o.map (a + ·)).map (acc + ·))=o.map (acc+a + ·):=by
             intro o; cases o <;> simp [Nat.add_assoc]
            rw [a1,D]
            exact z2
       obtain ⟨z,q,z2⟩:=key i.Kids.length 0 0 (by omega) (by omega)
       have q:Am _ ((0:Int),(0:Int))=some z:=q
       rw [q,Ad]
       rw [List.drop_zero,D] at z2
       cases z with
       | inl v=>exact ⟨v,rfl,z2⟩
       | inr v=>exact ⟨v,rfl,z2⟩
      .simp only [Ev h0,cond_true,if_neg h0]
       exact ⟨_,rfl,.inl ⟨rfl,c⟩⟩
     .simp only [Cq h5,cond_false,if_neg h5]
      by_cases h0:i.Num=0
      .simp only [Ej h0,cond_true]
       by_cases a3:i.Kids.length=0
       .rw [if_pos ⟨h0,a3⟩,Ej (by omega)]
        exact ⟨_,rfl,.inr ⟨0,rfl,rfl⟩⟩
       .rw [if_neg (fun h=>a3 h.2),Cq (by omega)]
        exact ⟨_,rfl,.inl ⟨rfl,c⟩⟩
      .simp only [Cq h0,cond_false]
       rw [if_neg (fun h=>h0 h.1)]
       exact ⟨_,rfl,.inl ⟨rfl,c⟩⟩
  .intro f ts hk hi ht
   have U:=Tu f
   rw [Qm]
   by_cases hl:ts.length=f.length
   .rw [Fb (by omega)]
    simp only [cond_false]
    have key:∀(m j acc:Nat),j+m=f.length->acc<=10000000->∃z,Am (S:=(Int×Int)) (E:=(Int⊕Int)) (fun (v5,X)=>
      bif (decide (X<(ts.length:Int))) then (
      (Ag ts X).bind fun G=>
      (Ag f X).bind fun v9=>
      (Oq k G v9 b1 b2 data vars N M L).bind fun J=>
      bif (decide (J<(0:Int))) then some (.inr (.inl (-1)))
      else (
      bif (decide (v5>(6:Int))) then some (.inr (.inl (-1)))
      else some (.inl ((Ac (v5+J)),(Ac (X+1))))))
      else some (.inr (.inr v5))) ((acc:Int),(j:Int))=some z/\Dg (match z with | .inl v=>v | .inr v=>v) ((F5 data (f.drop j) (ts.drop j)).map (acc + ·)):=by
     intro m
     induction m with
     | zero=>
      intro j acc hj A
      have:j=ts.length:=by omega
      subst this
      refine ⟨.inr (acc:Int),Dx (by simp),.inr ⟨acc,?_,rfl⟩⟩
      rw [List.drop_of_length_le (by omega),List.drop_of_length_le (by omega)]
      simp [F5]
     | succ m s=>
      intro j acc hj A
      have g:f[j]? = some f[j]:=B3 (by omega)
      generalize f[j]=e at g
      have hu:ts[j]? = some ts[j]:=B3 (by omega)
      generalize ts[j]=u at hu
      have ac:=Q9 (Cp g)
      rw [Ic g,Ic hu,Afh]
      obtain ⟨v,B,v2⟩:=a6 e u (by omega) (by omega) (ht u (Cp hu))
      rcases v2 with ⟨rfl,v2⟩ | ⟨a,a1,rfl⟩
      .refine ⟨.inl (-1),Dx ?_,.inl ⟨rfl,fun d h=>?_⟩⟩
       .simp only [Al (by omega:(j:Int)<(ts.length:Int)),cond_true,Cd rfl g,Cd rfl hu,Ad,B]; rfl
       .obtain ⟨a,b,ha,hb,rfl⟩:=Aa3 h
        have:=v2 a ha; omega
      .have V:=Amp data e u a a1
       by_cases hb:acc>6
       .refine ⟨.inl (-1),Dx ?_,.inl ⟨rfl,fun d h=>?_⟩⟩
        .simp only [Al (by omega:(j:Int)<(ts.length:Int)),cond_true,Cd rfl g,Cd rfl hu,Ad,B,Ar (by omega:¬(a:Int)<0),Al (by omega:(acc:Int)>6),cond_false]
        .obtain ⟨a,b,ha,hb,rfl⟩:=Aa3 h
         omega
       .have ew:Ac ((acc:Int)+(a:Int))=((acc+a:Nat):Int):=by rw [Ac,Bw] <;> omega
        obtain ⟨z,q,z2⟩:=s (j+1) (acc+a) (by omega) (by omega)
        refine ⟨z,?_,?_⟩
        .rw [G6 (s':=(((acc+a:Nat):Int),((j+1:Nat):Int)))]
         .exact q
         .simp only [Al (by omega:(j:Int)<(ts.length:Int)),cond_true,Cd rfl g,Cd rfl hu,Ad,B,Ar (by omega:¬(a:Int)<0),Ar (by omega:¬(acc:Int)>6),cond_false,ew,C7 (show j<f.length by omega) (by omega)]
        .have D:∀o:Option Nat,(((some a:Option Nat).bind fun a=>o.map (a + ·)).map (acc + ·))=o.map (acc+a + ·):=by
          intro o; cases o <;> simp [Nat.add_assoc]
         rw [a1,D]
         exact z2
    obtain ⟨z,q,z2⟩:=key f.length 0 0 (by omega) (by omega)
    have q:Am _ ((0:Int),(0:Int))=some z:=q
    rw [q,Ad]
    rw [List.drop_zero,List.drop_zero,D] at z2
    cases z with
    | inl v=>exact ⟨v,rfl,z2⟩
    | inr v=>exact ⟨v,rfl,z2⟩
   .rw [Ev (by omega),Amc data f ts hl]
    exact ⟨_,rfl,.inl ⟨rfl,c⟩⟩
  .intro e t hk g ht
   have ag:=Hb e
   rw [Qo]
   unfold Tw Lt
   rw [Axr hz t ht e.Num,Ad]
   cases hf:O6 data t e.Num with
   | none=>exact ⟨-1,rfl,.inl ⟨rfl,c⟩⟩
   | some l=>
    have ad:=Axs hf
    obtain ⟨x,y,_,hx,_,hy,hl,ab⟩:=Afg hf
    obtain ⟨y6,_⟩:=hz x (J6 hx).2.2.2 y (J6 hy).2.2.2
    have ae:l.length<=6:=by rw [hl]; simpa using y6
    have aa:∀a∈Jg l (Ix data t.Num e.Num),B4 a<=200:=(Axv (show Lt data t e.Num=some _ by unfold Lt; rw [hf]; rfl)).1
    obtain ⟨v,B,v2⟩:=R e.Kids (Jg l (Ix data t.Num e.Num)) (by omega) (by omega) aa
    have hd:Dg (if v<0 then -1 else 1+v) (((some l).map fun l=>Jg l (Ix data t.Num e.Num)).bind fun ts=>(F5 data e.Kids ts).map (1 + ·)):=by
     rw [Option.map_some,Ad]
     rcases v2 with ⟨rfl,v2⟩ | ⟨a,a1,rfl⟩
     .refine .inl ⟨rfl,fun d h=>?_⟩
      cases ha:F5 data e.Kids (Jg l (Ix data t.Num e.Num)) with
      | none=>rw [ha] at h; cases h
      | some a=>rw [ha] at h; have:=v2 a ha; simp at h; omega
     .rw [a1,if_neg (by omega)]
      exact .inr ⟨1+a,rfl,by omega⟩
    have a8:v = -1\/(0<=v/\v<=10000000):=by
     rcases v2 with ⟨rfl,v2⟩ | ⟨a,a1,rfl⟩
     .exact .inl rfl
     .have:=W3 data _ _ a a1; right; omega
    refine ⟨_,?_,hd⟩
    simp only [okL,D2,cond_false,Alq data t.Num e.Num hs,Ad]
    refine Iv (Ix data t.Num e.Num) (fun j=>((j:Int),Jg (l.take j) ((Ix data t.Num e.Num).take j))) (by simp [Jg]) (by omega) ?_ ?_
    .intro j b hj hb h1 h2 h3
     have ha:l[j]? = some l[j]:=B3 (by omega)
     generalize l[j]=a at ha
     have U:=Axu (l.take j) ((Ix data t.Num e.Num).take j)
     have:(l.take j).length<=6:=by simp; omega
     simp only [h1,h2,h3,cond_true,Ad,Cd rfl ha,Axt ha hb]
     rw [Da (by simp; omega)]
     cases b <;> simp
    .intro h1
     refine ⟨Jg l (Ix data t.Num e.Num),?_,?_⟩
     .simp only [h1]
      rw [List.take_of_length_le (by omega),List.take_of_length_le (Nat.le_refl _)]; rfl
     .rw [B,Ad]
      rcases a8 with h | h
      .subst h; rfl
      .rw [Ar (by omega),if_neg (by omega)]
       simp only [cond_false]
       rw [Ac,Bw] <;> omega
def tyX (vars:List Aj) (res:Aj) (v:Int):Option Aj:=if v = -1 then some res else Ag vars v
def Dn (data:List A8) (vars:List Aj) (res:Aj) (o:List (ByteArray×Int)):Prop:=∀p∈o,∀v i t,p.1=Gw v i->tyX vars res v=some t->p.2=Jh (Iy data i t)
theorem Afq {α:Type}:∀(o:List (ByteArray×α)) (s:ByteArray) (v:α),∀p∈E6 o s v,p∈o\/p=(s,v)
 | [],s,v,p,h=>by simp only [E6,List.mem_singleton] at h; exact .inr h
 | q::o,s,v,p,h=>by
  unfold E6 at h
  cases hq:(s==q.1) with
  | true=>
   rw [hq] at h
   simp only [cond_true,List.mem_cons] at h
   rcases h with h | h
   .exact .inr h
   .exact .inl (by simp [h])
  | false=>
   rw [hq] at h
   simp only [cond_false,List.mem_cons] at h
   rcases h with h | h
   .exact .inl (by simp [h])
   .rcases Afq o s v p h with h | h
    .exact .inl (by simp [h])
    .exact .inr h
theorem Ax9 {data:List A8} (G:Szv data) (J:W0 data) (b1:List (ByteArray×Int)) (b2:List (ByteArray×List Bz)) (vars:List Aj) (res:Aj) (hm:Dn data vars res b1)
  (v:Int) (i:Br) (t:Aj) (ht:tyX vars res v=some t) (b:B4 t<=200) (I:I64 v) (hr:iR i) (l:Dj i<=1048576) :
  ∃u,Lj v i b1 b2 data vars res.Kind res.Num res.Args=some (Jh (Iy data i t),u)/\Dn data vars res u:=by
 unfold Lj
 rw [Afp v i I hr l,Ad]
 cases f:Eh b1 (Gw v i) with
 | true=>
  refine ⟨b1,?_,hm⟩
  have:Gt b1 (Gw v i) 0=Jh (Iy data i t):=by
   unfold Gt
   unfold Eh at f
   rw [List.any_eq_true] at f
   obtain ⟨p,D,B⟩:=f
   cases g:b1.find? (fun p=>Gw v i==p.1) with
   | none=>exact absurd B (by have:=List.find?_eq_none.1 g p D; simpa using this)
   | some q=>
    have hq:=List.find?_some g
    exact hm q (List.mem_of_find?_eq_some g) v i t ((O5 _ _).1 hq).symm ht
  simp only [cond_true,Ad,D2,cond_false,this]
 | false=>
  obtain ⟨w,y,x⟩:=(Ax8 G J b1 b2 vars res.Kind res.Num res.Args 4000000).1 i t (by omega) l b
  have c:Ll v b1 b2 data vars res.Kind res.Num res.Args=some t:=by
   unfold Ll
   unfold tyX at ht
   by_cases h:v = -1
   .rw [if_pos h] at ht; cases ht
    have L:(Aj.mk res.Kind res.Num res.Args)=res:=by cases res; rfl
    rw [Ej h,L]; rfl
   .rw [if_neg h] at ht
    rw [Cq h,ht]; rfl
  have j:(bif decide (w>6) then some (-1) else some w:Option Int)=some (Jh (Iy data i t)):=by
   rw [<-x.clip]
   by_cases h:w>6
   .rw [Al h,if_pos h]; rfl
   .rw [Ar h,if_neg h]; rfl
  refine ⟨E6 b1 (Gw v i) (Jh (Iy data i t)),?_,?_⟩
  .simp only [cond_false,Ad,Bool.not_false,cond_true,c,y,j]
  .intro p hp z E A s k
   rcases Afq _ _ _ p hp with h | h
   .exact hm p h z E A s k
   .subst h
    obtain ⟨rfl,rfl⟩:=Amo s
    rw [ht] at k; cases k; rfl
end Go.Ab
namespace Go.Ab
open Go
def Ed (a b:Int):Int:=if a<b then -1 else if a>b then 1 else 0
def orI (a b:Int):Int:=if a=0 then b else a
theorem Hy {a b:Int}:Ed a b=0↔a=b:=by unfold Ed; split <;> (try split) <;> omega
theorem Mr (a b:Int):J1 a b=some (Ed a b):=by
 unfold J1 Qd Ed
 simp only [Ad,bne_self_eq_false,cond_false]
 by_cases h:a<b
 .rw [Al h,if_pos h]; rfl
 .rw [Ar h,if_neg h]
  by_cases h':a>b
  .rw [Al h',if_pos h']; rfl
  .rw [Ar h',if_neg h']; rfl
theorem Amr (a b:Int):V6 a b=some (Ed a b):=Mr a b
theorem Tx (a b:Int):Me [a,b]=some (orI a b):=by
 unfold Me orI
 by_cases ha:a=0
 .rw [if_pos ha]
  by_cases hb:b=0
  .refine Gu 2 (fun j=>(j:Int)) rfl ?_ ⟨.inr (),rfl,by rw [hb]⟩
   intro j hj
   match j,hj with
   | 0,_=>subst ha; rfl
   | 1,_=>subst hb; rfl
  .refine Gu 1 (fun j=>(j:Int)) rfl ?_ ⟨.inl b,?_,rfl⟩
   .intro j hj
    match j,hj with
    | 0,_=>subst ha; rfl
   .show (bif (b != 0) then _ else _)=_
    rw [Ev hb]; rfl
 .rw [if_neg ha]
  refine Gu 0 (fun j=>(j:Int)) rfl (fun j hj=>by omega) ⟨.inl a,?_,rfl⟩
  show (bif (a != 0) then _ else _)=_
  rw [Ev ha]; rfl
def E3 {α:Type} (g:α->α->Int):List α->List α->Int
 | x::xs,y::ys=>orI (g x y) (E3 g xs ys)
 | _,_=>0
theorem Aya {α:Type} (g:α->α->Int) (l m:List α) {step:Int->Option (Int⊕(Int⊕Unit))} (k:l.length=m.length) (hb:l.length<4611686018427387904)
  (f:∀(j:Nat) (x y:α),l[j]? = some x->m[j]? = some y->decide ((j:Int)<(l.length:Int))=true->Ag l (j:Int)=some x->Ag m (j:Int)=some y->decide ((j:Int)>=(m.length:Int))=false->Ac ((j:Int)+1)=((j+1:Nat):Int) ->
   step (j:Int)=if g x y=0 then some (.inl ((j+1:Nat):Int)) else some (.inr (.inl (g x y))))
  (i:decide ((l.length:Int)<(l.length:Int))=false->step (l.length:Int)=some (.inr (.inr ()))) :
  ∃z,Am step 0=some z/\(match z with | .inl r=>r=E3 g l m/\r≠0 | .inr _=>E3 g l m=0):=by
 have key:∀(n j:Nat),j+n=l.length->∃z,Am step (j:Int)=some z/\(match z with | .inl r=>r=E3 g (l.drop j) (m.drop j)/\r≠0 | .inr _=>E3 g (l.drop j) (m.drop j)=0):=by
  intro n
  induction n with
  | zero=>
   intro j hj
   have:j=l.length:=by omega
   subst this
   refine ⟨.inr (),Dx (i (by simp)),?_⟩
   rw [List.drop_of_length_le (by omega)]; simp [E3]
  | succ n ih=>
   intro j hj
   have hx:l[j]? = some l[j]:=B3 (by omega)
   have hy:m[j]? = some m[j]:=B3 (by omega)
   generalize l[j]=x at hx
   generalize m[j]=y at hy
   have h:=f j x y hx hy (Al (by omega)) (Cd rfl hx) (Cd rfl hy) (Ar (by omega)) (C7 (show j<l.length by omega) hb)
   rw [Ic hx,Ic hy]
   by_cases b:g x y=0
   .rw [if_pos b] at h
    obtain ⟨z,c,z2⟩:=ih (j+1) (by omega)
    refine ⟨z,by rw [G6 h]; exact c,?_⟩
    have e:E3 g (x::l.drop (j+1)) (y::m.drop (j+1))=E3 g (l.drop (j+1)) (m.drop (j+1)):=by simp only [E3,orI,b,if_true]
    cases z with
    | inl r=>simp only [e]; exact z2
    | inr u=>simp only [e]; exact z2
   .rw [if_neg b] at h
    refine ⟨.inl (g x y),Dx h,?_,b⟩
    simp only [E3,orI,b,if_false]
 exact key l.length 0 (by omega)
theorem Aa4 {α:Type} (f:α->α->Option Int) (g:α->α->Int) (l m:List α) (A:l.length=m.length) (hb:l.length<4611686018427387904) (B:∀(j:Nat) (x y:α),l[j]? = some x->m[j]? = some y->f x y=some (g x y)) :
  ((Am (S:=Int) (E:=(Int⊕Unit)) (fun b=>
   bif (decide (b<(l.length:Int))) then (
   (Ag l b).bind fun s=>
   bif (decide (b>=(m.length:Int))) then some (.inr (.inl 1))
   else (
   (Ag m b).bind fun v9=>
   (f s v9).bind fun c=>
   bif (c != (0:Int)) then some (.inr (.inl c))
   else some (.inl (Ac (b+1)))))
   else some (.inr (.inr ()))) 0).bind fun z=>
   match z with
   | .inl k=>some k
   | .inr _=>bif (decide ((l.length:Int)<(m.length:Int))) then some (-1) else some 0)=some (E3 g l m):=by
 refine Ak4 (Aya g l m A hb ?_ (fun h=>by simp only [h]; rfl)) ?_
 .intro j x y hx hy h1 h2 h3 G D
  simp only [h1,h2,h3,G,D,cond_true,cond_false,Ad,B j x y hx hy]
  by_cases i:g x y=0
  .rw [Fb i,if_pos i]; rfl
  .rw [Ev i,if_neg i]; rfl
 .rintro (r | u) q
  .rw [q.1]
  .simp only
   rw [Ar (by omega),show E3 g l m=0 from q]; rfl
def W4 (x y:Bf):Int:=orI (Ed x.Var y.Var) (Ed x.Coef y.Coef)
def Ep (a b:Ap):Int:=if a.Terms.length=b.Terms.length then orI (E3 W4 a.Terms b.Terms) (Ed a.Const b.Const) else Ed a.Terms.length b.Terms.length
theorem Aa5 (a b:Ap) (ha:a.Terms.length<1099511627776):Ko a b=some (Ep a b):=by
 unfold Ko Ep
 rw [Mr,Ad]
 by_cases h:a.Terms.length=b.Terms.length
 .rw [Fb (Hy.2 (by omega)),if_pos h]
  simp only [cond_false]
  have:=Aa4 V5 W4 a.Terms b.Terms h (by omega) (fun j x y _ _=>by
   unfold V5 W4
   rw [Mr,Amr]; simp only [Ad,Tx])
  rw [show Zo a.Terms b.Terms=_ from this,Ad,Amr]
  simp only [Ad,Tx]
 .rw [Ev (fun e=>h (by have:=Hy.1 e; omega)),if_neg h]; rfl
mutual
def Lv:Br->Br->Int
 | ⟨n,k⟩,j=>if n=j.Num then (if k.length=j.Kids.length then Rb k j.Kids else Ed k.length j.Kids.length) else Ed n j.Num
def Rb:List Br->List Br->Int
 | x::xs,y::ys=>orI (Lv x y) (Rb xs ys)
 | [],_=>0
 | _::_,[]=>0
end
theorem Ams (i j:Br):Lv i j=if i.Num=j.Num then (if i.Kids.length=j.Kids.length then Rb i.Kids j.Kids else Ed i.Kids.length j.Kids.length) else Ed i.Num j.Num:=by cases i; simp only [Lv]
theorem Afr:∀l m:List Br,Rb l m=E3 Lv l m
 | x::xs,y::ys=>by simp only [Rb,E3,Afr xs ys]
 | [],_=>by simp [Rb,E3]
 | _::_,[]=>by simp [Rb,E3]
theorem Ayb:∀(n k:Nat) (i j:Br),Dj i<=n->2*n<=k->n<1099511627776->Og k i j=some (Lv i j):=by
 intro n
 induction n with
 | zero=>intro k i j h; have:=Hb i; omega
 | succ n ih=>
  intro k i j h hk c
  obtain ⟨k,rfl⟩:∃b,k=b+2:=⟨k-2,by omega⟩
  have g:=Hb i
  have f:=Tu i.Kids
  rw [Og,Ams,Mr,Mr]
  simp only [Ad,Tx]
  by_cases h1:i.Num=j.Num
  .rw [if_pos h1]
   by_cases h2:i.Kids.length=j.Kids.length
   .rw [if_pos h2,Fb (by unfold orI; rw [Hy.2 h1,Hy.2 (by omega)]; rfl),Afr]
    simp only [cond_false]
    have:=Aa4 (Og k) Lv i.Kids j.Kids h2 (by omega) (fun q x y hx hy=>ih k x y (by have:=Q9 (Cp hx); omega) (by omega) (by omega))
    rw [V4]
    refine Eq.trans (congrArg (fun q=>Option.bind q _) this) rfl
   .have e:orI (Ed i.Num j.Num) (Ed (i.Kids.length:Int) (j.Kids.length:Int))=Ed i.Kids.length j.Kids.length:=by unfold orI; rw [Hy.2 h1]; rfl
    rw [if_neg h2,e,Ev (fun e=>h2 (by have:=Hy.1 e; omega))]; rfl
  .have e:orI (Ed i.Num j.Num) (Ed (i.Kids.length:Int) (j.Kids.length:Int))=Ed i.Num j.Num:=by unfold orI; rw [if_neg (fun e=>h1 (Hy.1 e))]
   rw [if_neg h1,e,Ev (fun e=>h1 (Hy.1 e))]; rfl
def Ty (x y:Bx):Int:=orI (Ed x.Var y.Var) (Lv x.Index y.Index)
def W5 (x y:A6):Int:=orI (Ep x.Lin y.Lin) (Ed x.Deg y.Deg)
def C8 (a b:Ba):Int :=
 if a.Factors.length=b.Factors.length then
  orI (E3 Ty a.Factors b.Factors) (if a.Atoms.length=b.Atoms.length then E3 W5 a.Atoms b.Atoms else Ed a.Atoms.length b.Atoms.length)
 else Ed a.Factors.length b.Factors.length
structure MSz (m:Ba):Prop where
 nf:m.Factors.length<=1048576
 na:m.Atoms.length<=1048576
 fi:∀f∈m.Factors,Dj f.Index<=1048576
 fr:∀f∈m.Factors,iR f.Index/\I64 f.Var
 al:∀a∈m.Atoms,a.Lin.Terms.length<=1048576
theorem Amt (a b:Ba) (ha:MSz a):Of a b=some (C8 a b):=by
 have h1:=ha.nf
 have h2:=ha.na
 unfold Of C8
 rw [Mr,Ad]
 by_cases h:a.Factors.length=b.Factors.length
 .rw [Fb (Hy.2 (by omega)),if_pos h]
  simp only [cond_false]
  have:=Aa4 Vr Ty a.Factors b.Factors h (by omega) (fun j x y hx hy=>by
   unfold Vr Ty
   rw [Mr,Ayb 1048576 4000000 x.Index y.Index (ha.fi x (Cp hx)) (by omega) (by omega)]; simp only [Ad,Tx])
  rw [show Zi a.Factors b.Factors=_ from this,Ad,Mr]
  simp only [Ad,Tx]
  by_cases h0:E3 Ty a.Factors b.Factors=0
  .simp only [h0,orI,if_true]
   by_cases h':a.Atoms.length=b.Atoms.length
   .rw [Fb (Hy.2 (by omega)),if_pos h']
    simp only [cond_false]
    have:=Aa4 Vs W5 a.Atoms b.Atoms h' (by omega) (fun j x y hx hy=>by
     unfold Vs W5
     rw [Mr,Aa5 x.Lin y.Lin (by have:=ha.al x (Cp hx); omega)]; simp only [Ad,Tx])
    rw [show Zj a.Atoms b.Atoms=_ from this]; rfl
   .rw [Ev (fun e=>h' (by have:=Hy.1 e; omega)),if_neg h']; rfl
  .simp only [orI,if_neg h0]
   rw [Ev h0]; rfl
 .rw [Ev (fun e=>h (by have:=Hy.1 e; omega)),if_neg h]; rfl
def Lw {α:Type} (f:α->Int) (l:List α) (x:α) (j:Nat):Bool:=j==0||(match l[j-1]? with | some y=>decide (f y<f x) | none=>false)
def Re (l:List Bf) (x:Bf) (j:Nat):Bool:=decide (-1<=x.Var/\x.Var<3000/\x.Coef≠0/\-1048576<=x.Coef/\x.Coef<=1048576)&&Lw (·.Var) l x j
def B5 (a:Ap):Bool:=decide (-1048576<=a.Const/\a.Const<=1048576/\a.Terms.length<=16)&&a.Terms.zipIdx.all (fun q=>Re a.Terms q.1 q.2)
theorem Amu (n:Int):Ss n=some (decide (-1048576<=n/\n<=1048576)):=by
 unfold Ss
 by_cases h:(-1048576:Int)<=n <;> simp [h]
theorem Ayc (n:Int):Ve n=some (decide (-1<=n/\n<3000)):=by
 unfold Ve
 by_cases h:(-1:Int)<=n <;> simp [h]
theorem Afs {α S E:Type} (f:α->Int) (l:List α) {x:α} {j:Nat} (hx:l[j]? = some x) (i:l.length<4611686018427387904) (c b:Option (S⊕E)) :
  (bif decide ((j:Int)>0) then ((Ag l (Ac ((j:Int)-1))).bind fun g=>bif decide (f g>=f x) then c else b) else b)=bif Lw f l x j then b else c:=by
 have hj:=E8 hx
 unfold Lw
 by_cases h:j=0
 .subst h; rfl
 .rw [Al (by omega)]
  have e:Ac ((j:Int)-1)=((j-1:Nat):Int):=by rw [Ac,Bw] <;> omega
  have hy:l[j-1]? = some l[j-1]:=B3 (by omega)
  rw [e,Cd rfl hy,hy]
  have h0:(j==0)=false:=by simpa using h
  simp only [cond_true,Ad,h0,Bool.false_or]
  by_cases hc:f l[j-1]<f x
  .rw [Ar (by omega),Al hc]; rfl
  .rw [Al (by omega),Ar hc]; rfl
theorem Ky (a:Ap):Hh a=some (B5 a):=by
 unfold Hh B5
 rw [Amu]
 simp only [Ad]
 by_cases h1 : -1048576<=a.Const/\a.Const<=1048576
 .rw [Al h1]
  by_cases h2:a.Terms.length<=16
  .rw [Ar (by omega:¬(a.Terms.length:Int)>16),Al ⟨h1.1,h1.2,h2⟩]
   simp only [D2,cond_false,Ad,Bool.true_and]
   refine (Tn a.Terms (fun q=>Re a.Terms q.1 q.2) (fun j=>(j:Int)) rfl (by omega) (rt:=true) (rf:=false) ?_ ?_).trans (by rw [Kv])
   .intro j x hx _ h1 h2 h3
    simp only [h1,h2,h3,cond_true,Ad,Ayc,Amu,Afs (·.Var) a.Terms hx (by omega),Re]
    by_cases g1 : -1<=x.Var/\x.Var<3000
    .by_cases g2:x.Coef=0
     .rw [Al g1,Ej g2,Ar (fun h=>h.2.2.1 g2)]
      exact ⟨(fun h=>by cases h),fun _=>⟨.inl false,rfl,rfl⟩⟩
     .by_cases g3 : -1048576<=x.Coef/\x.Coef<=1048576
      .rw [Al g1,Cq g2,Al g3,Al ⟨g1.1,g1.2,g2,g3.1,g3.2⟩]
       cases Lw (·.Var) a.Terms x j with
       | true=>exact ⟨fun _=>rfl,fun h=>by cases h⟩
       | false=>exact ⟨(fun h=>by cases h),fun _=>⟨.inl false,rfl,rfl⟩⟩
      .rw [Al g1,Cq g2,Ar g3,Ar (fun h=>g3 h.2.2.2)]
       exact ⟨(fun h=>by cases h),fun _=>⟨.inl false,rfl,rfl⟩⟩
    .rw [Ar g1,Ar (fun h=>g1 ⟨h.1,h.2.1⟩)]
     exact ⟨(fun h=>by cases h),fun _=>⟨.inl false,rfl,rfl⟩⟩
   .intro h _
    exact ⟨.inr (),by simp only [h]; rfl,rfl⟩
  .rw [Al (by omega:(a.Terms.length:Int)>16),Ar (fun h=>h2 h.2.2)]; rfl
 .rw [Ar h1,Ar (fun h : -1048576<=a.Const/\a.Const<=1048576/\a.Terms.length<=16=>h1 ⟨h.1,h.2.1⟩)]; rfl
end Go.Ab
namespace Go.Ab
open Go
structure Ms (data:List A8) (vars:List Aj) (res:Aj):Prop where
 vd:Mq data
 sh:W0 data
 sz:∀v t,tyX vars res v=some t->B4 t<=200
 nv:vars.length<=3000
theorem Amv (vars:List Aj) (res:Aj) (v:Int):(tyX vars res v).isSome=decide (-1<=v/\v<vars.length):=by
 unfold tyX
 by_cases h:v = -1
 .rw [if_pos h]; subst h; rw [Al (by omega)]; rfl
 .rw [if_neg h]
  cases hx:Ag vars v with
  | none=>rcases Wz hx with h' | h' <;> rw [Ar (by omega)] <;> rfl
  | some t=>have:=J6 hx; rw [Al (by omega)]; rfl
section
variable (b1:List (ByteArray×Int)) (b2:List (ByteArray×List Bz)) (data:List A8) (vars:List Aj) (res:Aj)
theorem Amw (v:Int) (f c:Int) (b:List Aj):Qg v b1 b2 data vars f c b=some (tyX vars res v).isSome:=by
 rw [Amv]
 unfold Qg
 by_cases h:v>=-1
 .rw [Al h]
  by_cases h':v<(vars.length:Int)
  .rw [Al h',Al ⟨h,h'⟩]; rfl
  .rw [Ar h',Ar (fun g=>h' g.2)]; rfl
 .rw [Ar h,Ar (fun g : -1<=v/\v<(vars.length:Int)=>h g.1)]; rfl
theorem Amx {v:Int} {t:Aj} (ht:tyX vars res v=some t):Ll v b1 b2 data vars res.Kind res.Num res.Args=some t:=by
 unfold Ll
 unfold tyX at ht
 by_cases h:v = -1
 .rw [if_pos h] at ht; cases ht
  have b:(Aj.mk res.Kind res.Num res.Args)=res:=by cases res; rfl
  rw [Ej h,b]; rfl
 .rw [if_neg h] at ht
  rw [Cq h,ht]; rfl
def J9 (t:Bf):Bool:=match tyX vars res t.Var with | some u=>u.Kind==1 | none=>false
def Dz (l:Ap):Bool:=l.Terms.all (J9 vars res)
theorem Amy (l:Ap) (c:l.Terms.length<=1048576):P7 l b1 b2 data vars res.Kind res.Num res.Args=some (Dz vars res l):=by
 unfold P7 Zp Zu
 have key:=Aen l.Terms (fun t=>!J9 vars res t) (by omega) (J:=fun z=>match z with | .inl b=>some b | .inr _=>some (-1)) (step:=fun v3=>bif (decide (v3<(l.Terms.length:Int))) then ((Ag l.Terms v3).bind fun v4=>(S7 v4 b1 b2 data vars res.Kind res.Num res.Args).bind fun v5=>bif v5 then some (.inr (.inl v3)) else some (.inl (Ac (v3+1)))) else some (.inr (.inr ()))) (by
  intro j x hx h1 h2 h3
  have e:S7 x b1 b2 data vars res.Kind res.Num res.Args=some (!J9 vars res x):=by
   unfold S7 J9
   rw [Amw b1 b2 data vars res,Ad]
   cases ht:tyX vars res x.Var with
   | none=>rfl
   | some t=>rw [Amx b1 b2 data vars res ht]; rfl
  simp only [h1,h2,h3,cond_true,Ad,e]) (fun h=>by simp only [h]; rfl) (fun _=>rfl) rfl
 obtain ⟨i,i1,i2⟩:=key
 erw [i1]
 simp only [Ad,i2]
 congr 1
 unfold Dz
 rw [List.any_eq_not_all_not]; simp
def E4 (f:Bx):Int:=match tyX vars res f.Var with | some t=>Jh (Iy data f.Index t) | none => -1
theorem Amz (f:Bx) : -1<=E4 data vars res f/\E4 data vars res f<=6:=by
 unfold E4
 cases tyX vars res f.Var with
 | none=>simp
 | some t=>rcases Axw (Iy data f.Index t) with ⟨h,_⟩ | ⟨d,_,h2,h⟩ <;> simp only [h] <;> omega
def Ka (m:Ba):Bool:=m.Factors.all (fun f=>decide (0<=E4 data vars res f))&&m.Atoms.all (fun a=>decide (0<=a.Deg)&&Dz vars res a.Lin)
def Dq (l:List Bx):Int:=(l.map (E4 data vars res)).sum
def Ce (l:List A6):Int:=(l.map (·.Deg)).sum
def Nu (l:List A6) (x:A6) (j:Nat):Bool:=j==0||(match l[j-1]? with | some y=>decide (Ep y.Lin x.Lin<0) | none=>false)
def W6 (l:List Bx) (f:Bx) (j:Nat):Bool:=decide (1<=E4 data vars res f)&&Lw (·.Var) l f j
def Mt (l:List A6) (a:A6) (j:Nat):Bool:=decide (1<=a.Deg)&&B5 a.Lin && !(a.Lin.Terms.length==0)&&Dz vars res a.Lin&&Nu l a j
def Hz (m:Ba):Bool:=m.Factors.zipIdx.all (fun q=>W6 data vars res m.Factors q.1 q.2)&&m.Atoms.zipIdx.all (fun q=>Mt vars res m.Atoms q.1 q.2)&&decide (Dq data vars res m.Factors+Ce m.Atoms<=6)
variable {b1 data vars res}
theorem W7 (hc:Ms data vars res) (hm:Dn data vars res b1) (f:Bx) (g:I64 f.Var) (hr:iR f.Index) (h:Dj f.Index<=1048576) (b:(tyX vars res f.Var).isSome=true) :
  ∃c,Lj f.Var f.Index b1 b2 data vars res.Kind res.Num res.Args=some (E4 data vars res f,c)/\Dn data vars res c:=by
 cases ht:tyX vars res f.Var with
 | none=>rw [ht] at b; cases b
 | some t=>
  obtain ⟨c,h1,h2⟩:=Ax9 hc.vd.szv hc.sh b1 b2 vars res hm f.Var f.Index t ht (hc.sz _ _ ht) g hr h
  refine ⟨c,?_,h2⟩
  rw [h1]; unfold E4; rw [ht]
theorem Ayd (hc:Ms data vars res) (hm:Dn data vars res b1) (m:Ba) (l:MSz m) :
  ∃s,Vz m b1 b2 data vars res.Kind res.Num res.Args=some (Ka data vars res m,s)/\Dn data vars res s:=by
 have V:=l.nf
 have ha:=l.na
 unfold Vz
 refine Aae (fun s=>(Ka data vars res m,s)) ?_
 obtain ⟨r,U,N⟩:=Aeo (M:=List (ByteArray×Int)) (R:=Bool×List (ByteArray×Int)) m.Factors (fun q=>decide (0<=E4 data vars res q.1)) (fun j o=>((j:Int),o)) (Dn data vars res)
  (fun r=>Dn data vars res r.2/\r.1=m.Atoms.all (fun a=>decide (0<=a.Deg)&&Dz vars res a.Lin)) (fun r=>Dn data vars res r.2/\r.1=false) b1
  (s0:=((0:Int),b1))
  (step:=(fun (A,x)=>
   bif (decide (A<(m.Factors.length:Int))) then (
   (Ag m.Factors A).bind fun v8=>
   (Qg v8.Var x b2 data vars res.Kind res.Num res.Args).bind fun B=>
   bif (!B) then some (.inr (.inl (false,x)))
   else (
   (Lj v8.Var v8.Index x b2 data vars res.Kind res.Num res.Args).bind fun g=>
   bif (decide (g.1<(0:Int))) then some (.inr (.inl (false,g.2)))
   else some (.inl ((Ac (A+1)),g.2))))
   else some (.inr (.inr x)):Int×List (ByteArray×Int)->Option ((Int×List (ByteArray×Int))⊕((Bool×List (ByteArray×Int))⊕List (ByteArray×Int)))))
  (J:=(fun z=>match z with
   | .inl (L,I)=>some (L,I)
   | .inr b=>(Am (S:=Int) (E:=((Bool×(List (ByteArray×Int)))⊕Unit)) (fun c=>
     bif (decide (c<(m.Atoms.length:Int))) then (
     (Ag m.Atoms c).bind fun u=>
     bif (decide (u.Deg<(0:Int))) then some (.inr (.inl (false,b)))
     else (
     (P7 u.Lin b b2 data vars res.Kind res.Num res.Args).bind fun v21=>
     bif (!v21) then some (.inr (.inl (false,b)))
     else some (.inl (Ac (c+1)))))
     else some (.inr (.inr ()))) 0).bind fun z=>match z with
      | .inl (G,D)=>some (G,D)
      | .inr _=>some (true,b)))
  rfl hm (by omega) (by
   intro j f o y hx _ h1 h2 h3
   have k:=Cp hx
   simp only [h1,h2,h3,cond_true,Ad,Amw o b2 data vars res]
   cases i:(tyX vars res f.Var).isSome with
   | false=>
    have e:E4 data vars res f = -1:=by
     unfold E4
     cases ht:tyX vars res f.Var with
     | none=>rfl
     | some t=>rw [ht] at i; cases i
    rw [e]
    exact ⟨(fun h=>by cases h),fun _=>⟨_,rfl,_,rfl,y,rfl⟩⟩
   | true=>
    obtain ⟨s,d1,d2⟩:=W7 b2 hc y f (l.fr f k).2 (l.fr f k).1 (l.fi f k) i
    simp only [D2,cond_false,d1,Ad]
    by_cases h0:0<=E4 data vars res f
    .rw [Al h0,Ar (by omega)]
     exact ⟨fun _=>⟨s,rfl,d2⟩,fun h=>by cases h⟩
    .rw [Ar h0,Al (by omega)]
     exact ⟨(fun h=>by cases h),fun _=>⟨_,rfl,_,rfl,d2,rfl⟩⟩) (by
   intro o y h1 _
   refine ⟨.inr o,by simp only [h1]; rfl,?_⟩
   refine ⟨(m.Atoms.all (fun a=>decide (0<=a.Deg)&&Dz vars res a.Lin),o),?_,y,rfl⟩
   refine (Ia m.Atoms (fun a=>decide (0<=a.Deg)&&Dz vars res a.Lin) (fun j=>(j:Int)) rfl (by omega) (rt:=(true,o)) (rf:=(false,o)) ?_ ?_).trans (by cases m.Atoms.all (fun a=>decide (0<=a.Deg)&&Dz vars res a.Lin) <;> rfl)
   .intro j a hx h1 h2 h3
    simp only [h1,h2,h3,cond_true,Ad,Amy o b2 data vars res a.Lin (l.al a (Cp hx))]
    by_cases h0:0<=a.Deg
    .rw [Al h0,Ar (by omega)]
     cases Dz vars res a.Lin with
     | true=>exact ⟨fun _=>rfl,fun h=>by cases h⟩
     | false=>exact ⟨(fun h=>by cases h),fun _=>⟨_,rfl,rfl⟩⟩
    .rw [Ar h0,Al (by omega)]
     exact ⟨(fun h=>by cases h),fun _=>⟨_,rfl,rfl⟩⟩
   .intro h; exact ⟨.inr (),by simp only [h]; rfl,rfl⟩)
 refine ⟨r,U,r.2,?_,?_⟩
 .unfold Ka
  rw [<-Aaj]
  rcases N with ⟨h1,h2,h3⟩ | ⟨h1,h2,h3⟩
  .rw [h1,Bool.true_and,<-h3]
  .rw [h1,Bool.false_and,<-h3]
 .rcases N with ⟨h1,h2,h3⟩ | ⟨h1,h2,h3⟩ <;> exact h2
theorem Am0 (g:Bx->Int) {l:List Bx} {j:Nat} {x:Bx} (h:l[j]? = some x):((l.take (j+1)).map g).sum=((l.take j).map g).sum+g x:=by
 rw [De h]; simp
theorem Am1 {l:List A6} {j:Nat} {x:A6} (h:l[j]? = some x):Ce (l.take (j+1))=Ce (l.take j)+x.Deg:=by
 unfold Ce; rw [De h]; simp
theorem Aye (hc:Ms data vars res) (hm:Dn data vars res b1) (m:Ba) (k:MSz m) (hp:Ka data vars res m=true) :
  ∃p:Int×List (ByteArray×Int),Kp m b1 b2 data vars res.Kind res.Num res.Args=some p/\(decide (p.1>6) = !decide (Dq data vars res m.Factors+Ce m.Atoms<=6))/\Dn data vars res p.2:=by
 have B:=k.nf
 have ha:=k.na
 unfold Ka at hp
 rw [C2,List.all_eq_true,List.all_eq_true] at hp
 unfold Kp
 refine E7 (fun (v5,u,g)=>∃j:Nat,u=j/\j<=m.Factors.length/\Dn data vars res g/\0<=v5/\v5<=12/\(v5=Dq data vars res (m.Factors.take j)\/(6<v5/\6<Dq data vars res (m.Factors.take j)))) (fun (_,u,_)=>m.Factors.length-u.toNat)
  (fun (v5,g)=>Dn data vars res g/\0<=v5/\v5<=12/\(v5=Dq data vars res m.Factors\/(6<v5/\6<Dq data vars res m.Factors))) ⟨0,rfl,by omega,hm,by omega,by omega,.inl (by simp [Dq])⟩ ?_ ?_
 .rintro ⟨v5,u,g⟩ ⟨j,rfl,hj,q,h0,h12,l⟩
  rcases Nat.lt_or_ge j m.Factors.length with h | h
  .have hx:m.Factors[j]? = some m.Factors[j]:=B3 h
   generalize m.Factors[j]=f at hx
   have c:=Cp hx
   have hd:=hp.1 f c
   rw [decide_eq_true_eq] at hd
   have A:=(Amz data vars res f).2
   have es:Dq data vars res (m.Factors.take (j+1))=Dq data vars res (m.Factors.take j)+E4 data vars res f:=Am0 _ hx
   simp only [Al (by omega:(j:Int)<(m.Factors.length:Int)),cond_true,Cd rfl hx,Ad,C7 h (by omega)]
   by_cases s:v5<=6
   .have x:(tyX vars res f.Var).isSome=true:=by
     unfold E4 at hd
     cases ht:tyX vars res f.Var with
     | none=>rw [ht] at hd; have hd:(0:Int)<=-1:=hd; omega
     | some t=>rfl
    obtain ⟨D,d1,d2⟩:=W7 b2 hc q f (k.fr f c).2 (k.fr f c).1 (k.fi f c) x
    rw [Al s]
    simp only [cond_true,d1,Ad]
    have b:Ac (v5+E4 data vars res f)=v5+E4 data vars res f:=by rw [Ac,Bw] <;> omega
    exact .inl ⟨_,rfl,⟨j+1,rfl,by omega,d2,by simp only [b]; omega,by simp only [b]; omega,by simp only [b,es]; omega⟩,by simp; omega⟩
   .rw [Ar s]
    exact .inl ⟨_,rfl,⟨j+1,rfl,by omega,q,h0,h12,by simp only [es]; omega⟩,by simp; omega⟩
  .have:j=m.Factors.length:=by omega
   subst this
   rw [List.take_length] at l
   exact .inr ⟨(v5,g),by simp,q,h0,h12,l⟩
 .rintro ⟨v5,g⟩ ⟨q,h0,h12,l⟩
  simp only
  refine E7 (fun (v,i)=>∃j:Nat,i=j/\j<=m.Atoms.length/\0<=v/\v<=13/\(v=Dq data vars res m.Factors+Ce (m.Atoms.take j)\/(6<v/\6<Dq data vars res m.Factors+Ce (m.Atoms.take j)))) (fun (_,i)=>m.Atoms.length-i.toNat)
   (fun v=>(v=Dq data vars res m.Factors+Ce m.Atoms\/(6<v/\6<Dq data vars res m.Factors+Ce m.Atoms))) ⟨0,rfl,by omega,h0,by omega,by simpa [Ce] using l⟩ ?_ ?_
  .rintro ⟨v,i⟩ ⟨j,rfl,hj,g0,g13,z⟩
   rcases Nat.lt_or_ge j m.Atoms.length with h | h
   .have hx:m.Atoms[j]? = some m.Atoms[j]:=B3 h
    generalize m.Atoms[j]=a at hx
    have hd:=hp.2 a (Cp hx)
    rw [C2,decide_eq_true_eq] at hd
    have es:=Am1 hx
    simp only [Al (by omega:(j:Int)<(m.Atoms.length:Int)),cond_true,Cd rfl hx,Ad,C7 h (by omega)]
    by_cases s:v<=6
    .rw [Al s]
     simp only [cond_true]
     by_cases y:7<a.Deg
     .rw [if_pos y]
      have b:Ac (v+7)=v+7:=by rw [Ac,Bw] <;> omega
      exact .inl ⟨_,rfl,⟨j+1,rfl,by omega,by simp only [b]; omega,by simp only [b]; omega,by simp only [b,es]; omega⟩,by simp; omega⟩
     .rw [if_neg y]
      have b:Ac (v+a.Deg)=v+a.Deg:=by rw [Ac,Bw] <;> omega
      exact .inl ⟨_,rfl,⟨j+1,rfl,by omega,by simp only [b]; omega,by simp only [b]; omega,by simp only [b,es]; omega⟩,by simp; omega⟩
    .rw [Ar s]
     exact .inl ⟨_,rfl,⟨j+1,rfl,by omega,g0,g13,by simp only [es]; omega⟩,by simp; omega⟩
   .have:j=m.Atoms.length:=by omega
    subst this
    rw [List.take_length] at z
    exact .inr ⟨v,by simp,z⟩
  .intro v l
   refine ⟨(v,g),rfl,?_,q⟩
   by_cases h:Dq data vars res m.Factors+Ce m.Atoms<=6
   .rw [Al h,Ar (by simp only; omega)]; rfl
   .rw [Ar h,Al (by simp only; omega)]; rfl
end
end Go.Ab
namespace Go.Ab
open Go
theorem Ayf {S E:Type} (F:Ap->Ap->Option Int) (l:List A6) (g:∀y∈l,∀x,F y.Lin x=some (Ep y.Lin x)) {x:A6} {j:Nat} (hx:l[j]? = some x) (i:l.length<4611686018427387904) (c b:Option (S⊕E)) :
  (bif decide ((j:Int)>0) then ((Ag l (Ac ((j:Int)-1))).bind fun f=>(F f.Lin x.Lin).bind fun v28=>bif decide (v28>=0) then c else b) else b)=bif Nu l x j then b else c:=by
 have hj:=E8 hx
 unfold Nu
 by_cases h:j=0
 .subst h; rfl
 .rw [Al (by omega)]
  have e:Ac ((j:Int)-1)=((j-1:Nat):Int):=by rw [Ac,Bw] <;> omega
  have hy:l[j-1]? = some l[j-1]:=B3 (by omega)
  rw [e,Cd rfl hy,hy]
  have h0:(j==0)=false:=by simpa using h
  simp only [cond_true,Ad,h0,Bool.false_or,g _ (List.getElem_mem (by omega:j-1<l.length))]
  by_cases hc:Ep l[j-1].Lin x.Lin<0
  .rw [Ar (by omega),Al hc]; rfl
  .rw [Al (by omega),Ar hc]; rfl
section
variable {b1:List (ByteArray×Int)} (b2:List (ByteArray×List Bz)) {data:List A8} {vars:List Aj} {res:Aj}
def W8 (data:List A8) (vars:List Aj) (res:Aj) (l:List Bx) (f:Bx) (j:Nat):Bool:=!(E4 data vars res f==0)&&Lw (·.Var) l f j
def O8 (l:List A6) (a:A6) (j:Nat):Bool:=!(a.Deg==0)&&B5 a.Lin && !(a.Lin.Terms.length==0)&&Nu l a j
theorem Ayg (m:Ba):Hz data vars res m=(Ka data vars res m&&decide (Dq data vars res m.Factors+Ce m.Atoms<=6)&&m.Factors.zipIdx.all (fun q=>W8 data vars res m.Factors q.1 q.2)&&m.Atoms.zipIdx.all (fun q=>O8 m.Atoms q.1 q.2)):=by
 rw [Bool.eq_iff_iff]
 unfold Hz Ka
 rw [<-Aaj m.Factors (fun f=>decide (0<=E4 data vars res f)),<-Aaj m.Atoms (fun a=>decide (0<=a.Deg)&&Dz vars res a.Lin)]
 simp only [C2,List.all_eq_true,W6,Mt,W8,O8,decide_eq_true_eq,Bool.not_eq_true',beq_eq_false_iff_ne,ne_eq]
 constructor
 .rintro ⟨⟨h1,h2⟩,h3⟩
  refine ⟨⟨⟨⟨fun q hq=>?_,fun q hq=>?_⟩,h3⟩,fun q hq=>?_⟩,fun q hq=>?_⟩
  .have:=(h1 q hq).1; omega
  .have:=h2 q hq; exact ⟨by omega,this.1.2⟩
  .have:=h1 q hq; exact ⟨by omega,this.2⟩
  .have:=h2 q hq; exact ⟨⟨⟨by omega,this.1.1.1.2⟩,this.1.1.2⟩,this.2⟩
 .rintro ⟨⟨⟨⟨h1,h2⟩,h3⟩,c⟩,b⟩
  refine ⟨⟨fun q hq=>?_,fun q hq=>?_⟩,h3⟩
  .have:=h1 q hq; have g:=c q hq; exact ⟨by omega,g.2⟩
  .have:=h2 q hq; have g:=b q hq; exact ⟨⟨⟨⟨by omega,g.1.1.2⟩,g.1.2⟩,this.2⟩,g.2⟩
theorem Ayh (hc:Ms data vars res) (hm:Dn data vars res b1) (m:Ba) (i:MSz m) :
  ∃A,S0 m b1 b2 data vars res.Kind res.Num res.Args=some (Hz data vars res m,A)/\Dn data vars res A:=by
 have hf:=i.nf
 have ha:=i.na
 rw [Ayg]
 unfold S0
 obtain ⟨b,p1,Z⟩:=Ayd b2 hc hm m i
 rw [p1]
 cases hp:Ka data vars res m with
 | false=>exact ⟨b,rfl,Z⟩
 | true=>
  obtain ⟨q,q1,q2,Y⟩:=Aye b2 hc Z m i hp
  simp only [Ad,D2,cond_false,q1,q2]
  cases hs:decide (Dq data vars res m.Factors+Ce m.Atoms<=6) with
  | false=>exact ⟨q.2,rfl,Y⟩
  | true=>
   simp only [D2,cond_false,Bool.true_and]
   have U:∀f∈m.Factors,(tyX vars res f.Var).isSome=true:=by
    intro f c
    unfold Ka at hp
    rw [C2,List.all_eq_true] at hp
    have hd:=hp.1 f c
    rw [decide_eq_true_eq] at hd
    unfold E4 at hd
    cases ht:tyX vars res f.Var with
    | none=>rw [ht] at hd; have hd:(0:Int)<=-1:=hd; omega
    | some t=>rfl
   obtain ⟨r,r1,X⟩:=Aeo (M:=List (ByteArray×Int)) (R:=Bool×List (ByteArray×Int)) m.Factors (fun q=>W8 data vars res m.Factors q.1 q.2) (fun j o=>((j:Int),o)) (Dn data vars res)
    (fun r=>Dn data vars res r.2/\r.1=m.Atoms.zipIdx.all (fun q=>O8 m.Atoms q.1 q.2)) (fun r=>Dn data vars res r.2/\r.1=false) q.2
    (s0:=((0:Int),q.2))
    (step:=(fun (v9,s)=>
     bif (decide (v9<(m.Factors.length:Int))) then (
     (Ag m.Factors v9).bind fun k=>
     (Lj k.Var k.Index s b2 data vars res.Kind res.Num res.Args).bind fun g=>
     bif (g.1==(0:Int)) then some (.inr (.inl (false,g.2)))
     else (
     bif (decide (v9>(0:Int))) then (
     (Ag m.Factors (Ac (v9-1))).bind fun D=>
     bif (decide (D.Var>=k.Var)) then some (.inr (.inl (false,g.2)))
     else some (.inl ((Ac (v9+1)),g.2)))
     else some (.inl ((Ac (v9+1)),g.2))))
     else some (.inr (.inr s)):Int×List (ByteArray×Int)->Option ((Int×List (ByteArray×Int))⊕((Bool×List (ByteArray×Int))⊕List (ByteArray×Int)))))
    (J:=(fun z=>match z with
     | .inl (N,L)=>some (N,L)
     | .inr l=>(Am (S:=Int) (E:=((Bool×(List (ByteArray×Int)))⊕Unit)) (fun v22=>
       bif (decide (v22<(m.Atoms.length:Int))) then (
       (Ag m.Atoms v22).bind fun v23=>
       (show Option Bool from
       bif (v23.Deg==(0:Int)) then some true
       else (
       (Hh v23.Lin).bind fun v25=>
       bif (!v25) then some true
       else some ((v23.Lin.Terms.length:Int)==(0:Int)))).bind fun v26=>
       bif v26 then some (.inr (.inl (false,l)))
       else (
       bif (decide (v22>(0:Int))) then (
       (Ag m.Atoms (Ac (v22-1))).bind fun B=>
       (Ko B.Lin v23.Lin).bind fun v28=>
       bif (decide (v28>=(0:Int))) then some (.inr (.inl (false,l)))
       else some (.inl (Ac (v22+1))))
       else some (.inl (Ac (v22+1)))))
       else some (.inr (.inr ()))) 0).bind fun z=>match z with
        | .inl (I,G)=>some (I,G)
        | .inr _=>some (true,l)))
    rfl Y (by omega) (by
     intro j f o V hx _ h1 h2 h3
     have c:=Cp hx
     obtain ⟨A,d1,d2⟩:=W7 b2 hc V f (i.fr f c).2 (i.fr f c).1 (i.fi f c) (U f c)
     simp only [h1,h2,h3,cond_true,Ad,d1,Afs (·.Var) m.Factors hx (by omega),W8]
     cases (E4 data vars res f==0) with
     | true=>exact ⟨(fun h=>by cases h),fun _=>⟨_,rfl,_,rfl,d2,rfl⟩⟩
     | false=>
      cases Lw (·.Var) m.Factors f j with
      | true=>exact ⟨fun _=>⟨A,rfl,d2⟩,fun h=>by cases h⟩
      | false=>exact ⟨(fun h=>by cases h),fun _=>⟨_,rfl,_,rfl,d2,rfl⟩⟩) (by
     intro o V h1 _
     refine ⟨.inr o,by simp only [h1]; rfl,?_⟩
     refine ⟨(m.Atoms.zipIdx.all (fun q=>O8 m.Atoms q.1 q.2),o),?_,V,rfl⟩
     refine (Tn m.Atoms (fun q=>O8 m.Atoms q.1 q.2) (fun j=>(j:Int)) rfl (by omega) (rt:=(true,o)) (rf:=(false,o)) ?_ ?_).trans (by cases m.Atoms.zipIdx.all (fun q=>O8 m.Atoms q.1 q.2) <;> rfl)
     .intro j a hx _ h1 h2 h3
      have u:((a.Lin.Terms.length:Int)==(0:Int))=(a.Lin.Terms.length==0):=Aww a.Lin.Terms 0
      simp only [h1,h2,h3,cond_true,Ad,Ky,Ayf Ko m.Atoms (fun y hy x=>Aa5 y.Lin x (by have:=i.al y hy; omega)) hx (by omega),O8,u]
      cases (a.Deg==0) with
      | true=>exact ⟨(fun h=>by cases h),fun _=>⟨_,rfl,rfl⟩⟩
      | false=>
       cases B5 a.Lin with
       | false=>exact ⟨(fun h=>by cases h),fun _=>⟨_,rfl,rfl⟩⟩
       | true=>
        cases (a.Lin.Terms.length==0) with
        | true=>exact ⟨(fun h=>by cases h),fun _=>⟨_,rfl,rfl⟩⟩
        | false=>
         cases Nu m.Atoms a j with
         | true=>exact ⟨fun _=>rfl,fun h=>by cases h⟩
         | false=>exact ⟨(fun h=>by cases h),fun _=>⟨_,rfl,rfl⟩⟩
     .intro h _; exact ⟨.inr (),by simp only [h]; rfl,rfl⟩)
   refine ⟨r.2,?_,?_⟩
   .have e:some r=some (m.Factors.zipIdx.all (fun q=>W8 data vars res m.Factors q.1 q.2)&&m.Atoms.zipIdx.all (fun q=>O8 m.Atoms q.1 q.2),r.2):=by
     rcases X with ⟨h1,h2,h3⟩ | ⟨h1,h2,h3⟩
     .rw [h1,Bool.true_and,<-h3]
     .rw [h1,Bool.false_and,<-h3]
    rw [<-e]
    exact r1
   .rcases X with ⟨h1,h2,h3⟩ | ⟨h1,h2,h3⟩ <;> exact h2
theorem Ayi (l:List Bx) (h:∀f∈l,0<=E4 data vars res f):0<=Dq data vars res l:=by
 induction l with
 | nil=>simp [Dq]
 | cons x xs ih=>
  have h1:=h x (by simp)
  have h2:=ih (fun f b=>h f (by simp [b]))
  unfold Dq at *
  simp only [List.map_cons,List.sum_cons]
  omega
theorem Am2 (l:List A6) (h:∀a∈l,0<=a.Deg):0<=Ce l/\((∀a∈l,a.Deg<=6)->Ce l<=6*l.length)/\∀a∈l,a.Deg<=Ce l:=by
 induction l with
 | nil=>simp [Ce]
 | cons x xs ih=>
  have h1:=h x (by simp)
  obtain ⟨i1,i2,i3⟩:=ih (fun f b=>h f (by simp [b]))
  unfold Ce at *
  simp only [List.map_cons,List.sum_cons,List.length_cons]
  refine ⟨by omega,fun g=>?_,fun a ha=>?_⟩
  .have:=g x (by simp)
   have:=i2 (fun a ha=>g a (by simp [ha]))
   omega
  .rcases List.mem_cons.1 ha with rfl | ha
   .omega
   .have:=i3 a ha; omega
end
end Go.Ab
namespace Go.Ab
open Go
theorem Ayj {α:Type} [DecidableEq α] (l m:List α) (b:l.length=m.length):(decide (l=m))=l.zipIdx.all (fun q=>decide (m[q.2]? = some q.1)):=by
 rw [Bool.eq_iff_iff,decide_eq_true_eq]
 constructor
 .rintro rfl
  exact Ak3 fun j x hx=>by simpa using hx
 .intro h
  apply List.ext_getElem?
  intro j
  cases hx:l[j]? with
  | none=>rw [List.getElem?_eq_none_iff] at hx; rw [List.getElem?_eq_none (by omega)]
  | some x=>have:=Jc h hx; rw [decide_eq_true_eq] at this; rw [this]
theorem Ayk {R:Type} (l m:List Int) (b:l.length<1099511627776) (h:l.length=m.length) {J:Bool⊕Unit->Option R} {rt rf:R} (h1:J (.inl false)=some rf) (h2:J (.inr ())=some rt) :
  (Am (S:=Int) (E:=(Bool⊕Unit)) (fun v3=>bif (decide (v3<(l.length:Int))) then ((Ag l v3).bind fun v4=>(Ag m v3).bind fun v5=>bif (v4 != v5) then some (.inr (.inl false)) else some (.inl (Ac (v3+1)))) else some (.inr (.inr ()))) 0).bind J=some (bif decide (l=m) then rt else rf):=by
 rw [Ayj l m h]
 refine Tn l (fun q=>decide (m[q.2]? = some q.1)) (fun j=>(j:Int)) rfl (by omega) (rt:=rt) (rf:=rf) ?_ ?_
 .intro j x hx _ g1 g2 g3
  have hj:j<m.length:=by have:=E8 hx; omega
  have hy:m[j]? = some m[j]:=B3 hj
  generalize m[j]=y at hy
  simp only [g1,g2,g3,cond_true,Ad,Cd rfl hy,hy,Option.some.injEq]
  by_cases e:x=y
  .rw [Fb e,Al e.symm]
   exact ⟨fun _=>rfl,fun h=>by cases h⟩
  .rw [Ev e,Ar (fun h=>e h.symm)]
   exact ⟨(fun h=>by cases h),fun _=>⟨.inl false,rfl,h1⟩⟩
 .intro h _; exact ⟨.inr (),by simp only [h]; rfl,h2⟩
theorem Am3 (l m:List Int) (b:l.length<1099511627776):Mc l m=some (decide (l=m)):=by
 unfold Mc
 by_cases h:l.length=m.length
 .rw [Fb (by omega)]
  simp only [cond_false]
  refine (Ayk l m b h (rt:=true) (rf:=false) ?_ ?_).trans (by rw [Kv]) <;> rfl
 .rw [Ev (by omega),Ar (fun e=>h (by rw [e]))]; rfl
def Tz (a b:Ak):Bool:=a.Neg==b.Neg&&decide (a.Num=b.Num)&&decide (a.Den=b.Den)
theorem Am4 (a b:Ak):Tz a b=true↔a=b:=by
 unfold Tz
 simp only [C2,beq_iff_eq,decide_eq_true_eq]
 constructor
 .rintro ⟨⟨h1,h2⟩,h3⟩; cases a; cases b; simp_all
 .rintro rfl; simp
def W9 (c:Ak):Bool:=Tz (Bs (sv c) (nv c) (dv c)) c && !(nv c==0)
structure TSz (t:Ah):Prop where
 co:RB 1048576 t.Coef
 mo:MSz t.Mono
def Rf (l:List Ah) (x:Ah) (j:Nat):Bool:=j==0||(match l[j-1]? with | some y=>decide (C8 y.Mono x.Mono<0) | none=>false)
def T0 (data:List A8) (vars:List Aj) (res:Aj) (l:List Ah) (t:Ah) (j:Nat):Bool:=W9 t.Coef&&Hz data vars res t.Mono&&Rf l t j
def H3 (data:List A8) (vars:List Aj) (res:Aj) (p:List Ah):Bool:=decide (p.length<=1000)&&p.zipIdx.all (fun q=>T0 data vars res p q.1 q.2)
theorem Ayl {S E:Type} (F:Ba->Ba->Option Int) (l:List Ah) (g:∀y∈l,∀x,F y.Mono x=some (C8 y.Mono x)) {x:Ah} {j:Nat} (hx:l[j]? = some x) (i:l.length<4611686018427387904) (c b:Option (S⊕E)) :
  (bif decide ((j:Int)>0) then ((Ag l (Ac ((j:Int)-1))).bind fun f=>(F f.Mono x.Mono).bind fun v28=>bif decide (v28>=0) then c else b) else b)=bif Rf l x j then b else c:=by
 have hj:=E8 hx
 unfold Rf
 by_cases h:j=0
 .subst h; rfl
 .rw [Al (by omega)]
  have e:Ac ((j:Int)-1)=((j-1:Nat):Int):=by rw [Ac,Bw] <;> omega
  have hy:l[j-1]? = some l[j-1]:=B3 (by omega)
  rw [e,Cd rfl hy,hy]
  have h0:(j==0)=false:=by simpa using h
  simp only [cond_true,Ad,h0,Bool.false_or,g _ (List.getElem_mem (by omega:j-1<l.length))]
  by_cases hc:C8 l[j-1].Mono x.Mono<0
  .rw [Ar (by omega),Al hc]; rfl
  .rw [Al (by omega),Ar hc]; rfl
theorem Aym (s:Bool) (n:Nat):(Hv s n==0)=(n==0):=by
 unfold Hv
 by_cases h:n=0
 .rw [if_pos h]; subst h; rfl
 .rw [if_neg h]
  have:(n==0)=false:=by simpa using h
  rw [this]; cases s <;> rfl
theorem Am5 {data:List A8} {vars:List Aj} {res:Aj} (hc:Ms data vars res) {b1:List (ByteArray×Int)} (b2:List (ByteArray×List Bz)) (hm:Dn data vars res b1) (p:List Ah) (U:∀t∈p,TSz t) :
  ∃B,Vb p b1 b2 data vars res.Kind res.Num res.Args=some (H3 data vars res p,B)/\Dn data vars res B:=by
 unfold Vb H3
 by_cases A:p.length<=1000
 .rw [Ar (by omega),Al A,Bool.true_and]
  simp only [cond_false]
  obtain ⟨r,V,S⟩:=Aeo (M:=List (ByteArray×Int)) (R:=Bool×List (ByteArray×Int)) p (fun q=>T0 data vars res p q.1 q.2) (fun j o=>((j:Int),o)) (Dn data vars res)
   (fun r=>Dn data vars res r.2/\r.1=true) (fun r=>Dn data vars res r.2/\r.1=false) b1
   (s0:=((0:Int),b1))
   (step:=(fun (b,g)=>
    bif (decide (b<(p.length:Int))) then (
    (Ag p b).bind fun v12=>
    (Nf v12.Coef).bind fun f=>
    (show Option Bool from
    bif (f.Neg==v12.Coef.Neg) then (
    (Mc f.Num v12.Coef.Num).bind fun i=>
    bif i then (
    (Mc f.Den v12.Coef.Den).bind fun v17=>
    some v17)
    else some false)
    else some false).bind fun E=>
    bif (!E) then some (.inr (.inl (false,g)))
    else (
    (F1 f).bind fun D=>
    bif (D==(0:Int)) then some (.inr (.inl (false,g)))
    else (
    (S0 v12.Mono g b2 data vars res.Kind res.Num res.Args).bind fun v20=>
    bif (!v20.1) then some (.inr (.inl (false,v20.2)))
    else (
    bif (decide (b>(0:Int))) then (
    (Ag p (Ac (b-1))).bind fun v21=>
    (Of v21.Mono v12.Mono).bind fun v22=>
    bif (decide (v22>=(0:Int))) then some (.inr (.inl (false,v20.2)))
    else some (.inl ((Ac (b+1)),v20.2)))
    else some (.inl ((Ac (b+1)),v20.2))))))
    else some (.inr (.inr g)):Int×List (ByteArray×Int)->Option ((Int×List (ByteArray×Int))⊕((Bool×List (ByteArray×Int))⊕List (ByteArray×Int)))))
   (J:=(fun z=>match z with
    | .inl (I,G)=>some (I,G)
    | .inr L=>some (true,L)))
   rfl hm (by omega) (by
    intro j t o u hx _ h1 h2 h3
    have c:=U t (Cp hx)
    obtain ⟨B,d1,d2⟩:=Ayh b2 hc u t.Mono c.mo
    have s:∀l:List Int,l=(Bs (sv t.Coef) (nv t.Coef) (dv t.Coef)).Num\/l=(Bs (sv t.Coef) (nv t.Coef) (dv t.Coef)).Den->l.length<1099511627776:=by
     intro l A
     have q:=Lq (sv t.Coef) (nv t.Coef) (dv t.Coef) 1048577 c.co.nv c.co.dv (by omega)
     have:=q.nl
     have:=q.dl
     rcases A with rfl | rfl <;> omega
    have k:(bif ((Bs (sv t.Coef) (nv t.Coef) (dv t.Coef)).Neg==t.Coef.Neg) then ((Mc (Bs (sv t.Coef) (nv t.Coef) (dv t.Coef)).Num t.Coef.Num).bind fun i=>bif i then ((Mc (Bs (sv t.Coef) (nv t.Coef) (dv t.Coef)).Den t.Coef.Den).bind fun v17=>some v17) else some false) else some false)=some (Tz (Bs (sv t.Coef) (nv t.Coef) (dv t.Coef)) t.Coef):=by
     unfold Tz
     rw [Am3 _ _ (s _ (.inl rfl)),Am3 _ _ (s _ (.inr rfl))]
     cases ((Bs (sv t.Coef) (nv t.Coef) (dv t.Coef)).Neg==t.Coef.Neg) <;> cases decide ((Bs (sv t.Coef) (nv t.Coef) (dv t.Coef)).Num=t.Coef.Num) <;> rfl
    simp only [h1,h2,h3,cond_true,Ad,Aeu t.Coef 1048576 c.co (by omega),k,Ayl Of p (fun y hy x=>Amt y.Mono x (U y hy).mo) hx (by omega),T0,W9]
    cases N:Tz (Bs (sv t.Coef) (nv t.Coef) (dv t.Coef)) t.Coef with
    | false=>exact ⟨(fun h=>by cases h),fun _=>⟨_,rfl,_,rfl,u,rfl⟩⟩
    | true=>
     have e:=(Am4 _ _).1 N
     simp only [D2,cond_false,Bool.true_and]
     rw [e,Aev t.Coef 1048576 c.co (by omega),Ad,Aym]
     cases (nv t.Coef==0) with
     | true=>exact ⟨(fun h=>by cases h),fun _=>⟨_,rfl,_,rfl,u,rfl⟩⟩
     | false=>
      simp only [cond_false,d1,Ad,Bool.not_false,Bool.true_and]
      cases Hz data vars res t.Mono with
      | false=>exact ⟨(fun h=>by cases h),fun _=>⟨_,rfl,_,rfl,d2,rfl⟩⟩
      | true=>
       cases Rf p t j with
       | true=>exact ⟨fun _=>⟨B,rfl,d2⟩,fun h=>by cases h⟩
       | false=>exact ⟨(fun h=>by cases h),fun _=>⟨_,rfl,_,rfl,d2,rfl⟩⟩) (by
    intro o u h1 _
    exact ⟨.inr o,by simp only [h1]; rfl,_,rfl,u,rfl⟩)
  refine ⟨r.2,?_,?_⟩
  .have e:some r=some (p.zipIdx.all (fun q=>T0 data vars res p q.1 q.2),r.2):=by
    rcases S with ⟨h1,h2,h3⟩ | ⟨h1,h2,h3⟩
    .rw [h1,<-h3]
    .rw [h1,<-h3]
   rw [<-e]
   exact V
  .rcases S with ⟨h1,h2,h3⟩ | ⟨h1,h2,h3⟩ <;> exact h2
 .rw [Al (by omega),Ar A]
  exact ⟨b1,rfl,hm⟩
structure CSz (x:Bj):Prop where
 ds:DSz x.Data
 nv:x.Vars.length<=1048576
 vs:∀t∈x.Vars,B4 t<=1048576
 rs:B4 x.Res<=1048576
def Kz (data:List A8) (t:Aj):Bool:=F4 data 0 t&&decide (B4 t<=200)
def Fm (x:Bj):Prop:=x.Vars.length<=3000/\Mq x.Data/\Kz x.Data x.Res=true/\x.Vars.all (Kz x.Data)=true
theorem Fm.ctx {x:Bj} (h:Fm x) (c:CSz x):Ms x.Data x.Vars x.Res:=by
 refine ⟨h.2.1,c.ds.sz.short,fun v t ht=>?_,h.1⟩
 have good:∀t,Kz x.Data t=true->B4 t<=200:=fun t h=>by
  simp only [Kz,C2,decide_eq_true_eq] at h; exact h.2
 unfold tyX at ht
 by_cases b:v = -1
 .rw [if_pos b] at ht; cases ht; exact good _ h.2.2.1
 .rw [if_neg b] at ht
  exact good t (List.all_eq_true.1 h.2.2.2 t (J6 ht).2.2.2)
theorem Rg (x:Bj) (g:CSz x) (p:List Ah) (hp:∀t∈p,TSz t):∃b,Jx x p=some b/\(b=true↔Fm x/\H3 x.Data x.Vars x.Res p=true):=by
 obtain ⟨b,b1,b2⟩:=Al3 g.ds
 have G:=g.nv
 have E:=g.rs
 unfold Jx Jy
 rw [b1,Wy x.Data x.Res 0 (by omega)]
 by_cases s:x.Vars.length<=3000
 .rw [Ar (by omega)]
  simp only [cond_false,Ad]
  cases b with
  | false=>exact ⟨false,rfl,by simp; intro h; have:=b2.2 h.2.1; cases this⟩
  | true=>
   have D:=b2.1 rfl
   simp only [D2,cond_false]
   cases hr:(F4 x.Data 0 x.Res&&decide (B4 x.Res<=200)) with
   | false=>exact ⟨false,rfl,by simp; intro h; have:=h.2.2.1; rw [show Kz x.Data x.Res=false from hr] at this; cases this⟩
   | true=>
    simp only [D2,cond_false,Ad]
    rw [Option.bind_assoc]
    refine E7 (fun i=>∃j:Nat,i=j/\j<=x.Vars.length/\(x.Vars.take j).all (Kz x.Data)=true) (fun i=>x.Vars.length-i.toNat)
     (fun z=>match z with | .inl r=>r=false/\¬Fm x | .inr _=>Fm x) ⟨0,rfl,by omega,by simp⟩ ?_ ?_
    .rintro i ⟨j,rfl,hj,c⟩
     rcases Nat.lt_or_ge j x.Vars.length with h | h
     .have ht:x.Vars[j]? = some x.Vars[j]:=B3 h
      generalize x.Vars[j]=t at ht
      have:=g.vs t (Cp ht)
      simp only [Al (by omega:(j:Int)<(x.Vars.length:Int)),cond_true,Cd rfl ht,Ad,Wy x.Data t 0 (by omega),C7 h (by omega)]
      rw [show (F4 x.Data 0 t&&decide (B4 t<=200))=Kz x.Data t from rfl]
      cases y:Kz x.Data t with
      | true=>exact .inl ⟨_,rfl,⟨j+1,rfl,by omega,by rw [De ht,List.all_append,c]; simp [y]⟩,by simp; omega⟩
      | false=>
       refine .inr ⟨.inl false,rfl,rfl,fun I=>?_⟩
       have:=List.all_eq_true.1 I.2.2.2 t (Cp ht)
       rw [y] at this; cases this
     .have:j=x.Vars.length:=by omega
      subst this
      rw [List.take_length] at c
      exact .inr ⟨.inr (),by simp,s,D,hr,c⟩
    .rintro (r | u) f
     .obtain ⟨rfl,f⟩:=f
      exact ⟨false,rfl,by simp [f]⟩
     .have A:Fm x:=f
      have hm:Dn x.Data x.Vars x.Res []:=fun q h=>by cases h
      obtain ⟨B,l,J⟩:=Am5 (A.ctx g) [] hm p hp
      cases k:H3 x.Data x.Vars x.Res p with
      | true=>
       rw [k] at l
       refine ⟨true,?_,by simp [A]⟩
       simp only
       rw [Option.bind_assoc]
       refine Gu 1 (fun j=>match j with | 0=>((0:Int),[]) | _=>((1:Int),B)) rfl ?_ ⟨.inr B,rfl,rfl⟩
       intro j hj
       match j,hj with
       | 0,_=>
        show (bif decide ((0:Int)<1) then _ else _)=_
        simp only [Al (by omega:(0:Int)<1),cond_true]
        rw [show Ag [p] 0=some p from rfl,Ad,l]; rfl
      | false=>
       rw [k] at l
       refine ⟨false,?_,by simp⟩
       simp only
       rw [Option.bind_assoc]
       refine Gu 0 (fun _=>((0:Int),[])) rfl (fun j hj=>by omega) ⟨.inl false,?_,rfl⟩
       show (bif decide ((0:Int)<1) then _ else _)=_
       simp only [Al (by omega:(0:Int)<1),cond_true]
       rw [show Ag [p] 0=some p from rfl,Ad,l]; rfl
 .rw [Al (by omega)]
  exact ⟨false,rfl,by simp; intro h; exact absurd h.1 s⟩
end Go.Ab
namespace Go.Ab
open Go
end Go.Ab
namespace Go.Ab
open Go
end Go.Ab
namespace Go.Ab
open Go
end Go.Ab
namespace Go.Ab
open Go
end Go.Ab
namespace Go.Ab
open Go
theorem Ayn {data:List A8} {vars:List Aj} {res:Aj} {m:Ba} (h:Hz data vars res m=true):(∀f∈m.Factors,∃t,tyX vars res f.Var=some t)/\m.Factors.length<=6:=by
 unfold Hz at h
 simp only [C2,decide_eq_true_eq] at h
 obtain ⟨⟨h1,h2⟩,h3⟩:=h
 have b:∀f∈m.Factors,1<=E4 data vars res f:=by
  intro f b
  obtain ⟨j,hj⟩:=List.getElem?_of_mem b
  have:=Jc h1 hj
  simp only [W6,C2,decide_eq_true_eq] at this
  exact this.1
 have ha:0<=Ce m.Atoms:=(Am2 m.Atoms (fun a ha=>by
  obtain ⟨j,hj⟩:=List.getElem?_of_mem ha
  have:=Jc h2 hj
  simp only [Mt,C2,decide_eq_true_eq] at this
  omega)).1
 refine ⟨fun f c=>?_,?_⟩
 .have:=b f c
  unfold E4 at this
  cases ht:tyX vars res f.Var with
  | none=>rw [ht] at this; have:(1:Int)<=-1:=this; omega
  | some t=>exact ⟨t,rfl⟩
 .have key:∀l:List Bx,(∀f∈l,1<=E4 data vars res f)->(l.length:Int)<=Dq data vars res l:=by
   intro l
   induction l with
   | nil=>intro _; simp [Dq]
   | cons f fs ih=>
    intro i
    have h1:=i f (by simp)
    have h2:=ih (fun g k=>i g (by simp [k]))
    unfold Dq at *
    simp only [List.map_cons,List.sum_cons,List.length_cons]; omega
  have:=key m.Factors b
  omega
theorem Ayo (a b:Ak) (j k:Nat) (ha:RB j a) (hb:RB k b) (hj:j<34359738000) (hk:k<34359738000):∃c,Nb a b=some c/\Vm a b=some c/\RB (j+k+3) c:=by
 refine ⟨_,Aey a b j k ha hb (by omega) (by omega),Awp a b j k ha hb (by omega) (by omega),?_⟩
 have h1:=ha.nv
 have h2:=ha.dv
 have h3:=hb.nv
 have s:=hb.dv
 have q:=Gj (nv a) (dv b)
 have l:=Gj (nv b) (dv a)
 have i:=Gj (dv a) (dv b)
 have f:Hw (sv a) (nv a) (dv a) (sv b) (nv b) (dv b)<=nv a*dv b+nv b*dv a:=by
  unfold Hw
  split
  .omega
  .split <;> omega
 have h:=Gi f
 have g:=Tm (nv a*dv b) (nv b*dv a)
 exact Lq _ _ _ _ (by omega) (by omega) (by omega)
end Go.Ab
namespace Go.Ab
open Go
end Go.Ab
namespace Go.Ab
open Go
theorem Ayp (k:Nat):RB k ⟨false,[],[]⟩:=⟨(fun _ h=>by cases h),(fun _ h=>by cases h),by simp,by simp⟩
end Go.Ab
namespace Go.Ab
open Go
end Go.Ab
namespace Go.Ab
open Go
def sg (s:Bool) (n:Nat):Int:=if s then -(n:Int) else n
def rq (a:Ak):Rat:=mkRat (sg (sv a) (nv a)) (dv a)
def Hc (a:Ak):Prop:=a=Bs (sv a) (nv a) (dv a)
theorem Lx (s:Bool) (n d:Nat) (hd:d≠0):rq (Bs s n d)=mkRat (sg s n) d:=by
 obtain ⟨g,f,h1,h2,h3,i⟩:=Aau s n d hd
 unfold rq
 rw [Rat.mkRat_eq_iff (E2 _) hd]
 generalize nv (Bs s n d)=b at *
 generalize dv (Bs s n d)=j at *
 generalize sv (Bs s n d)=s' at *
 by_cases c:n=0
 .have:b=0:=by
   rcases Nat.eq_zero_or_pos b with h | h
   .exact h
   .have:=Nat.mul_pos (Nat.pos_of_ne_zero f) h; omega
  subst this; subst c
  cases s <;> cases s' <;> simp [sg]
 .rw [h3 c,h1,h2]
  cases s <;> simp only [sg,if_true,if_false,Bool.false_eq_true,Int.natCast_mul] <;> grind
theorem O9 (s:Bool) (n d:Nat) (hd:d≠0):Hc (Bs s n d):=by
 obtain ⟨g,b,h1,h2,h3,i⟩:=Aau s n d hd
 unfold Hc
 generalize hc:Bs s n d=c at h1 h2 h3 i
 have e:=Q5 s (nv c) (dv c) g b
 rw [<-h1,<-h2,hc] at e
 by_cases f:n=0
 .have h0:nv c=0:=by
   rcases Nat.eq_zero_or_pos (nv c) with h | h
   .exact h
   .have:=Nat.mul_pos (Nat.pos_of_ne_zero b) h; omega
  rw [h0,Wv] at e ⊢
  exact e
 .rw [h3 f]; exact e
theorem Am6 (n m:Int) {d e:Nat} (hd:d≠0) (g:e≠0):mkRat n d<mkRat m e↔n*e<m*d:=by
 have c:(0:Rat)<(d:Rat):=Rat.natCast_pos.2 (by omega)
 have b:(0:Rat)<(e:Rat):=Rat.natCast_pos.2 (by omega)
 rw [Rat.mkRat_eq_div,Rat.mkRat_eq_div,Rat.div_lt_iff c]
 rw [<-Rat.mul_lt_mul_right b]
 have f:(m:Rat) / (e:Rat)*(d:Rat)*(e:Rat)=(m:Rat)*(d:Rat):=by grind
 rw [f]
 have a1:(n:Rat)*(e:Rat)=((n*(e:Int):Int):Rat):=by rw [Rat.intCast_mul]; rfl
 have a2:(m:Rat)*(d:Rat)=((m*(d:Int):Int):Rat):=by rw [Rat.intCast_mul]; rfl
 rw [a1,a2,Rat.intCast_lt_intCast]
theorem Aa6 {a b:Ak} (ha:Hc a) (hb:Hc b) (h:rq a=rq b):a=b:=by
 unfold rq at h
 rw [Rat.mkRat_eq_iff (E2 _) (E2 _)] at h
 rw [ha,hb]
 have q:=E2 a
 have l:=E2 b
 generalize nv a=n at *
 generalize dv a=d at *
 generalize sv a=s at *
 generalize nv b=m at *
 generalize dv b=e at *
 generalize sv b=t at *
 have f:n*e=m*d/\(n≠0->s=t):=by
  have c:n≠0->0<n*e:=fun h=>Nat.mul_pos (by omega) (by omega)
  have g:m≠0->0<m*d:=fun h=>Nat.mul_pos (by omega) (by omega)
  have x:((n*e:Nat):Int)=(n:Int)*e:=by simp
  have u:((m*d:Nat):Int)=(m:Int)*d:=by simp
  cases s <;> cases t <;> simp only [sg,if_true,if_false,Bool.false_eq_true,Int.neg_mul] at h
  .exact ⟨by omega,fun _=>rfl⟩
  .have:n*e=0/\m*d=0:=by omega
   refine ⟨by omega,fun i=>?_⟩
   have:=c i; omega
  .have:n*e=0/\m*d=0:=by omega
   refine ⟨by omega,fun i=>?_⟩
   have:=c i; omega
  .exact ⟨by omega,fun _=>rfl⟩
 have k:=Q5 s n d e l
 have j:=Q5 t m e d q
 rw [<-k,<-j,Nat.mul_comm e n,f.1,Nat.mul_comm e d,Nat.mul_comm m d]
 refine Ald fun h0=>f.2 ?_
 rintro rfl
 rw [Nat.zero_mul] at f
 have:=f.1
 rw [Nat.mul_comm d m] at h0
 omega
theorem Am7 (j:Bool) (c g:Nat) (i:Bool) (b f:Nat):sg (Jd j c g i b f) (Hw j c g i b f)=sg j c*f+sg i b*g:=by
 unfold Jd Hw sg
 have l:((c*f:Nat):Int)=(c:Int)*f:=by simp
 have k:((b*g:Nat):Int)=(b:Int)*g:=by simp
 cases j <;> cases i <;> simp only [if_true,if_false,Bool.false_eq_true,Bool.true_eq_false,Int.neg_mul]
 .omega
 .by_cases h:b*g<=c*f
  .simp only [if_pos h]; simp only [if_false,Bool.false_eq_true]; omega
  .simp only [if_neg h]; simp only [if_true]; omega
 .by_cases h:b*g<=c*f
  .simp only [if_pos h]; simp only [if_true]; omega
  .simp only [if_neg h]; simp only [if_false,Bool.false_eq_true]; omega
 .omega
theorem Ayq {a b:Ak} {j k:Nat} (ha:RB j a) (hb:RB k b) (hj:j<34359738000) (hk:k<34359738000):∃c,Nb a b=some c/\Vm a b=some c/\RB (j+k+3) c/\Hc c/\rq c=rq a+rq b:=by
 obtain ⟨c,h1,h2,h3⟩:=Ayo a b j k ha hb hj hk
 have e:=Aey a b j k ha hb (by omega) (by omega)
 rw [h1] at e
 have e:=Option.some.inj e
 have hd:dv a*dv b≠0:=Nat.mul_ne_zero (E2 a) (E2 b)
 refine ⟨c,h1,h2,h3,?_,?_⟩
 .rw [e]; exact O9 _ _ _ hd
 .rw [e,Lx _ _ _ hd,Am7,rq,rq,Rat.mkRat_add_mkRat _ _ (E2 a) (E2 b)]
theorem Ayr (s t:Bool) (n m:Nat):sg (s != t) (n*m)=sg s n*sg t m:=by
 unfold sg
 cases s <;> cases t <;> simp [Int.neg_mul,Int.mul_neg]
theorem Rh {a b:Ak} {j k:Nat} (ha:RB j a) (hb:RB k b) (hj:j<34359738000) (hk:k<34359738000):∃c,Gc a b=some c/\RB (j+k+2) c/\Hc c/\rq c=rq a*rq b:=by
 have hd:dv a*dv b≠0:=Nat.mul_ne_zero (E2 a) (E2 b)
 have h1:=ha.nv
 have h2:=ha.dv
 have h3:=hb.nv
 have h:=hb.dv
 have g:=Gj (nv a) (nv b)
 have f:=Gj (dv a) (dv b)
 refine ⟨_,Aex a b j k ha hb (by omega) (by omega),Lq _ _ _ _ (by omega) (by omega) (by omega),O9 _ _ _ hd,?_⟩
 rw [Lx _ _ _ hd,Ayr,rq,rq,Rat.mkRat_mul_mkRat]
def G0 (x:Rat):Int:=if x<0 then -1 else if 0<x then 1 else 0
theorem Ays (a:Ak):rq a<0↔Hv (sv a) (nv a) = -1:=by
 have e:(0:Rat)=mkRat 0 1:=by simp
 rw [rq,e,Am6 _ _ (E2 a) (by decide)]
 unfold sg Hv
 split <;> split <;> simp <;> omega
theorem Ayt (a:Ak):0<rq a↔Hv (sv a) (nv a)=1:=by
 have e:(0:Rat)=mkRat 0 1:=by simp
 rw [rq,e,Am6 _ _ (by decide) (E2 a)]
 unfold sg Hv
 split <;> split <;> simp <;> omega
theorem Ayu (a:Ak):Hv (sv a) (nv a)=G0 (rq a):=by
 have h1:=Ays a
 have h2:=Ayt a
 have h3:Hv (sv a) (nv a) = -1\/Hv (sv a) (nv a)=0\/Hv (sv a) (nv a)=1:=by unfold Hv; split <;> (try split) <;> simp
 unfold G0
 split
 .rename_i h; exact h1.1 h
 .rename_i h
  split
  .rename_i h'; exact h2.1 h'
  .rename_i h'
   rcases h3 with h3 | h3 | h3
   .exact (h (h1.2 h3)).elim
   .exact h3
   .exact (h' (h2.2 h3)).elim
theorem Mu {a:Ak} {k:Nat} (h:RB k a) (hk:k<34359738000):F1 a=some (G0 (rq a))/\Vl a=some (G0 (rq a)):=by
 rw [<-Ayu]
 exact ⟨Aev a k h (by omega),Awq a k h (by omega)⟩
end Go.Ab
namespace Go.Ab
open Go
structure Ee {α:Type} (S:α->Prop) (g:α->α->Int):Prop where
 zero:∀a b,S a->S b->(g a b=0↔a=b)
 anti:∀a b,S a->S b->g b a = - g a b
 trans:∀a b c,S a->S b->S c->g a b<0->g b c<0->g a c<0
theorem Ee.cmpI:Ee (fun _:Int=>True) Ed:=by
 refine ⟨fun a b _ _=>Hy,fun a b _ _=>?_,fun a b c _ _ _=>?_⟩
 .unfold Go.Ab.Ed; split <;> split <;> (try split) <;> (try split) <;> omega
 .unfold Go.Ab.Ed; intro h1 h2; split at h1 <;> (try split at h1) <;> split at h2 <;> (try split at h2) <;> first | omega | (rw [if_pos (by omega)]; decide)
theorem Am8 {x y:Int}:orI x y<0↔x<0\/(x=0/\y<0):=by unfold orI; split <;> omega
theorem Am9 {x y:Int}:orI x y=0↔x=0/\y=0:=by unfold orI; split <;> omega
theorem Ee.or {α β γ:Type} {S:α->Prop} {s:β->Prop} {l:γ->Prop} {j:β->β->Int} {i:γ->γ->Int} (p:α->β) (q:α->γ) (g:∀a b,p a=p b->q a=q b->a=b) (h1:Ee s j) (h2:Ee l i) (f:∀a,S a->s (p a)/\l (q a)) :
  Ee S (fun a b=>orI (j (p a) (p b)) (i (q a) (q b))):=by
 refine ⟨fun a b ha hb=>?_,fun a b ha hb=>?_,fun a b c ha hb hc=>?_⟩
 .rw [Am9,h1.zero _ _ (f a ha).1 (f b hb).1,h2.zero _ _ (f a ha).2 (f b hb).2]
  exact ⟨fun h=>g a b h.1 h.2,fun h=>by subst h; exact ⟨rfl,rfl⟩⟩
 .show orI (j (p b) (p a)) (i (q b) (q a)) = - orI (j (p a) (p b)) (i (q a) (q b))
  have z:=h1.anti _ _ (f a ha).1 (f b hb).1
  have y:=h2.anti _ _ (f a ha).2 (f b hb).2
  rw [z,y]; unfold orI; split <;> split <;> omega
 .show orI _ _<0->orI _ _<0->orI _ _<0
  simp only [Am8]
  have u:=h1.zero _ _ (f a ha).1 (f b hb).1
  have z2:=h1.zero _ _ (f b hb).1 (f c hc).1
  have t1:=h1.trans _ _ _ (f a ha).1 (f b hb).1 (f c hc).1
  have t2:=h2.trans _ _ _ (f a ha).2 (f b hb).2 (f c hc).2
  rintro (h | ⟨h,h'⟩) (k | ⟨k,x⟩)
  .exact .inl (t1 h k)
  .rw [<-z2.1 k]; exact .inl h
  .rw [u.1 h]; exact .inl k
  .rw [<-z2.1 k,h]; exact .inr ⟨rfl,t2 h' x⟩
theorem Ee.mono {α:Type} {S i:α->Prop} {g:α->α->Int} (h:Ee S g) (f:∀a,i a->S a):Ee i g :=
 ⟨fun a b ha hb=>h.zero a b (f a ha) (f b hb),fun a b ha hb=>h.anti a b (f a ha) (f b hb),fun a b c ha hb hc=>h.trans a b c (f a ha) (f b hb) (f c hc)⟩
theorem Ee.congr {α:Type} {S:α->Prop} {g c:α->α->Int} (h:Ee S g) (e:∀a b,c a b=g a b):Ee S c:=by
 have:c=g:=funext fun a=>funext fun b=>e a b
 rw [this]; exact h
def LL {α:Type} (g:α->α->Int) (l m:List α):Int:=if l.length=m.length then E3 g l m else Go.Ab.Ed l.length m.length
theorem Ana {α:Type} {S:α->Prop} {g:α->α->Int} (h:Ee S g):∀l m:List α,l.length=m.length->(∀x∈l,S x)->(∀x∈m,S x)->(E3 g l m=0↔l=m)
 | [],[],_,_,_=>by simp [E3]
 | x::xs,y::ys,b,h1,h2=>by
  simp only [E3,Am9,h.zero x y (h1 x (by simp)) (h2 y (by simp)),Ana h xs ys (by simpa using b) (fun z c=>h1 z (by simp [c])) (fun z c=>h2 z (by simp [c])),List.cons.injEq]
 | [],_::_,b,_,_=>by simp at b
 | _::_,[],b,_,_=>by simp at b
theorem Anb {α:Type} {S:α->Prop} {g:α->α->Int} (h:Ee S g):∀l m:List α,l.length=m.length->(∀x∈l,S x)->(∀x∈m,S x)->E3 g m l = - E3 g l m
 | [],[],_,_,_=>by simp [E3]
 | x::xs,y::ys,b,h1,h2=>by
  simp only [E3,h.anti x y (h1 x (by simp)) (h2 y (by simp)),Anb h xs ys (by simpa using b) (fun z c=>h1 z (by simp [c])) (fun z c=>h2 z (by simp [c]))]
  unfold orI; split <;> split <;> omega
 | [],_::_,b,_,_=>by simp at b
 | _::_,[],b,_,_=>by simp at b
theorem Anc {α:Type} {S:α->Prop} {g:α->α->Int} (h:Ee S g):∀l m n:List α,l.length=m.length->m.length=n.length->(∀x∈l,S x)->(∀x∈m,S x)->(∀x∈n,S x)->E3 g l m<0->E3 g m n<0->E3 g l n<0
 | [],[],_,_,_,_,_,_=>by intro h; simp [E3] at h
 | x::xs,y::ys,z::i,f,hm,h1,h2,h3=>by
  simp only [E3,Am8]
  have j:=h.zero x y (h1 x (by simp)) (h2 y (by simp))
  have z2:=h.zero y z (h2 y (by simp)) (h3 z (by simp))
  have t1:=h.trans x y z (h1 x (by simp)) (h2 y (by simp)) (h3 z (by simp))
  have t2:=Anc h xs ys i (by simpa using f) (by simpa using hm) (fun z c=>h1 z (by simp [c])) (fun z c=>h2 z (by simp [c])) (fun z c=>h3 z (by simp [c]))
  rintro (a | ⟨a,q⟩) (b | ⟨b,k⟩)
  .exact .inl (t1 a b)
  .rw [<-z2.1 b]; exact .inl a
  .rw [j.1 a]; exact .inl b
  .rw [<-z2.1 b,a]; exact .inr ⟨rfl,t2 q k⟩
 | _::_,_::_,[],_,hm,_,_,_=>by simp at hm
 | [],_::_,_,f,_,_,_,_=>by simp at f
 | _::_,[],_,f,_,_,_,_=>by simp at f
theorem Ee.ll {α:Type} {S:α->Prop} {g:α->α->Int} (h:Ee S g):Ee (fun l=>∀x∈l,S x) (LL g):=by
 have c:=Ee.cmpI
 refine ⟨fun a b ha hb=>?_,fun a b ha hb=>?_,fun x y z hx hy q=>?_⟩
 .unfold LL
  split
  .rename_i i; exact Ana h a b i ha hb
  .rename_i i
   rw [Hy]
   exact ⟨fun e=>(i (by omega)).elim,fun e=>(i (by rw [e])).elim⟩
 .unfold LL
  by_cases i:a.length=b.length
  .rw [if_pos i,if_pos i.symm]; exact Anb h a b i ha hb
  .rw [if_neg i,if_neg (fun e=>i e.symm)]; exact c.anti _ _ trivial trivial
 .unfold LL
  intro h1 h2
  have neg:∀a b:Int,Go.Ab.Ed a b<0->a<b:=by intro a b h; unfold Go.Ab.Ed at h; split at h <;> (try split at h) <;> omega
  have f:∀a b:Int,a<b->Go.Ab.Ed a b<0:=by intro a b h; unfold Go.Ab.Ed; rw [if_pos h]; decide
  by_cases k:x.length=y.length
  .rw [if_pos k] at h1
   by_cases j:y.length=z.length
   .rw [if_pos j] at h2; rw [if_pos (by omega)]; exact Anc h x y z k j hx hy q h1 h2
   .rw [if_neg j] at h2; rw [if_neg (by omega)]
    have:=neg _ _ h2; exact f _ _ (by omega)
  .rw [if_neg k] at h1
   have:=neg _ _ h1
   by_cases j:y.length=z.length
   .rw [if_neg (by omega)]; exact f _ _ (by omega)
   .rw [if_neg j] at h2
    have:=neg _ _ h2
    rw [if_neg (by omega)]; exact f _ _ (by omega)
theorem Ane {α:Type} (g:α->α->Int) (l m:List α) (y:Int):orI (LL g l m) y=if l.length=m.length then orI (E3 g l m) y else Go.Ab.Ed l.length m.length:=by
 unfold LL
 by_cases h:l.length=m.length
 .rw [if_pos h,if_pos h]
 .rw [if_neg h,if_neg h]
  unfold orI
  rw [if_neg (fun e=>h (by have:=Hy.1 e; omega))]
theorem Ayv:Ee (fun _=>True) W4 :=
 (Ee.or (S:=fun _=>True) (fun t:Bf=>t.Var) (fun t=>t.Coef) (fun a b h1 h2=>by cases a; cases b; cases h1; cases h2; rfl) Ee.cmpI Ee.cmpI (fun _ _=>⟨trivial,trivial⟩)).congr fun _ _=>rfl
theorem G1:Ee (fun _=>True) Ep :=
 (Ee.or (S:=fun _=>True) (fun t:Ap=>t.Terms) (fun t=>t.Const) (fun a b h1 h2=>by cases a; cases b; cases h1; cases h2; rfl) Ayv.ll Ee.cmpI (fun _ _=>⟨fun _ _=>trivial,trivial⟩)).congr fun a b=>by
  show Ep a b=orI (LL W4 a.Terms b.Terms) (Go.Ab.Ed a.Const b.Const)
  rw [Ane]; rfl
theorem Ayw (i j:Br):Lv i j=orI (Go.Ab.Ed i.Num j.Num) (LL Lv i.Kids j.Kids):=by
 rw [Ams,Afr]
 unfold orI LL
 by_cases h:i.Num=j.Num
 .rw [if_pos h,if_pos (Hy.2 h)]
 .rw [if_neg h,if_neg (fun e=>h (Hy.1 e))]
theorem Aft:∀n:Nat,Ee (fun i=>Dj i<=n) Lv:=by
 intro n
 induction n with
 | zero=>exact ⟨fun a _ ha=>by have:=Hb a; omega,fun a _ ha=>by have:=Hb a; omega,fun a _ _ ha=>by have:=Hb a; omega⟩
 | succ n ih=>
  refine (Ee.or (S:=fun i=>Dj i<=n+1) (fun i:Br=>i.Num) (fun i=>i.Kids) (fun a b h1 h2=>by cases a; cases b; cases h1; cases h2; rfl) Ee.cmpI ih.ll ?_).congr Ayw
  intro i c
  refine ⟨trivial,fun x hx=>?_⟩
  have h1:=Q9 hx
  have h2:=Hb i
  show Dj x<=n
  omega
theorem Ayx:Ee (fun _=>True) Lv :=
 ⟨fun a b _ _=>(Aft (max (Dj a) (Dj b))).zero a b (by show Dj a<=_; omega) (by show Dj b<=_; omega),fun a b _ _=>(Aft (max (Dj a) (Dj b))).anti a b (by show Dj a<=_; omega) (by show Dj b<=_; omega),
  fun a b c _ _ _=>(Aft (max (Dj a) (max (Dj b) (Dj c)))).trans a b c (by show Dj a<=_; omega) (by show Dj b<=_; omega) (by show Dj c<=_; omega)⟩
theorem Ayy:Ee (fun _=>True) Ty :=
 (Ee.or (S:=fun _=>True) (fun t:Bx=>t.Var) (fun t=>t.Index) (fun a b h1 h2=>by cases a; cases b; cases h1; cases h2; rfl) Ee.cmpI Ayx (fun _ _=>⟨trivial,trivial⟩)).congr fun _ _=>rfl
theorem Ayz:Ee (fun _=>True) W5 :=
 (Ee.or (S:=fun _=>True) (fun t:A6=>t.Lin) (fun t=>t.Deg) (fun a b h1 h2=>by cases a; cases b; cases h1; cases h2; rfl) G1 Ee.cmpI (fun _ _=>⟨trivial,trivial⟩)).congr fun _ _=>rfl
theorem Afu:Ee (fun _=>True) C8 :=
 (Ee.or (S:=fun _=>True) (fun t:Ba=>t.Factors) (fun t=>t.Atoms) (fun a b h1 h2=>by cases a; cases b; cases h1; cases h2; rfl) Ayy.ll Ayz.ll (fun _ _=>⟨fun _ _=>trivial,fun _ _=>trivial⟩)).congr fun a b=>by
  show C8 a b=orI (LL Ty a.Factors b.Factors) (LL W5 a.Atoms b.Atoms)
  rw [Ane]; rfl
theorem Ji {a b:Ba}:C8 a b=0↔a=b:=Afu.zero a b trivial trivial
theorem T1 (a b:Ba):C8 b a = - C8 a b:=Afu.anti a b trivial trivial
theorem T2 {a b c:Ba} (h:C8 a b<0) (h':C8 b c<0):C8 a c<0:=Afu.trans a b c trivial trivial trivial h h'
end Go.Ab
namespace Go.Ab
open Go
theorem Anf (m:Ba):C8 m m=0:=Ji.2 rfl
theorem Afv {a b:Ba}:0<C8 a b↔C8 b a<0:=by rw [T1 a b]; omega
def cf:List Ah->Ba->Rat
 | [],_=>0
 | t::p,m=>(if C8 t.Mono m=0 then rq t.Coef else 0)+cf p m
def ltT (t u:Ah):Prop:=C8 t.Mono u.Mono<0
structure CP (p:List Ah):Prop where
 srt:p.Pairwise ltT
 coe:∀t∈p,Hc t.Coef/\rq t.Coef≠0
theorem CP.tail {t:Ah} {p:List Ah} (h:CP (t::p)):CP p:=⟨(List.pairwise_cons.1 h.srt).2,fun u hu=>h.coe u (by simp [hu])⟩
theorem CP.head {t:Ah} {p:List Ah} (h:CP (t::p)):∀u∈p,C8 t.Mono u.Mono<0:=(List.pairwise_cons.1 h.srt).1
theorem CP.nil:CP []:=⟨List.Pairwise.nil,fun _ h=>by cases h⟩
theorem CP.cons {t:Ah} {p:List Ah} (h:CP p) (h1:∀u∈p,C8 t.Mono u.Mono<0) (h2:Hc t.Coef) (h3:rq t.Coef≠0):CP (t::p) :=
 ⟨List.pairwise_cons.2 ⟨h1,h.srt⟩,fun u hu=>by
  rcases List.mem_cons.1 hu with rfl | hu
  .exact ⟨h2,h3⟩
  .exact h.coe u hu⟩
theorem Aa7 {p:List Ah} {m:Ba} (h:∀t∈p,C8 t.Mono m≠0):cf p m=0:=by
 induction p with
 | nil=>rfl
 | cons t p ih=>
  simp only [cf]
  rw [if_neg (h t (by simp)),ih (fun u hu=>h u (by simp [hu]))]; grind
theorem Ri {p:List Ah} {m:Ba} (h:∀t∈p,C8 m t.Mono<0):cf p m=0 :=
 Aa7 fun t ht e=>by have:=h t ht; rw [T1,e] at this; omega
theorem Rj {t:Ah} {p:List Ah} (h:CP (t::p)):cf (t::p) t.Mono=rq t.Coef:=by
 simp only [cf]
 rw [if_pos (Anf _),Ri h.head]; grind
theorem Afw {t:Ah} {p:List Ah} {m:Ba} (h:C8 t.Mono m≠0):cf (t::p) m=cf p m:=by
 simp only [cf]; rw [if_neg h]; grind
theorem Rk (p q:List Ah) (m:Ba):cf (p++q) m=cf p m+cf q m:=by
 induction p with
 | nil=>simp only [List.nil_append,cf]; grind
 | cons t p ih=>simp only [List.cons_append,cf,ih]; grind
theorem Mv {p:List Ah} (h:CP p) {t:Ah} (ht:t∈p):cf p t.Mono=rq t.Coef:=by
 induction p with
 | nil=>cases ht
 | cons u p ih=>
  rcases List.mem_cons.1 ht with rfl | ht
  .exact Rj h
  .have:=h.head t ht
   rw [Afw (by omega)]; exact ih h.tail ht
theorem CP.ext:∀{p q:List Ah},CP p->CP q->(∀m,cf p m=cf q m)->p=q
 | [],[],_,_,_=>rfl
 | [],u::q,_,h2,h=>by
  have:=h u.Mono
  rw [Rj h2] at this
  exact ((h2.coe u (by simp)).2 this.symm).elim
 | t::p,[],h1,_,h=>by
  have:=h t.Mono
  rw [Rj h1] at this
  exact ((h1.coe t (by simp)).2 this).elim
 | t::p,u::q,h1,h2,h=>by
  have b:C8 t.Mono u.Mono=0:=by
   rcases Int.lt_trichotomy (C8 t.Mono u.Mono) 0 with k | k | k
   .have e:=h t.Mono
    rw [Rj h1,Ri (p:=u::q)] at e
    .exact ((h1.coe t (by simp)).2 e).elim
    .intro w hw
     rcases List.mem_cons.1 hw with rfl | hw
     .exact k
     .exact T2 k (h2.head w hw)
   .exact k
   .have k:=Afv.1 k
    have e:=h u.Mono
    rw [Rj h2,Ri (p:=t::p)] at e
    .exact ((h2.coe u (by simp)).2 e.symm).elim
    .intro w hw
     rcases List.mem_cons.1 hw with rfl | hw
     .exact k
     .exact T2 k (h1.head w hw)
  have hm:=Ji.1 b
  have hc:t.Coef=u.Coef:=by
   refine Aa6 (h1.coe t (by simp)).1 (h2.coe u (by simp)).1 ?_
   have e:=h t.Mono
   rw [Rj h1,hm,Rj h2] at e
   exact e
  have ht:t=u:=by cases t; cases u; simp_all
  subst ht
  congr 1
  refine CP.ext h1.tail h2.tail fun m=>?_
  by_cases e:C8 t.Mono m=0
  .rw [<-Ji.1 e,Ri h1.head,Ri h2.head]
  .have:=h m
   rwa [Afw e,Afw e] at this
theorem Ang (c:Ak):W9 c=true↔Hc c/\rq c≠0:=by
 unfold W9 Hc
 rw [C2,Am4]
 have h:(!(nv c==0))=true↔rq c≠0:=by
  have e:rq c=0↔nv c=0:=by
   unfold rq
   rw [Rat.mkRat_eq_zero (E2 c)]
   unfold sg; split <;> omega
  rw [Ne,e]; simp
 rw [h]
 exact ⟨fun ⟨a,b⟩=>⟨a.symm,b⟩,fun ⟨a,b⟩=>⟨a.symm,b⟩⟩
theorem Ay0 {l:List Ah} (h:∀(j:Nat) (x y:Ah),l[j]? = some x->l[j+1]? = some y->C8 x.Mono y.Mono<0):l.Pairwise ltT:=by
 induction l with
 | nil=>exact List.Pairwise.nil
 | cons t l ih=>
  have ih:=ih fun j x y hx hy=>h (j+1) x y (by simpa using hx) (by simpa using hy)
  refine List.pairwise_cons.2 ⟨?_,ih⟩
  cases l with
  | nil=>intro u hu; cases hu
  | cons v l=>
   have h0:=h 0 t v rfl rfl
   intro u hu
   rcases List.mem_cons.1 hu with rfl | hu
   .exact h0
   .exact T2 h0 ((List.pairwise_cons.1 ih).1 u hu)
theorem Xa {data:List A8} {vars:List Aj} {res:Aj} {p:List Ah}:H3 data vars res p=true↔p.length<=1000/\CP p/\∀t∈p,Hz data vars res t.Mono=true:=by
 unfold H3
 rw [C2,decide_eq_true_eq]
 constructor
 .rintro ⟨h1,h2⟩
  have g:∀(j:Nat) (t:Ah),p[j]? = some t->W9 t.Coef=true/\Hz data vars res t.Mono=true/\Rf p t j=true:=by
   intro j t hj
   have:=Jc h2 hj
   simp only [T0,C2] at this
   exact ⟨this.1.1,this.1.2,this.2⟩
  refine ⟨h1,⟨Ay0 fun j x y hx hy=>?_,fun t ht=>?_⟩,fun t ht=>?_⟩
  .have:=(g _ _ hy).2.2
   unfold Rf at this
   rw [show j+1-1=j by omega,hx] at this
   simpa using this
  .obtain ⟨j,hj⟩:=List.getElem?_of_mem ht
   exact (Ang _).1 (g j t hj).1
  .obtain ⟨j,hj⟩:=List.getElem?_of_mem ht
   exact (g j t hj).2.1
 .rintro ⟨h1,h2,h3⟩
  refine ⟨h1,List.all_eq_true.2 fun q hq=>?_⟩
  have hq:=List.mem_zipIdx' hq
  have hj:p[q.2]? = some q.1:=(B3 hq.1).trans (congrArg some hq.2.symm)
  have hm:q.1∈p:=Cp hj
  simp only [T0,C2]
  refine ⟨⟨(Ang _).2 (h2.coe _ hm),h3 _ hm⟩,?_⟩
  unfold Rf
  by_cases h0:q.2=0
  .rw [h0]; rfl
  .have b:q.2-1<p.length:=by omega
   rw [B3 b]
   have:=List.pairwise_iff_getElem.1 h2.srt (q.2-1) q.2 b hq.1 (by omega)
   rw [<-hq.2] at this
   simp only [Bool.or_eq_true,decide_eq_true_eq]
   exact .inr this
end Go.Ab
namespace Go.Ab
open Go
theorem Ay1:∀(k:Nat) (t:Br),Dj t<=k->k<1099511627776->Qf k t=some t:=by
 intro k
 induction k with
 | zero=>intro t h; have:=Hb t; omega
 | succ k ih=>
  intro t h hk
  have c:=Hb t
  have b:=Tu t.Kids
  rw [Qf]
  refine Iv t.Kids (fun j=>((j:Int),(t.Kids.take j))) rfl (by omega) ?_ ?_
  .intro j x hj hx h1 h2 h3
   have:=Q9 (Cp hx)
   simp only [h1,h2,h3,cond_true,Ad,ih x (by omega) (by omega)]
   rw [Da (by simp; omega),Ad,De hx]
  .intro h1
   exact ⟨t.Kids,by simp,by cases t; rfl⟩
theorem Ay2 (m:Ba) (b:MSz m):Vt m=some m:=by
 have f:=b.nf
 have c:=b.na
 unfold Vt
 refine Iv m.Factors (fun j=>((j:Int),(m.Factors.take j))) rfl (by omega) ?_ ?_
 .intro j x hj hx h1 h2 h3
  have hm:=Cp hx
  have:=b.fi x hm
  simp only [h1,h2,h3,cond_true,Ad,Ay1 4000000 x.Index (by omega) (by omega)]
  rw [Da (by simp; omega),Ad,De hx]
 .intro h1
  refine ⟨m.Factors,by simp,?_⟩
  dsimp only
  refine Iv m.Atoms (fun j=>((j:Int),(m.Atoms.take j))) rfl (by omega) ?_ ?_
  .intro j x hj hx h1 h2 h3
   have hm:=Cp hx
   have:=b.al x hm
   simp only [h1,h2,h3,cond_true,Ad,Sv]
   rw [Da (by simp; omega),Ad,Da (by simp; omega),Ad,De hx]; rfl
  .intro h1
   exact ⟨m.Atoms,by simp,by cases m; rfl⟩
end Go.Ab
namespace Go.Ab
open Go
structure TB (k:Nat) (t:Ah):Prop where
 co:RB k t.Coef
 mo:MSz t.Mono
theorem TSz.tb {t:Ah} (h:TSz t):TB 1048576 t:=⟨h.co,h.mo⟩
theorem TB.mono {j k:Nat} {t:Ah} (h:TB j t) (hk:j<=k):TB k t:=⟨h.co.mono hk,h.mo⟩
def Rl (c:Ak) (m:Ba):List Ah:=if nv c=0 then [] else [⟨Bs (sv c) (nv c) (dv c),m⟩]
theorem Anh (c:Ak):rq c=0↔nv c=0:=by
 unfold rq
 rw [Rat.mkRat_eq_zero (E2 c)]
 unfold sg; split <;> omega
theorem Ay3 (c:Ak) (m n:Ba):cf (Rl c m) n=if C8 m n=0 then rq c else 0:=by
 unfold Rl
 split
 .rename_i h
  rw [(Anh c).2 h]; simp [cf]
 .simp only [cf,Lx _ _ _ (E2 c)]
  show (if C8 m n=0 then rq c else 0)+0=_
  grind
structure Mg (F:Rat->Rat->Rat) (k:Nat) (p q R:List Ah):Prop where
 cp:CP R
 val:∀m,cf R m=F (cf p m) (cf q m)
 mon:∀t∈R,(∃u∈p,u.Mono=t.Mono)\/(∃u∈q,u.Mono=t.Mono)
 len:R.length<=p.length+q.length
 rb:∀t∈R,RB (k+1) t.Coef
theorem Ay4 {k:Nat} {c:Ak} {m:Ba} (hc:RB k c):(∀t∈Rl c m,t.Mono=m/\Hc t.Coef/\rq t.Coef≠0/\RB (k+1) t.Coef)/\(Rl c m).length<=1:=by
 unfold Rl
 split
 .exact ⟨fun _ h=>(by cases h),by simp⟩
 .rename_i h
  refine ⟨fun t ht=>?_,by simp⟩
  simp only [List.mem_singleton] at ht
  subst ht
  exact ⟨rfl,O9 _ _ _ (E2 c),by rw [Lx _ _ _ (E2 c)]; exact fun e=>h ((Anh c).1 e),Ali hc⟩
theorem Mg.step {F:Rat->Rat->Rat} {k:Nat} {p q g f R:List Ah} {c:Ak} {m:Ba} (h:Mg F k g f R) (y:F 0 0=0) (hc:RB k c)
  (s:∀n,C8 m n≠0->cf p n=cf g n/\cf q n=cf f n) (h0:rq c=F (cf p m) (cf q m)) (l:∀u∈g,C8 m u.Mono<0) (j:∀u∈f,C8 m u.Mono<0)
  (hm:(∃u∈p,u.Mono=m)\/(∃u∈q,u.Mono=m)) (hp:∀u∈g,u∈p) (hq:∀u∈f,u∈q) (A:g.length+f.length+1<=p.length+q.length):Mg F k p q (Rl c m++R):=by
 obtain ⟨i,z⟩:=Ay4 (m:=m) hc
 have x:∀t∈R,C8 m t.Mono<0:=by
  intro t ht
  rcases h.mon t ht with ⟨u,hu,e⟩ | ⟨u,hu,e⟩
  .rw [<-e]; exact l u hu
  .rw [<-e]; exact j u hu
 refine ⟨?_,?_,?_,?_,?_⟩
 .refine ⟨List.pairwise_append.2 ⟨?_,h.cp.srt,?_⟩,?_⟩
  .unfold Rl; split
   .exact List.Pairwise.nil
   .exact List.pairwise_singleton _ _
  .intro a ha b hb
   show C8 a.Mono b.Mono<0
   rw [(i a ha).1]; exact x b hb
  .intro t ht
   rcases List.mem_append.1 ht with ht | ht
   .exact ⟨(i t ht).2.1,(i t ht).2.2.1⟩
   .exact h.cp.coe t ht
 .intro n
  rw [Rk,Ay3,h.val n]
  by_cases e:C8 m n=0
  .rw [if_pos e]
   have e':=Ji.1 e
   subst e'
   rw [Ri l,Ri j,y,h0]; grind
  .rw [if_neg e,(s n e).1,(s n e).2]; grind
 .intro t ht
  rcases List.mem_append.1 ht with ht | ht
  .rw [(i t ht).1]; exact hm
  .rcases h.mon t ht with ⟨u,hu,e⟩ | ⟨u,hu,e⟩
   .exact .inl ⟨u,hp u hu,e⟩
   .exact .inr ⟨u,hq u hu,e⟩
 .rw [List.length_append]; have:=h.len; omega
 .intro t ht
  rcases List.mem_append.1 ht with ht | ht
  .exact (i t ht).2.2.2
  .exact h.rb t ht
end Go.Ab
namespace Go.Ab
open Go
def He (n:Int) (f:Bool):List Int:=if f then (if n<0 then [45] else []) else (if n<0 then [32,45,32] else [32,43,32])
def Ie (n:Int):List Int:=if n.natAbs=1 then [] else ti n.natAbs++[42]
def Hm (v:Int):List Int:=if v = -1 then [114,101,115] else 118::ti v
def tT (f:Bool) (t:Bf):List Int:=He t.Coef f++(Ie t.Coef++Hm t.Var)
def Gm:Bool->List Bf->Int->List Int
 | f,[],c=>if c≠0\/f=true then He c f++ti c.natAbs else []
 | f,t::ts,c=>tT f t++Gm false ts c
def Xb (l:Ap):List Int:=Gm true l.Terms l.Const
def Hn (X:List Int):Prop:=∀c m,X=c::m->c=97
theorem Hn.nil:Hn []:=by intro c m h; cases h
theorem Hn.cons (X:List Int):Hn (97::X):=by intro c m h; cases h; rfl
theorem Hn.nonum {X:List Int} (h:Hn X):J8 X:=by intro c m e; rw [h c m e]; decide
theorem Afx (n:Nat):∃c m,ti n=c::m/\48<=c/\c<=57:=by
 have b:=Afj (n:Int)
 cases h:ti (n:Int) with
 | nil=>exact (b h).elim
 | cons c m=>
  refine ⟨c,m,rfl,?_⟩
  have hc:c∈ti (n:Int):=by rw [h]; simp
  unfold ti at hc
  obtain ⟨x,hx,rfl⟩:=List.mem_map.1 hc
  have e:Lib.itoa (n:Int)=Lib.decDigits n:=by
   unfold Lib.itoa
   first | rfl | (rw [if_neg (by omega)]; simp) | simp
  rw [e] at hx
  have:=Aaz n n (Nat.le_refl _) x hx
  omega
theorem Ani (ts:List Bf) (c:Int) {X:List Int} (b:Hn X):J8 (Gm false ts c++X):=by
 have k:∀(n:Int) (Y:List Int),J8 (He n false++Y):=by
  intro n Y c m e
  unfold He at e
  simp only [Bool.false_eq_true,if_false] at e
  split at e <;> (cases e; decide)
 cases ts with
 | nil=>
  simp only [Gm]
  split
  .rw [List.append_assoc]; exact k _ _
  .exact b.nonum
 | cons t ts=>simp only [Gm,tT,List.append_assoc]; exact k _ _
theorem Anj {v w:Int} {R S:List Int} (c:J8 R) (b:J8 S) (h:Hm v++R=Hm w++S):v=w/\R=S:=by
 unfold Hm at h
 split at h <;> split at h
 .simp only [List.cons_append,List.nil_append,List.cons.injEq,true_and] at h
  exact ⟨by omega,h⟩
 .simp at h
 .simp at h
 .simp only [List.cons_append,List.cons.injEq,true_and] at h
  obtain ⟨g,f⟩:=Nt _ _ _ _ (Gv v) (Gv w) c b h
  exact ⟨Ra g,f⟩
theorem Afy (v:Int):∃c m,Hm v=c::m/\(c=114\/c=118):=by
 unfold Hm
 split
 .exact ⟨_,_,rfl,.inl rfl⟩
 .exact ⟨_,_,rfl,.inr rfl⟩
theorem Afz (X:List Int):J8 (42::X):=by intro c m e; cases e; decide
theorem Ay5 {a b v w:Int} {R S:List Int} (i:J8 R) (g:J8 S) (h:Ie a++(Hm v++R)=Ie b++(Hm w++S)):a.natAbs=b.natAbs/\v=w/\R=S:=by
 unfold Ie at h
 have bad:∀(n:Nat) (u:Int) (X Y:List Int),Hm u++X=ti n++[42]++Y->False:=by
  intro n u X Y e
  obtain ⟨c,m,f,l⟩:=Afy u
  obtain ⟨d,k,j,e4⟩:=Afx n
  rw [f,j] at e
  simp only [List.cons_append,List.cons.injEq] at e
  omega
 split at h <;> split at h
 .rename_i h1 h2
  simp only [List.nil_append] at h
  exact ⟨h1.trans h2.symm,Anj i g h⟩
 .exact (bad _ _ _ _ h).elim
 .exact (bad _ _ _ _ h.symm).elim
 .simp only [List.append_assoc,List.cons_append,List.nil_append] at h
  obtain ⟨f,l⟩:=Nt _ _ _ _ (Gv _) (Gv _) (Afz _) (Afz _) h
  have j:=Ra f
  obtain ⟨e4,q⟩:=Anj i g (List.cons.inj l).2
  exact ⟨by omega,e4,q⟩
def NoM (P:List Int):Prop:=∃c m,P=c::m/\c≠45
theorem NoM.ti (n:Nat) (X:List Int):NoM (Go.Ab.ti n++X):=by
 obtain ⟨c,m,e,h⟩:=Afx n
 exact ⟨c,m++X,by rw [e]; rfl,by omega⟩
theorem NoM.pT (a v:Int) (X:List Int):NoM (Ie a++(Hm v++X)):=by
 unfold Ie
 split
 .obtain ⟨c,m,e,h⟩:=Afy v
  exact ⟨c,m++X,by rw [e]; rfl,by omega⟩
 .rw [List.append_assoc]; exact NoM.ti _ _
theorem Af0 {a b:Int} {f:Bool} {P Q:List Int} (i:NoM P) (g:NoM Q) (h:He a f++P=He b f++Q):(a<0↔b<0)/\P=Q:=by
 obtain ⟨c,m,rfl,hc⟩:=i
 obtain ⟨d,k,rfl,hd⟩:=g
 unfold He at h
 cases f with
 | true=>
  simp only [if_true] at h
  split at h <;> split at h
  .rename_i h1 h2; exact ⟨by simp [h1,h2],by simpa using h⟩
  .simp at h; exact (hd h.1.symm).elim
  .simp at h; exact (hc h.1).elim
  .rename_i h1 h2; exact ⟨by simp [h1,h2],by simpa using h⟩
 | false=>
  simp only [Bool.false_eq_true,if_false] at h
  split at h <;> split at h
  .rename_i h1 h2; exact ⟨by simp [h1,h2],by simpa using h⟩
  .simp at h
  .simp at h
  .rename_i h1 h2; exact ⟨by simp [h1,h2],by simpa using h⟩
theorem Af1 {n:Int} {P X:List Int} (b:Hn X) (h:He n false++P=X):False:=by
 unfold He at h
 simp only [Bool.false_eq_true,if_false] at h
 split at h
 .have:=b _ _ h.symm; omega
 .have:=b _ _ h.symm; omega
theorem Ank {c d:Int} {f:Bool} {u:Bf} {m:List Bf} {X Y:List Int} (b:Hn X) (l:Hn Y) (h:Gm f [] c++X=Gm f (u::m) d++Y):False:=by
 simp only [Gm,tT] at h
 split at h
 .simp only [List.append_assoc] at h
  obtain ⟨_,e⟩:=Af0 (NoM.ti _ _) (NoM.pT _ _ _) h
  unfold Ie at e
  split at e
  .obtain ⟨s,m1,k,h1⟩:=Afy u.Var
   obtain ⟨q,m2,g,h2⟩:=Afx c.natAbs
   rw [k,g] at e
   simp only [List.nil_append,List.cons_append,List.cons.injEq] at e
   omega
  .simp only [List.append_assoc,List.cons_append,List.nil_append] at e
   obtain ⟨_,g⟩:=Nt _ _ _ _ (Gv _) (Gv _) b.nonum (Afz _) e
   have:=b _ _ g; omega
 .rename_i i
  have j:f=false:=by cases f with | true=>simp at i | false=>rfl
  subst j
  simp only [List.nil_append,List.append_assoc] at h
  exact Af1 b h.symm
theorem Anl:∀(l m:List Bf) (f:Bool) (c d:Int) (X Y:List Int),Hn X->Hn Y->Gm f l c++X=Gm f m d++Y->l=m/\c=d/\X=Y
 | [],[],f,c,d,X,Y,g,b,h=>by
  simp only [Gm] at h
  split at h <;> split at h
  .simp only [List.append_assoc] at h
   obtain ⟨x,q⟩:=Af0 (NoM.ti _ _) (NoM.ti _ _) h
   obtain ⟨j,e4⟩:=Nt _ _ _ _ (Gv _) (Gv _) g.nonum b.nonum q
   have s:=Ra j
   exact ⟨rfl,by omega,e4⟩
  .rename_i h1 h2
   have i:f=false:=by cases f with | true=>simp at h2 | false=>rfl
   subst i
   simp only [List.append_assoc,List.nil_append] at h
   exact (Af1 b h).elim
  .rename_i h1 h2
   have i:f=false:=by cases f with | true=>simp at h1 | false=>rfl
   subst i
   simp only [List.append_assoc,List.nil_append] at h
   exact (Af1 g h.symm).elim
  .rename_i h1 h2
   refine ⟨rfl,?_,by simpa using h⟩
   have a1:c=0:=by by_cases k:c=0; exact k; exact (h1 (.inl k)).elim
   have a2:d=0:=by by_cases k:d=0; exact k; exact (h2 (.inl k)).elim
   omega
 | [],u::m,f,c,d,X,Y,g,b,h=>(Ank g b h).elim
 | t::l,[],f,c,d,X,Y,g,b,h=>(Ank b g h.symm).elim
 | t::l,u::m,f,c,d,X,Y,g,b,h=>by
  simp only [Gm,tT,List.append_assoc] at h
  obtain ⟨x,q⟩:=Af0 (NoM.pT _ _ _) (NoM.pT _ _ _) h
  obtain ⟨j,e4,s⟩:=Ay5 (Ani _ _ g) (Ani _ _ b) q
  obtain ⟨A,z,y⟩:=Anl l m false c d X Y g b s
  have:t=u:=by
   cases t; cases u
   simp only at x j e4
   subst e4
   congr 1; omega
  exact ⟨by rw [this,A],z,y⟩
def Gk (a:A6):List Int:=97::(ti a.Deg++58::Xb a.Lin)
def E9 (f:Bx):List Int:=Hx f.Var f.Index
def Xc (m:Ba):List Int:=m.Factors.flatMap E9++m.Atoms.flatMap Gk
theorem Aa8 (l:List A6):Hn (l.flatMap Gk):=by
 cases l with
 | nil=>exact Hn.nil
 | cons a l=>simp only [List.flatMap_cons,Gk,List.cons_append]; exact Hn.cons _
theorem Aa9 (X:List Int):J8 (58::X):=by intro c m e; cases e; decide
theorem Anm:∀(l m:List A6),l.flatMap Gk=m.flatMap Gk->l=m
 | [],[],_=>rfl
 | [],b::m,h=>by simp [Gk] at h
 | a::l,[],h=>by simp [Gk] at h
 | a::l,b::m,h=>by
  simp only [List.flatMap_cons,Gk,List.cons_append,List.append_assoc,List.cons.injEq,true_and] at h
  obtain ⟨q,k⟩:=Nt _ _ _ _ (Gv _) (Gv _) (Aa9 _) (Aa9 _) h
  have j:=(List.cons.inj k).2
  obtain ⟨e4,f,i⟩:=Anl _ _ true _ _ _ _ (Aa8 l) (Aa8 m) j
  have g:=Anm l m i
  have c:=Ra q
  obtain ⟨⟨u,t1⟩,d1⟩:=a
  obtain ⟨⟨s,t2⟩,d2⟩:=b
  simp only at e4 f c
  rw [e4,f,c,g]
theorem Ano (l:List Bx) {X:List Int} (b:Hn X):O7 (l.flatMap E9++X):=by
 cases l with
 | nil=>intro c m e; rw [b c m e]; exact ⟨by decide,by decide⟩
 | cons a l=>
  intro c m e
  simp only [List.flatMap_cons,E9,Hx,List.cons_append] at e
  cases e; exact ⟨by decide,by decide⟩
theorem Anp:∀(l m:List Bx) (X Y:List Int),Hn X->Hn Y->l.flatMap E9++X=m.flatMap E9++Y->l=m/\X=Y
 | [],[],X,Y,_,_,h=>⟨rfl,by simpa using h⟩
 | [],b::m,X,Y,f,_,h=>by
  simp only [List.flatMap_cons,List.flatMap_nil,E9,Hx,List.cons_append,List.nil_append] at h
  have:=f _ _ h; omega
 | a::l,[],X,Y,_,c,h=>by
  simp only [List.flatMap_cons,List.flatMap_nil,E9,Hx,List.cons_append,List.nil_append] at h
  have:=c _ _ h.symm; omega
 | a::l,b::m,X,Y,f,c,h=>by
  simp only [List.flatMap_cons,E9,Hx,List.cons_append,List.append_assoc,List.cons.injEq,true_and] at h
  obtain ⟨u,s⟩:=Nt _ _ _ _ (Gv _) (Gv _) (Aa9 _) (Aa9 _) h
  have q:=(List.cons.inj s).2
  obtain ⟨e4,k⟩:=Afl _ _ _ _ (Ano l f) (Ano m c) q
  obtain ⟨j,i⟩:=Anp l m X Y f c k
  have g:=Ra u
  obtain ⟨x,i1⟩:=a
  obtain ⟨v2,i2⟩:=b
  simp only at e4 g
  exact ⟨by rw [e4,g,j],i⟩
theorem Ay6 {m n:Ba} (h:Xc m=Xc n):m=n:=by
 obtain ⟨c,f⟩:=Anp _ _ _ _ (Aa8 _) (Aa8 _) h
 have b:=Anm _ _ f
 cases m; cases n
 simp only at c b
 rw [c,b]
def By (l:List Int):Prop:=∀c∈l,0<=c/\c<256
theorem By.app {l m:List Int} (h:By l) (h':By m):By (l++m):=by
 intro c hc
 rcases List.mem_append.1 hc with k | k
 .exact h c k
 .exact h' c k
theorem By.ti (n:Int):By (Go.Ab.ti n):=by
 intro c h
 have:=Gv n c h
 simp only [Ns,Bool.or_eq_true,C2,beq_iff_eq,decide_eq_true_eq] at this
 omega
theorem By.cons {c:Int} {l:List Int} (hc:0<=c/\c<256) (h:By l):By (c::l):=by
 intro d hd
 rcases List.mem_cons.1 hd with rfl | k
 .exact hc
 .exact h d k
theorem By.nil:By []:=fun c h=>by cases h
theorem By.sgn (n:Int) (f:Bool):By (He n f):=by
 unfold He
 split <;> split <;> intro c hc <;> simp at hc <;> omega
theorem By.mag (n:Int):By (Ie n):=by
 unfold Ie
 split
 .exact By.nil
 .exact (By.ti _).app (By.cons (by omega) By.nil)
theorem By.var (n:Int):By (Hm n):=by
 unfold Hm
 split
 .intro c hc; simp at hc; omega
 .exact By.cons (by omega) (By.ti _)
theorem By.tT (f:Bool) (t:Bf):By (tT f t):=(By.sgn _ _).app ((By.mag _).app (By.var _))
theorem By.lins:∀(l:List Bf) (f:Bool) (c:Int),By (Gm f l c)
 | [],f,c=>by
  simp only [Gm]
  split
  .exact (By.sgn _ _).app (By.ti _)
  .exact By.nil
 | t::l,f,c=>(By.tT f t).app (By.lins l false c)
theorem By.at (a:A6):By (Gk a):=By.cons (by omega) ((By.ti _).app (By.cons (by omega) (By.lins _ _ _)))
theorem By.flat {α:Type} {g:α->List Int} (h:∀a,By (g a)) (l:List α):By (l.flatMap g):=by
 intro c hc
 obtain ⟨a,_,k⟩:=List.mem_flatMap.1 hc
 exact h a c k
theorem By.fac (f:Bx):By (E9 f):=Aa2 f.Var f.Index
theorem By.mono (m:Ba):By (Xc m):=(By.flat By.fac _).app (By.flat By.at _)
def bs (l:List Int):ByteArray:=⟨(D1 l).toArray⟩
theorem Ay7 {l m:List Int} (b:By l) (hm:By m) (h:bs l=bs m):l=m:=by
 unfold bs at h
 have h1:(D1 l).toArray=(D1 m).toArray:=by injection h
 have h2:D1 l=D1 m:=by simpa using congrArg Array.toList h1
 exact Afo _ _ b hm h2
def Jj (m:Ba):ByteArray:=bs (Xc m)
theorem Anq {m n:Ba} (h:Jj m=Jj n):m=n:=Ay6 (Ay7 (By.mono m) (By.mono n) h)
theorem Xd (l:List Int):(bs l).size=l.length:=by unfold bs D1; simp [ByteArray.size]
theorem Anr {l:List Int} (h:By l):Ld (bs l)=l:=by
 unfold Ld bs D1
 simp only [List.map_map]
 conv=>rhs; rw [<-List.map_id l]
 refine List.map_congr_left fun c hc=>?_
 have:=h c hc
 simp only [Function.comp,UInt8.toNat_ofNat',id]
 omega
theorem Ay8 (l m:List Int):bs l++bs m=bs (l++m):=by
 apply ByteArray.ext
 rw [ByteArray.data_append]
 unfold bs D1
 simp
theorem Rm {l m:List Int} (h:l.length+m.length<=9223372036854775807):Ey (bs l) (bs m)=some (bs (l++m)):=by
 unfold Ey
 rw [if_pos (by rw [Xd,Xd]; exact h),Ay8]
theorem Aba {n:Int} (h:I64 n):M3 n=some (bs (ti n)):=by
 rw [Afn h]
 congr 2
 congr 1
 unfold D1 ti
 rw [List.map_map]
 conv=>lhs; rw [<-List.map_id (Lib.itoa n)]
 refine List.map_congr_left fun c _=>?_
 simp [Function.comp]
theorem Ay9 (v:Int) (i:Br):Gw v i=bs (Hx v i):=rfl
end Go.Ab
namespace Go.Ab
open Go
theorem Abb {S E R α:Type} {step:S->Option (S⊕E)} {s0:S} {J:E->Option R} {r:R} (c:α) (xs:List α) (b:Nat->S) (h0:s0=b 0) (h:xs.length<2305843009213693952)
  (f:∀(j:Nat) (x:α),xs[j]? = some x->decide (((j+1:Nat):Int)<((c::xs).length:Int))=true->Ag (c::xs) ((j+1:Nat):Int)=some x->Ac (((j+1:Nat):Int)+1)=((j+1+1:Nat):Int)->step (b j)=some (.inl (b (j+1))))
  (g:decide (((xs.length+1:Nat):Int)<((c::xs).length:Int))=false->∃e,step (b xs.length)=some (.inr e)/\J e=some r):(Am step s0).bind J=some r:=by
 refine Gu xs.length b h0 (fun j hj=>?_) (g (by simp))
 have hx:xs[j]? = some xs[j]:=B3 hj
 exact f j _ hx (Al (by simp only [List.length_cons]; omega)) (Cd rfl (by simp)) (C7 (n:=xs.length+1) (by omega) (by omega))
theorem bnd {α β:Type} {X:Option α} {a:α} {K:α->Option β} {r:Option β} (h:X=some a) (k:K a=r):X.bind K=r:=by rw [h]; exact k
theorem Ly {l b:List Int} (c:By l) (h:b.length+l.length<=140737488355328):Fx (bs l) b=some ((l.length:Int),b++l):=by
 simp only [Fx,Tl,Ad,Anr c,Xd]
 rw [Da (by omega)]; rfl
theorem Rn {l b:List Int} (c:By l) (h:b.length+l.length<=140737488355328):Hi (bs l) b=some ((l.length:Int),b++l):=by
 simp only [Hi,V1,Ad,Anr c,Xd]
 rw [Da (by omega)]; rfl
theorem Pa {b:List Int} (hb:By b):J0 b=some (bs b):=by
 exact if_pos hb
theorem Aza {b:List Int} (hb:By b):Wn b=some (bs b):=Pa hb
theorem Af2 (n:Int) (h : -1048576<=n/\n<=1048576):(Ie n).length<=22:=by
 unfold Ie
 split
 .simp
 .have:=Lu (n:=(n.natAbs:Int)) (by unfold I64; omega)
  simp; omega
theorem Abc (n:Int) (f:Bool):(He n f).length<=3:=by unfold He; split <;> split <;> simp
theorem Azb {v:Int} (h : -1<=v/\v<3000):(Hm v).length<=22:=by
 unfold Hm
 split
 .simp
 .have:=Lu (n:=v) (by unfold I64; omega)
  simp; omega
structure Ans (a:Ap):Prop where
 c : -1048576<=a.Const/\a.Const<=1048576
 n:a.Terms.length<=16
 t:∀t∈a.Terms,(-1<=t.Var/\t.Var<3000)/\(-1048576<=t.Coef/\t.Coef<=1048576)
theorem Af3 {a:Ap} (h:B5 a=true):Ans a:=by
 unfold B5 at h
 simp only [C2,decide_eq_true_eq] at h
 refine ⟨⟨h.1.1,h.1.2.1⟩,h.1.2.2,fun t ht=>?_⟩
 obtain ⟨j,hj⟩:=List.getElem?_of_mem ht
 have:=Jc h.2 hj
 simp only [Re,C2,decide_eq_true_eq] at this
 omega
theorem Af4 {t:Bf} (f:Bool) (h:(-1<=t.Var/\t.Var<3000)/\(-1048576<=t.Coef/\t.Coef<=1048576)):(tT f t).length<=47:=by
 have:=Abc t.Coef f
 have:=Af2 t.Coef h.2
 have:=Azb h.1
 unfold tT
 simp only [List.length_append]; omega
theorem Ant {n:Int} (h : -1048576<=n/\n<=1048576):(if Ac (0-n)>n then Ac (0-n) else n)=(n.natAbs:Int):=by
 rw [Ac,Bw (by omega) (by omega)]; split <;> omega
theorem c45:ByteArray.mk #[45]=bs [45]:=rfl
theorem Azc:ByteArray.mk #[32,45,32]=bs [32,45,32]:=rfl
theorem Azd:ByteArray.mk #[32,43,32]=bs [32,43,32]:=rfl
theorem c42:ByteArray.mk #[42]=bs [42]:=rfl
theorem Anu:ByteArray.mk #[118]=bs [118]:=rfl
theorem c97:ByteArray.mk #[97]=bs [97]:=rfl
theorem c58:ByteArray.mk #[58]=bs [58]:=rfl
theorem Anv:ByteArray.mk #[114,101,115]=bs [114,101,115]:=rfl
theorem Anw:By [45]:=By.cons (by omega) By.nil
theorem by3 (a b c:Int) (ha:0<=a/\a<256) (hb:0<=b/\b<256) (hc:0<=c/\c<256):By [a,b,c]:=By.cons ha (By.cons hb (By.cons hc By.nil))
theorem Anx {n:Int} (f:Bool) {b:List Int} (c : -1048576<=n/\n<=1048576) (hb:b.length<=1099511627776):Wo n f b=some ((n.natAbs:Int),b++He n f):=by
 unfold Wo He
 rw [Ant c,c45,Azc,Azd]
 rw [Ly Anw (by simp; omega),Ly (by3 _ _ _ (by omega) (by omega) (by omega)) (by simp; omega),Ly (by3 _ _ _ (by omega) (by omega) (by omega)) (by simp; omega)]
 by_cases h:n<0
 .rw [Al h,if_pos h,if_pos h]; cases f <;> rfl
 .rw [Ar h,if_neg h,if_neg h]; cases f <;> simp
theorem Aze {n:Int} {b:List Int} (c : -1048576<=n/\n<=1048576) (hb:b.length<=1099511627776):Qb n true b=some (if n<0 then .inl ((n.natAbs:Int),b++[45]) else .inr ((n.natAbs:Int),b)):=by
 unfold Qb
 rw [Ant c,c45,Rn Anw (by simp; omega)]
 by_cases h:n<0
 .rw [Al h,if_pos h]; rfl
 .rw [Ar h,if_neg h]; rfl
theorem Af5 {n:Nat} (h:n<=1048576):Lk (n:Int) 10=some (bs (ti n)):=by
 unfold Lk Y7
 exact Aba (by unfold I64; omega)
theorem Abd {n:Nat} (h:n<=1048576):(ti (n:Int)).length<=21:=Lu (by unfold I64; omega)
theorem Anz {n:Int} {b:List Int} (c : -1048576<=n/\n<=1048576) (hb:b.length<=1099511627776) :
  (bif ((n.natAbs:Int) != (1:Int)) then (Lk (n.natAbs:Int) 10).bind fun v=>(Ey v (ByteArray.mk #[42])).bind fun u=>(Fx u b).bind fun w=>some w.2 else some b)=some (b++Ie n):=by
 have ht:=Abd (n:=n.natAbs) (by omega)
 unfold Ie
 by_cases h:n.natAbs=1
 .rw [Fb (by omega),if_pos h]; simp
 .rw [Ev (by omega),if_neg h,Af5 (by omega),c42]
  simp only [cond_true,Ad]
  rw [Rm (by simp; omega),Ad,Ly ((By.ti _).app (By.cons (by omega) By.nil)) (by simp; omega)]; rfl
theorem Af6 {v:Int} {b:List Int} {R:Type} (K:List Int->Option R) (c : -1<=v/\v<3000) (hb:b.length<=1099511627776) :
  (bif (v==(-1)) then (Fx (ByteArray.mk #[114,101,115]) b).bind fun w=>K w.2 else (G8 v).bind fun x=>(Ey (ByteArray.mk #[118]) x).bind fun y=>(Fx y b).bind fun w=>K w.2)=K (b++Hm v):=by
 have ht:=Lu (n:=v) (by unfold I64; omega)
 unfold Hm
 by_cases h:v = -1
 .rw [Ej h,if_pos h,Anv,Ly (by3 _ _ _ (by omega) (by omega) (by omega)) (by simp; omega)]; rfl
 .rw [Cq h,if_neg h,Anu]
  simp only [cond_false,G8]
  rw [Aba (by unfold I64; omega),Ad,Rm (by simp; omega),Ad]
  rw [show [118]++ti v=118::ti v from rfl,Ly (By.cons (by omega) (By.ti _)) (by simp; omega)]; rfl
theorem Abe {α:Type} {g:α->List Int} {l:List α} {j:Nat} {x:α} (h:l[j]? = some x):(l.take (j+1)).flatMap g=(l.take j).flatMap g++g x:=by
 rw [De h]; simp
theorem An0 {α:Type} {g:α->List Int} {n:Nat}:∀(l:List α),(∀a∈l,(g a).length<=n)->(l.flatMap g).length<=l.length*n
 | [],_=>by simp
 | a::l,h=>by
  have h1:=h a (by simp)
  have h2:=An0 l fun b hb=>h b (by simp [hb])
  simp only [List.flatMap_cons,List.length_append,List.length_cons,Nat.add_mul]; omega
theorem Af7 {α:Type} {g:α->List Int} {n:Nat} (l:List α) (j:Nat) (h:∀a∈l,(g a).length<=n):((l.take j).flatMap g).length<=l.length*n:=by
 refine Nat.le_trans (An0 _ fun a ha=>h a (List.mem_of_mem_take ha)) (Nat.mul_le_mul_right _ ?_)
 rw [List.length_take]; omega
theorem An1:∀(ts:List Bf) (c:Int),Gm false ts c=ts.flatMap (tT false)++Gm false [] c
 | [],c=>by simp
 | t::ts,c=>by
  have:=An1 ts c
  simp only [List.flatMap_cons,List.append_assoc,<-this]; rfl
theorem Azf {a:Ap} (h:B5 a=true) (B:a.Terms≠[]):Ng a=some (bs (Xb a)):=by
 have z:=Af3 h
 unfold Ng
 rw [Ky,h]
 obtain ⟨c,l⟩:=a
 cases l with
 | nil=>exact (B rfl).elim
 | cons t ts=>
  have hc : -1048576<=c/\c<=1048576:=z.c
  have M:ts.length<=15:=by have:=z.n; simp at this; omega
  have ht:(-1<=t.Var/\t.Var<3000)/\(-1048576<=t.Coef/\t.Coef<=1048576):=z.t t (by simp)
  have s:∀u∈ts,(-1<=u.Var/\u.Var<3000)/\(-1048576<=u.Coef/\u.Coef<=1048576):=fun u hu=>z.t u (by simp [hu])
  have x:=fun j=>Af7 (g:=tT false) (n:=47) ts j (fun u hu=>Af4 false (s u hu))
  have J:=Af4 true ht
  simp only [Ad,D2,cond_false]
  rw [Al (by simp only [List.length_cons]; omega),cond_true]
  refine bnd (a:=((t.Coef.natAbs:Int),tT true t)) ?_ ?_
  .rw [show Ag (t::ts) 0=some t from rfl,Ad,Aze ht.2 (by simp),Ad]
   have G:=Lu (n:=t.Var) (by unfold I64; omega)
   have I:=Abd (n:=t.Coef.natAbs) (by omega)
   have D:=Af2 t.Coef ht.2
   by_cases q:t.Coef<0
   .rw [if_pos q]
    simp only
    rw [Anz ht.2 (by simp),Ad]
    refine (Af6 (fun b=>some ((t.Coef.natAbs:Int),b)) ht.1 (by simp; omega)).trans ?_
    simp [tT,He,q]
   .rw [if_neg q]
    simp only
    by_cases h1:t.Coef.natAbs=1
    .rw [Fb (by omega)]
     simp only [cond_false]
     by_cases y:t.Var = -1
     .rw [Ej y,Anv,cond_true,Rn (by3 _ _ _ (by omega) (by omega) (by omega)) (by simp)]
      simp [tT,He,q,Ie,h1,Hm,y]
     .rw [Cq y,cond_false,Anu,G8,Aba (by unfold I64; omega),Ad,Rm (by simp; omega),Ad,show [118]++ti t.Var=118::ti t.Var from rfl,
       Rn (By.cons (by omega) (By.ti _)) (by simp; omega)]
      simp [tT,He,q,Ie,h1,Hm,y]
    .rw [Ev (by omega)]
     simp only [cond_true]
     rw [Af5 (by omega),Ad,c42,Rm (by simp; omega),Ad,Rn ((By.ti _).app (By.cons (by omega) By.nil)) (by simp; omega),Ad]
     refine (Af6 (fun b=>some ((t.Coef.natAbs:Int),b)) ht.1 (by simp; omega)).trans ?_
     simp [tT,He,q,Ie,h1]
  .simp only
   refine Abb t ts (fun j=>(((j+1:Nat):Int),tT true t++(ts.take j).flatMap (tT false))) (by simp [Ac,Bw]) (by omega) ?_ ?_
   .intro j u hu h1 h2 h3
    have f:=s u (Cp hu)
    have:=x j
    have D:=Af2 u.Coef f.2
    have A:=Abc u.Coef false
    simp only [h1,h2,h3,cond_true,Ad]
    rw [Cq (by omega),Anx false f.2 (by simp only [List.length_append]; omega),Ad,Anz f.2 (by simp only [List.length_append]; omega),Ad]
    refine (Af6 (R:=(Int×List Int)⊕List Int) (fun b=>some (.inl (((j+1+1:Nat):Int),b))) f.1 (by simp only [List.length_append]; omega)).trans ?_
    rw [Abe hu]
    simp [tT]
   .intro h1
    have h2:=x ts.length
    rw [List.take_length] at h2
    refine ⟨tT true t++ts.flatMap (tT false),by simp only [h1,cond_false,List.take_length],?_⟩
    have E:By (tT true t++ts.flatMap (tT false)):=(By.tT _ _).app (By.flat (By.tT _) _)
    have e:Xb ⟨c,t::ts⟩=tT true t++ts.flatMap (tT false)++Gm false [] c:=by
     have:=An1 ts c
     rw [List.append_assoc,<-this]; rfl
    rw [e]
    have k:((((t::ts).length:Nat):Int)==(0:Int))=false:=Cq (by simp only [List.length_cons]; omega)
    by_cases i:c=0
    .simp only [Fb i,cond_false,k,Ad]
     rw [Pa E]
     simp [Gm,i]
    .have L:=Abd (n:=c.natAbs) (by omega)
     have A:=Abc c false
     simp only [Ev i,cond_true,Ad,k]
     rw [Anx false hc (by simp only [List.length_append]; omega),Ad,Af5 (by omega),Ad,Ly (By.ti _) (by simp only [List.length_append]; omega),Ad,
      Pa ((E.app (By.sgn _ _)).app (By.ti _))]
     simp [Gm,i]
theorem An2 {a:Ap} (h:Ans a):(Xb a).length<=1024:=by
 have key:∀(l:List Bf) (f:Bool),(∀t∈l,(-1<=t.Var/\t.Var<3000)/\(-1048576<=t.Coef/\t.Coef<=1048576))->(Gm f l a.Const).length<=47*l.length+24:=by
  intro l
  induction l with
  | nil=>
   intro f _
   have h1:=Abd (n:=a.Const.natAbs) (by have:=h.c; omega)
   have h2:=Abc a.Const f
   simp only [Gm]
   split <;> simp <;> omega
  | cons t l ih=>
   intro f b
   have h1:=Af4 f (b t (by simp))
   have h2:=ih false fun u hu=>b u (by simp [hu])
   simp only [Gm,List.length_append,List.length_cons]; omega
 have:=key a.Terms true h.t
 have:=h.n
 unfold Xb; omega
structure CMo (m:Ba):Prop where
 sz:MSz m
 nf:m.Factors.length<=6
 na:m.Atoms.length<=6
 al:∀a∈m.Atoms,B5 a.Lin=true/\a.Lin.Terms≠[]/\1<=a.Deg/\a.Deg<=6
theorem Abf {R:Type} {a:A6} (K:ByteArray->Option R) (h:B5 a.Lin=true/\a.Lin.Terms≠[]/\1<=a.Deg/\a.Deg<=6) :
  ((G8 a.Deg).bind fun u=>(Ey (ByteArray.mk #[97]) u).bind fun v=>(Ey v (ByteArray.mk #[58])).bind fun w=>(Ng a.Lin).bind fun x=>(Ey w x).bind fun y=>K y)=K (bs (Gk a)):=by
 have h1:=Lu (n:=a.Deg) (by unfold I64; omega)
 have h2:=An2 (Af3 h.1)
 rw [G8,Aba (by unfold I64; omega),Ad,c97,Rm (by simp; omega),Ad,c58,Rm (by simp; omega),Ad,Azf h.1 h.2.1,Ad,Rm (by simp; omega),Ad]
 simp [Gk]
theorem Xe {a:A6} (h:B5 a.Lin=true/\a.Lin.Terms≠[]/\1<=a.Deg/\a.Deg<=6):(Gk a).length<=1100:=by
 have h1:=Lu (n:=a.Deg) (by unfold I64; omega)
 have h2:=An2 (Af3 h.1)
 simp [Gk]; omega
theorem Abg {f:Bx} (h:Dj f.Index<=1048576) (hr:iR f.Index/\I64 f.Var):(E9 f).length<=33554432:=by
 have h1:=Lu hr.2
 have h2:=Afm f.Index hr.1
 simp [E9,Hx]; omega
theorem Azg {m:Ba} (h:CMo m):Vc m=some (Jj m):=by
 obtain ⟨fs,c⟩:=m
 have q:∀f∈fs,Dj f.Index<=1048576/\iR f.Index/\I64 f.Var:=fun f i=>⟨h.sz.fi f i,h.sz.fr f i⟩
 have u:∀a∈c,B5 a.Lin=true/\a.Lin.Terms≠[]/\1<=a.Deg/\a.Deg<=6:=h.al
 have nf:fs.length<=6:=h.nf
 have na:c.length<=6:=h.na
 have A:=fun (l:List Bx) (x:∀f∈l,f∈fs) (j:Nat)=>Af7 (g:=E9) (n:=33554432) l j (fun f i=>Abg (q f (x f i)).1 (q f (x f i)).2)
 have D:=fun (l:List A6) (x:∀a∈l,a∈c) (j:Nat)=>Af7 (g:=Gk) (n:=1100) l j (fun a ha=>Xe (u a (x a ha)))
 have M:∀l:List Bx,By (l.flatMap E9):=fun l=>By.flat By.fac l
 have G:∀l:List A6,By (l.flatMap Gk):=fun l=>By.flat By.at l
 have key:∀f:Bx,f∈fs->Jz f.Var f.Index=some (bs (E9 f)):=fun f i=>Afp f.Var f.Index (q f i).2.2 (q f i).2.1 (q f i).1
 unfold Vc Jj Xc
 cases fs with
 | nil=>
  rw [Ar (by simp),cond_false]
  cases c with
  | nil=>
   rw [Ar (by simp),cond_false]
   rw [Aza By.nil]; rfl
  | cons a c=>
   have ha:=u a (by simp)
   have y:=Xe ha
   rw [Al (by simp only [List.length_cons]; omega),cond_true,show Ag (a::c) 0=some a from rfl,Ad]
   refine (Abf _ ha).trans ?_
   rw [Rn (By.at a) (by simp; omega),Ad]
   refine Abb a c (fun j=>(((j+1:Nat):Int),[]++Gk a++(c.take j).flatMap Gk)) (by simp [Ac,Bw]) (by simp at na; omega) ?_ ?_
   .intro j b hb h1 h2 h3
    have k:=u b (by simp [Cp hb])
    have:=Xe k
    have:=D c (fun b hb=>by simp [hb]) j
    simp at na
    simp only [h1,h2,h3,cond_true,Ad]
    refine (Abf _ k).trans ?_
    rw [Ly (By.at b) (by simp only [List.length_append,List.length_nil]; omega),Ad,Abe hb]
    simp
   .intro h1
    refine ⟨[]++Gk a++c.flatMap Gk,by simp only [h1,cond_false,List.take_length],?_⟩
    dsimp only
    rw [Pa ((By.nil.app (By.at a)).app (G c))]
    simp
 | cons f fs=>
  have i:=q f (by simp)
  have L:=Abg i.1 i.2
  rw [Al (by simp only [List.length_cons]; omega),cond_true,show Ag (f::fs) 0=some f from rfl,Ad,key f (by simp),Ad,Rn (By.fac f) (by simp; omega),Ad]
  refine Abb f fs (fun j=>(((j+1:Nat):Int),[]++E9 f++(fs.take j).flatMap E9)) (by simp [Ac,Bw]) (by simp at nf; omega) ?_ ?_
  .intro j g E h1 h2 h3
   have s:g∈f::fs:=by simp [Cp E]
   have:=Abg (q g s).1 (q g s).2
   have:=A fs (fun b hb=>by simp [hb]) j
   simp at nf
   simp only [h1,h2,h3,cond_true,Ad]
   rw [key g s,Ad,Ly (By.fac g) (by simp only [List.length_append,List.length_nil]; omega),Ad,Abe E]
   simp
  .intro h1
   have I:=A fs (fun b hb=>by simp [hb]) fs.length
   rw [List.take_length] at I
   simp at nf
   refine ⟨[]++E9 f++fs.flatMap E9,by simp only [h1,cond_false,List.take_length],?_⟩
   have z:By ([]++E9 f++fs.flatMap E9):=(By.nil.app (By.fac f)).app (M fs)
   have J:([]++E9 f++fs.flatMap E9).length<=234881024:=by simp only [List.length_append,List.length_nil]; omega
   have eB:(f::fs).flatMap E9 = []++E9 f++fs.flatMap E9:=by simp
   rw [eB]
   generalize []++E9 f++fs.flatMap E9=B at z J
   cases c with
   | nil=>
    rw [Ar (by simp),cond_false,Pa z]; simp
   | cons a c=>
    have ha:=u a (by simp)
    have y:=Xe ha
    rw [Al (by simp only [List.length_cons]; omega),cond_true,show Ag (a::c) 0=some a from rfl,Ad]
    refine (Abf _ ha).trans ?_
    rw [Ly (By.at a) (by omega),Ad]
    refine Abb a c (fun j=>(((j+1:Nat):Int),B++Gk a++(c.take j).flatMap Gk)) (by simp [Ac,Bw]) (by simp at na; omega) ?_ ?_
    .intro j b hb h1 h2 h3
     have k:=u b (by simp [Cp hb])
     have:=Xe k
     have:=D c (fun b hb=>by simp [hb]) j
     simp at na
     simp only [h1,h2,h3,cond_true,Ad]
     refine (Abf _ k).trans ?_
     rw [Ly (By.at b) (by simp only [List.length_append]; omega),Ad,Abe hb]
     simp
    .intro h1
     refine ⟨B++Gk a++c.flatMap Gk,by simp only [h1,cond_false,List.take_length],?_⟩
     dsimp only
     rw [Pa ((z.app (By.at a)).app (G c))]
     simp
end Go.Ab
namespace Go.Ab
open Go
def Dr (ts:List Ah):List (ByteArray×Int):=ts.zipIdx.map fun q=>(Jj q.1.Mono,(q.2:Int))
def Dst (ts:List Ah):Prop:=ts.Pairwise fun t u=>t.Mono≠u.Mono
theorem Azh (ts:List Ah) (t:Ah):Dr (ts++[t])=Dr ts++[(Jj t.Mono,(ts.length:Int))]:=by
 unfold Dr; simp [List.zipIdx_append]
theorem Xf (ts:List Ah) (j:Nat):(Dr ts)[j]? = (ts[j]?).map fun t=>(Jj t.Mono,(j:Int)):=by
 unfold Dr; simp [List.getElem?_map,List.getElem?_zipIdx]
 cases ts[j]? <;> rfl
theorem Azi {ts:List Ah} {j:Nat} {t u:Ah} (h:ts[j]? = some t) (hm:u.Mono=t.Mono):Dr (ts.set j u)=Dr ts:=by
 apply List.ext_getElem?
 intro i
 rw [Xf,Xf,List.getElem?_set]
 by_cases e:j=i
 .subst e
  rw [if_pos rfl,if_pos (E8 h),h]; simp [hm]
 .rw [if_neg e]
theorem An3 {α:Type}:∀(o:List (ByteArray×α)) (s:ByteArray) (v:α),Eh o s=false->E6 o s v=o++[(s,v)]
 | [],_,_,_=>rfl
 | p::o,s,v,h=>by
  simp only [Eh,List.any_cons,Bool.or_eq_false_iff] at h
  simp only [E6,h.1,cond_false,List.cons_append,List.cons.injEq,true_and]
  exact An3 o s v h.2
theorem Azj {ts:List Ah} {m:Ba} (h:∀t∈ts,t.Mono≠m):Eh (Dr ts) (Jj m)=false:=by
 unfold Eh
 rw [List.any_eq_false]
 intro p hp
 obtain ⟨j,hj⟩:=List.getElem?_of_mem hp
 rw [Xf] at hj
 cases ht:ts[j]? with
 | none=>rw [ht] at hj; cases hj
 | some t=>
  rw [ht] at hj
  simp only [Option.map_some,Option.some.injEq] at hj
  subst hj
  intro e
  have e:=(O5 _ _).1 e
  exact h t (Cp ht) (Anq e).symm
theorem Azk {ts:List Ah} (hd:Dst ts) {j:Nat} {t:Ah} (h:ts[j]? = some t):Eh (Dr ts) (Jj t.Mono)=true/\Gt (Dr ts) (Jj t.Mono) 0=(j:Int):=by
 have hp:(Dr ts)[j]? = some (Jj t.Mono,(j:Int)):=by rw [Xf,h]; rfl
 refine ⟨List.any_eq_true.2 ⟨_,Cp hp,(O5 _ _).2 rfl⟩,?_⟩
 unfold Gt
 have c:(Dr ts).find? (fun p=>Jj t.Mono==p.1)=some (Jj t.Mono,(j:Int)):=by
  cases c:(Dr ts).find? (fun p=>Jj t.Mono==p.1) with
  | none=>
   have:=List.find?_eq_none.1 c _ (Cp hp)
   exact (this ((O5 _ _).2 rfl)).elim
  | some q=>
   have h1:=List.find?_some c
   obtain ⟨i,b⟩:=List.getElem?_of_mem (List.mem_of_find?_eq_some c)
   rw [Xf] at b
   cases hu:ts[i]? with
   | none=>rw [hu] at b; cases b
   | some u=>
    rw [hu] at b
    simp only [Option.map_some,Option.some.injEq] at b
    subst b
    have e:=Anq ((O5 _ _).1 h1)
    have l:i=j:=by
     have g:=E8 hu
     have f:=E8 h
     rw [B3 g] at hu
     rw [B3 f] at h
     rcases Nat.lt_trichotomy i j with k | k | k
     .have:=List.pairwise_iff_getElem.1 hd i j g f k
      rw [Option.some.inj hu,Option.some.inj h] at this
      exact (this e.symm).elim
     .exact k
     .have:=List.pairwise_iff_getElem.1 hd j i f g k
      rw [Option.some.inj hu,Option.some.inj h] at this
      exact (this e).elim
    subst l
    rw [e]
 rw [c]; rfl
open Classical in
theorem Ro (t:Ah) (p:List Ah) (m:Ba):cf (t::p) m=(if t.Mono=m then rq t.Coef else 0)+cf p m:=by
 simp only [cf]
 by_cases e:t.Mono=m
 .rw [if_pos (Ji.2 e),if_pos e]
 .rw [if_neg (fun h=>e (Ji.1 h)),if_neg e]
open Classical in
theorem An4:∀{ts:List Ah} {j:Nat} {t u:Ah},ts[j]? = some t->u.Mono=t.Mono->∀m,cf (ts.set j u) m=cf ts m+(if t.Mono=m then rq u.Coef-rq t.Coef else 0)
 | [],j,t,u,h,_,m=>by simp at h
 | s::ts,0,t,u,h,hm,m=>by
  simp only [List.getElem?_cons_zero,Option.some.injEq] at h
  subst h
  rw [List.set_cons_zero,Ro,Ro,hm]
  split <;> grind
 | s::ts,j+1,t,u,h,hm,m=>by
  simp only [List.getElem?_cons_succ] at h
  rw [List.set_cons_succ,Ro,Ro,An4 h hm m]
  grind
theorem Dst.set {ts:List Ah} (h:Dst ts) {j:Nat} {t u:Ah} (ht:ts[j]? = some t) (hm:u.Mono=t.Mono):Dst (ts.set j u):=by
 have e:(ts.set j u).map (·.Mono)=ts.map (·.Mono):=by
  apply List.ext_getElem?
  intro i
  rw [List.getElem?_map,List.getElem?_map,List.getElem?_set]
  by_cases e:j=i
  .subst e; rw [if_pos rfl,if_pos (E8 ht),ht]; simp [hm]
  .rw [if_neg e]
 have k:∀l:List Ah,Dst l↔(l.map (·.Mono)).Pairwise (·≠·):=fun l=>by rw [List.pairwise_map]; exact Iff.rfl
 rw [k,e,<-k]; exact h
structure Col (k:Nat) (P:Ba->Prop) (ts:List Ah):Prop where
 dst:Dst ts
 tb:∀t∈ts,RB k t.Coef
 mo:∀t∈ts,P t.Mono
theorem Col.nil (k:Nat) (P:Ba->Prop):Col k P []:=⟨List.Pairwise.nil,fun _ h=>(by cases h),fun _ h=>(by cases h)⟩
theorem T3 {k0 k:Nat} {P:Ba->Prop} (L:∀m,P m->CMo m) (l ts:List Ah) (D:Col k0 P ts) (J:∀t∈l,RB k t.Coef/\P t.Mono) (hk:k<=k0) (U:k0+l.length*(k+3)<34359738000) (S:ts.length+l.length<=1099511627776) :
  ∃f,H9 l (Dr ts) ts=some (Dr f,f)/\Col (k0+l.length*(k+3)) P f/\f.length<=ts.length+l.length/\∀m,cf f m=cf ts m+cf l m:=by
 unfold H9
 refine Aae (A:=List Ah) (fun f=>(Dr f,f)) ?_
 refine E7 (fun s=>∃(j:Nat) (u:List Ah),s=((j:Int),Dr u,u)/\j<=l.length/\Col (k0+j*(k+3)) P u/\u.length<=ts.length+j/\∀m,cf u m=cf ts m+cf (l.take j) m) (fun s=>l.length-s.1.toNat)
  (fun z=>∃u,z=(Dr u,u)/\Col (k0+l.length*(k+3)) P u/\u.length<=ts.length+l.length/\∀m,cf u m=cf ts m+cf l m) ⟨0,ts,rfl,by omega,by simpa using D,by omega,fun m=>by simp only [List.take_zero,cf]; grind⟩ ?_ ?_
 .rintro _ ⟨j,u,rfl,hj,hu,B,y⟩
  rcases Nat.lt_or_ge j l.length with h | h
  .have hx:l[j]? = some l[j]:=B3 h
   generalize l[j]=x at hx
   obtain ⟨hb,hm⟩:=J x (Cp hx)
   have G:j*(k+3)+(k+3)<=l.length*(k+3):=by rw [<-Nat.succ_mul]; exact Nat.mul_le_mul_right _ h
   have E:(j+1)*(k+3)=j*(k+3)+(k+3):=by rw [Nat.succ_mul]
   simp only [Al (by omega:(j:Int)<(l.length:Int)),cond_true,Cd rfl hx,Ad,Azg (L _ hm),C7 h (by omega)]
   left
   by_cases hex:∃t∈u,t.Mono=x.Mono
   .obtain ⟨t,ht,I⟩:=hex
    obtain ⟨i,q⟩:=List.getElem?_of_mem ht
    obtain ⟨g1,g2⟩:=Azk hu.dst q
    rw [I] at g1 g2
    obtain ⟨c,R,_,N,V,M⟩:=Ayq (hu.tb t ht) hb (by omega) (by omega)
    refine ⟨((j+1:Nat),Dr (u.set i ⟨c,t.Mono⟩),u.set i ⟨c,t.Mono⟩),?_,⟨j+1,u.set i ⟨c,t.Mono⟩,rfl,by omega,⟨hu.dst.set q rfl,?_,?_⟩,by rw [List.length_set]; omega,fun m=>?_⟩,by simp; omega⟩
    .simp only [g1,g2,cond_true,Ad,Cd rfl q,R,Fh rfl,Azi (u:=⟨c,t.Mono⟩) q rfl]
    .intro w hw
     rcases List.mem_or_eq_of_mem_set hw with hw | rfl
     .exact (hu.tb w hw).mono (by omega)
     .exact N.mono (by omega)
    .intro w hw
     rcases List.mem_or_eq_of_mem_set hw with hw | rfl
     .exact hu.mo w hw
     .exact hu.mo t ht
    .rw [An4 (u:=⟨c,t.Mono⟩) q rfl m,y m,De hx,Rk,Ro]
     simp only [M,I,cf]
     split <;> grind
   .have g:=Azj (m:=x.Mono) (ts:=u) fun t ht e=>hex ⟨t,ht,e⟩
    refine ⟨((j+1:Nat),Dr (u++[x]),u++[x]),?_,⟨j+1,u++[x],rfl,by omega,⟨?_,?_,?_⟩,by simp; omega,fun m=>?_⟩,by simp; omega⟩
    .simp only [g,cond_false,Ad]
     rw [Da (by simp; omega),Ad,An3 _ _ _ g,Azh]
    .refine List.pairwise_append.2 ⟨hu.dst,List.pairwise_singleton _ _,fun a ha b hb=>?_⟩
     simp only [List.mem_singleton] at hb
     subst hb
     exact fun e=>hex ⟨a,ha,e⟩
    .intro w hw
     rcases List.mem_append.1 hw with hw | hw
     .exact (hu.tb w hw).mono (by omega)
     .simp only [List.mem_singleton] at hw
      subst hw
      exact hb.mono (by omega)
    .intro w hw
     rcases List.mem_append.1 hw with hw | hw
     .exact hu.mo w hw
     .simp only [List.mem_singleton] at hw
      subst hw
      exact hm
    .rw [Rk,y m,De hx,Rk]; grind
  .have:j=l.length:=by omega
   subst this
   rw [List.take_length] at y
   simp only [Ar (by omega:¬(l.length:Int)<(l.length:Int)),cond_false]
   exact .inr ⟨_,rfl,u,rfl,hu,B,y⟩
 .rintro _ ⟨u,rfl,h1,h2,h3⟩
  exact ⟨_,rfl,u,rfl,h1,h2,h3⟩
end Go.Ab
