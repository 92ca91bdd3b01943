/- Plain laws: what the plain functions answer. -/
import Derived.Test.YtenghgogpgldaaaGreatDoorPsPl1
import Derived.Lib.ItoaLen
namespace Go.Ab
open Go
def isV (σ:List Ah) (k n:Int):Bool:=k==4&&decide (0<=n)&&decide (n<(σ.length:Int))
mutual
def Cp (σ:List Ah):Ah->Ah
 | ⟨k,n,l⟩=>match (if isV σ k n then σ[n.toNat]? else none) with
  | some s=>s
  | none=>⟨k,n,L1 σ l⟩
def L1 (σ:List Ah):List Ah->List Ah
 | []=>[]
 | x::xs=>Cp σ x::L1 σ xs
end
theorem As3 (σ l:List Ah):L1 σ l=l.map (Cp σ):=by
 induction l with
 | nil=>rfl
 | cons x xs ih=>simp only [L1,ih,List.map_cons]
theorem Yg {σ:List Ah} {k n:Int} (h:isV σ k n=true):∃s,σ[n.toNat]? = some s/\Af σ n=some s/\s∈σ:=by
 simp only [isV,De,decide_eq_true_eq] at h
 have b:n.toNat < σ.length:=by omega
 refine ⟨σ[n.toNat],Bx b,?_,List.getElem_mem b⟩
 unfold Af
 rw [if_pos (by omega),Bx b]
theorem Yh {σ:List Ah} {t s:Ah} (h:isV σ t.Kind t.Num=true) (b:σ[t.Num.toNat]? = some s):Cp σ t=s:=by
 cases t; simp only [Cp] at *; simp [h,b]
theorem Acs {σ:List Ah} {t:Ah} (h:isV σ t.Kind t.Num=false):Cp σ t=⟨t.Kind,t.Num,t.Args.map (Cp σ)⟩:=by
 cases t; simp only [Cp] at *; simp [h,As3]
mutual
theorem Ajd:∀t:Ah,Cp [] t=t
 | ⟨k,n,l⟩=>by
  have hv:isV [] k n=false:=by
   unfold isV
   by_cases h:0<=n
   .rw [Ap (by simp; omega:¬n<(([]:List Ah).length:Int))]; simp
   .rw [Ap h]; simp
  simp only [Cp,hv,Aje l]; rfl
theorem Aje:∀l:List Ah,L1 [] l=l
 | []=>rfl
 | x::xs=>by simp only [L1,Ajd x,Aje xs]
end
mutual
theorem Acu (σ:List Ah) (M:Nat) (hM:1<=M) (hσ:∀s∈σ,Ba s<=M):∀t:Ah,Ba (Cp σ t)<=Ba t*M
 | ⟨k,n,l⟩=>by
  cases hv:isV σ k n with
  | true=>
   obtain ⟨s,h1,_,h3⟩:=Yg hv
   rw [Yh (t:=⟨k,n,l⟩) hv h1]
   have:=hσ s h3
   have h2:=K7 ⟨k,n,l⟩
   calc Ba s<=1*M:=by omega
    _<=_:=Nat.mul_le_mul_right M h2
  | false=>
   have:=Ajf σ M hM hσ l
   simp only [Cp,hv,Ba]
   simp only [Bool.false_eq_true,if_false,Ba]
   rw [Nat.add_mul]; omega
theorem Ajf (σ:List Ah) (M:Nat) (hM:1<=M) (hσ:∀s∈σ,Ba s<=M):∀l:List Ah,Cb (L1 σ l)<=Cb l*M
 | []=>by simp [L1,Cb]
 | x::xs=>by
  have h1:=Acu σ M hM hσ x
  have h2:=Ajf σ M hM hσ xs
  simp only [L1,Cb]
  rw [Nat.add_mul]; omega
end
theorem Acv (σ:List Ah) (t:Ah):(bif t.Kind==(4:Int) then bif decide (t.Num>=(0:Int)) then some (decide (t.Num<(σ.length:Int))) else some false else some false)=some (isV σ t.Kind t.Num):=by
 unfold isV
 cases t.Kind==4 <;> simp
 by_cases h:0<=t.Num <;> simp [h]
theorem As4:∀(k:Nat) (t:Ah) (σ:List Ah) (M:Nat),(∀s∈σ,Ba s<=M)->Ba t+M+1<=k->k<1099511627776->M2 k t σ=some (Cp σ t):=by
 intro k
 induction k with
 | zero=>intro t σ M _ h; omega
 | succ k ih=>
  intro t σ M c h hk
  have g:=F8 t
  have f:=G8 t.Args
  rw [M2]
  rw [show (show Option Bool from bif t.Kind==(4:Int) then bif decide (t.Num>=(0:Int)) then some (decide (t.Num<(σ.length:Int))) else some false else some false)=some (isV σ t.Kind t.Num) from Acv σ t,Ad]
  cases b:isV σ t.Kind t.Num with
  | true=>
   obtain ⟨s,h1,h2,h3⟩:=Yg b
   have:=c s h3
   simp only [cond_true,h2,Ad,Yh b h1,ih s [] 0 (by simp) (by omega) (by omega),Ajd]
  | false=>
   rw [Acs b]
   simp only [cond_false]
   refine E6 t.Args (fun j=>((j:Int),(t.Args.take j).map (Cp σ))) rfl (by omega) ?_ ?_
   .intro j x hj hx h1 h2 h3
    have:=Ge (Bs hx)
    simp only [h1,h2,h3,cond_true,Ad,ih x σ M c (by omega) (by omega)]
    rw [C1 (by simp; omega),Ad,Cz hx]; simp
   .intro h1
    exact ⟨t.Args.map (Cp σ),by simp,rfl⟩
theorem As5:∀(k:Nat) (t:Ah),Ba t<=k->k<1099511627776->Pf k t=some t:=by
 intro k
 induction k with
 | zero=>intro t h; have:=K7 t; omega
 | succ k ih=>
  intro t h hk
  have c:=F8 t
  have b:=G8 t.Args
  rw [Pf]
  refine E6 t.Args (fun j=>((j:Int),(t.Args.take j))) rfl (by omega) ?_ ?_
  .intro j x hj hx h1 h2 h3
   have:=Ge (Bs hx)
   simp only [h1,h2,h3,cond_true,Ad,ih x (by omega) (by omega)]
   rw [C1 (by simp; omega),Ad,Cz hx]
  .intro h1
   exact ⟨t.Args,by simp,by cases t; rfl⟩
theorem As6:∀(k:Nat) (t:Ah) (σ:List Ah) (M:Nat),(∀s∈σ,Ba s<=M)->M<=4000000->Ba t<=k->k<1099511627776->M7 k t σ=some (Cp σ t):=by
 intro k
 induction k with
 | zero=>intro t σ M _ _ h; have:=K7 t; omega
 | succ k ih=>
  intro t σ M c i h hk
  have g:=F8 t
  have f:=G8 t.Args
  rw [M7]
  rw [show (show Option Bool from bif t.Kind==(4:Int) then bif decide (t.Num>=(0:Int)) then some (decide (t.Num<(σ.length:Int))) else some false else some false)=some (isV σ t.Kind t.Num) from Acv σ t,Ad]
  cases b:isV σ t.Kind t.Num with
  | true=>
   obtain ⟨s,h1,h2,h3⟩:=Yg b
   have:=c s h3
   simp only [cond_true,h2,Ad,Yh b h1,As5 4000000 s (by omega) (by omega)]
  | false=>
   rw [Acs b]
   simp only [cond_false]
   refine E6 t.Args (fun j=>((j:Int),(t.Args.take j).map (Cp σ))) rfl (by omega) ?_ ?_
   .intro j x hj hx h1 h2 h3
    have:=Ge (Bs hx)
    simp only [h1,h2,h3,cond_true,Ad,ih x σ M c i (by omega) (by omega)]
    rw [C1 (by simp; omega),Ad,Cz hx]; simp
   .intro h1
    exact ⟨t.Args.map (Cp σ),by simp,rfl⟩
theorem As7:∀(k:Nat) (t:Ah),Ba t<=k->Ba t<1099511627776->O5 k t=some (Ba t:Int):=by
 intro k
 induction k with
 | zero=>intro t h; have:=K7 t; omega
 | succ k ih=>
  intro t h ht
  have b:=F8 t
  have c:=G8 t.Args
  rw [O5]
  refine E6 t.Args (fun j=>(1+(Cb (t.Args.take j):Int),(j:Int))) rfl (by omega) ?_ ?_
  .intro j x hj hx h1 h2 h3
   have g:=Ge (Bs hx)
   have f:=U2 t.Args (j+1)
   have e:Cb (t.Args.take (j+1))=Cb (t.Args.take j)+Ba x:=by rw [Cz hx,Yc]; simp [Cb]
   simp only [h1,h2,h3,cond_true,Ad,ih x (by omega) (by omega)]
   rw [show Ac (1+(Cb (t.Args.take j):Int)+(Ba x:Int))=1+(Cb (t.Args.take (j+1)):Int) by rw [e,Ac,Bv] <;> omega]
  .intro h1
   exact ⟨1+(Cb t.Args:Int),by simp,by rw [b]; simp⟩
theorem As8 (σ:List Ah) (M:Nat) (E:1<=M) (u:M<=1048576) (A:∀s∈σ,Ba s<=M):∀(k:Nat) (t:Ah),Ba t<=k->Ba t<=1048576 ->
  ∃v:Nat,O6 k t (σ.map fun s=>(Ba s:Int))=some (v:Int)/\v<=Ba (Cp σ t)/\((v=Ba (Cp σ t))\/200<v):=by
 intro k
 induction k with
 | zero=>intro t h; have:=K7 t; omega
 | succ k ih=>
  intro t h ht
  have B:=F8 t
  have z:=G8 t.Args
  have l:∀x,Ba x<=1048576->Ba (Cp σ x)<=1099511627776:=fun x hx=>by
   have:=Acu σ M E A x
   have:Ba x*M<=1048576*1048576:=Nat.mul_le_mul hx u
   omega
  rw [O6]
  rw [show (show Option Bool from bif t.Kind==(4:Int) then bif decide (t.Num>=(0:Int)) then some (decide (t.Num<((σ.map fun s=>(Ba s:Int)).length:Int))) else some false else some false)=some (isV σ t.Kind t.Num) by rw [List.length_map]; exact Acv σ t,Ad]
  cases f:isV σ t.Kind t.Num with
  | true=>
   obtain ⟨s,h1,h2,h3⟩:=Yg f
   have hi:Af (σ.map fun s=>(Ba s:Int)) t.Num=some (Ba s:Int):=by
    have:=Fe h2
    rw [Cg (n:=t.Num.toNat) (by omega)]
    simp [h1]
   simp only [cond_true,hi,Ad,Yh f h1]
   exact ⟨Ba s,rfl,Nat.le_refl _,.inl rfl⟩
  | false=>
   have y:=l t ht
   rw [Acs f] at y ⊢
   simp only [cond_false]
   have g:Ba ⟨t.Kind,t.Num,t.Args.map (Cp σ)⟩=1+Cb (t.Args.map (Cp σ)):=by simp only [Ba]
   rw [g] at y ⊢
   refine Xv (fun v:Nat=>(v:Int)) (Dt (fun (n,i)=>∃j:Nat,i=j/\j<=t.Args.length/\n=1+(Cb ((t.Args.map (Cp σ)).take j):Int)) (fun (_,i)=>t.Args.length-i.toNat)
    (fun n=>∃v:Nat,n=v/\v<=1+Cb (t.Args.map (Cp σ))/\(v=1+Cb (t.Args.map (Cp σ))\/200<v)) ⟨0,rfl,by omega,by simp [Cb]⟩ ?_ ?_)
   .rintro ⟨n,i⟩ ⟨j,rfl,hj,q⟩
    have q:n=_:=q
    subst q
    rcases Nat.lt_or_ge j t.Args.length with h' | h'
    .have hx:t.Args[j]? = some t.Args[j]:=Bx h'
     generalize t.Args[j]=x at hx
     have I:=Ge (Bs hx)
     obtain ⟨v,b,v2,v3⟩:=ih x (by omega) (by omega)
     have c:(t.Args.map (Cp σ))[j]? = some (Cp σ x):=by simp [hx]
     have e:Cb ((t.Args.map (Cp σ)).take (j+1))=Cb ((t.Args.map (Cp σ)).take j)+Ba (Cp σ x):=by rw [Cz c,Yc]; simp [Cb]
     have D:=U2 (t.Args.map (Cp σ)) (j+1)
     have G:Ac (1+(Cb ((t.Args.map (Cp σ)).take j):Int)+(v:Int))=((1+Cb ((t.Args.map (Cp σ)).take j)+v:Nat):Int):=by rw [Ac,Bv] <;> omega
     simp only [Ak (by omega:(j:Int)<(t.Args.length:Int)),cond_true,Cg rfl hx,Ad,b,C6 h' (by omega),G]
     by_cases hb:1+Cb ((t.Args.map (Cp σ)).take j)+v>200
     .rw [Ak (by omega)]
      exact .inr ⟨_,rfl,_,rfl,by omega,.inr hb⟩
     .rw [Ap (by omega)]
      refine .inl ⟨_,rfl,⟨j+1,rfl,by omega,?_⟩,by simp; omega⟩
      have:v=Ba (Cp σ x):=by omega
      subst this
      rw [e]; omega
    .have:j=t.Args.length:=by omega
     subst this
     refine .inr ⟨_,by simp; rfl,1+Cb (t.Args.map (Cp σ)),?_,by omega,.inl rfl⟩
     rw [List.take_of_length_le (by simp)]; omega
   .rintro n ⟨v,rfl,b,v2⟩
    exact ⟨_,rfl,v,rfl,b,v2⟩
def Ji (data:List Ay) (t:Ah) (c:Int):Option (List Ah) :=
 if t.Kind=5 then
  match Af data t.Num with
  | none=>none
  | some x=>if (t.Args.length:Int)=x.Vars then
    match Af x.Cons c with
    | none=>none
    | some y=>if (y.Args.map (Cp t.Args)).all (fun a=>decide (Ba a<=200)) then some (y.Args.map (Cp t.Args)) else none
   else none
 else none
def okL (o:Option (List Ah)):List Ah×Bool:=match o with | none=>([],false) | some l=>(l,true)
theorem As9 {R:Type} (data:List Ay) (t:Ah) (c:Int) (F:Ay->Ka->Option R) (z:R) (X:Option R)
  (b:X=(match Af data t.Num with
   | none=>some z
   | some x=>match Af x.Cons c with
    | none=>some z
    | some y=>if t.Kind=5/\(t.Args.length:Int)=x.Vars then F x y else some z)):X=if t.Kind=5 then
  match Af data t.Num with
  | none=>some z
  | some x=>if (t.Args.length:Int)=x.Vars then
    match Af x.Cons c with
    | none=>some z
    | some y=>F x y
   else some z
 else some z:=by
 subst b
 by_cases h:t.Kind=5
 .rw [if_pos h]
  cases Af data t.Num with
  | none=>rfl
  | some x=>
   simp only
   by_cases h':(t.Args.length:Int)=x.Vars
   .rw [if_pos h']
    cases Af x.Cons c with
    | none=>rfl
    | some y=>simp [h,h']
   .rw [if_neg h']
    cases Af x.Cons c with
    | none=>rfl
    | some y=>simp [h']
 .rw [if_neg h]
  cases Af data t.Num with
  | none=>rfl
  | some x=>
   simp only
   cases Af x.Cons c with
   | none=>rfl
   | some y=>simp [h]
def Szv (data:List Ay):Prop:=∀x∈data,∀y∈x.Cons,y.Args.length<=6/\∀a∈y.Args,Ba a<=200
theorem He.szv {data:List Ay} (h:He data):Szv data:=by
 intro x hx y hy
 obtain ⟨d,hd⟩:=List.getElem?_of_mem hx
 have h1:=h.2.1 d x hd
 obtain ⟨_,c,b⟩:=h1.2.2.2.2.2 y hy
 refine ⟨c,fun a ha=>?_⟩
 have:=List.all_eq_true.1 b a ha
 unfold Hx at this
 rw [Bool.or_eq_true] at this
 rcases this with h' | h'
 .exact (Ai6 hd h1.2.1 h').2
 .simp only [De,decide_eq_true_eq] at h'; exact h'.2
theorem Ata {t a:Ah} (ht:Ba t<=200) (ha:Ba a<=200):Ba (Cp t.Args a)<=40000:=by
 have h1:=Acu t.Args 200 (by omega) (fun s b=>by have:=Ge b; have:=F8 t; omega) a
 have:Ba a*200<=200*200:=Nat.mul_le_mul_right 200 ha
 omega
theorem Ajg {data:List Ay} (B:Szv data) (t:Ah) (ht:Ba t<=200) (c:Int):Pe data t c=some (okL (Ji data t c)):=by
 have G:Pe data t c=_:=As9 data t c (fun x y=>(An (S:=(Int×(List Ah))) (E:=(((List Ah)×Bool)⊕(List Ah))) (fun (v22,f)=>
   bif (decide (v22<(y.Args.length:Int))) then (
   (Af y.Args v22).bind fun v24=>
   (M7 (4000000) v24 t.Args).bind fun v26=>
   (Lx (4000000) v26).bind fun v28=>
   bif (decide (v28>(200:Int))) then some (.inr (.inl ([],false)))
   else (
   (B0 40 f [v26]).bind fun u=>
   some (.inl ((Ac (v22+1)),u))))
   else some (.inr (.inr f))) (0,[])).bind fun z=>
   match z with
   | .inl (l,k)=>some (l,k)
   | .inr q=>some (q,true)) ([],false) _ (by
  unfold Pe
  by_cases hk:t.Kind=5
  .simp only [C5 hk,cond_false]
   cases hx:Af data t.Num with
   | none=>
    rcases Nk hx with h | h
    .simp only [Ak h,cond_true,Ad]
    .by_cases h':t.Num<0
     .simp only [Ak h',cond_true,Ad]
     .simp only [Ap h',Ak (show t.Num>=(data.length:Int) from h),cond_true,cond_false,Ad]
   | some x=>
    obtain ⟨a1,a2,_,_⟩:=Fe hx
    simp only [Ap (by omega:¬t.Num<0),Ap (by omega:¬t.Num>=(data.length:Int)),cond_false,Ad]
    by_cases b:(t.Args.length:Int)=x.Vars
    .simp only [C5 b,cond_false]
     cases hy:Af x.Cons c with
     | none=>
      rcases Nk hy with h | h
      .simp only [Ak h,cond_true,Ad]
      .by_cases h':c<0
       .simp only [Ak h',cond_true,Ad]
       .simp only [Ap h',Ak (show c>=(x.Cons.length:Int) from h),cond_true,cond_false,Ad]
     | some y=>
      obtain ⟨b1,b2,_,_⟩:=Fe hy
      simp only [Ap (by omega:¬c<0),Ap (by omega:¬c>=(x.Cons.length:Int)),cond_false,Ad,hk,b,and_self,if_true]
      rfl
    .simp only [C2 b,cond_true,Ad]
     cases hy:Af x.Cons c with
     | none=>rfl
     | some y=>simp [b]
  .simp only [C2 hk,cond_true,Ad]
   cases hx:Af data t.Num with
   | none=>rfl
   | some x=>
    simp only
    cases hy:Af x.Cons c with
    | none=>rfl
    | some y=>simp [hk])
 rw [G]
 unfold Ji
 by_cases hk:t.Kind=5
 .rw [if_pos hk,if_pos hk]
  cases hx:Af data t.Num with
  | none=>rfl
  | some x=>
   simp only
   by_cases b:(t.Args.length:Int)=x.Vars
   .rw [if_pos b,if_pos b]
    cases hy:Af x.Cons c with
    | none=>rfl
    | some y=>
     simp only
     obtain ⟨I,i⟩:=B x (Fe hx).2.2.2 y (Fe hy).2.2.2
     refine (Nf (rt:=(y.Args.map (Cp t.Args),true)) (rf:=([],false)) y.Args (fun a=>decide (Ba (Cp t.Args a)<=200)) (fun j=>((j:Int),(y.Args.take j).map (Cp t.Args))) rfl (by omega) ?_ ?_).trans ?_
     .intro j a ha h1 h2 h3
      have hj:=Di ha
      have A:=i a (Bs ha)
      have J:=Ata ht A
      simp only [h1,h2,h3,cond_true,Ad,As6 4000000 a t.Args 200 (fun s D=>by have:=Ge D; have:=F8 t; omega) (by omega) (by omega) (by omega),Aiy 4000000 (Cp t.Args a) (by omega) (by omega)]
      by_cases hb:Ba (Cp t.Args a)<=200
      .rw [Ak hb,Ap (by omega)]
       refine ⟨fun _=>?_,fun h=>by cases h⟩
       rw [C1 (by simp; omega)]
       simp only [cond_false,Ad]
       rw [Cz ha]; simp
      .rw [Ap hb,Ak (by omega)]
       exact ⟨(fun h=>by cases h),fun _=>⟨_,rfl,rfl⟩⟩
     .intro h1
      exact ⟨.inr (y.Args.map (Cp t.Args)),by simp,rfl⟩
     .rw [List.all_map]
      cases g:y.Args.all ((fun a=>decide (Ba a<=200)) ∘ Cp t.Args) with
      | true=>rw [if_pos rfl]; rw [show (y.Args.all fun a=>decide (Ba (Cp t.Args a)<=200))=true from g]; rfl
      | false=>rw [show (y.Args.all fun a=>decide (Ba (Cp t.Args a)<=200))=false from g]; rfl
   .rw [if_neg b,if_neg b]; rfl
 .rw [if_neg hk,if_neg hk]; rfl
end Go.Ab
namespace Go.Ab
open Go
theorem Atb {data:List Ay} (B:Szv data) (t:Ah) (ht:Ba t<=200) (c:Int):Xo data t c=some (okL (Ji data t c)):=by
 have D:=F8 t
 have u:=G8 t.Args
 unfold Xo Ji
 by_cases hk:t.Kind=5
 .simp only [C5 hk,cond_false,if_pos hk]
  cases hx:Af data t.Num with
  | none=>
   rcases Nk hx with h | h
   .simp only [Ak h,cond_true,Ad,okL]
   .by_cases h':t.Num<0
    .simp only [Ak h',cond_true,Ad,okL]
    .simp only [Ap h',Ak (show t.Num>=(data.length:Int) from h),cond_true,cond_false,Ad,okL]
  | some x=>
   obtain ⟨a1,a2,_,hxm⟩:=Fe hx
   simp only [Ap (by omega:¬t.Num<0),Ap (by omega:¬t.Num>=(data.length:Int)),cond_false,Ad]
   by_cases g:(t.Args.length:Int)=x.Vars
   .simp only [C5 g,cond_false,if_pos g]
    cases hy:Af x.Cons c with
    | none=>
     rcases Nk hy with h | h
     .simp only [Ak h,cond_true,Ad,okL]
     .by_cases h':c<0
      .simp only [Ak h',cond_true,Ad,okL]
      .simp only [Ap h',Ak (show c>=(x.Cons.length:Int) from h),cond_true,cond_false,Ad,okL]
    | some y=>
     obtain ⟨b1,b2,_,k⟩:=Fe hy
     obtain ⟨I,b⟩:=B x hxm y k
     simp only [Ap (by omega:¬c<0),Ap (by omega:¬c>=(x.Cons.length:Int)),cond_false,Ad]
     rw [Kc (n:=t.Args.length) (c:=t.Args.length) rfl rfl (by omega) (by omega) (by omega),Ad]
     refine E6 t.Args (fun j=>((j:Int),((t.Args.take j).map fun s=>(Ba s:Int))++List.replicate (t.Args.length-j) 0)) rfl (by omega) ?_ ?_
     .intro j s hj i h1 h2 h3
      have:=Ge (Bs i)
      obtain ⟨m,E⟩:∃m,t.Args.length-j=m+1:=⟨t.Args.length-j-1,by omega⟩
      have G:t.Args.length-(j+1)=m:=by omega
      have l:j=((t.Args.take j).map fun s=>(Ba s:Int)).length:=by simp; omega
      simp only [h1,h2,h3,cond_true,Ad,As7 4000000 s (by omega) (by omega),E,G,List.replicate_succ,Aco _ _ _ (j:Int) j rfl l,Acn _ _ _ _ (j:Int) j rfl l,Cz i]
      simp
     .intro h1
      refine ⟨t.Args.map fun s=>(Ba s:Int),by simp,?_⟩
      have q:∀s∈t.Args,Ba s<=200:=fun s i=>by have:=Ge i; omega
      refine (Nf (rt:=(y.Args.map (Cp t.Args),true)) (rf:=([],false)) y.Args (fun a=>decide (Ba (Cp t.Args a)<=200)) (fun j=>(j:Int)) rfl (by omega) ?_ ?_).trans ?_
      .intro j a ha h1 h2 h3
       have A:=b a (Bs ha)
       obtain ⟨v,z,v2,v3⟩:=As8 t.Args 200 (by omega) (by omega) q 4000000 a (by omega) (by omega)
       simp only [h1,h2,h3,cond_true,Ad,z]
       by_cases hb:Ba (Cp t.Args a)<=200
       .rw [Ak hb,Ap (by omega)]
        exact ⟨fun _=>rfl,fun h=>by cases h⟩
       .rw [Ap hb,Ak (by omega)]
        exact ⟨(fun h=>by cases h),fun _=>⟨_,rfl,rfl⟩⟩
      .intro h1
       refine ⟨.inr (),by simp,?_⟩
       simp only
       refine E6 y.Args (fun j=>((j:Int),(y.Args.take j).map (Cp t.Args))) rfl (by omega) ?_ ?_
       .intro j a hj ha h1 h2 h3
        have A:=b a (Bs ha)
        simp only [h1,h2,h3,cond_true,Ad,As4 4000000 a t.Args 200 q (by omega) (by omega)]
        rw [C1 (by simp; omega),Ad,Cz ha]; simp
       .intro h1
        exact ⟨y.Args.map (Cp t.Args),by simp,rfl⟩
      .rw [List.all_map]
       cases f:y.Args.all ((fun a=>decide (Ba a<=200)) ∘ Cp t.Args) with
       | true=>rw [if_pos rfl]; rw [show (y.Args.all fun a=>decide (Ba (Cp t.Args a)<=200))=true from f]; rfl
       | false=>rw [show (y.Args.all fun a=>decide (Ba (Cp t.Args a)<=200))=false from f]; rfl
   .simp only [C2 g,cond_true,Ad,if_neg g,okL]
 .simp only [C2 hk,cond_true,Ad,if_neg hk,okL]
theorem U5 {data:List Ay} {t:Ah} {c:Int} {l:List Ah} (h:Ji data t c=some l) :
  ∃x y,t.Kind=5/\Af data t.Num=some x/\(t.Args.length:Int)=x.Vars/\Af x.Cons c=some y/\l=y.Args.map (Cp t.Args)/\∀a∈l,Ba a<=200:=by
 unfold Ji at h
 by_cases hk:t.Kind=5
 .rw [if_pos hk] at h
  cases hx:Af data t.Num with
  | none=>rw [hx] at h; cases h
  | some x=>
   rw [hx] at h
   simp only at h
   by_cases f:(t.Args.length:Int)=x.Vars
   .rw [if_pos f] at h
    cases hy:Af x.Cons c with
    | none=>rw [hy] at h; cases h
    | some y=>
     rw [hy] at h
     simp only at h
     by_cases b:(y.Args.map (Cp t.Args)).all (fun a=>decide (Ba a<=200))=true
     .rw [if_pos b] at h
      cases h
      refine ⟨x,y,hk,rfl,f,hy,rfl,fun a ha=>?_⟩
      have:=List.all_eq_true.1 b a ha
      simpa using this
     .rw [if_neg b] at h; cases h
   .rw [if_neg f] at h; cases h
 .rw [if_neg hk] at h; cases h
def Fz (l:List Ah) (r:List Bool):List Ah:=((l.zip r).filter fun p=>!p.2).map (·.1)
def Hy (data:List Ay) (t:Ah) (c:Int):Option (List Ah):=(Ji data t c).map fun l=>Fz l (Fy data t.Num c)
theorem Acw {data:List Ay} {t:Ah} {c:Int} {l:List Ah} (h:Ji data t c=some l):(Fy data t.Num c).length=l.length:=by
 obtain ⟨x,y,_,hx,_,hy,rfl,_⟩:=U5 h
 unfold Fy
 simp only [hx,hy,List.length_map]
theorem Ajh {l:List Ah} {r:List Bool} {j:Nat} {a:Ah} {b:Bool} (h1:l[j]? = some a) (h2:r[j]? = some b):Fz (l.take (j+1)) (r.take (j+1))=Fz (l.take j) (r.take j)++bif b then [] else [a]:=by
 unfold Fz
 have f:=Di h1
 have c:=Di h2
 rw [Cz h1,Cz h2,List.zip_append (by simp; omega)]
 cases b <;> simp
theorem Aji (l:List Ah) (r:List Bool):(Fz l r).length<=l.length:=by
 unfold Fz
 rw [List.length_map]
 refine Nat.le_trans (List.length_filter_le _ _) ?_
 rw [List.length_zip]; omega
def Jj (r:List Bool):List Int:=(r.zipIdx.filter fun p=>!p.1).map fun p=>(p.2:Int)
def Ps (r:List Bool):List Int:=(r.zipIdx.filter fun p=>p.1).map fun p=>(p.2:Int)
theorem Acx {r:List Bool} {j:Nat} {b:Bool} (h:r[j]? = some b):(r.take (j+1)).zipIdx=(r.take j).zipIdx++[(b,j)]:=by
 have:=Di h
 rw [Cz h,List.zipIdx_append]; simp; omega
theorem Atc {data:List Ay} (g:Szv data) (i:Ke data) (t:Ah) (ht:Ba t<=200) (c:Int) {l:List Ah} (f:Ji data t c=some l):Ul data t c=some (Jj (Fy data t.Num c),Ps (Fy data t.Num c),true):=by
 unfold Ul
 have k:=Acw f
 obtain ⟨x,y,_,hx,_,hy,s,_⟩:=U5 f
 obtain ⟨h,_⟩:=g x (Fe hx).2.2.2 y (Fe hy).2.2.2
 have q:l.length<=6:=by rw [s]; simpa using h
 rw [Ajg g t ht c,f,Ad]
 simp only [okL,Dm,cond_false,Ar5 data t.Num c i,Ad]
 generalize Fy data t.Num c=r at *
 refine E6 r (fun j=>((j:Int),Jj (r.take j),Ps (r.take j))) (by simp [Jj,Ps]) (by omega) ?_ ?_
 .intro j b hj hb h1 h2 h3
  have z:(Jj (r.take j)).length<=6:=by
   unfold Jj; rw [List.length_map]; refine Nat.le_trans (List.length_filter_le _ _) ?_; simp; omega
  have u:(Ps (r.take j)).length<=6:=by
   unfold Ps; rw [List.length_map]; refine Nat.le_trans (List.length_filter_le _ _) ?_; simp; omega
  simp only [h1,h2,h3,cond_true,Ad]
  rw [C1 (by simp; omega),C1 (by simp; omega)]
  unfold Jj Ps
  rw [Acx hb]
  cases b <;> simp
 .intro h1
  exact ⟨(Jj r,Ps r),by simp,rfl⟩
theorem Atd {l:List Ah} {r:List Bool} (h:r.length=l.length):∀(j:Nat) (a:Int),(Jj r)[j]? = some a->∃x,Af l a=some x/\(Fz l r)[j]? = some x:=by
 intro j a ha
 have e:Fz l r=(r.zipIdx.filter fun p=>!p.1).map fun p=>(l[p.2]?).getD ⟨0,0,[]⟩:=by
  unfold Fz
  have key:∀n,n<=r.length->(((l.take n).zip (r.take n)).filter fun p=>!p.2).map (·.1)=((r.take n).zipIdx.filter fun p=>!p.1).map fun p=>(l[p.2]?).getD ⟨0,0,[]⟩:=by
   intro n
   induction n with
   | zero=>intro _; simp
   | succ n ih=>
    intro g
    have h1:l[n]? = some l[n]:=Bx (by omega)
    have h2:r[n]? = some r[n]:=Bx (by omega)
    have:=Ajh h1 h2
    unfold Fz at this
    rw [this,ih (by omega),Acx h2]
    cases r[n] <;> simp [h1]
  have:=key r.length (Nat.le_refl _)
  rw [List.take_of_length_le (by omega),List.take_of_length_le (Nat.le_refl _)] at this
  exact this
 unfold Jj at ha
 rw [List.getElem?_map] at ha
 cases hp:(r.zipIdx.filter fun p=>!p.1)[j]? with
 | none=>rw [hp] at ha; cases ha
 | some p=>
  rw [hp] at ha
  cases ha
  have c:=Bs hp
  rw [List.mem_filter] at c
  have b:r[p.2]? = some p.1:=List.mk_mem_zipIdx_iff_getElem?.1 c.1
  have f:=Di b
  have hx:l[p.2]? = some l[p.2]:=Bx (by omega)
  refine ⟨l[p.2],Cg rfl hx,?_⟩
  rw [e,List.getElem?_map,hp]
  simp [hx]
theorem Ate {l:List Ah} {r:List Bool} (h:r.length=l.length):(Jj r).length=(Fz l r).length:=by
 unfold Jj Fz
 simp only [List.length_map]
 have key:∀n,n<=r.length->(((l.take n).zip (r.take n)).filter fun p=>!p.2).length=((r.take n).zipIdx.filter fun p=>!p.1).length:=by
  intro n
  induction n with
  | zero=>intro _; simp
  | succ n ih=>
   intro b
   have h1:l[n]? = some l[n]:=Bx (by omega)
   have h2:r[n]? = some r[n]:=Bx (by omega)
   rw [Acx h2,Cz h1,Cz h2,List.zip_append (by simp; omega),List.filter_append,List.length_append,ih (by omega),List.filter_append,List.length_append]
   cases r[n] <;> simp
 have:=key r.length (Nat.le_refl _)
 rw [List.take_of_length_le (by omega),List.take_of_length_le (Nat.le_refl _)] at this
 exact this.symm
theorem Yi {data:List Ay} (g:Szv data) (k:Ke data) (t:Ah) (ht:Ba t<=200) (c:Int):Rj data t c=some (okL (Hy data t c)):=by
 unfold Rj Hy
 rw [Ajg g t ht c,Ad]
 cases h:Ji data t c with
 | none=>rfl
 | some l=>
  have f:=Acw h
  obtain ⟨x,y,_,hx,_,hy,u,_⟩:=U5 h
  obtain ⟨i,_⟩:=g x (Fe hx).2.2.2 y (Fe hy).2.2.2
  have s:l.length<=6:=by rw [u]; simpa using i
  simp only [okL,Dm,cond_false,Atc g k t ht c h,Ad,Option.map_some]
  generalize Fy data t.Num c=r at *
  have q:=Ate f
  have z:=Aji l r
  refine E6 (Jj r) (fun j=>((j:Int),(Fz l r).take j)) (by simp) (by omega) ?_ ?_
  .intro j b hj hb h1 h2 h3
   obtain ⟨a,a1,a2⟩:=Atd f j b hb
   simp only [h1,h2,h3,cond_true,Ad,a1]
   rw [C1 (by simp; omega),Ad,Cz a2]
  .intro h1
   refine ⟨Fz l r,?_,rfl⟩
   simp only [h1]
   rw [List.take_of_length_le (by omega)]; rfl
theorem Ajj {data:List Ay} {t:Ah} {c:Int} {l:List Ah} (h:Hy data t c=some l):(∀a∈l,Ba a<=200)/\∃x,Af data t.Num=some x/\0<=c/\c<x.Cons.length:=by
 unfold Hy at h
 cases b:Ji data t c with
 | none=>rw [b] at h; cases h
 | some m=>
  rw [b] at h
  cases h
  obtain ⟨x,y,_,hx,_,hy,_,g⟩:=U5 b
  refine ⟨fun a ha=>?_,x,hx,(Fe hy).1,(Fe hy).2.1⟩
  unfold Fz at ha
  obtain ⟨p,f,rfl⟩:=List.mem_map.1 ha
  exact g _ (List.of_mem_zip (List.mem_filter.1 f).1).1
end Go.Ab
namespace Go.Ab
open Go
mutual
def Ct:A8->Nat
 | ⟨_,l⟩=>1+Eo l
def Eo:List A8->Nat
 | []=>0
 | x::xs=>Ct x+Eo xs
end
theorem E3 (t:A8):Ct t=1+Eo t.Kids:=by cases t; simp only [Ct]
theorem Jk {l:List A8} {a:A8} (h:a∈l):Ct a<=Eo l:=by
 induction l with
 | nil=>cases h
 | cons x xs ih=>
  simp only [Eo]
  rcases List.mem_cons.1 h with rfl | h
  .omega
  .have:=ih h; omega
theorem Kf (l:List A8):l.length<=Eo l:=by
 induction l with
 | nil=>simp
 | cons x xs ih=>simp only [Eo,List.length_cons]; have:=E3 x; omega
mutual
def Gf (data:List Ay):A8->Ah->Option Nat
 | ⟨n,kids⟩,t=>
  if t.Kind=6 then (if n=0 then Eh data kids t.Args else none)
  else if t.Kind=7 then (if 0<=n/\n<=6/\kids.length=0 then some n.toNat else none)
  else if t.Kind=5 then (if n=0 then Gp data kids t else none)
  else if n=0/\kids.length=0 then some 0 else none
def Eh (data:List Ay):List A8->List Ah->Option Nat
 | [],[]=>some 0
 | i::is,t::ts=>(Gf data i t).bind fun a=>(Eh data is ts).map (a + ·)
 | [],_::_=>none
 | _::_,[]=>none
def Gp (data:List Ay):List A8->Ah->Option Nat
 | [],_=>some 0
 | ⟨n,kids⟩::es,t=>(Hy data t n).bind fun ts=>(Eh data kids ts).bind fun a=>(Gp data es t).map (1+a + ·)
end
theorem Acy (data:List Ay) (i:A8) (t:Ah):Gf data i t=if t.Kind=6 then (if i.Num=0 then Eh data i.Kids t.Args else none)
  else if t.Kind=7 then (if 0<=i.Num/\i.Num<=6/\i.Kids.length=0 then some i.Num.toNat else none)
  else if t.Kind=5 then (if i.Num=0 then Gp data i.Kids t else none)
  else if i.Num=0/\i.Kids.length=0 then some 0 else none:=by cases i; simp only [Gf]
theorem Yj (data:List Ay) (e:A8) (es:List A8) (t:Ah):Gp data (e::es) t=(Hy data t e.Num).bind fun ts=>(Eh data e.Kids ts).bind fun a=>(Gp data es t).map (1+a + ·):=by cases e; simp only [Gp]
theorem Yk (data:List Ay) (i:A8) (b:List A8) (t:Ah) (ts:List Ah):Eh data (i::b) (t::ts)=(Gf data i t).bind fun a=>(Eh data b ts).map (a + ·):=by simp only [Eh]
theorem Acz (data:List Ay):∀(b:List A8) (ts:List Ah),ts.length≠b.length->Eh data b ts=none
 | [],[],h=>absurd rfl h
 | i::b,t::ts,h=>by rw [Yk,Acz data b ts (by simpa using h)]; cases Gf data i t <;> rfl
 | [],_::_,_=>by simp only [Eh]
 | _::_,[],_=>by simp only [Eh]
theorem Ajk (data:List Ay):∀(es:List A8) (t:Ah) (d:Nat),Gp data es t=some d->es.length<=d
 | [],_,_,_=>by simp
 | e::es,t,d,h=>by
  rw [Yj] at h
  cases h1:Hy data t e.Num with
  | none=>rw [h1] at h; cases h
  | some ts=>
   rw [h1,Ad] at h
   cases h2:Eh data e.Kids ts with
   | none=>rw [h2] at h; cases h
   | some a=>
    rw [h2,Ad] at h
    cases h3:Gp data es t with
    | none=>rw [h3] at h; cases h
    | some b=>
     rw [h3] at h
     cases h
     have:=Ajk data es t b h3
     simp only [List.length_cons]; omega
def Ft (o:Option Nat):Int:=match o with | some d=>if d<=6 then (d:Int) else -1 | none => -1
theorem Ac0 {d:Nat} (h:d<=6):Ft (some d)=d:=by simp [Ft,h]
theorem Ac1 {d:Nat} (h:6<d):Ft (some d) = -1:=by simp only [Ft]; rw [if_neg (by omega)]
theorem Ac2 (o:Option Nat):(Ft o = -1/\∀d,o=some d->6<d)\/∃d,o=some d/\d<=6/\Ft o=d:=by
 cases o with
 | none=>exact .inl ⟨rfl,fun d h=>by cases h⟩
 | some d=>
  rcases Nat.lt_or_ge 6 d with h | h
  .exact .inl ⟨Ac1 h,fun e b=>by cases b; exact h⟩
  .exact .inr ⟨d,rfl,h,Ac0 h⟩
theorem R3 {o:Option Nat} (h:∀d,o=some d->6<d):Ft o = -1:=by
 cases o with
 | none=>rfl
 | some d=>exact Ac1 (h d rfl)
theorem L2 {α:Type} {l:List α} {j:Nat} {x:α} (h:l[j]? = some x):l.drop j=x::l.drop (j+1):=by
 have hj:=Di h
 rw [List.drop_eq_getElem_cons hj]
 rw [Bx hj] at h
 rw [Option.some.inj h]
end Go.Ab
namespace Go.Ab
open Go
theorem Atf {data:List Ay} (V:Szv data) (X:Ke data) (h8:∀x∈data,x.Cons.length<=8):∀k:Nat,
  (∀(i:A8) (t:Ah),2*Ct i<=k->Ct i<=1048576->Ba t<=200->M4 k data t i=some (Ft (Gf data i t))) /\
  (∀(c:List A8) (ts:List Ah),2*Eo c+1<=k->Eo c<=1048576->(∀t∈ts,Ba t<=200)->M5 k data ts c=some (Ft (Eh data c ts))):=by
 intro k
 induction k with
 | zero=>exact ⟨fun i t h=>by have:=E3 i; omega,fun c ts h=>by omega⟩
 | succ k ih=>
  obtain ⟨a8,M⟩:=ih
  have J:∀o:Option Nat,o.map (0 + ·)=o:=by intro o; cases o <;> simp
  constructor
  .intro i t hk hi ht
   have ag:=E3 i
   have aa:=Kf i.Kids
   rw [M4,Acy]
   by_cases Z:t.Kind=6
   .simp only [Em Z,cond_true,if_pos Z]
    by_cases h0:i.Num=0
    .simp only [C5 h0,cond_false,if_pos h0]
     rw [M i.Kids t.Args (by omega) (by omega) (fun a ha=>by have:=Ge ha; have:=F8 t; omega)]
     rfl
    .simp only [C2 h0,cond_true,if_neg h0]; rfl
   .simp only [Cr Z,cond_false,if_neg Z]
    by_cases Y:t.Kind=7
    .simp only [Em Y,cond_true,if_pos Y]
     by_cases a1:0<=i.Num
     .by_cases a2:i.Num<=6
      .by_cases a3:i.Kids.length=0
       .rw [Ap (by omega),Ap (by omega),Ap (by omega),if_pos ⟨a1,a2,a3⟩,Ac0 (by omega)]
        simp; omega
       .rw [Ap (by omega),Ap (by omega),Ak (by omega),if_neg (fun h=>a3 h.2.2)]; rfl
      .rw [Ap (by omega),Ak (by omega),if_neg (fun h=>a2 h.2.1)]; rfl
     .rw [Ak (by omega),if_neg (fun h=>a1 h.1)]; rfl
    .simp only [Cr Y,cond_false,if_neg Y]
     by_cases h5:t.Kind=5
     .simp only [Em h5,cond_true,if_pos h5]
      by_cases h0:i.Num=0
      .simp only [C5 h0,cond_false,if_pos h0,Ad]
       by_cases N:(i.Kids.length:Int)>6
       .rw [Ak N]
        refine congrArg some (R3 fun d hd=>?_).symm
        have:=Ajk data _ _ _ hd
        omega
       rw [Ap N]
       simp only [cond_false]
       have key:∀(m j acc:Nat),j+m=i.Kids.length->acc<=6->∃z,An (S:=(Int×Int)) (E:=(Int⊕Int)) (fun (G,D)=>
         bif (decide (D<(i.Kids.length:Int))) then (
         (Af i.Kids D).bind fun v12=>
         (show Option Bool from
         bif (decide (v12.Num<(0:Int))) then some true
         else some (decide (v12.Num>=(8:Int)))).bind fun a6=>
         bif a6 then some (.inr (.inl (-1)))
         else (
         (Rj data t v12.Num).bind fun L=>
         bif (!L.2) then some (.inr (.inl (-1)))
         else (
         (M5 k data L.1 v12.Kids).bind fun B=>
         bif (decide (B<(0:Int))) then some (.inr (.inl (-1)))
         else (
         bif (decide ((Ac ((Ac (G+1))+B))>(6:Int))) then some (.inr (.inl (-1)))
         else some (.inl ((Ac (G+(Ac (1+B)))),(Ac (D+1))))))))
         else some (.inr (.inr G))) ((acc:Int),(j:Int))=some z/\(match z with | .inl v=>v | .inr v=>v)=Ft ((Gp data (i.Kids.drop j) t).map (acc + ·)):=by
        intro m
        induction m with
        | zero=>
         intro j acc hj f
         have:j=i.Kids.length:=by omega
         subst this
         refine ⟨.inr (acc:Int),Fj (by simp),?_⟩
         simp [Gp,Ft,f]
        | succ m s=>
         intro j acc hj f
         have g:i.Kids[j]? = some i.Kids[j]:=Bx (by omega)
         generalize i.Kids[j]=e at g
         have ab:=Jk (Bs g)
         have ah:=E3 e
         rw [L2 g,Yj]
         have hb:(bif decide (e.Num<(0:Int)) then some true else some (decide (e.Num>=(8:Int))))=some (decide (e.Num<0\/8<=e.Num)):=by
          by_cases g1:e.Num<0 <;> by_cases g2:8<=e.Num <;> simp [g1,g2]
         cases hp:Hy data t e.Num with
         | none=>
          refine ⟨.inl (-1),Fj ?_,by simp [Ft]⟩
          simp only [Ak (by omega:(j:Int)<(i.Kids.length:Int)),cond_true,Cg rfl g,Ad,Yi V X t ht e.Num,hp,okL,Bool.not_false,hb]
          cases decide (e.Num<0\/8<=e.Num) <;> rfl
         | some ts=>
          obtain ⟨pz,x,a7,ae,ad⟩:=Ajj hp
          have af:=h8 x (Fe a7).2.2.2
          have q:=M e.Kids ts (by omega) (by omega) pz
          have hb':decide (e.Num<0\/8<=e.Num)=false:=Ap (by omega)
          rcases Ac2 (Eh data e.Kids ts) with ⟨A,U⟩ | ⟨a,A,U,c3⟩
          .rw [A] at q
           refine ⟨.inl (-1),Fj ?_,?_⟩
           .simp only [Ak (by omega:(j:Int)<(i.Kids.length:Int)),cond_true,Cg rfl g,Ad,Yi V X t ht e.Num,hp,okL,Dm,cond_false,hb,hb',q]; rfl
           .refine (R3 fun d h=>?_).symm
            rw [Ad] at h
            cases ha:Eh data e.Kids ts with
            | none=>rw [ha] at h; cases h
            | some a=>
             rw [ha,Ad] at h
             have:=U a ha
             cases y:Gp data (i.Kids.drop (j+1)) t with
             | none=>rw [y] at h; cases h
             | some b=>rw [y] at h; simp at h; omega
          .rw [c3] at q
           have R:Ac (Ac ((acc:Int)+1)+(a:Int))=((acc+(1+a):Nat):Int):=by
            rw [show Ac ((acc:Int)+1)=((acc+1:Nat):Int) by rw [Ac,Bv] <;> omega,Ac,Bv] <;> omega
           have ac:Ac ((acc:Int)+Ac (1+(a:Int)))=((acc+(1+a):Nat):Int):=by
            rw [show Ac (1+(a:Int))=((1+a:Nat):Int) by rw [Ac,Bv] <;> omega,Ac,Bv] <;> omega
           by_cases I:acc+(1+a)<=6
           .obtain ⟨z,l,z2⟩:=s (j+1) (acc+(1+a)) (by omega) I
            refine ⟨z,?_,?_⟩
            .rw [Kq (s':=(((acc+(1+a):Nat):Int),((j+1:Nat):Int)))]
             .exact l
             .simp only [Ak (by omega:(j:Int)<(i.Kids.length:Int)),cond_true,Cg rfl g,Ad,Yi V X t ht e.Num,hp,okL,Dm,cond_false,hb,hb',q,R,ac,Ap (by omega:¬(a:Int)<0),Ap (by omega:¬((acc+(1+a):Nat):Int)>6),C6 (show j<i.Kids.length by omega) (by omega)]
            .have J:∀o:Option Nat,(((some a:Option Nat).bind fun a=>o.map (1+a + ·)).map (acc + ·))=o.map (acc+(1+a) + ·):=by
              intro o; cases o <;> simp [Nat.add_assoc]
             rw [Ad,A,J]
             exact z2
           .refine ⟨.inl (-1),Fj ?_,?_⟩
            .simp only [Ak (by omega:(j:Int)<(i.Kids.length:Int)),cond_true,Cg rfl g,Ad,Yi V X t ht e.Num,hp,okL,Dm,cond_false,hb,hb',q,R,Ap (by omega:¬(a:Int)<0),Ak (by omega:((acc+(1+a):Nat):Int)>6)]
            .refine (R3 fun d h=>?_).symm
             rw [Ad,A,Ad] at h
             cases y:Gp data (i.Kids.drop (j+1)) t with
             | none=>rw [y] at h; cases h
             | some b=>rw [y] at h; simp at h; omega
       obtain ⟨z,l,z2⟩:=key i.Kids.length 0 0 (by omega) (by omega)
       have l:An _ ((0:Int),(0:Int))=some z:=l
       erw [l,Ad]
       rw [List.drop_zero,J] at z2
       rw [<-z2]
       cases z <;> rfl
      .simp only [C2 h0,cond_true,if_neg h0]; rfl
     .simp only [Cr h5,cond_false,if_neg h5]
      by_cases h0:i.Num=0
      .simp only [C5 h0,cond_false]
       by_cases a3:i.Kids.length=0
       .rw [if_pos ⟨h0,a3⟩,Ap (by omega)]; rfl
       .rw [if_neg (fun h=>a3 h.2),Ak (by omega)]; rfl
      .simp only [C2 h0,cond_true]
       rw [if_neg (fun h=>h0 h.1)]; rfl
  .intro c ts hk hi ht
   have aa:=Kf c
   rw [M5]
   by_cases hl:ts.length=c.length
   .rw [C5 (by omega)]
    simp only [cond_false]
    have key:∀(m j acc:Nat),j+m=c.length->acc<=6->∃z,An (S:=(Int×Int)) (E:=(Int⊕Int)) (fun (v4,v5)=>
      bif (decide (v5<(ts.length:Int))) then (
      (Af ts v5).bind fun v6=>
      (Af c v5).bind fun v7=>
      (M4 k data v6 v7).bind fun v8=>
      bif (decide (v8<(0:Int))) then some (.inr (.inl (-1)))
      else (
      bif (decide ((Ac (v4+v8))>(6:Int))) then some (.inr (.inl (-1)))
      else some (.inl ((Ac (v4+v8)),(Ac (v5+1))))))
      else some (.inr (.inr v4))) ((acc:Int),(j:Int))=some z/\(match z with | .inl v=>v | .inr v=>v)=Ft ((Eh data (c.drop j) (ts.drop j)).map (acc + ·)):=by
     intro m
     induction m with
     | zero=>
      intro j acc hj f
      have:j=ts.length:=by omega
      subst this
      refine ⟨.inr (acc:Int),Fj (by simp),?_⟩
      rw [List.drop_of_length_le (by omega),List.drop_of_length_le (by omega)]
      simp [Eh,Ft,f]
     | succ m s=>
      intro j acc hj f
      have g:c[j]? = some c[j]:=Bx (by omega)
      generalize c[j]=e at g
      have hu:ts[j]? = some ts[j]:=Bx (by omega)
      generalize ts[j]=u at hu
      have ab:=Jk (Bs g)
      rw [L2 g,L2 hu,Yk]
      have q:=a8 e u (by omega) (by omega) (ht u (Bs hu))
      rcases Ac2 (Gf data e u) with ⟨A,U⟩ | ⟨a,A,U,c3⟩
      .rw [A] at q
       refine ⟨.inl (-1),Fj ?_,?_⟩
       .simp only [Ak (by omega:(j:Int)<(ts.length:Int)),cond_true,Cg rfl g,Cg rfl hu,Ad,q]; rfl
       .refine (R3 fun d h=>?_).symm
        cases ha:Gf data e u with
        | none=>rw [ha] at h; cases h
        | some a=>
         rw [ha,Ad] at h
         have:=U a ha
         cases y:Eh data (c.drop (j+1)) (ts.drop (j+1)) with
         | none=>rw [y] at h; cases h
         | some b=>rw [y] at h; simp at h; omega
      .rw [c3] at q
       have R:Ac ((acc:Int)+(a:Int))=((acc+a:Nat):Int):=by rw [Ac,Bv] <;> omega
       by_cases I:acc+a<=6
       .obtain ⟨z,l,z2⟩:=s (j+1) (acc+a) (by omega) I
        refine ⟨z,?_,?_⟩
        .rw [Kq (s':=(((acc+a:Nat):Int),((j+1:Nat):Int)))]
         .exact l
         .simp only [Ak (by omega:(j:Int)<(ts.length:Int)),cond_true,Cg rfl g,Cg rfl hu,Ad,cond_false,q,R,Ap (by omega:¬(a:Int)<0),Ap (by omega:¬((acc+a:Nat):Int)>6),C6 (show j<c.length by omega) (by omega)]
        .have J:∀o:Option Nat,(((some a:Option Nat).bind fun a=>o.map (a + ·)).map (acc + ·))=o.map (acc+a + ·):=by
          intro o; cases o <;> simp [Nat.add_assoc]
         rw [A,J]
         exact z2
       .refine ⟨.inl (-1),Fj ?_,?_⟩
        .simp only [Ak (by omega:(j:Int)<(ts.length:Int)),cond_true,Cg rfl g,Cg rfl hu,Ad,cond_false,q,R,Ap (by omega:¬(a:Int)<0),Ak (by omega:((acc+a:Nat):Int)>6)]
        .refine (R3 fun d h=>?_).symm
         rw [A,Ad] at h
         cases y:Eh data (c.drop (j+1)) (ts.drop (j+1)) with
         | none=>rw [y] at h; cases h
         | some b=>rw [y] at h; simp at h; omega
    obtain ⟨z,l,z2⟩:=key c.length 0 0 (by omega) (by omega)
    have l:An _ ((0:Int),(0:Int))=some z:=l
    rw [l,Ad]
    rw [List.drop_zero,List.drop_zero,J] at z2
    rw [<-z2]
    cases z <;> rfl
   .rw [C2 (by omega),Acz data c ts hl]; rfl
theorem He.cons8 {data:List Ay} (h:He data):∀x∈data,x.Cons.length<=8:=by
 intro x hx
 obtain ⟨d,hd⟩:=List.getElem?_of_mem hx
 exact (h.2.1 d x hd).2.2.2.1
theorem Atg {data:List Ay} (b:He data) (c:Ke data) (t:Ah) (i:A8) (ht:Ba t<=200) (hi:Ct i<=1048576):Q9 data t i=some (Ft (Gf data i t)):=by
 unfold Q9
 rw [(Atf b.szv c b.cons8 4000000).1 i t (by omega) hi ht]; rfl
end Go.Ab
namespace Go.Ab
open Go
def I64 (n:Int):Prop:= -9223372036854775808<=n/\n<=9223372036854775807
def ti (n:Int):List Int:=(Lib.itoa n).map fun c=>(c.toNat:Int)
def L3 (c:Int):Bool:=c==45||(decide (48<=c)&&decide (c<=57))
theorem R4 {d:Nat} (h:d<10):(UInt8.ofNat (48+d)).toNat=48+d:=by
 rw [UInt8.toNat_ofNat']; omega
theorem Yl:∀(n u:Nat),u<=n->∀c∈Lib.decDigits u,48<=c.toNat/\c.toNat<=57:=by
 intro n
 induction n with
 | zero=>
  intro u hu c hc
  rw [Lib.decDigits,dif_pos (by omega)] at hc
  simp only [List.mem_singleton] at hc
  subst hc; rw [R4 (by omega)]; omega
 | succ n ih=>
  intro u hu c hc
  rw [Lib.decDigits] at hc
  split at hc
  .simp only [List.mem_singleton] at hc
   subst hc; rw [R4 (by omega)]; omega
  .rcases List.mem_append.1 hc with h | h
   .exact ih (u / 10) (by omega) c h
   .simp only [List.mem_singleton] at h
    subst h; rw [R4 (by omega)]; omega
def Ym (l:List UInt8):Nat:=l.foldl (fun a c=>10*a+(c.toNat-48)) 0
theorem Ajl:∀(n u:Nat),u<=n->Ym (Lib.decDigits u)=u:=by
 intro n
 induction n with
 | zero=>
  intro u hu
  rw [Lib.decDigits,dif_pos (by omega)]
  simp only [Ym,List.foldl_cons,List.foldl_nil]
  rw [R4 (by omega)]; omega
 | succ n ih=>
  intro u hu
  rw [Lib.decDigits]
  split
  .simp only [Ym,List.foldl_cons,List.foldl_nil]
   rw [R4 (by omega)]; omega
  .have:=ih (u / 10) (by omega)
   unfold Ym at *
   rw [List.foldl_append,this]
   simp only [List.foldl_cons,List.foldl_nil]
   rw [R4 (by omega)]; omega
theorem Ajm {u v:Nat} (h:Lib.decDigits u=Lib.decDigits v):u=v:=by
 rw [<-Ajl u u (Nat.le_refl _),h,Ajl v v (Nat.le_refl _)]
theorem Ath (u:Nat):Lib.decDigits u≠[]:=by
 rw [Lib.decDigits]; split <;> simp
theorem Ati {m n:Int} (h:Lib.itoa m=Lib.itoa n):m=n:=by
 have b:∀u v:Nat,45::Lib.decDigits u≠Lib.decDigits v:=by
  intro u v e
  have:=Yl v v (Nat.le_refl _) 45 (by rw [<-e]; simp)
  exact absurd this (by decide)
 unfold Lib.itoa at h
 split at h <;> split at h
 .have:=Ajm (List.cons.inj h).2; omega
 .exact absurd h (b _ _)
 .exact absurd h.symm (b _ _)
 .have:=Ajm h; omega
theorem F9 (n:Int):∀c∈ti n,L3 c=true:=by
 intro c hc
 unfold ti at hc
 obtain ⟨b,hb,rfl⟩:=List.mem_map.1 hc
 have key:b=45\/(48<=b.toNat/\b.toNat<=57):=by
  unfold Lib.itoa at hb
  split at hb
  .rcases List.mem_cons.1 hb with h | h
   .exact .inl h
   .exact .inr (Yl _ _ (Nat.le_refl _) b h)
  .exact .inr (Yl _ _ (Nat.le_refl _) b hb)
 unfold L3
 rcases key with rfl | ⟨h1,h2⟩
 .decide
 .rw [Bool.or_eq_true,De,decide_eq_true_eq,decide_eq_true_eq]; right; omega
theorem Ac3 (n:Int):ti n≠[]:=by
 unfold ti Lib.itoa
 split
 .simp
 .simpa using Ath _
theorem Pt {m n:Int} (h:ti m=ti n):m=n:=by
 unfold ti at h
 have:∀l m:List UInt8,l.map (fun c=>(c.toNat:Int))=m.map (fun c=>(c.toNat:Int))->l=m:=by
  intro l
  induction l with
  | nil=>intro m h; cases m with | nil=>rfl | cons=>simp at h
  | cons x xs ih=>
   intro m h
   cases m with
   | nil=>simp at h
   | cons y ys=>
    simp only [List.map_cons,List.cons.injEq] at h
    rw [ih ys h.2,UInt8.toNat.inj (by omega:x.toNat=y.toNat)]
 exact Ati (this _ _ h)
theorem Kg {n:Int} (h:I64 n):(ti n).length<=21:=by
 unfold ti; rw [List.length_map]; exact Lib.itoa_length_le n h.1 h.2
def Nm (X:List Int):Prop:=∀c m,X=c::m->L3 c=false/\c≠40
def Ix (X:List Int):Prop:=∀c m,X=c::m->L3 c=false
theorem L5:∀(a b X Y:List Int),(∀c∈a,L3 c=true)->(∀c∈b,L3 c=true)->Ix X->Ix Y->a++X=b++Y->a=b/\X=Y
 | [],[],_,_,_,_,_,_,h=>⟨rfl,h⟩
 | [],y::b,X,Y,_,hb,g,_,h=>by
  have:=g y (b++Y) h
  rw [hb y (by simp)] at this; cases this
 | x::a,[],X,Y,ha,_,_,f,h=>by
  have:=f x (a++X) h.symm
  rw [ha x (by simp)] at this; cases this
 | x::a,y::b,X,Y,ha,hb,g,f,h=>by
  simp only [List.cons_append,List.cons.injEq] at h
  obtain ⟨j,i⟩:=L5 a b X Y (fun c hc=>ha c (by simp [hc])) (fun c hc=>hb c (by simp [hc])) g f h.2
  exact ⟨by rw [h.1,j],i⟩
mutual
def wx:A8->List Int
 | ⟨n,kids⟩=>ti n++(if kids.length=0 then [] else 40::(wxs kids++[41]))
def wxs:List A8->List Int
 | []=>[]
 | x::xs=>wx x++44::wxs xs
end
theorem Ac4 (i:A8):wx i=ti i.Num++(if i.Kids.length=0 then [] else 40::(wxs i.Kids++[41])):=by cases i; simp only [wx]
theorem Ajn (l m:List A8):wxs (l++m)=wxs l++wxs m:=by
 induction l with
 | nil=>simp [wxs]
 | cons x xs ih=>simp only [List.cons_append,wxs,ih,List.append_assoc]
theorem Ajo (b:List A8) (X:List Int) (f:Nm X):Ix ((if b.length=0 then [] else 40::(wxs b++[41]))++X):=by
 intro c m h
 by_cases hk:b.length=0
 .rw [if_pos hk,List.nil_append] at h
  exact (f c m h).1
 .rw [if_neg hk,List.cons_append] at h
  cases h; decide
theorem Ajp (X:List Int):Nm (44::X):=by intro c m h; cases h; exact ⟨by decide,by decide⟩
theorem Ajq:Nm []:=by intro c m h; cases h
mutual
theorem Ac5:∀(i j:A8) (X Y:List Int),Nm X->Nm Y->wx i++X=wx j++Y->i=j/\X=Y
 | ⟨n,k⟩,⟨n',k'⟩,X,Y,hX,hY,h=>by
  simp only [wx,List.append_assoc] at h
  obtain ⟨e1,e2⟩:=L5 _ _ _ _ (F9 n) (F9 n') (Ajo k X hX) (Ajo k' Y hY) h
  have e1:=Pt e1
  subst e1
  by_cases hk:k.length=0
  .by_cases hk':k'.length=0
   .rw [if_pos hk,if_pos hk'] at e2
    rw [List.length_eq_zero_iff.1 hk,List.length_eq_zero_iff.1 hk']
    exact ⟨rfl,e2⟩
   .rw [if_pos hk,if_neg hk',List.nil_append,List.cons_append] at e2
    exact absurd rfl (hX _ _ e2).2
  .by_cases hk':k'.length=0
   .rw [if_neg hk,if_pos hk',List.nil_append,List.cons_append] at e2
    exact absurd rfl (hY _ _ e2.symm).2
   .rw [if_neg hk,if_neg hk',List.cons_append,List.cons_append,List.append_assoc,List.append_assoc] at e2
    obtain ⟨e3,e4⟩:=Ajr k k' X Y hX hY (List.cons.inj e2).2
    rw [e3]; exact ⟨rfl,e4⟩
theorem Ajr:∀(l m:List A8) (X Y:List Int),Nm X->Nm Y->wxs l++([41]++X)=wxs m++([41]++Y)->l=m/\X=Y
 | [],[],X,Y,_,_,h=>by
  simp only [wxs,List.nil_append,List.cons_append,List.cons.injEq,true_and] at h
  exact ⟨rfl,h⟩
 | [],y::ys,X,Y,_,_,h=>by
  exfalso
  cases ht:ti y.Num with
  | nil=>exact Ac3 _ ht
  | cons c r=>
   have hc:=F9 y.Num c (by rw [ht]; simp)
   simp only [wxs,Ac4 y,ht,List.nil_append,List.cons_append,List.cons.injEq] at h
   rw [<-h.1] at hc; exact absurd hc (by decide)
 | x::xs,[],X,Y,_,_,h=>by
  exfalso
  cases ht:ti x.Num with
  | nil=>exact Ac3 _ ht
  | cons c r=>
   have hc:=F9 x.Num c (by rw [ht]; simp)
   simp only [wxs,Ac4 x,ht,List.nil_append,List.cons_append,List.cons.injEq] at h
   rw [h.1] at hc; exact absurd hc (by decide)
 | x::xs,y::ys,X,Y,hX,hY,h=>by
  simp only [wxs,List.append_assoc,List.cons_append] at h
  obtain ⟨e1,e2⟩:=Ac5 x y _ _ (Ajp _) (Ajp _) h
  obtain ⟨e3,e4⟩:=Ajr xs ys X Y hX hY (by simpa using e2)
  exact ⟨by rw [e1,e3],e4⟩
end
mutual
def iR:A8->Prop
 | ⟨n,l⟩=>I64 n/\iRs l
def iRs:List A8->Prop
 | []=>True
 | x::xs=>iR x/\iRs xs
end
theorem Atj (i:A8):iR i↔I64 i.Num/\iRs i.Kids:=by cases i; simp only [iR]
theorem Atk {l:List A8} (h:iRs l) {a:A8} (ha:a∈l):iR a:=by
 induction l with
 | nil=>cases ha
 | cons x xs ih=>
  simp only [iRs] at h
  rcases List.mem_cons.1 ha with rfl | ha
  .exact h.1
  .exact ih h.2 ha
mutual
theorem Ac6:∀i:A8,iR i->(wx i).length+1<=24*Ct i
 | ⟨n,l⟩,h=>by
  simp only [iR] at h
  have h1:=Yn l h.2
  have h2:=Kg h.1
  simp only [wx,Ct,List.length_append]
  by_cases hl:l.length=0
  .rw [if_pos hl]; simp; omega
  .rw [if_neg hl]; simp; omega
theorem Yn:∀l:List A8,iRs l->(wxs l).length<=24*Eo l
 | [],_=>by simp [wxs,Eo]
 | x::xs,h=>by
  simp only [iRs] at h
  have h1:=Ac6 x h.1
  have h2:=Yn xs h.2
  have h3:=E3 x
  simp only [wxs,Eo,List.length_append,List.length_cons]; omega
end
theorem Ajs (l m:List A8):Eo (l++m)=Eo l+Eo m:=by
 induction l with
 | nil=>simp [Eo]
 | cons x xs ih=>simp only [List.cons_append,Eo,ih]; omega
theorem Atl (l m:List A8):iRs (l++m)↔iRs l/\iRs m:=by
 induction l with
 | nil=>simp [iRs]
 | cons x xs ih=>simp only [List.cons_append,iRs,ih,and_assoc]
theorem Ac7 {n:Int} (h:I64 n):Lj n=some ⟨(Lib.itoa n).toArray⟩:=by unfold Lj; rw [if_pos (show _/\_ from h)]
theorem Atm (n:Int):J3 ⟨(Lib.itoa n).toArray⟩=ti n:=by unfold J3 ti; simp
theorem Atn:∀(k:Nat) (i:A8) (b:List Int),Ct i<=k->iR i->b.length+24*Ct i<=1099511627776->Ov k i b=some (b++wx i):=by
 intro k
 induction k with
 | zero=>intro i b h; have:=E3 i; omega
 | succ k ih=>
  intro i b h c hb
  have hi:=E3 i
  have A:=Kf i.Kids
  have c:=(Atj i).1 c
  have D:=Kg c.1
  rw [Ov,Ac4]
  simp only [Gk,Ac7 c.1,Ad,Fc,Rr,Atm]
  rw [C1 (by omega)]
  simp only [Ad]
  by_cases h0:i.Kids.length=0
  .rw [Ap (by omega),if_pos h0]; simp
  .rw [Ak (by omega),if_neg h0]
   simp only [cond_true,Re,Rr,Ad]
   rw [C1 (by simp; omega),Ad]
   have g:=Yn i.Kids c.2
   have l:∀j,(wxs (i.Kids.take j)).length<=24*Eo i.Kids:=fun j=>by
    have:=Ajn (i.Kids.take j) (i.Kids.drop j)
    rw [List.take_append_drop] at this
    rw [this,List.length_append] at g; omega
   refine E6 i.Kids (fun j=>((j:Int),b++ti i.Num++[40]++wxs (i.Kids.take j))) (by simp [wxs]) (by omega) ?_ ?_
   .intro j x hj hx h1 h2 h3
    have B:=Jk (Bs hx)
    have f:=Atk c.2 (Bs hx)
    have z:=Ac6 x f
    have q:=l (j+1)
    have e:wxs (i.Kids.take (j+1))=wxs (i.Kids.take j)++(wx x++[44]):=by rw [Cz hx,Ajn]; simp [wxs]
    rw [e] at q
    simp only [List.length_append,List.length_cons,List.length_nil] at q
    simp only [h1,h2,h3,cond_true,Ad]
    have y:Eo (i.Kids.take j)+Ct x<=Eo i.Kids:=by
     have s:=Ajs (i.Kids.take (j+1)) (i.Kids.drop (j+1))
     rw [List.take_append_drop,Cz hx,Ajs] at s
     simp only [Eo] at s; omega
    have u:(wxs (i.Kids.take j)).length<=24*Eo (i.Kids.take j):=Yn _ (by
     have:=(Atl (i.Kids.take j) (i.Kids.drop j)).1 (by rw [List.take_append_drop]; exact c.2)
     exact this.1)
    rw [ih x _ (by omega) f (by simp; omega)]
    simp only [Ad]
    rw [C1 (by simp; omega),e]
    simp
   .intro h1
    refine ⟨b++ti i.Num++[40]++wxs i.Kids,by simp,?_⟩
    rw [C1 (by simp; omega)]
    simp
def Hf (v:Int) (i:A8):List Int:=118::(ti v++58::wx i)
def La (v:Int) (i:A8):ByteArray:=⟨(Es (Hf v i)).toArray⟩
mutual
theorem Ajt:∀i:A8,∀c∈wx i,0<=c/\c<256
 | ⟨n,l⟩,c,h=>by
  simp only [wx,List.mem_append] at h
  rcases h with h | h
  .have:=F9 n c h
   simp only [L3,Bool.or_eq_true,De,beq_iff_eq,decide_eq_true_eq] at this
   omega
  .by_cases hl:l.length=0
   .rw [if_pos hl] at h; cases h
   .rw [if_neg hl] at h
    simp only [List.mem_cons,List.mem_append,List.not_mem_nil,or_false] at h
    rcases h with h | h | h
    .omega
    .exact Aju l c h
    .omega
theorem Aju:∀l:List A8,∀c∈wxs l,0<=c/\c<256
 | [],c,h=>by simp [wxs] at h
 | x::xs,c,h=>by
  simp only [wxs,List.mem_append,List.mem_cons] at h
  rcases h with h | h | h
  .exact Ajt x c h
  .omega
  .exact Aju xs c h
end
theorem Yo (v:Int) (i:A8):∀c∈Hf v i,0<=c/\c<256:=by
 intro c h
 simp only [Hf,List.mem_cons,List.mem_append] at h
 rcases h with h | h | h | h
 .omega
 .have:=F9 v c h
  simp only [L3,Bool.or_eq_true,De,beq_iff_eq,decide_eq_true_eq] at this
  omega
 .omega
 .exact Ajt i c h
theorem Ac8:∀l m:List Int,(∀c∈l,0<=c/\c<256)->(∀c∈m,0<=c/\c<256)->Es l=Es m->l=m
 | [],[],_,_,_=>rfl
 | [],_::_,_,_,h=>by simp [Es] at h
 | _::_,[],_,_,h=>by simp [Es] at h
 | x::xs,y::ys,h1,h2,h=>by
  simp only [Es,List.map_cons,List.cons.injEq] at h
  have hx:=h1 x (by simp)
  have hy:=h2 y (by simp)
  have e:x.toNat=y.toNat:=by
   have:=congrArg UInt8.toNat h.1
   rw [UInt8.toNat_ofNat',UInt8.toNat_ofNat'] at this
   omega
  rw [Ac8 xs ys (fun c hc=>h1 c (by simp [hc])) (fun c hc=>h2 c (by simp [hc])) h.2,show x=y by omega]
theorem Ato {v w:Int} {i j:A8} (h:La v i=La w j):v=w/\i=j:=by
 unfold La at h
 have h1:(Es (Hf v i)).toArray=(Es (Hf w j)).toArray:=by injection h
 have h2:Es (Hf v i)=Es (Hf w j):=by simpa using congrArg Array.toList h1
 have h3:=Ac8 _ _ (Yo v i) (Yo w j) h2
 simp only [Hf,List.cons.injEq,true_and] at h3
 have b:∀X:List Int,Ix (58::X):=fun X c m e=>by cases e; decide
 obtain ⟨k,g⟩:=L5 _ _ _ _ (F9 v) (F9 w) (b _) (b _) h3
 obtain ⟨f,_⟩:=Ac5 i j [] [] Ajq Ajq (by simpa using (List.cons.inj g).2)
 exact ⟨Pt k,f⟩
theorem Atp (l:List UInt8):J3 ⟨l.toArray⟩=l.map fun b=>(b.toNat:Int):=by unfold J3; simp
theorem Ajv (v:Int) (i:A8) (c:I64 v) (g:iR i) (hi:Ct i<=1048576):My v i=some (La v i):=by
 have l:=Kg c
 have f:(Lib.itoa v).length=(ti v).length:=by unfold ti; simp
 unfold My
 have k:D8 (ByteArray.mk #[118]) ⟨(Lib.itoa v).toArray⟩=some ⟨(118::Lib.itoa v).toArray⟩:=by
  unfold D8
  rw [if_pos]
  .congr 1
  .show 1+(Lib.itoa v).toArray.size<=9223372036854775807
   rw [List.size_toArray]; omega
 have j:D8 ⟨(118::Lib.itoa v).toArray⟩ (ByteArray.mk #[58])=some ⟨(118::(Lib.itoa v++[58])).toArray⟩:=by
  unfold D8
  rw [if_pos]
  .congr 1
  .show (118::Lib.itoa v).toArray.size+1<=9223372036854775807
   rw [List.size_toArray,List.length_cons]; omega
 simp only [Gk,Ac7 c,Ad,k,j,Hs,T5,Atp]
 rw [C1 (by simp; omega)]
 simp only [Ad]
 rw [Atn 4000000 i _ (by omega) g (by simp; omega)]
 simp only [Ad,Jc]
 have h:([]++(118::(Lib.itoa v++[58])).map fun b=>(b.toNat:Int))++wx i=Hf v i:=by
  unfold Hf ti; simp
 rw [h]
 unfold Su La
 rw [if_pos (Yo v i)]; rfl
end Go.Ab
namespace Go.Ab
open Go
mutual
theorem Ajw (data:List Ay):∀(i:A8) (t:Ah) (d:Nat),Gf data i t=some d->d<=6*Ct i
 | ⟨n,kids⟩,t,d,h=>by
  rw [Acy] at h
  simp only [Ct]
  simp only at h
  split at h
  .split at h
   .have:=U6 data kids _ d h; omega
   .cases h
  .split at h
   .split at h
    .cases h; omega
    .cases h
   .split at h
    .split at h
     .have:=Ajx data kids _ d h; omega
     .cases h
    .split at h
     .cases h; omega
     .cases h
theorem U6 (data:List Ay):∀(is:List A8) (ts:List Ah) (d:Nat),Eh data is ts=some d->d<=6*Eo is
 | [],[],d,h=>by simp only [Eh] at h; cases h; omega
 | i::is,t::ts,d,h=>by
  rw [Yk] at h
  cases h1:Gf data i t with
  | none=>rw [h1] at h; cases h
  | some a=>
   rw [h1,Ad] at h
   cases h2:Eh data is ts with
   | none=>rw [h2] at h; cases h
   | some b=>
    rw [h2] at h
    cases h
    have:=Ajw data i t a h1
    have:=U6 data is ts b h2
    simp only [Eo]; omega
 | [],_::_,d,h=>by simp only [Eh] at h; cases h
 | _::_,[],d,h=>by simp only [Eh] at h; cases h
theorem Ajx (data:List Ay):∀(es:List A8) (t:Ah) (d:Nat),Gp data es t=some d->d<=6*Eo es
 | [],t,d,h=>by simp only [Gp] at h; cases h; omega
 | ⟨n,kids⟩::es,t,d,h=>by
  rw [Yj] at h
  simp only at h
  cases h1:Hy data t n with
  | none=>rw [h1] at h; cases h
  | some ts=>
   rw [h1,Ad] at h
   cases h2:Eh data kids ts with
   | none=>rw [h2] at h; cases h
   | some a=>
    rw [h2,Ad] at h
    cases h3:Gp data es t with
    | none=>rw [h3] at h; cases h
    | some b=>
     rw [h3] at h
     cases h
     have:=U6 data kids ts a h2
     have:=Ajx data es t b h3
     simp only [Eo,Ct]; omega
end
def R5 (data:List Ay) (e:A8) (t:Ah):Option Nat:=(Hy data t e.Num).bind fun ts=>(Eh data e.Kids ts).map (1 + ·)
theorem Atq (data:List Ay) (e:A8) (es:List A8) (t:Ah):Gp data (e::es) t=(R5 data e t).bind fun a=>(Gp data es t).map (a + ·):=by
 rw [Yj]; unfold R5
 cases Hy data t e.Num with
 | none=>rfl
 | some ts=>simp only [Ad]; cases Eh data e.Kids ts <;> rfl
theorem Atr (data:List Ay) (e:A8) (t:Ah) (d:Nat) (h:R5 data e t=some d):d<=6*Ct e:=by
 unfold R5 at h
 cases h1:Hy data t e.Num with
 | none=>rw [h1] at h; cases h
 | some ts=>
  rw [h1,Ad] at h
  cases h2:Eh data e.Kids ts with
  | none=>rw [h2] at h; cases h
  | some a=>
   rw [h2] at h
   cases h
   have:=U6 data _ ts a h2
   have:=E3 e
   show 1+a<=_
   omega
def Dg (v:Int) (o:Option Nat):Prop:=(v = -1/\∀d,o=some d->6<d)\/∃d:Nat,o=some d/\v=d
theorem Dg.clip {v:Int} {o:Option Nat} (h:Dg v o):(if v>6 then -1 else v)=Ft o:=by
 rcases h with ⟨rfl,h⟩ | ⟨d,rfl,rfl⟩
 .rw [if_neg (by omega),R3 h]
 .by_cases hd:6<d
  .rw [if_pos (by omega),Ac1 hd]
  .rw [if_neg (by omega),Ac0 (by omega)]
theorem Yp {o p:Option Nat} {acc:Nat} {d:Nat} (h:(o.bind fun a=>p.map (a + ·)).map (acc + ·)=some d):∃a b,o=some a/\p=some b/\d=acc+(a+b):=by
 cases o with
 | none=>cases h
 | some a=>
  cases p with
  | none=>cases h
  | some b=>exact ⟨a,b,rfl,rfl,by simp at h; omega⟩
theorem Ats {data:List Ay} (hz:Szv data) (hs:Ke data) (b1:List (ByteArray×Int)) (b2:List (ByteArray×List Dq)) (vars:List Ah) (N M:Int) (L:List Ah):∀k:Nat,
  (∀(i:A8) (t:Ah),3*Ct i<=k->Ct i<=1048576->Ba t<=200->∃v,M3 k t i b1 b2 data vars N M L=some v/\Dg v (Gf data i t)) /\
  (∀(f:List A8) (ts:List Ah),3*Eo f+1<=k->Eo f<=1048576->(∀t∈ts,Ba t<=200)->∃v,O9 k ts f b1 b2 data vars N M L=some v/\Dg v (Eh data f ts)) /\
  (∀(e:A8) (t:Ah),3*Ct e<=k->Ct e<=1048576->Ba t<=200->∃v,Pa k t e b1 b2 data vars N M L=some v/\Dg v (R5 data e t)):=by
 intro k
 induction k with
 | zero=>exact ⟨fun i t h=>by have:=E3 i; omega,fun f ts h=>by omega,fun i t h=>by have:=E3 i; omega⟩
 | succ k ih=>
  obtain ⟨a6,R,a7⟩:=ih
  have D:∀o:Option Nat,o.map (0 + ·)=o:=by intro o; cases o <;> simp
  have c:∀d:Nat,(none:Option Nat)=some d->6<d:=fun d h=>by cases h
  refine ⟨?_,?_,?_⟩
  .intro i t hk hi ht
   have af:=E3 i
   have U:=Kf i.Kids
   rw [M3,Acy]
   by_cases Z:t.Kind=6
   .simp only [Em Z,cond_true,if_pos Z]
    by_cases h0:i.Num=0
    .simp only [Em h0,cond_true,if_pos h0]
     obtain ⟨p,p1,p2⟩:=R i.Kids t.Args (by omega) (by omega) (fun a ha=>by have:=Ge ha; have:=F8 t; omega)
     rw [p1]
     exact ⟨p,rfl,p2⟩
    .simp only [Cr h0,cond_false,if_neg h0]
     exact ⟨_,rfl,.inl ⟨rfl,c⟩⟩
   .simp only [Cr Z,cond_false,if_neg Z]
    by_cases Y:t.Kind=7
    .simp only [Em Y,cond_true,if_pos Y]
     by_cases a1:0<=i.Num
     .by_cases a2:i.Num<=6
      .by_cases a3:i.Kids.length=0
       .rw [Ak (show i.Num>=0 from a1),Ak a2,if_pos ⟨a1,a2,a3⟩,Em (by omega)]
        exact ⟨_,rfl,.inr ⟨i.Num.toNat,rfl,by omega⟩⟩
       .rw [Ak (show i.Num>=0 from a1),Ak a2,if_neg (fun h=>a3 h.2.2),Cr (by omega)]
        exact ⟨_,rfl,.inl ⟨rfl,c⟩⟩
      .rw [Ak (show i.Num>=0 from a1),Ap a2,if_neg (fun h=>a2 h.2.1)]
       exact ⟨_,rfl,.inl ⟨rfl,c⟩⟩
     .rw [Ap (show ¬i.Num>=0 from a1),if_neg (fun h=>a1 h.1)]
      exact ⟨_,rfl,.inl ⟨rfl,c⟩⟩
    .simp only [Cr Y,cond_false,if_neg Y]
     by_cases h5:t.Kind=5
     .simp only [Em h5,cond_true,if_pos h5]
      by_cases h0:i.Num=0
      .simp only [C5 h0,cond_false,if_pos h0]
       have key:∀(m j acc:Nat),j+m=i.Kids.length->acc<=10000000->∃z,An (S:=(Int×Int)) (E:=(Int⊕Int)) (fun (G,v8)=>
         bif (decide (v8<(i.Kids.length:Int))) then (
         (Af i.Kids v8).bind fun v9=>
         (Pa k t v9 b1 b2 data vars N M L).bind fun I=>
         bif (decide (I<(0:Int))) then some (.inr (.inl (-1)))
         else (
         bif (decide (G>(6:Int))) then some (.inr (.inl (-1)))
         else some (.inl ((Ac (G+I)),(Ac (v8+1))))))
         else some (.inr (.inr G))) ((acc:Int),(j:Int))=some z/\Dg (match z with | .inl v=>v | .inr v=>v) ((Gp data (i.Kids.drop j) t).map (acc + ·)):=by
        intro m
        induction m with
        | zero=>
         intro j acc hj A
         have:j=i.Kids.length:=by omega
         subst this
         exact ⟨.inr (acc:Int),Fj (by simp),.inr ⟨acc,by simp [Gp],rfl⟩⟩
        | succ m s=>
         intro j acc hj A
         have g:i.Kids[j]? = some i.Kids[j]:=Bx (by omega)
         generalize i.Kids[j]=e at g
         have ac:=Jk (Bs g)
         rw [L2 g,Atq]
         obtain ⟨v,B,v2⟩:=a7 e t (by omega) (by omega) ht
         rcases v2 with ⟨rfl,v2⟩ | ⟨a,a1,rfl⟩
         .refine ⟨.inl (-1),Fj ?_,.inl ⟨rfl,fun d h=>?_⟩⟩
          .simp only [Ak (by omega:(j:Int)<(i.Kids.length:Int)),cond_true,Cg rfl g,Ad,B]; rfl
          .obtain ⟨a,b,ha,hb,rfl⟩:=Yp h
           have:=v2 a ha; omega
         .have V:=Atr data e t a a1
          by_cases hb:acc>6
          .refine ⟨.inl (-1),Fj ?_,.inl ⟨rfl,fun d h=>?_⟩⟩
           .simp only [Ak (by omega:(j:Int)<(i.Kids.length:Int)),cond_true,Cg rfl g,Ad,B,Ap (by omega:¬(a:Int)<0),Ak (by omega:(acc:Int)>6),cond_false]
           .obtain ⟨a,b,ha,hb,rfl⟩:=Yp h
            omega
          .have ew:Ac ((acc:Int)+(a:Int))=((acc+a:Nat):Int):=by rw [Ac,Bv] <;> omega
           obtain ⟨z,q,z2⟩:=s (j+1) (acc+a) (by omega) (by omega)
           refine ⟨z,?_,?_⟩
           .rw [Kq (s':=(((acc+a:Nat):Int),((j+1:Nat):Int)))]
            .exact q
            .simp only [Ak (by omega:(j:Int)<(i.Kids.length:Int)),cond_true,Cg rfl g,Ad,B,Ap (by omega:¬(a:Int)<0),Ap (by omega:¬(acc:Int)>6),cond_false,ew,C6 (show j<i.Kids.length by omega) (by omega)]
           .have D:∀o:Option Nat,(((some a:Option Nat).bind fun a=>o.map (a + ·)).map (acc + ·))=o.map (acc+a + ·):=by
             intro o; cases o <;> simp [Nat.add_assoc]
            rw [a1,D]
            exact z2
       obtain ⟨z,q,z2⟩:=key i.Kids.length 0 0 (by omega) (by omega)
       have q:An _ ((0:Int),(0:Int))=some z:=q
       rw [q,Ad]
       rw [List.drop_zero,D] at z2
       cases z with
       | inl v=>exact ⟨v,rfl,z2⟩
       | inr v=>exact ⟨v,rfl,z2⟩
      .simp only [C2 h0,cond_true,if_neg h0]
       exact ⟨_,rfl,.inl ⟨rfl,c⟩⟩
     .simp only [Cr h5,cond_false,if_neg h5]
      by_cases h0:i.Num=0
      .simp only [Em h0,cond_true]
       by_cases a3:i.Kids.length=0
       .rw [if_pos ⟨h0,a3⟩,Em (by omega)]
        exact ⟨_,rfl,.inr ⟨0,rfl,rfl⟩⟩
       .rw [if_neg (fun h=>a3 h.2),Cr (by omega)]
        exact ⟨_,rfl,.inl ⟨rfl,c⟩⟩
      .simp only [Cr h0,cond_false]
       rw [if_neg (fun h=>h0 h.1)]
       exact ⟨_,rfl,.inl ⟨rfl,c⟩⟩
  .intro f ts hk hi ht
   have U:=Kf f
   rw [O9]
   by_cases hl:ts.length=f.length
   .rw [C5 (by omega)]
    simp only [cond_false]
    have key:∀(m j acc:Nat),j+m=f.length->acc<=10000000->∃z,An (S:=(Int×Int)) (E:=(Int⊕Int)) (fun (v5,X)=>
      bif (decide (X<(ts.length:Int))) then (
      (Af ts X).bind fun G=>
      (Af f X).bind fun v9=>
      (M3 k G v9 b1 b2 data vars N M L).bind fun J=>
      bif (decide (J<(0:Int))) then some (.inr (.inl (-1)))
      else (
      bif (decide (v5>(6:Int))) then some (.inr (.inl (-1)))
      else some (.inl ((Ac (v5+J)),(Ac (X+1))))))
      else some (.inr (.inr v5))) ((acc:Int),(j:Int))=some z/\Dg (match z with | .inl v=>v | .inr v=>v) ((Eh data (f.drop j) (ts.drop j)).map (acc + ·)):=by
     intro m
     induction m with
     | zero=>
      intro j acc hj A
      have:j=ts.length:=by omega
      subst this
      refine ⟨.inr (acc:Int),Fj (by simp),.inr ⟨acc,?_,rfl⟩⟩
      rw [List.drop_of_length_le (by omega),List.drop_of_length_le (by omega)]
      simp [Eh]
     | succ m s=>
      intro j acc hj A
      have g:f[j]? = some f[j]:=Bx (by omega)
      generalize f[j]=e at g
      have hu:ts[j]? = some ts[j]:=Bx (by omega)
      generalize ts[j]=u at hu
      have ac:=Jk (Bs g)
      rw [L2 g,L2 hu,Yk]
      obtain ⟨v,B,v2⟩:=a6 e u (by omega) (by omega) (ht u (Bs hu))
      rcases v2 with ⟨rfl,v2⟩ | ⟨a,a1,rfl⟩
      .refine ⟨.inl (-1),Fj ?_,.inl ⟨rfl,fun d h=>?_⟩⟩
       .simp only [Ak (by omega:(j:Int)<(ts.length:Int)),cond_true,Cg rfl g,Cg rfl hu,Ad,B]; rfl
       .obtain ⟨a,b,ha,hb,rfl⟩:=Yp h
        have:=v2 a ha; omega
      .have V:=Ajw data e u a a1
       by_cases hb:acc>6
       .refine ⟨.inl (-1),Fj ?_,.inl ⟨rfl,fun d h=>?_⟩⟩
        .simp only [Ak (by omega:(j:Int)<(ts.length:Int)),cond_true,Cg rfl g,Cg rfl hu,Ad,B,Ap (by omega:¬(a:Int)<0),Ak (by omega:(acc:Int)>6),cond_false]
        .obtain ⟨a,b,ha,hb,rfl⟩:=Yp h
         omega
       .have ew:Ac ((acc:Int)+(a:Int))=((acc+a:Nat):Int):=by rw [Ac,Bv] <;> omega
        obtain ⟨z,q,z2⟩:=s (j+1) (acc+a) (by omega) (by omega)
        refine ⟨z,?_,?_⟩
        .rw [Kq (s':=(((acc+a:Nat):Int),((j+1:Nat):Int)))]
         .exact q
         .simp only [Ak (by omega:(j:Int)<(ts.length:Int)),cond_true,Cg rfl g,Cg rfl hu,Ad,B,Ap (by omega:¬(a:Int)<0),Ap (by omega:¬(acc:Int)>6),cond_false,ew,C6 (show j<f.length by omega) (by omega)]
        .have D:∀o:Option Nat,(((some a:Option Nat).bind fun a=>o.map (a + ·)).map (acc + ·))=o.map (acc+a + ·):=by
          intro o; cases o <;> simp [Nat.add_assoc]
         rw [a1,D]
         exact z2
    obtain ⟨z,q,z2⟩:=key f.length 0 0 (by omega) (by omega)
    have q:An _ ((0:Int),(0:Int))=some z:=q
    rw [q,Ad]
    rw [List.drop_zero,List.drop_zero,D] at z2
    cases z with
    | inl v=>exact ⟨v,rfl,z2⟩
    | inr v=>exact ⟨v,rfl,z2⟩
   .rw [C2 (by omega),Acz data f ts hl]
    exact ⟨_,rfl,.inl ⟨rfl,c⟩⟩
  .intro e t hk g ht
   have ag:=E3 e
   rw [Pa]
   unfold R5 Hy
   rw [Atb hz t ht e.Num,Ad]
   cases hf:Ji data t e.Num with
   | none=>exact ⟨-1,rfl,.inl ⟨rfl,c⟩⟩
   | some l=>
    have ad:=Acw hf
    obtain ⟨x,y,_,hx,_,hy,hl,ab⟩:=U5 hf
    obtain ⟨y6,_⟩:=hz x (Fe hx).2.2.2 y (Fe hy).2.2.2
    have ae:l.length<=6:=by rw [hl]; simpa using y6
    have aa:∀a∈Fz l (Fy data t.Num e.Num),Ba a<=200:=(Ajj (show Hy data t e.Num=some _ by unfold Hy; rw [hf]; rfl)).1
    obtain ⟨v,B,v2⟩:=R e.Kids (Fz l (Fy data t.Num e.Num)) (by omega) (by omega) aa
    have hd:Dg (if v<0 then -1 else 1+v) (((some l).map fun l=>Fz l (Fy data t.Num e.Num)).bind fun ts=>(Eh data e.Kids ts).map (1 + ·)):=by
     rw [Option.map_some,Ad]
     rcases v2 with ⟨rfl,v2⟩ | ⟨a,a1,rfl⟩
     .refine .inl ⟨rfl,fun d h=>?_⟩
      cases ha:Eh data e.Kids (Fz l (Fy data t.Num e.Num)) with
      | none=>rw [ha] at h; cases h
      | some a=>rw [ha] at h; have:=v2 a ha; simp at h; omega
     .rw [a1,if_neg (by omega)]
      exact .inr ⟨1+a,rfl,by omega⟩
    have a8:v = -1\/(0<=v/\v<=10000000):=by
     rcases v2 with ⟨rfl,v2⟩ | ⟨a,a1,rfl⟩
     .exact .inl rfl
     .have:=U6 data _ _ a a1; right; omega
    refine ⟨_,?_,hd⟩
    simp only [okL,Dm,cond_false,Ai2 data t.Num e.Num hs,Ad]
    refine E6 (Fy data t.Num e.Num) (fun j=>((j:Int),Fz (l.take j) ((Fy data t.Num e.Num).take j))) (by simp [Fz]) (by omega) ?_ ?_
    .intro j b hj hb h1 h2 h3
     have ha:l[j]? = some l[j]:=Bx (by omega)
     generalize l[j]=a at ha
     have U:=Aji (l.take j) ((Fy data t.Num e.Num).take j)
     have:(l.take j).length<=6:=by simp; omega
     simp only [h1,h2,h3,cond_true,Ad,Cg rfl ha,Ajh ha hb]
     rw [C1 (by simp; omega)]
     cases b <;> simp
    .intro h1
     refine ⟨Fz l (Fy data t.Num e.Num),?_,?_⟩
     .simp only [h1]
      rw [List.take_of_length_le (by omega),List.take_of_length_le (Nat.le_refl _)]; rfl
     .rw [B,Ad]
      rcases a8 with h | h
      .subst h; rfl
      .rw [Ap (by omega),if_neg (by omega)]
       simp only [cond_false]
       rw [Ac,Bv] <;> omega
def tyX (vars:List Ah) (res:Ah) (v:Int):Option Ah:=if v = -1 then some res else Af vars v
def E7 (data:List Ay) (vars:List Ah) (res:Ah) (o:List (ByteArray×Int)):Prop:=∀p∈o,∀v i t,p.1=La v i->tyX vars res v=some t->p.2=Ft (Gf data i t)
theorem Ajy {α:Type}:∀(o:List (ByteArray×α)) (s:ByteArray) (v:α),∀p∈Er o s v,p∈o\/p=(s,v)
 | [],s,v,p,h=>by simp only [Er,List.mem_singleton] at h; exact .inr h
 | q::o,s,v,p,h=>by
  unfold Er at h
  cases hq:(s==q.1) with
  | true=>
   rw [hq] at h
   simp only [cond_true,List.mem_cons] at h
   rcases h with h | h
   .exact .inr h
   .exact .inl (by simp [h])
  | false=>
   rw [hq] at h
   simp only [cond_false,List.mem_cons] at h
   rcases h with h | h
   .exact .inl (by simp [h])
   .rcases Ajy o s v p h with h | h
    .exact .inl (by simp [h])
    .exact .inr h
theorem Att {data:List Ay} (G:Szv data) (J:Ke data) (b1:List (ByteArray×Int)) (b2:List (ByteArray×List Dq)) (vars:List Ah) (res:Ah) (f:E7 data vars res b1)
  (v:Int) (i:A8) (t:Ah) (ht:tyX vars res v=some t) (b:Ba t<=200) (I:I64 v) (L:iR i) (hi:Ct i<=1048576) :
  ∃u,Kz v i b1 b2 data vars res.Kind res.Num res.Args=some (Ft (Gf data i t),u)/\E7 data vars res u:=by
 unfold Kz
 rw [Ajv v i I L hi,Ad]
 cases g:Ed b1 (La v i) with
 | true=>
  refine ⟨b1,?_,f⟩
  have:G4 b1 (La v i) 0=Ft (Gf data i t):=by
   unfold G4
   unfold Ed at g
   rw [List.any_eq_true] at g
   obtain ⟨p,D,B⟩:=g
   cases j:b1.find? (fun p=>La v i==p.1) with
   | none=>exact absurd B (by have:=List.find?_eq_none.1 j p D; simpa using this)
   | some q=>
    have hq:=List.find?_some j
    exact f q (List.mem_of_find?_eq_some j) v i t ((Pr _ _).1 hq).symm ht
  simp only [cond_true,Ad,Dm,cond_false,this]
 | false=>
  obtain ⟨w,y,x⟩:=(Ats G J b1 b2 vars res.Kind res.Num res.Args 4000000).1 i t (by omega) hi b
  have c:Mq v b1 b2 data vars res.Kind res.Num res.Args=some t:=by
   unfold Mq
   unfold tyX at ht
   by_cases h:v = -1
   .rw [if_pos h] at ht; cases ht
    have M:(Ah.mk res.Kind res.Num res.Args)=res:=by cases res; rfl
    rw [Em h,M]; rfl
   .rw [if_neg h] at ht
    rw [Cr h,ht]; rfl
  have k:(bif decide (w>6) then some (-1) else some w:Option Int)=some (Ft (Gf data i t)):=by
   rw [<-x.clip]
   by_cases h:w>6
   .rw [Ak h,if_pos h]; rfl
   .rw [Ap h,if_neg h]; rfl
  refine ⟨Er b1 (La v i) (Ft (Gf data i t)),?_,?_⟩
  .simp only [cond_false,Ad,Bool.not_false,cond_true,c,y,k]
  .intro p hp z E A s l
   rcases Ajy _ _ _ p hp with h | h
   .exact f p h z E A s l
   .subst h
    obtain ⟨rfl,rfl⟩:=Ato s
    rw [ht] at l; cases l; rfl
end Go.Ab
namespace Go.Ab
open Go
def Dj (a b:Int):Int:=if a<b then -1 else if a>b then 1 else 0
def C8 (a b:Int):Int:=if a=0 then b else a
theorem Ev {a b:Int}:Dj a b=0↔a=b:=by unfold Dj; split <;> (try split) <;> omega
theorem L6 (a b:Int):Ja a b=some (Dj a b):=by
 unfold Ja Tv Dj
 simp only [Ad,bne_self_eq_false,cond_false]
 by_cases h:a<b
 .rw [Ak h,if_pos h]; rfl
 .rw [Ap h,if_neg h]
  by_cases h':a>b
  .rw [Ak h',if_pos h']; rfl
  .rw [Ap h',if_neg h']; rfl
theorem Ajz (a b:Int):Ty a b=some (Dj a b):=L6 a b
theorem R6 (a b:Int):Kw [a,b]=some (C8 a b):=by
 unfold Kw C8
 by_cases ha:a=0
 .rw [if_pos ha]
  by_cases hb:b=0
  .refine Nd 2 (fun j=>(j:Int)) rfl ?_ ⟨.inr (),rfl,by rw [hb]⟩
   intro j hj
   match j,hj with
   | 0,_=>subst ha; rfl
   | 1,_=>subst hb; rfl
  .refine Nd 1 (fun j=>(j:Int)) rfl ?_ ⟨.inl b,?_,rfl⟩
   .intro j hj
    match j,hj with
    | 0,_=>subst ha; rfl
   .show (bif (b != 0) then _ else _)=_
    rw [C2 hb]; rfl
 .rw [if_neg ha]
  refine Nd 0 (fun j=>(j:Int)) rfl (fun j hj=>by omega) ⟨.inl a,?_,rfl⟩
  show (bif (a != 0) then _ else _)=_
  rw [C2 ha]; rfl
theorem Yq (a b:Int) (h:a≠b):Q7 (decide (a<b))=some (Dj a b):=by
 unfold Q7 Dj
 by_cases h':a<b
 .rw [Ak h',if_pos h']; rfl
 .rw [Ap h',if_neg h',if_pos (by omega)]; rfl
theorem Yr (a b:Int) (h:a≠b):Ot (decide (a<b))=some (Dj a b):=Yq a b h
theorem Ys (a b:Int) (h:a≠b):Om (decide (a<b))=some (Dj a b):=Yq a b h
def Dx {α:Type} (g:α->α->Int):List α->List α->Int
 | x::xs,y::ys=>C8 (g x y) (Dx g xs ys)
 | _,_=>0
theorem U7 {α:Type} (g:α->α->Int) (l m:List α) {step:Int->Option (Int⊕(Int⊕Unit))} (k:l.length=m.length) (hb:l.length<4611686018427387904)
  (f:∀(j:Nat) (x y:α),l[j]? = some x->m[j]? = some y->decide ((j:Int)<(l.length:Int))=true->Af l (j:Int)=some x->Af m (j:Int)=some y->decide ((j:Int)>=(m.length:Int))=false->Ac ((j:Int)+1)=((j+1:Nat):Int) ->
   step (j:Int)=if g x y=0 then some (.inl ((j+1:Nat):Int)) else some (.inr (.inl (g x y))))
  (i:decide ((l.length:Int)<(l.length:Int))=false->step (l.length:Int)=some (.inr (.inr ()))) :
  ∃z,An step 0=some z/\(match z with | .inl r=>r=Dx g l m/\r≠0 | .inr _=>Dx g l m=0):=by
 have key:∀(n j:Nat),j+n=l.length->∃z,An step (j:Int)=some z/\(match z with | .inl r=>r=Dx g (l.drop j) (m.drop j)/\r≠0 | .inr _=>Dx g (l.drop j) (m.drop j)=0):=by
  intro n
  induction n with
  | zero=>
   intro j hj
   have:j=l.length:=by omega
   subst this
   refine ⟨.inr (),Fj (i (by simp)),?_⟩
   rw [List.drop_of_length_le (by omega)]; simp [Dx]
  | succ n ih=>
   intro j hj
   have hx:l[j]? = some l[j]:=Bx (by omega)
   have hy:m[j]? = some m[j]:=Bx (by omega)
   generalize l[j]=x at hx
   generalize m[j]=y at hy
   have h:=f j x y hx hy (Ak (by omega)) (Cg rfl hx) (Cg rfl hy) (Ap (by omega)) (C6 (show j<l.length by omega) hb)
   rw [L2 hx,L2 hy]
   by_cases b:g x y=0
   .rw [if_pos b] at h
    obtain ⟨z,c,z2⟩:=ih (j+1) (by omega)
    refine ⟨z,by rw [Kq h]; exact c,?_⟩
    have e:Dx g (x::l.drop (j+1)) (y::m.drop (j+1))=Dx g (l.drop (j+1)) (m.drop (j+1)):=by simp only [Dx,C8,b,if_true]
    cases z with
    | inl r=>simp only [e]; exact z2
    | inr u=>simp only [e]; exact z2
   .rw [if_neg b] at h
    refine ⟨.inl (g x y),Fj h,?_,b⟩
    simp only [Dx,C8,b,if_false]
 exact key l.length 0 (by omega)
theorem Yt {α:Type} (f:α->α->Option Int) (g:α->α->Int) (l m:List α) (A:l.length=m.length) (hb:l.length<4611686018427387904) (B:∀(j:Nat) (x y:α),l[j]? = some x->m[j]? = some y->f x y=some (g x y)) :
  ((An (S:=Int) (E:=(Int⊕Unit)) (fun b=>
   bif (decide (b<(l.length:Int))) then (
   (Af l b).bind fun s=>
   bif (decide (b>=(m.length:Int))) then some (.inr (.inl 1))
   else (
   (Af m b).bind fun v9=>
   (f s v9).bind fun c=>
   bif (c != (0:Int)) then some (.inr (.inl c))
   else some (.inl (Ac (b+1)))))
   else some (.inr (.inr ()))) 0).bind fun z=>
   match z with
   | .inl k=>some k
   | .inr _=>bif (decide ((l.length:Int)<(m.length:Int))) then some (-1) else some 0)=some (Dx g l m):=by
 refine Ut (U7 g l m A hb ?_ (fun h=>by simp only [h]; rfl)) ?_
 .intro j x y hx hy h1 h2 h3 G D
  simp only [h1,h2,h3,G,D,cond_true,cond_false,Ad,B j x y hx hy]
  by_cases i:g x y=0
  .rw [C5 i,if_pos i]; rfl
  .rw [C2 i,if_neg i]; rfl
 .rintro (r | u) q
  .rw [q.1]
  .simp only
   rw [Ap (by omega),show Dx g l m=0 from q]; rfl
def Jl (x y:Dd):Int:=C8 (Dj x.Var y.Var) (Dj x.Coef y.Coef)
def Jm (a b:Cu):Int:=if a.Terms.length=b.Terms.length then C8 (Dx Jl a.Terms b.Terms) (Dj a.Const b.Const) else Dj a.Terms.length b.Terms.length
theorem Aj0 (a b:Cu) (ha:a.Terms.length<1099511627776):J7 a b=some (Jm a b):=by
 unfold J7 Jm
 rw [L6,Ad]
 by_cases h:a.Terms.length=b.Terms.length
 .rw [C5 (Ev.2 (by omega)),if_pos h]
  simp only [cond_false]
  have:=Yt Tx Jl a.Terms b.Terms h (by omega) (fun j x y _ _=>by
   unfold Tx Jl
   rw [L6,Ajz]; simp only [Ad,R6])
  rw [show W1 a.Terms b.Terms=_ from this,Ad,Ajz]
  simp only [Ad,R6]
 .rw [C2 (fun e=>h (by have:=Ev.1 e; omega)),if_neg h]; rfl
theorem Aj1 (a b:Cu) (ha:a.Terms.length<1099511627776):Ls a b=some (Jm a b):=by
 unfold Ls Jm
 by_cases h:a.Terms.length=b.Terms.length
 .rw [C5 (by omega),if_pos h]
  simp only [cond_false]
  refine Ut (U7 Jl a.Terms b.Terms h (by omega) ?_ (fun h=>by simp only [h]; rfl)) ?_
  .intro j x y hx hy h1 h2 h3 i g
   simp only [h1,h2,h3,g,cond_true,Ad]
   by_cases c:x.Var=y.Var
   .rw [C5 c]
    by_cases hc:x.Coef=y.Coef
    .rw [C5 hc]
     rw [if_pos (by unfold Jl; rw [Ev.2 c,Ev.2 hc]; rfl)]; rfl
    .rw [C2 hc,Yr _ _ hc]
     have e:Jl x y=Dj x.Coef y.Coef:=by unfold Jl; rw [Ev.2 c]; rfl
     rw [e,if_neg (fun e=>hc (Ev.1 e))]; rfl
   .rw [C2 c,Yr _ _ c]
    have e:Jl x y=Dj x.Var y.Var:=by unfold Jl C8; rw [if_neg (fun e=>c (Ev.1 e))]
    rw [e,if_neg (fun e=>c (Ev.1 e))]; rfl
  .rintro (r | u) f
   .obtain ⟨rfl,h0⟩:=f
    unfold C8; rw [if_neg h0]
   .have f:Dx Jl a.Terms b.Terms=0:=f
    rw [f]
    simp only [C8,if_true]
    by_cases hc:a.Const=b.Const
    .rw [C5 hc,Ev.2 hc]; rfl
    .rw [C2 hc,Yr _ _ hc]; rfl
 .rw [C2 (by omega),if_neg h,Yr _ _ (by omega)]; rfl
mutual
def G9:A8->A8->Int
 | ⟨n,k⟩,j=>if n=j.Num then (if k.length=j.Kids.length then Pu k j.Kids else Dj k.length j.Kids.length) else Dj n j.Num
def Pu:List A8->List A8->Int
 | x::xs,y::ys=>C8 (G9 x y) (Pu xs ys)
 | [],_=>0
 | _::_,[]=>0
end
theorem Ac9 (i j:A8):G9 i j=if i.Num=j.Num then (if i.Kids.length=j.Kids.length then Pu i.Kids j.Kids else Dj i.Kids.length j.Kids.length) else Dj i.Num j.Num:=by cases i; simp only [G9]
theorem Yu:∀l m:List A8,Pu l m=Dx G9 l m
 | x::xs,y::ys=>by simp only [Pu,Dx,Yu xs ys]
 | [],_=>by simp [Pu,Dx]
 | _::_,[]=>by simp [Pu,Dx]
theorem Atu:∀(n k:Nat) (i j:A8),Ct i<=n->2*n<=k->n<1099511627776->Ms k i j=some (G9 i j):=by
 intro n
 induction n with
 | zero=>intro k i j h; have:=E3 i; omega
 | succ n ih=>
  intro k i j h hk c
  obtain ⟨k,rfl⟩:∃b,k=b+2:=⟨k-2,by omega⟩
  have hi:=E3 i
  have f:=Kf i.Kids
  rw [Ms,Ac9,L6,L6]
  simp only [Ad,R6]
  by_cases h1:i.Num=j.Num
  .rw [if_pos h1]
   by_cases h2:i.Kids.length=j.Kids.length
   .rw [if_pos h2,C5 (by unfold C8; rw [Ev.2 h1,Ev.2 (by omega)]; rfl),Yu]
    simp only [cond_false]
    have:=Yt (Ms k) G9 i.Kids j.Kids h2 (by omega) (fun q x y hx hy=>ih k x y (by have:=Jk (Bs hx); omega) (by omega) (by omega))
    rw [Tw]
    refine Eq.trans (congrArg (fun q=>Option.bind q _) this) rfl
   .have e:C8 (Dj i.Num j.Num) (Dj (i.Kids.length:Int) (j.Kids.length:Int))=Dj i.Kids.length j.Kids.length:=by unfold C8; rw [Ev.2 h1]; rfl
    rw [if_neg h2,e,C2 (fun e=>h2 (by have:=Ev.1 e; omega))]; rfl
  .have e:C8 (Dj i.Num j.Num) (Dj (i.Kids.length:Int) (j.Kids.length:Int))=Dj i.Num j.Num:=by unfold C8; rw [if_neg (fun e=>h1 (Ev.1 e))]
   rw [if_neg h1,e,C2 (fun e=>h1 (Ev.1 e))]; rfl
theorem Atv:∀(n k:Nat) (i j:A8),Ct i<=n->2*n<=k->n<1099511627776->Mt k i j=some (G9 i j):=by
 intro n
 induction n with
 | zero=>intro k i j h; have:=E3 i; omega
 | succ n ih=>
  intro k i j h hk A
  obtain ⟨k,rfl⟩:∃l,k=l+2:=⟨k-2,by omega⟩
  have hi:=E3 i
  have B:=Kf i.Kids
  rw [Mt,Ac9]
  by_cases h1:i.Num=j.Num
  .rw [if_pos h1,C5 h1]
   simp only [cond_false]
   rw [T0]
   by_cases h2:i.Kids.length=j.Kids.length
   .rw [if_pos h2,C5 (by omega),Yu]
    simp only [cond_false]
    have:=U7 G9 i.Kids j.Kids h2 (by omega) (step:=fun v5=>bif (decide (v5<(i.Kids.length:Int))) then ((Af i.Kids v5).bind fun g=>(Af j.Kids v5).bind fun f=>(Mt k g f).bind fun v8=>bif (v8 != (0:Int)) then some (.inr (.inl v8)) else some (.inl (Ac (v5+1)))) else some (.inr (.inr ()))) (fun q x y hx hy h1 h2 h3 D s=>by
     simp only [h1,h2,h3,s,cond_true,Ad,ih k x y (by have:=Jk (Bs hx); omega) (by omega) (by omega)]
     by_cases b:G9 x y=0
     .rw [C5 b,if_pos b]; rfl
     .rw [C2 b,if_neg b]; rfl) (fun h=>by simp only [h]; rfl)
    obtain ⟨z,c,z2⟩:=this
    rw [c,Ad]
    cases z with
    | inl r=>rw [z2.1]; rfl
    | inr u=>rw [show Dx G9 i.Kids j.Kids=0 from z2]; rfl
   .rw [if_neg h2,C2 (by omega),Yq _ _ (by omega)]; rfl
  .rw [if_neg h1,C2 h1,Yq _ _ h1]; rfl
def Jn (x y:Cm):Int:=C8 (Dj x.Var y.Var) (G9 x.Index y.Index)
def Kh (x y:Ca):Int:=C8 (Jm x.Lin y.Lin) (Dj x.Deg y.Deg)
def Cj (a b:Bb):Int :=
 if a.Factors.length=b.Factors.length then
  C8 (Dx Jn a.Factors b.Factors) (if a.Atoms.length=b.Atoms.length then Dx Kh a.Atoms b.Atoms else Dj a.Atoms.length b.Atoms.length)
 else Dj a.Factors.length b.Factors.length
structure MSz (m:Bb):Prop where
 nf:m.Factors.length<=1048576
 na:m.Atoms.length<=1048576
 fi:∀f∈m.Factors,Ct f.Index<=1048576
 fr:∀f∈m.Factors,iR f.Index/\I64 f.Var
 al:∀a∈m.Atoms,a.Lin.Terms.length<=1048576
theorem Aj2 (a b:Bb) (ha:MSz a):Mp a b=some (Cj a b):=by
 have h1:=ha.nf
 have h2:=ha.na
 unfold Mp Cj
 rw [L6,Ad]
 by_cases h:a.Factors.length=b.Factors.length
 .rw [C5 (Ev.2 (by omega)),if_pos h]
  simp only [cond_false]
  have:=Yt Tg Jn a.Factors b.Factors h (by omega) (fun j x y hx hy=>by
   unfold Tg Jn
   rw [L6,Atu 1048576 4000000 x.Index y.Index (ha.fi x (Bs hx)) (by omega) (by omega)]; simp only [Ad,R6])
  rw [show Ww a.Factors b.Factors=_ from this,Ad,L6]
  simp only [Ad,R6]
  by_cases h0:Dx Jn a.Factors b.Factors=0
  .simp only [h0,C8,if_true]
   by_cases h':a.Atoms.length=b.Atoms.length
   .rw [C5 (Ev.2 (by omega)),if_pos h']
    simp only [cond_false]
    have:=Yt Th Kh a.Atoms b.Atoms h' (by omega) (fun j x y hx hy=>by
     unfold Th Kh
     rw [L6,Aj0 x.Lin y.Lin (by have:=ha.al x (Bs hx); omega)]; simp only [Ad,R6])
    rw [show Wx a.Atoms b.Atoms=_ from this]; rfl
   .rw [C2 (fun e=>h' (by have:=Ev.1 e; omega)),if_neg h']; rfl
  .simp only [C8,if_neg h0]
   rw [C2 h0]; rfl
 .rw [C2 (fun e=>h (by have:=Ev.1 e; omega)),if_neg h]; rfl
theorem Yv (a b:Bb) (ha:MSz a):J6 a b=some (Cj a b):=by
 have h1:=ha.nf
 have h2:=ha.na
 unfold J6 Cj
 by_cases h:a.Factors.length=b.Factors.length
 .rw [C5 (by omega),if_pos h]
  simp only [cond_false]
  refine Ut (U7 Jn a.Factors b.Factors h (by omega) ?_ (fun h=>by simp only [h]; rfl)) ?_
  .intro j x y hx hy h1 h2 h3 i g
   simp only [h1,h2,h3,g,cond_true,Ad,Atv 1048576 4000000 x.Index y.Index (ha.fi x (Bs hx)) (by omega) (by omega)]
   by_cases c:x.Var=y.Var
   .rw [C5 c]
    have e:Jn x y=G9 x.Index y.Index:=by unfold Jn C8; rw [if_pos (Ev.2 c)]
    rw [e]
    by_cases hc:G9 x.Index y.Index=0
    .rw [C5 hc,if_pos hc]; rfl
    .rw [C2 hc,if_neg hc]; rfl
   .rw [C2 c,Ys _ _ c]
    have e:Jn x y=Dj x.Var y.Var:=by unfold Jn C8; rw [if_neg (fun e=>c (Ev.1 e))]
    rw [e,if_neg (fun e=>c (Ev.1 e))]; rfl
  .rintro (r | u) f
   .obtain ⟨rfl,h0⟩:=f
    unfold C8; rw [if_neg h0]
   .have f:Dx Jn a.Factors b.Factors=0:=f
    rw [f]
    simp only [C8,if_true]
    by_cases h':a.Atoms.length=b.Atoms.length
    .rw [C5 (by omega),if_pos h']
     simp only [cond_false]
     refine Ut (U7 Kh a.Atoms b.Atoms h' (by omega) ?_ (fun h=>by simp only [h]; rfl)) ?_
     .intro j x y hx hy h1 h2 h3 i g
      simp only [h1,h2,h3,g,cond_true,Ad,Aj1 x.Lin y.Lin (by have:=ha.al x (Bs hx); omega)]
      by_cases c:Jm x.Lin y.Lin=0
      .rw [C5 c]
       have e:Kh x y=Dj x.Deg y.Deg:=by unfold Kh C8; rw [if_pos c]
       rw [e]
       by_cases hc:x.Deg=y.Deg
       .rw [C5 hc,if_pos (Ev.2 hc)]; rfl
       .rw [C2 hc,Ys _ _ hc,if_neg (fun e=>hc (Ev.1 e))]; rfl
      .have e:Kh x y=Jm x.Lin y.Lin:=by unfold Kh C8; rw [if_neg c]
       rw [C2 c,e,if_neg c]; rfl
     .rintro (r | u) f
      .rw [f.1]
      .rw [show Dx Kh a.Atoms b.Atoms=0 from f]
    .rw [C2 (by omega),if_neg h',Ys _ _ (by omega)]; rfl
 .rw [C2 (by omega),if_neg h,Ys _ _ (by omega)]; rfl
def Ki {α:Type} (f:α->Int) (l:List α) (x:α) (j:Nat):Bool:=j==0||(match l[j-1]? with | some y=>decide (f y<f x) | none=>false)
def R7 (l:List Dd) (x:Dd) (j:Nat):Bool:=decide (-1<=x.Var/\x.Var<3000/\x.Coef≠0/\-1048576<=x.Coef/\x.Coef<=1048576)&&Ki (·.Var) l x j
def Hg (a:Cu):Bool:=decide (-1048576<=a.Const/\a.Const<=1048576/\a.Terms.length<=16)&&a.Terms.zipIdx.all (fun q=>R7 a.Terms q.1 q.2)
theorem Aj3 (n:Int):Q2 n=some (decide (-1048576<=n/\n<=1048576)):=by
 unfold Q2
 by_cases h:(-1048576:Int)<=n <;> simp [h]
theorem Atw (n:Int):Ts n=some (decide (-1<=n/\n<3000)):=by
 unfold Ts
 by_cases h:(-1:Int)<=n <;> simp [h]
theorem Ada {α S E:Type} (f:α->Int) (l:List α) {x:α} {j:Nat} (hx:l[j]? = some x) (i:l.length<4611686018427387904) (c b:Option (S⊕E)) :
  (bif decide ((j:Int)>0) then ((Af l (Ac ((j:Int)-1))).bind fun g=>bif decide (f g>=f x) then c else b) else b)=bif Ki f l x j then b else c:=by
 have hj:=Di hx
 unfold Ki
 by_cases h:j=0
 .subst h; rfl
 .rw [Ak (by omega)]
  have e:Ac ((j:Int)-1)=((j-1:Nat):Int):=by rw [Ac,Bv] <;> omega
  have hy:l[j-1]? = some l[j-1]:=Bx (by omega)
  rw [e,Cg rfl hy,hy]
  have h0:(j==0)=false:=by simpa using h
  simp only [cond_true,Ad,h0,Bool.false_or]
  by_cases hc:f l[j-1]<f x
  .rw [Ap (by omega),Ak hc]; rfl
  .rw [Ak (by omega),Ap hc]; rfl
theorem Aj4 (a:Cu):Lp a=some (Hg a):=by
 unfold Lp Hg
 rw [Aj3]
 simp only [Ad]
 by_cases h1 : -1048576<=a.Const/\a.Const<=1048576
 .rw [Ak h1]
  by_cases h2:a.Terms.length<=16
  .rw [Ap (by omega:¬(a.Terms.length:Int)>16),Ak ⟨h1.1,h1.2,h2⟩]
   simp only [Dm,cond_false,Ad,Bool.true_and]
   refine (Pl a.Terms (fun q=>R7 a.Terms q.1 q.2) (fun j=>(j:Int)) rfl (by omega) (rt:=true) (rf:=false) ?_ ?_).trans (by rw [Ly])
   .intro j x hx _ h1 h2 h3
    simp only [h1,h2,h3,cond_true,Ad,Atw,Aj3,Ada (·.Var) a.Terms hx (by omega),R7]
    by_cases g1 : -1<=x.Var/\x.Var<3000
    .by_cases g2:x.Coef=0
     .rw [Ak g1,Em g2,Ap (fun h=>h.2.2.1 g2)]
      exact ⟨(fun h=>by cases h),fun _=>⟨.inl false,rfl,rfl⟩⟩
     .by_cases g3 : -1048576<=x.Coef/\x.Coef<=1048576
      .rw [Ak g1,Cr g2,Ak g3,Ak ⟨g1.1,g1.2,g2,g3.1,g3.2⟩]
       cases Ki (·.Var) a.Terms x j with
       | true=>exact ⟨fun _=>rfl,fun h=>by cases h⟩
       | false=>exact ⟨(fun h=>by cases h),fun _=>⟨.inl false,rfl,rfl⟩⟩
      .rw [Ak g1,Cr g2,Ap g3,Ap (fun h=>g3 h.2.2.2)]
       exact ⟨(fun h=>by cases h),fun _=>⟨.inl false,rfl,rfl⟩⟩
    .rw [Ap g1,Ap (fun h=>g1 ⟨h.1,h.2.1⟩)]
     exact ⟨(fun h=>by cases h),fun _=>⟨.inl false,rfl,rfl⟩⟩
   .intro h _
    exact ⟨.inr (),by simp only [h]; rfl,rfl⟩
  .rw [Ak (by omega:(a.Terms.length:Int)>16),Ap (fun h=>h2 h.2.2)]; rfl
 .rw [Ap h1,Ap (fun h : -1048576<=a.Const/\a.Const<=1048576/\a.Terms.length<=16=>h1 ⟨h.1,h.2.1⟩)]; rfl
theorem Atx (a:Cu):O1 a=some (Hg a):=by
 unfold O1 Hg
 by_cases h2:a.Terms.length<=16
 .rw [Ap (by omega:¬(a.Terms.length:Int)>16)]
  by_cases h1 : -1048576<=a.Const
  .rw [Ap (by omega:¬a.Const < -1048576)]
   by_cases h3:a.Const<=1048576
   .rw [Ap (by omega:¬a.Const>1048576),Ak ⟨h1,h3,h2⟩]
    simp only [cond_false,Ad,Bool.true_and]
    refine (Pl a.Terms (fun q=>R7 a.Terms q.1 q.2) (fun j=>(j:Int)) rfl (by omega) (rt:=true) (rf:=false) ?_ ?_).trans (by rw [Ly])
    .intro j x hx _ h1 h2 h3
     simp only [h1,h2,h3,cond_true,Ad,Ada (·.Var) a.Terms hx (by omega),R7]
     by_cases g1:x.Var < -1
     .rw [Ak g1,Ap (fun h=>by omega)]
      exact ⟨(fun h=>by cases h),fun _=>⟨.inl false,rfl,rfl⟩⟩
     by_cases g2:x.Var>=3000
     .rw [Ap g1,Ak g2,Ap (fun h=>by omega)]
      exact ⟨(fun h=>by cases h),fun _=>⟨.inl false,rfl,rfl⟩⟩
     by_cases g3:x.Coef=0
     .rw [Ap g1,Ap g2,Em g3,Ap (fun h=>by omega)]
      exact ⟨(fun h=>by cases h),fun _=>⟨.inl false,rfl,rfl⟩⟩
     by_cases g4:x.Coef < -1048576
     .rw [Ap g1,Ap g2,Cr g3,Ak g4,Ap (fun h=>by omega)]
      exact ⟨(fun h=>by cases h),fun _=>⟨.inl false,rfl,rfl⟩⟩
     by_cases g5:x.Coef>1048576
     .rw [Ap g1,Ap g2,Cr g3,Ap g4,Ak g5,Ap (fun h=>by omega)]
      exact ⟨(fun h=>by cases h),fun _=>⟨.inl false,rfl,rfl⟩⟩
     rw [Ap g1,Ap g2,Cr g3,Ap g4,Ap g5,Ak (by omega)]
     cases Ki (·.Var) a.Terms x j with
     | true=>exact ⟨fun _=>rfl,fun h=>by cases h⟩
     | false=>exact ⟨(fun h=>by cases h),fun _=>⟨.inl false,rfl,rfl⟩⟩
    .intro h _
     exact ⟨.inr (),by simp only [h]; rfl,rfl⟩
   .rw [Ak (by omega:a.Const>1048576),Ap (fun h : -1048576<=a.Const/\a.Const<=1048576/\a.Terms.length<=16=>by omega)]; rfl
  .rw [Ak (by omega:a.Const < -1048576),Ap (fun h : -1048576<=a.Const/\a.Const<=1048576/\a.Terms.length<=16=>by omega)]; rfl
 .rw [Ak (by omega:(a.Terms.length:Int)>16),Ap (fun h : -1048576<=a.Const/\a.Const<=1048576/\a.Terms.length<=16=>by omega)]; rfl
end Go.Ab
namespace Go.Ab
open Go
structure Nn (data:List Ay) (vars:List Ah) (res:Ah):Prop where
 vd:He data
 sh:Ke data
 sz:∀v t,tyX vars res v=some t->Ba t<=200
 nv:vars.length<=3000
theorem Aty (vars:List Ah) (res:Ah) (v:Int):(tyX vars res v).isSome=decide (-1<=v/\v<vars.length):=by
 unfold tyX
 by_cases h:v = -1
 .rw [if_pos h]; subst h; rw [Ak (by omega)]; rfl
 .rw [if_neg h]
  cases hx:Af vars v with
  | none=>rcases Nk hx with h' | h' <;> rw [Ap (by omega)] <;> rfl
  | some t=>have:=Fe hx; rw [Ak (by omega)]; rfl
section
variable (b1:List (ByteArray×Int)) (b2:List (ByteArray×List Dq)) (data:List Ay) (vars:List Ah) (res:Ah)
theorem Aj5 (v:Int) (f c:Int) (b:List Ah):Oo v b1 b2 data vars f c b=some (tyX vars res v).isSome:=by
 rw [Aty]
 unfold Oo
 by_cases h:v>=-1
 .rw [Ak h]
  by_cases h':v<(vars.length:Int)
  .rw [Ak h',Ak ⟨h,h'⟩]; rfl
  .rw [Ap h',Ap (fun g=>h' g.2)]; rfl
 .rw [Ap h,Ap (fun g : -1<=v/\v<(vars.length:Int)=>h g.1)]; rfl
theorem Atz {v:Int} {t:Ah} (ht:tyX vars res v=some t):Mq v b1 b2 data vars res.Kind res.Num res.Args=some t:=by
 unfold Mq
 unfold tyX at ht
 by_cases h:v = -1
 .rw [if_pos h] at ht; cases ht
  have b:(Ah.mk res.Kind res.Num res.Args)=res:=by cases res; rfl
  rw [Em h,b]; rfl
 .rw [if_neg h] at ht
  rw [Cr h,ht]; rfl
def R8 (t:Dd):Bool:=match tyX vars res t.Var with | some u=>u.Kind==1 | none=>false
def Jo (l:Cu):Bool:=l.Terms.all (R8 vars res)
theorem At0 (l:Cu) (c:l.Terms.length<=1048576):Oj l b1 b2 data vars res.Kind res.Num res.Args=some (Jo vars res l):=by
 unfold Oj W0 W4
 have key:=Aid l.Terms (fun t=>!R8 vars res t) (by omega) (J:=fun z=>match z with | .inl b=>some b | .inr _=>some (-1)) (step:=fun v3=>bif (decide (v3<(l.Terms.length:Int))) then ((Af l.Terms v3).bind fun v4=>(Q3 v4 b1 b2 data vars res.Kind res.Num res.Args).bind fun v5=>bif v5 then some (.inr (.inl v3)) else some (.inl (Ac (v3+1)))) else some (.inr (.inr ()))) (by
  intro j x hx h1 h2 h3
  have e:Q3 x b1 b2 data vars res.Kind res.Num res.Args=some (!R8 vars res x):=by
   unfold Q3 R8
   rw [Aj5 b1 b2 data vars res,Ad]
   cases ht:tyX vars res x.Var with
   | none=>rfl
   | some t=>rw [Atz b1 b2 data vars res ht]; rfl
  simp only [h1,h2,h3,cond_true,Ad,e]) (fun h=>by simp only [h]; rfl) (fun _=>rfl) rfl
 obtain ⟨i,i1,i2⟩:=key
 erw [i1]
 simp only [Ad,i2]
 congr 1
 unfold Jo
 rw [List.any_eq_not_all_not]; simp
theorem Aj6 (x:B5) (v:Int):O0 x v=some (match tyX x.Vars x.Res v with | some t=>(t,true) | none=>(⟨0,0,[]⟩,false)):=by
 unfold O0 tyX
 by_cases h:v = -1
 .rw [Em h,if_pos h]; rfl
 .rw [Cr h,if_neg h]
  cases hx:Af x.Vars v with
  | none=>
   rcases Nk hx with h' | h'
   .simp only [Ak h',cond_true,cond_false,Ad]
   .by_cases h0:v<0
    .simp only [Ak h0,cond_true,cond_false,Ad]
    .simp only [Ap h0,Ak (show v>=(x.Vars.length:Int) from h'),cond_true,cond_false,Ad]
  | some t=>
   obtain ⟨a1,a2,_⟩:=Fe hx
   simp only [Ap (by omega:¬v<0),Ap (by omega:¬v>=(x.Vars.length:Int)),cond_false,Ad]
theorem At1 (x:B5) (l:Cu) (b:l.Terms.length<=1048576):O2 x l=some (Jo x.Vars x.Res l):=by
 unfold O2
 refine (Nf l.Terms (R8 x.Vars x.Res) (fun j=>(j:Int)) rfl (by omega) (rt:=true) (rf:=false) ?_ ?_).trans (by rw [Ly]; rfl)
 .intro j t ht h1 h2 h3
  simp only [h1,h2,h3,cond_true,Ad,Aj6]
  unfold R8
  cases hu:tyX x.Vars x.Res t.Var with
  | none=>exact ⟨(fun h=>by cases h),fun _=>⟨.inl false,rfl,rfl⟩⟩
  | some u=>
   simp only [Dm,cond_false]
   by_cases hk:u.Kind=1
   .rw [Em hk,C5 hk]
    exact ⟨fun _=>rfl,fun h=>by cases h⟩
   .rw [Cr hk,C2 hk]
    exact ⟨(fun h=>by cases h),fun _=>⟨.inl false,rfl,rfl⟩⟩
 .intro h; exact ⟨.inr (),by simp only [h]; rfl,rfl⟩
def Ei (f:Cm):Int:=match tyX vars res f.Var with | some t=>Ft (Gf data f.Index t) | none => -1
theorem Adb (f:Cm) : -1<=Ei data vars res f/\Ei data vars res f<=6:=by
 unfold Ei
 cases tyX vars res f.Var with
 | none=>simp
 | some t=>rcases Ac2 (Gf data f.Index t) with ⟨h,_⟩ | ⟨d,_,h2,h⟩ <;> simp only [h] <;> omega
def L7 (m:Bb):Bool:=m.Factors.all (fun f=>decide (0<=Ei data vars res f))&&m.Atoms.all (fun a=>decide (0<=a.Deg)&&Jo vars res a.Lin)
def Dk (l:List Cm):Int:=(l.map (Ei data vars res)).sum
def Eb (l:List Ca):Int:=(l.map (·.Deg)).sum
def R9 (l:List Ca) (x:Ca) (j:Nat):Bool:=j==0||(match l[j-1]? with | some y=>decide (Jm y.Lin x.Lin<0) | none=>false)
def L8 (l:List Cm) (f:Cm) (j:Nat):Bool:=decide (1<=Ei data vars res f)&&Ki (·.Var) l f j
def Jp (l:List Ca) (a:Ca) (j:Nat):Bool:=decide (1<=a.Deg)&&Hg a.Lin && !(a.Lin.Terms.length==0)&&Jo vars res a.Lin&&R9 l a j
def Gy (m:Bb):Bool:=m.Factors.zipIdx.all (fun q=>L8 data vars res m.Factors q.1 q.2)&&m.Atoms.zipIdx.all (fun q=>Jp vars res m.Atoms q.1 q.2)&&decide (Dk data vars res m.Factors+Eb m.Atoms<=6)
variable {b1 data vars res}
theorem Adc (hc:Nn data vars res) (i:E7 data vars res b1) (f:Cm) (g:I64 f.Var) (h:iR f.Index) (hi:Ct f.Index<=1048576) (b:(tyX vars res f.Var).isSome=true) :
  ∃c,Kz f.Var f.Index b1 b2 data vars res.Kind res.Num res.Args=some (Ei data vars res f,c)/\E7 data vars res c:=by
 cases ht:tyX vars res f.Var with
 | none=>rw [ht] at b; cases b
 | some t=>
  obtain ⟨c,h1,h2⟩:=Att hc.vd.szv hc.sh b1 b2 vars res i f.Var f.Index t ht (hc.sz _ _ ht) g h hi
  refine ⟨c,?_,h2⟩
  rw [h1]; unfold Ei; rw [ht]
theorem At2 (hc:Nn data vars res) (V:E7 data vars res b1) (m:Bb) (l:MSz m) :
  ∃s,T2 m b1 b2 data vars res.Kind res.Num res.Args=some (L7 data vars res m,s)/\E7 data vars res s:=by
 have X:=l.nf
 have ha:=l.na
 unfold T2
 refine Xv (fun s=>(L7 data vars res m,s)) ?_
 obtain ⟨r,U,N⟩:=Uu (M:=List (ByteArray×Int)) (R:=Bool×List (ByteArray×Int)) m.Factors (fun q=>decide (0<=Ei data vars res q.1)) (fun j o=>((j:Int),o)) (E7 data vars res)
  (fun r=>E7 data vars res r.2/\r.1=m.Atoms.all (fun a=>decide (0<=a.Deg)&&Jo vars res a.Lin)) (fun r=>E7 data vars res r.2/\r.1=false) b1
  (s0:=((0:Int),b1))
  (step:=(fun (A,x)=>
   bif (decide (A<(m.Factors.length:Int))) then (
   (Af m.Factors A).bind fun v8=>
   (Oo v8.Var x b2 data vars res.Kind res.Num res.Args).bind fun B=>
   bif (!B) then some (.inr (.inl (false,x)))
   else (
   (Kz v8.Var v8.Index x b2 data vars res.Kind res.Num res.Args).bind fun g=>
   bif (decide (g.1<(0:Int))) then some (.inr (.inl (false,g.2)))
   else some (.inl ((Ac (A+1)),g.2))))
   else some (.inr (.inr x)):Int×List (ByteArray×Int)->Option ((Int×List (ByteArray×Int))⊕((Bool×List (ByteArray×Int))⊕List (ByteArray×Int)))))
  (J:=(fun z=>match z with
   | .inl (L,I)=>some (L,I)
   | .inr b=>(An (S:=Int) (E:=((Bool×(List (ByteArray×Int)))⊕Unit)) (fun c=>
     bif (decide (c<(m.Atoms.length:Int))) then (
     (Af m.Atoms c).bind fun u=>
     bif (decide (u.Deg<(0:Int))) then some (.inr (.inl (false,b)))
     else (
     (Oj u.Lin b b2 data vars res.Kind res.Num res.Args).bind fun v21=>
     bif (!v21) then some (.inr (.inl (false,b)))
     else some (.inl (Ac (c+1)))))
     else some (.inr (.inr ()))) 0).bind fun z=>match z with
      | .inl (G,D)=>some (G,D)
      | .inr _=>some (true,b)))
  rfl V (by omega) (by
   intro j f o y hx _ h1 h2 h3
   have k:=Bs hx
   simp only [h1,h2,h3,cond_true,Ad,Aj5 o b2 data vars res]
   cases i:(tyX vars res f.Var).isSome with
   | false=>
    have e:Ei data vars res f = -1:=by
     unfold Ei
     cases ht:tyX vars res f.Var with
     | none=>rfl
     | some t=>rw [ht] at i; cases i
    rw [e]
    exact ⟨(fun h=>by cases h),fun _=>⟨_,rfl,_,rfl,y,rfl⟩⟩
   | true=>
    obtain ⟨s,d1,d2⟩:=Adc b2 hc y f (l.fr f k).2 (l.fr f k).1 (l.fi f k) i
    simp only [Dm,cond_false,d1,Ad]
    by_cases h0:0<=Ei data vars res f
    .rw [Ak h0,Ap (by omega)]
     exact ⟨fun _=>⟨s,rfl,d2⟩,fun h=>by cases h⟩
    .rw [Ap h0,Ak (by omega)]
     exact ⟨(fun h=>by cases h),fun _=>⟨_,rfl,_,rfl,d2,rfl⟩⟩) (by
   intro o y h1 _
   refine ⟨.inr o,by simp only [h1]; rfl,?_⟩
   refine ⟨(m.Atoms.all (fun a=>decide (0<=a.Deg)&&Jo vars res a.Lin),o),?_,y,rfl⟩
   refine (Nf m.Atoms (fun a=>decide (0<=a.Deg)&&Jo vars res a.Lin) (fun j=>(j:Int)) rfl (by omega) (rt:=(true,o)) (rf:=(false,o)) ?_ ?_).trans (by cases m.Atoms.all (fun a=>decide (0<=a.Deg)&&Jo vars res a.Lin) <;> rfl)
   .intro j a hx h1 h2 h3
    simp only [h1,h2,h3,cond_true,Ad,At0 o b2 data vars res a.Lin (l.al a (Bs hx))]
    by_cases h0:0<=a.Deg
    .rw [Ak h0,Ap (by omega)]
     cases Jo vars res a.Lin with
     | true=>exact ⟨fun _=>rfl,fun h=>by cases h⟩
     | false=>exact ⟨(fun h=>by cases h),fun _=>⟨_,rfl,rfl⟩⟩
    .rw [Ap h0,Ak (by omega)]
     exact ⟨(fun h=>by cases h),fun _=>⟨_,rfl,rfl⟩⟩
   .intro h; exact ⟨.inr (),by simp only [h]; rfl,rfl⟩)
 refine ⟨r,U,r.2,?_,?_⟩
 .unfold L7
  rw [<-X1]
  rcases N with ⟨h1,h2,h3⟩ | ⟨h1,h2,h3⟩
  .rw [h1,Bool.true_and,<-h3]
  .rw [h1,Bool.false_and,<-h3]
 .rcases N with ⟨h1,h2,h3⟩ | ⟨h1,h2,h3⟩ <;> exact h2
theorem Aj7 (g:Cm->Int) {l:List Cm} {j:Nat} {x:Cm} (h:l[j]? = some x):((l.take (j+1)).map g).sum=((l.take j).map g).sum+g x:=by
 rw [Cz h]; simp
theorem Aj8 {l:List Ca} {j:Nat} {x:Ca} (h:l[j]? = some x):Eb (l.take (j+1))=Eb (l.take j)+x.Deg:=by
 unfold Eb; rw [Cz h]; simp
theorem At3 (hc:Nn data vars res) (A:E7 data vars res b1) (m:Bb) (k:MSz m) (hp:L7 data vars res m=true) :
  ∃p:Int×List (ByteArray×Int),T3 m b1 b2 data vars res.Kind res.Num res.Args=some p/\(decide (p.1>6) = !decide (Dk data vars res m.Factors+Eb m.Atoms<=6))/\E7 data vars res p.2:=by
 have D:=k.nf
 have ha:=k.na
 unfold L7 at hp
 rw [De,List.all_eq_true,List.all_eq_true] at hp
 unfold T3
 refine Dt (fun (v5,u,g)=>∃j:Nat,u=j/\j<=m.Factors.length/\E7 data vars res g/\0<=v5/\v5<=12/\(v5=Dk data vars res (m.Factors.take j)\/(6<v5/\6<Dk data vars res (m.Factors.take j)))) (fun (_,u,_)=>m.Factors.length-u.toNat)
  (fun (v5,g)=>E7 data vars res g/\0<=v5/\v5<=12/\(v5=Dk data vars res m.Factors\/(6<v5/\6<Dk data vars res m.Factors))) ⟨0,rfl,by omega,A,by omega,by omega,.inl (by simp [Dk])⟩ ?_ ?_
 .rintro ⟨v5,u,g⟩ ⟨j,rfl,hj,q,h0,h12,l⟩
  rcases Nat.lt_or_ge j m.Factors.length with h | h
  .have hx:m.Factors[j]? = some m.Factors[j]:=Bx h
   generalize m.Factors[j]=f at hx
   have c:=Bs hx
   have hd:=hp.1 f c
   rw [decide_eq_true_eq] at hd
   have B:=(Adb data vars res f).2
   have es:Dk data vars res (m.Factors.take (j+1))=Dk data vars res (m.Factors.take j)+Ei data vars res f:=Aj7 _ hx
   simp only [Ak (by omega:(j:Int)<(m.Factors.length:Int)),cond_true,Cg rfl hx,Ad,C6 h (by omega)]
   by_cases s:v5<=6
   .have x:(tyX vars res f.Var).isSome=true:=by
     unfold Ei at hd
     cases ht:tyX vars res f.Var with
     | none=>rw [ht] at hd; have hd:(0:Int)<=-1:=hd; omega
     | some t=>rfl
    obtain ⟨E,d1,d2⟩:=Adc b2 hc q f (k.fr f c).2 (k.fr f c).1 (k.fi f c) x
    rw [Ak s]
    simp only [cond_true,d1,Ad]
    have b:Ac (v5+Ei data vars res f)=v5+Ei data vars res f:=by rw [Ac,Bv] <;> omega
    exact .inl ⟨_,rfl,⟨j+1,rfl,by omega,d2,by simp only [b]; omega,by simp only [b]; omega,by simp only [b,es]; omega⟩,by simp; omega⟩
   .rw [Ap s]
    exact .inl ⟨_,rfl,⟨j+1,rfl,by omega,q,h0,h12,by simp only [es]; omega⟩,by simp; omega⟩
  .have:j=m.Factors.length:=by omega
   subst this
   rw [List.take_length] at l
   exact .inr ⟨(v5,g),by simp,q,h0,h12,l⟩
 .rintro ⟨v5,g⟩ ⟨q,h0,h12,l⟩
  simp only
  refine Dt (fun (v,i)=>∃j:Nat,i=j/\j<=m.Atoms.length/\0<=v/\v<=13/\(v=Dk data vars res m.Factors+Eb (m.Atoms.take j)\/(6<v/\6<Dk data vars res m.Factors+Eb (m.Atoms.take j)))) (fun (_,i)=>m.Atoms.length-i.toNat)
   (fun v=>(v=Dk data vars res m.Factors+Eb m.Atoms\/(6<v/\6<Dk data vars res m.Factors+Eb m.Atoms))) ⟨0,rfl,by omega,h0,by omega,by simpa [Eb] using l⟩ ?_ ?_
  .rintro ⟨v,i⟩ ⟨j,rfl,hj,g0,g13,z⟩
   rcases Nat.lt_or_ge j m.Atoms.length with h | h
   .have hx:m.Atoms[j]? = some m.Atoms[j]:=Bx h
    generalize m.Atoms[j]=a at hx
    have hd:=hp.2 a (Bs hx)
    rw [De,decide_eq_true_eq] at hd
    have es:=Aj8 hx
    simp only [Ak (by omega:(j:Int)<(m.Atoms.length:Int)),cond_true,Cg rfl hx,Ad,C6 h (by omega)]
    by_cases s:v<=6
    .rw [Ak s]
     simp only [cond_true]
     by_cases y:7<a.Deg
     .rw [if_pos y]
      have b:Ac (v+7)=v+7:=by rw [Ac,Bv] <;> omega
      exact .inl ⟨_,rfl,⟨j+1,rfl,by omega,by simp only [b]; omega,by simp only [b]; omega,by simp only [b,es]; omega⟩,by simp; omega⟩
     .rw [if_neg y]
      have b:Ac (v+a.Deg)=v+a.Deg:=by rw [Ac,Bv] <;> omega
      exact .inl ⟨_,rfl,⟨j+1,rfl,by omega,by simp only [b]; omega,by simp only [b]; omega,by simp only [b,es]; omega⟩,by simp; omega⟩
    .rw [Ap s]
     exact .inl ⟨_,rfl,⟨j+1,rfl,by omega,g0,g13,by simp only [es]; omega⟩,by simp; omega⟩
   .have:j=m.Atoms.length:=by omega
    subst this
    rw [List.take_length] at z
    exact .inr ⟨v,by simp,z⟩
  .intro v l
   refine ⟨(v,g),rfl,?_,q⟩
   by_cases h:Dk data vars res m.Factors+Eb m.Atoms<=6
   .rw [Ak h,Ap (by simp only; omega)]; rfl
   .rw [Ap h,Ak (by simp only; omega)]; rfl
end
end Go.Ab
namespace Go.Ab
open Go
theorem Aj9 {S E:Type} (F:Cu->Cu->Option Int) (l:List Ca) (g:∀y∈l,∀x,F y.Lin x=some (Jm y.Lin x)) {x:Ca} {j:Nat} (hx:l[j]? = some x) (i:l.length<4611686018427387904) (c b:Option (S⊕E)) :
  (bif decide ((j:Int)>0) then ((Af l (Ac ((j:Int)-1))).bind fun f=>(F f.Lin x.Lin).bind fun v28=>bif decide (v28>=0) then c else b) else b)=bif R9 l x j then b else c:=by
 have hj:=Di hx
 unfold R9
 by_cases h:j=0
 .subst h; rfl
 .rw [Ak (by omega)]
  have e:Ac ((j:Int)-1)=((j-1:Nat):Int):=by rw [Ac,Bv] <;> omega
  have hy:l[j-1]? = some l[j-1]:=Bx (by omega)
  rw [e,Cg rfl hy,hy]
  have h0:(j==0)=false:=by simpa using h
  simp only [cond_true,Ad,h0,Bool.false_or,g _ (List.getElem_mem (by omega:j-1<l.length))]
  by_cases hc:Jm l[j-1].Lin x.Lin<0
  .rw [Ap (by omega),Ak hc]; rfl
  .rw [Ak (by omega),Ap hc]; rfl
section
variable {b1:List (ByteArray×Int)} (b2:List (ByteArray×List Dq)) {data:List Ay} {vars:List Ah} {res:Ah}
def U8 (data:List Ay) (vars:List Ah) (res:Ah) (l:List Cm) (f:Cm) (j:Nat):Bool:=!(Ei data vars res f==0)&&Ki (·.Var) l f j
def No (l:List Ca) (a:Ca) (j:Nat):Bool:=!(a.Deg==0)&&Hg a.Lin && !(a.Lin.Terms.length==0)&&R9 l a j
theorem At4 (m:Bb):Gy data vars res m=(L7 data vars res m&&decide (Dk data vars res m.Factors+Eb m.Atoms<=6)&&m.Factors.zipIdx.all (fun q=>U8 data vars res m.Factors q.1 q.2)&&m.Atoms.zipIdx.all (fun q=>No m.Atoms q.1 q.2)):=by
 rw [Bool.eq_iff_iff]
 unfold Gy L7
 rw [<-X1 m.Factors (fun f=>decide (0<=Ei data vars res f)),<-X1 m.Atoms (fun a=>decide (0<=a.Deg)&&Jo vars res a.Lin)]
 simp only [De,List.all_eq_true,L8,Jp,U8,No,decide_eq_true_eq,Bool.not_eq_true',beq_eq_false_iff_ne,ne_eq]
 constructor
 .rintro ⟨⟨h1,h2⟩,h3⟩
  refine ⟨⟨⟨⟨fun q hq=>?_,fun q hq=>?_⟩,h3⟩,fun q hq=>?_⟩,fun q hq=>?_⟩
  .have:=(h1 q hq).1; omega
  .have:=h2 q hq; exact ⟨by omega,this.1.2⟩
  .have:=h1 q hq; exact ⟨by omega,this.2⟩
  .have:=h2 q hq; exact ⟨⟨⟨by omega,this.1.1.1.2⟩,this.1.1.2⟩,this.2⟩
 .rintro ⟨⟨⟨⟨h1,h2⟩,h3⟩,c⟩,b⟩
  refine ⟨⟨fun q hq=>?_,fun q hq=>?_⟩,h3⟩
  .have:=h1 q hq; have g:=c q hq; exact ⟨by omega,g.2⟩
  .have:=h2 q hq; have g:=b q hq; exact ⟨⟨⟨⟨by omega,g.1.1.2⟩,g.1.2⟩,this.2⟩,g.2⟩
theorem At5 (hc:Nn data vars res) (hm:E7 data vars res b1) (m:Bb) (i:MSz m) :
  ∃A,Qy m b1 b2 data vars res.Kind res.Num res.Args=some (Gy data vars res m,A)/\E7 data vars res A:=by
 have hf:=i.nf
 have ha:=i.na
 rw [At4]
 unfold Qy
 obtain ⟨b,p1,Z⟩:=At2 b2 hc hm m i
 rw [p1]
 cases hp:L7 data vars res m with
 | false=>exact ⟨b,rfl,Z⟩
 | true=>
  obtain ⟨q,q1,q2,Y⟩:=At3 b2 hc Z m i hp
  simp only [Ad,Dm,cond_false,q1,q2]
  cases hs:decide (Dk data vars res m.Factors+Eb m.Atoms<=6) with
  | false=>exact ⟨q.2,rfl,Y⟩
  | true=>
   simp only [Dm,cond_false,Bool.true_and]
   have U:∀f∈m.Factors,(tyX vars res f.Var).isSome=true:=by
    intro f c
    unfold L7 at hp
    rw [De,List.all_eq_true] at hp
    have hd:=hp.1 f c
    rw [decide_eq_true_eq] at hd
    unfold Ei at hd
    cases ht:tyX vars res f.Var with
    | none=>rw [ht] at hd; have hd:(0:Int)<=-1:=hd; omega
    | some t=>rfl
   obtain ⟨r,r1,X⟩:=Uu (M:=List (ByteArray×Int)) (R:=Bool×List (ByteArray×Int)) m.Factors (fun q=>U8 data vars res m.Factors q.1 q.2) (fun j o=>((j:Int),o)) (E7 data vars res)
    (fun r=>E7 data vars res r.2/\r.1=m.Atoms.zipIdx.all (fun q=>No m.Atoms q.1 q.2)) (fun r=>E7 data vars res r.2/\r.1=false) q.2
    (s0:=((0:Int),q.2))
    (step:=(fun (v9,s)=>
     bif (decide (v9<(m.Factors.length:Int))) then (
     (Af m.Factors v9).bind fun k=>
     (Kz k.Var k.Index s b2 data vars res.Kind res.Num res.Args).bind fun g=>
     bif (g.1==(0:Int)) then some (.inr (.inl (false,g.2)))
     else (
     bif (decide (v9>(0:Int))) then (
     (Af m.Factors (Ac (v9-1))).bind fun D=>
     bif (decide (D.Var>=k.Var)) then some (.inr (.inl (false,g.2)))
     else some (.inl ((Ac (v9+1)),g.2)))
     else some (.inl ((Ac (v9+1)),g.2))))
     else some (.inr (.inr s)):Int×List (ByteArray×Int)->Option ((Int×List (ByteArray×Int))⊕((Bool×List (ByteArray×Int))⊕List (ByteArray×Int)))))
    (J:=(fun z=>match z with
     | .inl (N,L)=>some (N,L)
     | .inr l=>(An (S:=Int) (E:=((Bool×(List (ByteArray×Int)))⊕Unit)) (fun v22=>
       bif (decide (v22<(m.Atoms.length:Int))) then (
       (Af m.Atoms v22).bind fun v23=>
       (show Option Bool from
       bif (v23.Deg==(0:Int)) then some true
       else (
       (Lp v23.Lin).bind fun v25=>
       bif (!v25) then some true
       else some ((v23.Lin.Terms.length:Int)==(0:Int)))).bind fun v26=>
       bif v26 then some (.inr (.inl (false,l)))
       else (
       bif (decide (v22>(0:Int))) then (
       (Af m.Atoms (Ac (v22-1))).bind fun B=>
       (J7 B.Lin v23.Lin).bind fun v28=>
       bif (decide (v28>=(0:Int))) then some (.inr (.inl (false,l)))
       else some (.inl (Ac (v22+1))))
       else some (.inl (Ac (v22+1)))))
       else some (.inr (.inr ()))) 0).bind fun z=>match z with
        | .inl (I,G)=>some (I,G)
        | .inr _=>some (true,l)))
    rfl Y (by omega) (by
     intro j f o V hx _ h1 h2 h3
     have c:=Bs hx
     obtain ⟨A,d1,d2⟩:=Adc b2 hc V f (i.fr f c).2 (i.fr f c).1 (i.fi f c) (U f c)
     simp only [h1,h2,h3,cond_true,Ad,d1,Ada (·.Var) m.Factors hx (by omega),U8]
     cases (Ei data vars res f==0) with
     | true=>exact ⟨(fun h=>by cases h),fun _=>⟨_,rfl,_,rfl,d2,rfl⟩⟩
     | false=>
      cases Ki (·.Var) m.Factors f j with
      | true=>exact ⟨fun _=>⟨A,rfl,d2⟩,fun h=>by cases h⟩
      | false=>exact ⟨(fun h=>by cases h),fun _=>⟨_,rfl,_,rfl,d2,rfl⟩⟩) (by
     intro o V h1 _
     refine ⟨.inr o,by simp only [h1]; rfl,?_⟩
     refine ⟨(m.Atoms.zipIdx.all (fun q=>No m.Atoms q.1 q.2),o),?_,V,rfl⟩
     refine (Pl m.Atoms (fun q=>No m.Atoms q.1 q.2) (fun j=>(j:Int)) rfl (by omega) (rt:=(true,o)) (rf:=(false,o)) ?_ ?_).trans (by cases m.Atoms.zipIdx.all (fun q=>No m.Atoms q.1 q.2) <;> rfl)
     .intro j a hx _ h1 h2 h3
      have u:((a.Lin.Terms.length:Int)==(0:Int))=(a.Lin.Terms.length==0):=Aiv a.Lin.Terms 0
      simp only [h1,h2,h3,cond_true,Ad,Aj4,Aj9 J7 m.Atoms (fun y hy x=>Aj0 y.Lin x (by have:=i.al y hy; omega)) hx (by omega),No,u]
      cases (a.Deg==0) with
      | true=>exact ⟨(fun h=>by cases h),fun _=>⟨_,rfl,rfl⟩⟩
      | false=>
       cases Hg a.Lin with
       | false=>exact ⟨(fun h=>by cases h),fun _=>⟨_,rfl,rfl⟩⟩
       | true=>
        cases (a.Lin.Terms.length==0) with
        | true=>exact ⟨(fun h=>by cases h),fun _=>⟨_,rfl,rfl⟩⟩
        | false=>
         cases R9 m.Atoms a j with
         | true=>exact ⟨fun _=>rfl,fun h=>by cases h⟩
         | false=>exact ⟨(fun h=>by cases h),fun _=>⟨_,rfl,rfl⟩⟩
     .intro h _; exact ⟨.inr (),by simp only [h]; rfl,rfl⟩)
   refine ⟨r.2,?_,?_⟩
   .have e:some r=some (m.Factors.zipIdx.all (fun q=>U8 data vars res m.Factors q.1 q.2)&&m.Atoms.zipIdx.all (fun q=>No m.Atoms q.1 q.2),r.2):=by
     rcases X with ⟨h1,h2,h3⟩ | ⟨h1,h2,h3⟩
     .rw [h1,Bool.true_and,<-h3]
     .rw [h1,Bool.false_and,<-h3]
    rw [<-e]
    exact r1
   .rcases X with ⟨h1,h2,h3⟩ | ⟨h1,h2,h3⟩ <;> exact h2
theorem Aka (l:List Cm):Dk data vars res l<=6*l.length/\-(l.length:Int)<=Dk data vars res l:=by
 induction l with
 | nil=>simp [Dk]
 | cons x xs ih=>
  have:=Adb data vars res x
  unfold Dk at *
  simp only [List.map_cons,List.sum_cons,List.length_cons]
  omega
theorem Akb (l:List Cm) (h:∀f∈l,0<=Ei data vars res f):0<=Dk data vars res l:=by
 induction l with
 | nil=>simp [Dk]
 | cons x xs ih=>
  have h1:=h x (by simp)
  have h2:=ih (fun f b=>h f (by simp [b]))
  unfold Dk at *
  simp only [List.map_cons,List.sum_cons]
  omega
theorem U9 (l:List Ca) (h:∀a∈l,0<=a.Deg):0<=Eb l/\((∀a∈l,a.Deg<=6)->Eb l<=6*l.length)/\∀a∈l,a.Deg<=Eb l:=by
 induction l with
 | nil=>simp [Eb]
 | cons x xs ih=>
  have h1:=h x (by simp)
  obtain ⟨i1,i2,i3⟩:=ih (fun f b=>h f (by simp [b]))
  unfold Eb at *
  simp only [List.map_cons,List.sum_cons,List.length_cons]
  refine ⟨by omega,fun g=>?_,fun a ha=>?_⟩
  .have:=g x (by simp)
   have:=i2 (fun a ha=>g a (by simp [ha]))
   omega
  .rcases List.mem_cons.1 ha with rfl | ha
   .omega
   .have:=i3 a ha; omega
end
theorem At6 {x:B5} (hc:Nn x.Data x.Vars x.Res) (m:Bb) (I:MSz m):∃v,Tn x m=some v/\decide (v<0) = !Gy x.Data x.Vars x.Res m:=by
 have hf:=I.nf
 have ha:=I.na
 unfold Tn
 have V:∀n,m.Factors.zipIdx.all (fun q=>L8 x.Data x.Vars x.Res m.Factors q.1 q.2)=true->0<=Dk x.Data x.Vars x.Res (m.Factors.take n):=by
  intro n h
  refine Akb _ (fun f hf=>?_)
  obtain ⟨j,hj⟩:=List.getElem?_of_mem (List.mem_of_mem_take hf)
  have:=G7 h hj
  simp only [L8,De,decide_eq_true_eq] at this
  omega
 have X:m.Factors.zipIdx.all (fun q=>L8 x.Data x.Vars x.Res m.Factors q.1 q.2)=false->Gy x.Data x.Vars x.Res m=false:=by
  intro h; unfold Gy; rw [h]; rfl
 obtain ⟨r,r1,r2⟩:=Uu (M:=Unit) (R:=Int) m.Factors (fun q=>L8 x.Data x.Vars x.Res m.Factors q.1 q.2) (fun j _=>(Dk x.Data x.Vars x.Res (m.Factors.take j),(j:Int))) (fun _=>True)
  (fun v=>decide (v<0) = !Gy x.Data x.Vars x.Res m) (fun v=>v = -1) ()
  (s0:=((0:Int),(0:Int)))
  (step:=(fun (v9,c)=>
   bif (decide (c<(m.Factors.length:Int))) then (
   (Af m.Factors c).bind fun u=>
   (O0 x u.Var).bind fun G=>
   (show Option Bool from
   bif (!G.2) then some true
   else (
   bif (decide (c>(0:Int))) then (
   (Af m.Factors (Ac (c-1))).bind fun s=>
   some (decide (s.Var>=u.Var)))
   else some false)).bind fun a1=>
   bif a1 then some (.inr (.inl (-1)))
   else (
   (Q9 x.Data G.1 u.Index).bind fun v17=>
   bif (decide (v17<(1:Int))) then some (.inr (.inl (-1)))
   else some (.inl ((Ac (v9+v17)),(Ac (c+1))))))
   else some (.inr (.inr v9)):Int×Int->Option ((Int×Int)⊕(Int⊕Int))))
  (J:=(fun z=>match z with
   | .inl a6=>some a6
   | .inr Z=>(An (S:=(Int×Int)) (E:=(Int⊕Int)) (fun (v24,v25)=>
     bif (decide (v25<(m.Atoms.length:Int))) then (
     (Af m.Atoms v25).bind fun v26=>
     (O1 v26.Lin).bind fun v28=>
     bif (!v28) then some (.inr (.inl (-1)))
     else (
     bif ((v26.Lin.Terms.length:Int)==(0:Int)) then some (.inr (.inl (-1)))
     else (
     (O2 x v26.Lin).bind fun l=>
     bif (!l) then some (.inr (.inl (-1)))
     else (
     bif (decide (v25>(0:Int))) then (
     (Af m.Atoms (Ac (v25-1))).bind fun k=>
     (Ls k.Lin v26.Lin).bind fun v31=>
     bif (decide (v31>=(0:Int))) then some (.inr (.inl (-1)))
     else (
     bif (decide (v26.Deg<(1:Int))) then some (.inr (.inl (-1)))
     else (
     bif (decide (v26.Deg>(6:Int))) then some (.inr (.inl (-1)))
     else some (.inl ((Ac (v24+v26.Deg)),(Ac (v25+1)))))))
     else (
     bif (decide (v26.Deg<(1:Int))) then some (.inr (.inl (-1)))
     else (
     bif (decide (v26.Deg>(6:Int))) then some (.inr (.inl (-1)))
     else some (.inl ((Ac (v24+v26.Deg)),(Ac (v25+1))))))))))
     else some (.inr (.inr v24))) (Z,0)).bind fun z=>match z with
      | .inl A=>some A
      | .inr v33=>bif (decide (v33>(6:Int))) then some (-1) else some v33))
  (by simp [Dk]) trivial (by omega) (by
   intro j f _ _ hx _ h1 h2 h3
   have ab:=Bs hx
   have hj:=Di hx
   have a7:(bif decide ((j:Int)>0) then ((Af m.Factors (Ac ((j:Int)-1))).bind fun s=>some (decide (s.Var>=f.Var))) else some false)=some (!Ki (·.Var) m.Factors f j):=by
    unfold Ki
    by_cases h:j=0
    .subst h; rfl
    .rw [Ak (by omega)]
     have e:Ac ((j:Int)-1)=((j-1:Nat):Int):=by rw [Ac,Bv] <;> omega
     have hy:m.Factors[j-1]? = some m.Factors[j-1]:=Bx (by omega)
     rw [e,Cg rfl hy,hy]
     have h0:(j==0)=false:=by simpa using h
     simp only [cond_true,Ad,h0,Bool.false_or]
     by_cases hc:m.Factors[j-1].Var<f.Var
     .rw [Ap (by omega),Ak hc]; rfl
     .rw [Ak (by omega),Ap hc]; rfl
   have es:Dk x.Data x.Vars x.Res (m.Factors.take (j+1))=Dk x.Data x.Vars x.Res (m.Factors.take j)+Ei x.Data x.Vars x.Res f:=Aj7 _ hx
   have hb:=Aka (data:=x.Data) (vars:=x.Vars) (res:=x.Res) (m.Factors.take j)
   have ag:(m.Factors.take j).length<=1048576:=by simp; omega
   have ae:=Adb x.Data x.Vars x.Res f
   simp only [h1,h2,h3,cond_true,Ad,Aj6,L8,es]
   cases ht:tyX x.Vars x.Res f.Var with
   | none=>
    have e:Ei x.Data x.Vars x.Res f = -1:=by unfold Ei; rw [ht]
    rw [e]
    exact ⟨(fun h=>by cases h),fun _=>⟨.inl (-1),rfl,_,rfl,rfl⟩⟩
   | some t=>
    have e:Ei x.Data x.Vars x.Res f=Ft (Gf x.Data f.Index t):=by unfold Ei; rw [ht]
    simp only [Dm,cond_false,a7,Ad,Atg hc.vd hc.sh t f.Index (hc.sz _ _ ht) (I.fi f ab),<-e]
    cases ac:Ki (·.Var) m.Factors f j with
    | false=>exact ⟨(fun h=>by simp at h),fun _=>⟨.inl (-1),rfl,_,rfl,rfl⟩⟩
    | true=>
     simp only [Dm,cond_false,Bool.and_true]
     by_cases h1:1<=Ei x.Data x.Vars x.Res f
     .rw [Ak h1,Ap (by omega)]
      refine ⟨fun _=>⟨(),?_,trivial⟩,fun h=>by cases h⟩
      simp only [cond_false]
      rw [show Ac (Dk x.Data x.Vars x.Res (m.Factors.take j)+Ei x.Data x.Vars x.Res f)=Dk x.Data x.Vars x.Res (m.Factors.take j)+Ei x.Data x.Vars x.Res f by rw [Ac,Bv] <;> omega]
     .rw [Ap h1,Ak (by omega)]
      exact ⟨(fun h=>by cases h),fun _=>⟨.inl (-1),rfl,_,rfl,rfl⟩⟩) (by
   intro _ _ h1 g
   have aa:=V m.Factors.length g
   have af:=Aka (data:=x.Data) (vars:=x.Vars) (res:=x.Res) m.Factors
   rw [List.take_length] at aa
   refine ⟨.inr (Dk x.Data x.Vars x.Res m.Factors),by simp,?_⟩
   obtain ⟨w,w1,w2⟩:=Uu (M:=Unit) (R:=Int) m.Atoms (fun q=>Jp x.Vars x.Res m.Atoms q.1 q.2&&decide (q.1.Deg<=6)) (fun j _=>(Dk x.Data x.Vars x.Res m.Factors+Eb (m.Atoms.take j),(j:Int))) (fun _=>True)
    (fun v=>decide (v<0) = !decide (Dk x.Data x.Vars x.Res m.Factors+Eb m.Atoms<=6)) (fun v=>v = -1) ()
    (s0:=(Dk x.Data x.Vars x.Res m.Factors,(0:Int)))
    (step:=(fun (v24,v25)=>
     bif (decide (v25<(m.Atoms.length:Int))) then (
     (Af m.Atoms v25).bind fun v26=>
     (O1 v26.Lin).bind fun v28=>
     bif (!v28) then some (.inr (.inl (-1)))
     else (
     bif ((v26.Lin.Terms.length:Int)==(0:Int)) then some (.inr (.inl (-1)))
     else (
     (O2 x v26.Lin).bind fun l=>
     bif (!l) then some (.inr (.inl (-1)))
     else (
     bif (decide (v25>(0:Int))) then (
     (Af m.Atoms (Ac (v25-1))).bind fun k=>
     (Ls k.Lin v26.Lin).bind fun v31=>
     bif (decide (v31>=(0:Int))) then some (.inr (.inl (-1)))
     else (
     bif (decide (v26.Deg<(1:Int))) then some (.inr (.inl (-1)))
     else (
     bif (decide (v26.Deg>(6:Int))) then some (.inr (.inl (-1)))
     else some (.inl ((Ac (v24+v26.Deg)),(Ac (v25+1)))))))
     else (
     bif (decide (v26.Deg<(1:Int))) then some (.inr (.inl (-1)))
     else (
     bif (decide (v26.Deg>(6:Int))) then some (.inr (.inl (-1)))
     else some (.inl ((Ac (v24+v26.Deg)),(Ac (v25+1))))))))))
     else some (.inr (.inr v24)):Int×Int->Option ((Int×Int)⊕(Int⊕Int))))
    (J:=(fun z=>match z with
      | .inl A=>some A
      | .inr v33=>bif (decide (v33>(6:Int))) then some (-1) else some v33))
    (by simp [Eb]) trivial (by omega) (by
     intro j a _ _ hx B h1 h2 h3
     have L:((a.Lin.Terms.length:Int)==(0:Int))=(a.Lin.Terms.length==0):=Aiv a.Lin.Terms 0
     have es:=Aj8 hx
     have ah:0<=Eb (m.Atoms.take j)/\Eb (m.Atoms.take j)<=6*1048576:=by
      have N:∀b∈m.Atoms.take j,1<=b.Deg/\b.Deg<=6:=by
       intro b hb
       obtain ⟨i,hi⟩:=List.getElem?_of_mem hb
       have a8:=Di hi
       have U:i<j:=by simp at a8; omega
       rw [List.getElem?_take_of_lt U] at hi
       have:=B i b U hi
       simp only [Jp,De,decide_eq_true_eq] at this
       omega
      obtain ⟨k1,k2,_⟩:=U9 (m.Atoms.take j) (fun b hb=>by have:=N b hb; omega)
      have:=k2 (fun b hb=>(N b hb).2)
      have hl:(m.Atoms.take j).length<=1048576:=by simp; omega
      omega
     simp only [h1,h2,h3,cond_true,Ad,Atx,At1 x a.Lin (I.al a (Bs hx)),Aj9 Ls m.Atoms (fun y hy x=>Aj1 y.Lin x (by have:=I.al y hy; omega)) hx (by omega),Jp,L,es]
     cases Hg a.Lin with
     | false=>exact ⟨(fun h=>by simp at h),fun _=>⟨.inl (-1),rfl,_,rfl,rfl⟩⟩
     | true=>
      cases (a.Lin.Terms.length==0) with
      | true=>exact ⟨(fun h=>by simp at h),fun _=>⟨.inl (-1),rfl,_,rfl,rfl⟩⟩
      | false=>
       cases Jo x.Vars x.Res a.Lin with
       | false=>exact ⟨(fun h=>by simp at h),fun _=>⟨.inl (-1),rfl,_,rfl,rfl⟩⟩
       | true=>
        simp only [Dm,cond_false,Bool.not_false,Bool.and_true]
        cases R9 m.Atoms a j with
        | false=>exact ⟨(fun h=>by simp at h),fun _=>⟨.inl (-1),rfl,_,rfl,rfl⟩⟩
        | true=>
         simp only [cond_true,Bool.and_true]
         by_cases g1:a.Deg<1
         .rw [Ak g1,Ap (by omega:¬1<=a.Deg)]
          exact ⟨(fun h=>by simp at h),fun _=>⟨.inl (-1),rfl,_,rfl,rfl⟩⟩
         .by_cases g2:a.Deg>6
          .rw [Ap g1,Ak g2,Ap (by omega:¬a.Deg<=6)]
           exact ⟨(fun h=>by simp at h),fun _=>⟨.inl (-1),rfl,_,rfl,rfl⟩⟩
          .rw [Ap g1,Ap g2,Ak (by omega:a.Deg<=6),Ak (by omega:1<=a.Deg)]
           refine ⟨fun _=>⟨(),?_,trivial⟩,fun h=>by cases h⟩
           simp only [cond_false]
           rw [show Ac (Dk x.Data x.Vars x.Res m.Factors+Eb (m.Atoms.take j)+a.Deg)=Dk x.Data x.Vars x.Res m.Factors+(Eb (m.Atoms.take j)+a.Deg) by rw [Ac,Bv] <;> omega]) (by
     intro _ _ h1 D
     refine ⟨.inr (Dk x.Data x.Vars x.Res m.Factors+Eb m.Atoms),by simp,?_⟩
     have ai:0<=Eb m.Atoms:=(U9 m.Atoms (fun b hb=>by
      obtain ⟨i,hi⟩:=List.getElem?_of_mem hb
      have:=G7 D hi
      simp only [Jp,De,decide_eq_true_eq] at this
      omega)).1
     simp only
     by_cases h6:Dk x.Data x.Vars x.Res m.Factors+Eb m.Atoms<=6
     .rw [Ap (by omega),Ak h6]
      exact ⟨_,rfl,Ap (by omega)⟩
     .rw [Ak (by omega),Ap h6]
      exact ⟨_,rfl,rfl⟩)
   refine ⟨w,w1,?_⟩
   unfold Gy
   rw [g,Bool.true_and]
   rcases w2 with ⟨g1,g2⟩ | ⟨g1,g2⟩
   .have Y:m.Atoms.zipIdx.all (fun q=>Jp x.Vars x.Res m.Atoms q.1 q.2)=true:=X0 fun j a hj=>by
     have:=G7 g1 hj
     simp only [De] at this
     exact this.1
    rw [Y,Bool.true_and,g2]
   .rw [g2]
    cases Y:m.Atoms.zipIdx.all (fun q=>Jp x.Vars x.Res m.Atoms q.1 q.2) with
    | false=>rfl
    | true=>
     have hgt:¬Dk x.Data x.Vars x.Res m.Factors+Eb m.Atoms<=6:=by
      intro ad
      have:m.Atoms.zipIdx.all (fun q=>Jp x.Vars x.Res m.Atoms q.1 q.2&&decide (q.1.Deg<=6))=true:=X0 fun j a hj=>by
       have gj:=G7 Y hj
       have hpos:∀b∈m.Atoms,0<=b.Deg:=fun b hb=>by
        obtain ⟨i,hi⟩:=List.getElem?_of_mem hb
        have:=G7 Y hi
        simp only [Jp,De,decide_eq_true_eq] at this
        omega
       have:=(U9 m.Atoms hpos).2.2 a (Bs hj)
       simp only [gj,Bool.true_and,decide_eq_true_eq]
       omega
      rw [this] at g1; cases g1
     rw [Ap hgt]; rfl)
 refine ⟨r,r1,?_⟩
 rcases r2 with ⟨h1,h2⟩ | ⟨h1,h2⟩
 .exact h2
 .rw [h2,X h1]; rfl
end Go.Ab
