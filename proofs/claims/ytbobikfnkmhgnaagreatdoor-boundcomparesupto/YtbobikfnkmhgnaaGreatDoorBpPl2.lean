/- Plain laws: what the plain functions answer. -/
import Derived.Test.YtbobikfnkmhgnaaGreatDoorBpPl1
import Derived.Lib.ItoaLen
namespace Go.Ab
open Go
def isV (σ:List Ai) (k n:Int):Bool:=k==4&&decide (0<=n)&&decide (n<(σ.length:Int))
mutual
def Cy (σ:List Ai):Ai->Ai
 | ⟨k,n,l⟩=>match (if isV σ k n then σ[n.toNat]? else none) with
  | some s=>s
  | none=>⟨k,n,M8 σ l⟩
def M8 (σ:List Ai):List Ai->List Ai
 | []=>[]
 | x::xs=>Cy σ x::M8 σ xs
end
theorem Au4 (σ l:List Ai):M8 σ l=l.map (Cy σ):=by
 induction l with
 | nil=>rfl
 | cons x xs ih=>simp only [M8,ih,List.map_cons]
theorem Z2 {σ:List Ai} {k n:Int} (h:isV σ k n=true):∃s,σ[n.toNat]? = some s/\Af σ n=some s/\s∈σ:=by
 simp only [isV,C6,decide_eq_true_eq] at h
 have b:n.toNat < σ.length:=by omega
 refine ⟨σ[n.toNat],Bn b,?_,List.getElem_mem b⟩
 unfold Af
 rw [if_pos (by omega),Bn b]
theorem Z3 {σ:List Ai} {t s:Ai} (h:isV σ t.Kind t.Num=true) (b:σ[t.Num.toNat]? = some s):Cy σ t=s:=by
 cases t; simp only [Cy] at *; simp [h,b]
theorem Aeq {σ:List Ai} {t:Ai} (h:isV σ t.Kind t.Num=false):Cy σ t=⟨t.Kind,t.Num,t.Args.map (Cy σ)⟩:=by
 cases t; simp only [Cy] at *; simp [h,Au4]
mutual
theorem Ak7:∀t:Ai,Cy [] t=t
 | ⟨k,n,l⟩=>by
  have hv:isV [] k n=false:=by
   unfold isV
   by_cases h:0<=n
   .rw [Al (by simp; omega:¬n<(([]:List Ai).length:Int))]; simp
   .rw [Al h]; simp
  simp only [Cy,hv,Ak8 l]; rfl
theorem Ak8:∀l:List Ai,M8 [] l=l
 | []=>rfl
 | x::xs=>by simp only [M8,Ak7 x,Ak8 xs]
end
mutual
theorem Aer (σ:List Ai) (M:Nat) (hM:1<=M) (hσ:∀s∈σ,Bg s<=M):∀t:Ai,Bg (Cy σ t)<=Bg t*M
 | ⟨k,n,l⟩=>by
  cases hv:isV σ k n with
  | true=>
   obtain ⟨s,h1,_,h3⟩:=Z2 hv
   rw [Z3 (t:=⟨k,n,l⟩) hv h1]
   have:=hσ s h3
   have h2:=L7 ⟨k,n,l⟩
   calc Bg s<=1*M:=by omega
    _<=_:=Nat.mul_le_mul_right M h2
  | false=>
   have:=Ak9 σ M hM hσ l
   simp only [Cy,hv,Bg]
   simp only [Bool.false_eq_true,if_false,Bg]
   rw [Nat.add_mul]; omega
theorem Ak9 (σ:List Ai) (M:Nat) (hM:1<=M) (hσ:∀s∈σ,Bg s<=M):∀l:List Ai,Cl (M8 σ l)<=Cl l*M
 | []=>by simp [M8,Cl]
 | x::xs=>by
  have h1:=Aer σ M hM hσ x
  have h2:=Ak9 σ M hM hσ xs
  simp only [M8,Cl]
  rw [Nat.add_mul]; omega
end
theorem Aes (σ:List Ai) (t:Ai):(bif t.Kind==(4:Int) then bif decide (t.Num>=(0:Int)) then some (decide (t.Num<(σ.length:Int))) else some false else some false)=some (isV σ t.Kind t.Num):=by
 unfold isV
 cases t.Kind==4 <;> simp
 by_cases h:0<=t.Num <;> simp [h]
theorem Au5:∀(k:Nat) (t:Ai) (σ:List Ai) (M:Nat),(∀s∈σ,Bg s<=M)->Bg t+M+1<=k->k<1099511627776->Om k t σ=some (Cy σ t):=by
 intro k
 induction k with
 | zero=>intro t σ M _ h; omega
 | succ k ih=>
  intro t σ M c h hk
  have g:=G9 t
  have f:=Ix t.Args
  rw [Om]
  rw [show (show Option Bool from bif t.Kind==(4:Int) then bif decide (t.Num>=(0:Int)) then some (decide (t.Num<(σ.length:Int))) else some false else some false)=some (isV σ t.Kind t.Num) from Aes σ t,Ad]
  cases b:isV σ t.Kind t.Num with
  | true=>
   obtain ⟨s,h1,h2,h3⟩:=Z2 b
   have:=c s h3
   simp only [cond_true,h2,Ad,Z3 b h1,ih s [] 0 (by simp) (by omega) (by omega),Ak7]
  | false=>
   rw [Aeq b]
   simp only [cond_false]
   refine D9 t.Args (fun j=>((j:Int),(t.Args.take j).map (Cy σ))) rfl (by omega) ?_ ?_
   .intro j x hj hx h1 h2 h3
    have:=Hm (Bo hx)
    simp only [h1,h2,h3,cond_true,Ad,ih x σ M c (by omega) (by omega)]
    rw [Cu (by simp; omega),Ad,Cw hx]; simp
   .intro h1
    exact ⟨t.Args.map (Cy σ),by simp,rfl⟩
theorem Au6:∀(k:Nat) (t:Ai),Bg t<=k->k<1099511627776->Qz k t=some t:=by
 intro k
 induction k with
 | zero=>intro t h; have:=L7 t; omega
 | succ k ih=>
  intro t h hk
  have c:=G9 t
  have b:=Ix t.Args
  rw [Qz]
  refine D9 t.Args (fun j=>((j:Int),(t.Args.take j))) rfl (by omega) ?_ ?_
  .intro j x hj hx h1 h2 h3
   have:=Hm (Bo hx)
   simp only [h1,h2,h3,cond_true,Ad,ih x (by omega) (by omega)]
   rw [Cu (by simp; omega),Ad,Cw hx]
  .intro h1
   exact ⟨t.Args,by simp,by cases t; rfl⟩
theorem Au7:∀(k:Nat) (t:Ai) (σ:List Ai) (M:Nat),(∀s∈σ,Bg s<=M)->M<=4000000->Bg t<=k->k<1099511627776->On k t σ=some (Cy σ t):=by
 intro k
 induction k with
 | zero=>intro t σ M _ _ h; have:=L7 t; omega
 | succ k ih=>
  intro t σ M c i h hk
  have g:=G9 t
  have f:=Ix t.Args
  rw [On]
  rw [show (show Option Bool from bif t.Kind==(4:Int) then bif decide (t.Num>=(0:Int)) then some (decide (t.Num<(σ.length:Int))) else some false else some false)=some (isV σ t.Kind t.Num) from Aes σ t,Ad]
  cases b:isV σ t.Kind t.Num with
  | true=>
   obtain ⟨s,h1,h2,h3⟩:=Z2 b
   have:=c s h3
   simp only [cond_true,h2,Ad,Z3 b h1,Au6 4000000 s (by omega) (by omega)]
  | false=>
   rw [Aeq b]
   simp only [cond_false]
   refine D9 t.Args (fun j=>((j:Int),(t.Args.take j).map (Cy σ))) rfl (by omega) ?_ ?_
   .intro j x hj hx h1 h2 h3
    have:=Hm (Bo hx)
    simp only [h1,h2,h3,cond_true,Ad,ih x σ M c i (by omega) (by omega)]
    rw [Cu (by simp; omega),Ad,Cw hx]; simp
   .intro h1
    exact ⟨t.Args.map (Cy σ),by simp,rfl⟩
theorem Au8:∀(k:Nat) (t:Ai),Bg t<=k->Bg t<1099511627776->Qw k t=some (Bg t:Int):=by
 intro k
 induction k with
 | zero=>intro t h; have:=L7 t; omega
 | succ k ih=>
  intro t h ht
  have b:=G9 t
  have c:=Ix t.Args
  rw [Qw]
  refine D9 t.Args (fun j=>(1+(Cl (t.Args.take j):Int),(j:Int))) rfl (by omega) ?_ ?_
  .intro j x hj hx h1 h2 h3
   have g:=Hm (Bo hx)
   have f:=Wn t.Args (j+1)
   have e:Cl (t.Args.take (j+1))=Cl (t.Args.take j)+Bg x:=by rw [Cw hx,Zy]; simp [Cl]
   simp only [h1,h2,h3,cond_true,Ad,ih x (by omega) (by omega)]
   rw [show Ac (1+(Cl (t.Args.take j):Int)+(Bg x:Int))=1+(Cl (t.Args.take (j+1)):Int) by rw [e,Ac,Bz] <;> omega]
  .intro h1
   exact ⟨1+(Cl t.Args:Int),by simp,by rw [b]; simp⟩
theorem Au9 (σ:List Ai) (M:Nat) (E:1<=M) (u:M<=1048576) (A:∀s∈σ,Bg s<=M):∀(k:Nat) (t:Ai),Bg t<=k->Bg t<=1048576 ->
  ∃v:Nat,Qx k t (σ.map fun s=>(Bg s:Int))=some (v:Int)/\v<=Bg (Cy σ t)/\((v=Bg (Cy σ t))\/200<v):=by
 intro k
 induction k with
 | zero=>intro t h; have:=L7 t; omega
 | succ k ih=>
  intro t h ht
  have B:=G9 t
  have z:=Ix t.Args
  have l:∀x,Bg x<=1048576->Bg (Cy σ x)<=1099511627776:=fun x hx=>by
   have:=Aer σ M E A x
   have:Bg x*M<=1048576*1048576:=Nat.mul_le_mul hx u
   omega
  rw [Qx]
  rw [show (show Option Bool from bif t.Kind==(4:Int) then bif decide (t.Num>=(0:Int)) then some (decide (t.Num<((σ.map fun s=>(Bg s:Int)).length:Int))) else some false else some false)=some (isV σ t.Kind t.Num) by rw [List.length_map]; exact Aes σ t,Ad]
  cases f:isV σ t.Kind t.Num with
  | true=>
   obtain ⟨s,h1,h2,h3⟩:=Z2 f
   have hi:Af (σ.map fun s=>(Bg s:Int)) t.Num=some (Bg s:Int):=by
    have:=F0 h2
    rw [Ch (n:=t.Num.toNat) (by omega)]
    simp [h1]
   simp only [cond_true,hi,Ad,Z3 f h1]
   exact ⟨Bg s,rfl,Nat.le_refl _,.inl rfl⟩
  | false=>
   have y:=l t ht
   rw [Aeq f] at y ⊢
   simp only [cond_false]
   have g:Bg ⟨t.Kind,t.Num,t.Args.map (Cy σ)⟩=1+Cl (t.Args.map (Cy σ)):=by simp only [Bg]
   rw [g] at y ⊢
   refine Zg (fun v:Nat=>(v:Int)) (Er (fun (n,i)=>∃j:Nat,i=j/\j<=t.Args.length/\n=1+(Cl ((t.Args.map (Cy σ)).take j):Int)) (fun (_,i)=>t.Args.length-i.toNat)
    (fun n=>∃v:Nat,n=v/\v<=1+Cl (t.Args.map (Cy σ))/\(v=1+Cl (t.Args.map (Cy σ))\/200<v)) ⟨0,rfl,by omega,by simp [Cl]⟩ ?_ ?_)
   .rintro ⟨n,i⟩ ⟨j,rfl,hj,q⟩
    have q:n=_:=q
    subst q
    rcases Nat.lt_or_ge j t.Args.length with h' | h'
    .have hx:t.Args[j]? = some t.Args[j]:=Bn h'
     generalize t.Args[j]=x at hx
     have I:=Hm (Bo hx)
     obtain ⟨v,b,v2,v3⟩:=ih x (by omega) (by omega)
     have c:(t.Args.map (Cy σ))[j]? = some (Cy σ x):=by simp [hx]
     have e:Cl ((t.Args.map (Cy σ)).take (j+1))=Cl ((t.Args.map (Cy σ)).take j)+Bg (Cy σ x):=by rw [Cw c,Zy]; simp [Cl]
     have D:=Wn (t.Args.map (Cy σ)) (j+1)
     have G:Ac (1+(Cl ((t.Args.map (Cy σ)).take j):Int)+(v:Int))=((1+Cl ((t.Args.map (Cy σ)).take j)+v:Nat):Int):=by rw [Ac,Bz] <;> omega
     simp only [Ak (by omega:(j:Int)<(t.Args.length:Int)),cond_true,Ch rfl hx,Ad,b,Cz h' (by omega),G]
     by_cases hb:1+Cl ((t.Args.map (Cy σ)).take j)+v>200
     .rw [Ak (by omega)]
      exact .inr ⟨_,rfl,_,rfl,by omega,.inr hb⟩
     .rw [Al (by omega)]
      refine .inl ⟨_,rfl,⟨j+1,rfl,by omega,?_⟩,by simp; omega⟩
      have:v=Bg (Cy σ x):=by omega
      subst this
      rw [e]; omega
    .have:j=t.Args.length:=by omega
     subst this
     refine .inr ⟨_,by simp; rfl,1+Cl (t.Args.map (Cy σ)),?_,by omega,.inl rfl⟩
     rw [List.take_of_length_le (by simp)]; omega
   .rintro n ⟨v,rfl,b,v2⟩
    exact ⟨_,rfl,v,rfl,b,v2⟩
def Km (data:List Az) (t:Ai) (c:Int):Option (List Ai) :=
 if t.Kind=5 then
  match Af data t.Num with
  | none=>none
  | some x=>if (t.Args.length:Int)=x.Vars then
    match Af x.Cons c with
    | none=>none
    | some y=>if (y.Args.map (Cy t.Args)).all (fun a=>decide (Bg a<=200)) then some (y.Args.map (Cy t.Args)) else none
   else none
 else none
def okL (o:Option (List Ai)):List Ai×Bool:=match o with | none=>([],false) | some l=>(l,true)
theorem Ava {R:Type} (data:List Az) (t:Ai) (c:Int) (F:Az->Jw->Option R) (z:R) (X:Option R)
  (b:X=(match Af data t.Num with
   | none=>some z
   | some x=>match Af x.Cons c with
    | none=>some z
    | some y=>if t.Kind=5/\(t.Args.length:Int)=x.Vars then F x y else some z)):X=if t.Kind=5 then
  match Af data t.Num with
  | none=>some z
  | some x=>if (t.Args.length:Int)=x.Vars then
    match Af x.Cons c with
    | none=>some z
    | some y=>F x y
   else some z
 else some z:=by
 subst b
 by_cases h:t.Kind=5
 .rw [if_pos h]
  cases Af data t.Num with
  | none=>rfl
  | some x=>
   simp only
   by_cases h':(t.Args.length:Int)=x.Vars
   .rw [if_pos h']
    cases Af x.Cons c with
    | none=>rfl
    | some y=>simp [h,h']
   .rw [if_neg h']
    cases Af x.Cons c with
    | none=>rfl
    | some y=>simp [h']
 .rw [if_neg h]
  cases Af data t.Num with
  | none=>rfl
  | some x=>
   simp only
   cases Af x.Cons c with
   | none=>rfl
   | some y=>simp [h]
def Szv (data:List Az):Prop:=∀x∈data,∀y∈x.Cons,y.Args.length<=6/\∀a∈y.Args,Bg a<=200
theorem Ic.szv {data:List Az} (h:Ic data):Szv data:=by
 intro x hx y hy
 obtain ⟨d,hd⟩:=List.getElem?_of_mem hx
 have h1:=h.2.1 d x hd
 obtain ⟨_,c,b⟩:=h1.2.2.2.2.2 y hy
 refine ⟨c,fun a ha=>?_⟩
 have:=List.all_eq_true.1 b a ha
 unfold Iy at this
 rw [Bool.or_eq_true] at this
 rcases this with h' | h'
 .exact (Akz hd h1.2.1 h').2
 .simp only [C6,decide_eq_true_eq] at h'; exact h'.2
theorem Avb {t a:Ai} (ht:Bg t<=200) (ha:Bg a<=200):Bg (Cy t.Args a)<=40000:=by
 have h1:=Aer t.Args 200 (by omega) (fun s b=>by have:=Hm b; have:=G9 t; omega) a
 have:Bg a*200<=200*200:=Nat.mul_le_mul_right 200 ha
 omega
theorem Ala {data:List Az} (B:Szv data) (t:Ai) (ht:Bg t<=200) (c:Int):Qp data t c=some (okL (Km data t c)):=by
 have G:Qp data t c=_:=Ava data t c (fun x y=>(Am (S:=(Int×(List Ai))) (E:=(((List Ai)×Bool)⊕(List Ai))) (fun (v22,f)=>
   bif (decide (v22<(y.Args.length:Int))) then (
   (Af y.Args v22).bind fun v24=>
   (On (4000000) v24 t.Args).bind fun v26=>
   (M1 (4000000) v26).bind fun v28=>
   bif (decide (v28>(200:Int))) then some (.inr (.inl ([],false)))
   else (
   (B1 40 f [v26]).bind fun u=>
   some (.inl ((Ac (v22+1)),u))))
   else some (.inr (.inr f))) (0,[])).bind fun z=>
   match z with
   | .inl (l,k)=>some (l,k)
   | .inr q=>some (q,true)) ([],false) _ (by
  unfold Qp
  by_cases hk:t.Kind=5
  .simp only [De hk,cond_false]
   cases hx:Af data t.Num with
   | none=>
    rcases O3 hx with h | h
    .simp only [Ak h,cond_true,Ad]
    .by_cases h':t.Num<0
     .simp only [Ak h',cond_true,Ad]
     .simp only [Al h',Ak (show t.Num>=(data.length:Int) from h),cond_true,cond_false,Ad]
   | some x=>
    obtain ⟨a1,a2,_,_⟩:=F0 hx
    simp only [Al (by omega:¬t.Num<0),Al (by omega:¬t.Num>=(data.length:Int)),cond_false,Ad]
    by_cases b:(t.Args.length:Int)=x.Vars
    .simp only [De b,cond_false]
     cases hy:Af x.Cons c with
     | none=>
      rcases O3 hy with h | h
      .simp only [Ak h,cond_true,Ad]
      .by_cases h':c<0
       .simp only [Ak h',cond_true,Ad]
       .simp only [Al h',Ak (show c>=(x.Cons.length:Int) from h),cond_true,cond_false,Ad]
     | some y=>
      obtain ⟨b1,b2,_,_⟩:=F0 hy
      simp only [Al (by omega:¬c<0),Al (by omega:¬c>=(x.Cons.length:Int)),cond_false,Ad,hk,b,and_self,if_true]
      rfl
    .simp only [Db b,cond_true,Ad]
     cases hy:Af x.Cons c with
     | none=>rfl
     | some y=>simp [b]
  .simp only [Db hk,cond_true,Ad]
   cases hx:Af data t.Num with
   | none=>rfl
   | some x=>
    simp only
    cases hy:Af x.Cons c with
    | none=>rfl
    | some y=>simp [hk])
 rw [G]
 unfold Km
 by_cases hk:t.Kind=5
 .rw [if_pos hk,if_pos hk]
  cases hx:Af data t.Num with
  | none=>rfl
  | some x=>
   simp only
   by_cases b:(t.Args.length:Int)=x.Vars
   .rw [if_pos b,if_pos b]
    cases hy:Af x.Cons c with
    | none=>rfl
    | some y=>
     simp only
     obtain ⟨I,i⟩:=B x (F0 hx).2.2.2 y (F0 hy).2.2.2
     refine (Ox (rt:=(y.Args.map (Cy t.Args),true)) (rf:=([],false)) y.Args (fun a=>decide (Bg (Cy t.Args a)<=200)) (fun j=>((j:Int),(y.Args.take j).map (Cy t.Args))) rfl (by omega) ?_ ?_).trans ?_
     .intro j a ha h1 h2 h3
      have hj:=Df ha
      have A:=i a (Bo ha)
      have J:=Avb ht A
      simp only [h1,h2,h3,cond_true,Ad,Au7 4000000 a t.Args 200 (fun s D=>by have:=Hm D; have:=G9 t; omega) (by omega) (by omega) (by omega),Akr 4000000 (Cy t.Args a) (by omega) (by omega)]
      by_cases hb:Bg (Cy t.Args a)<=200
      .rw [Ak hb,Al (by omega)]
       refine ⟨fun _=>?_,fun h=>by cases h⟩
       rw [Cu (by simp; omega)]
       simp only [cond_false,Ad]
       rw [Cw ha]; simp
      .rw [Al hb,Ak (by omega)]
       exact ⟨(fun h=>by cases h),fun _=>⟨_,rfl,rfl⟩⟩
     .intro h1
      exact ⟨.inr (y.Args.map (Cy t.Args)),by simp,rfl⟩
     .rw [List.all_map]
      cases g:y.Args.all ((fun a=>decide (Bg a<=200)) ∘ Cy t.Args) with
      | true=>rw [if_pos rfl]; rw [show (y.Args.all fun a=>decide (Bg (Cy t.Args a)<=200))=true from g]; rfl
      | false=>rw [show (y.Args.all fun a=>decide (Bg (Cy t.Args a)<=200))=false from g]; rfl
   .rw [if_neg b,if_neg b]; rfl
 .rw [if_neg hk,if_neg hk]; rfl
end Go.Ab
namespace Go.Ab
open Go
theorem Avc {data:List Az} (B:Szv data) (t:Ai) (ht:Bg t<=200) (c:Int):Sx data t c=some (okL (Km data t c)):=by
 have D:=G9 t
 have u:=Ix t.Args
 unfold Sx Km
 by_cases hk:t.Kind=5
 .simp only [De hk,cond_false,if_pos hk]
  cases hx:Af data t.Num with
  | none=>
   rcases O3 hx with h | h
   .simp only [Ak h,cond_true,Ad,okL]
   .by_cases h':t.Num<0
    .simp only [Ak h',cond_true,Ad,okL]
    .simp only [Al h',Ak (show t.Num>=(data.length:Int) from h),cond_true,cond_false,Ad,okL]
  | some x=>
   obtain ⟨a1,a2,_,hxm⟩:=F0 hx
   simp only [Al (by omega:¬t.Num<0),Al (by omega:¬t.Num>=(data.length:Int)),cond_false,Ad]
   by_cases g:(t.Args.length:Int)=x.Vars
   .simp only [De g,cond_false,if_pos g]
    cases hy:Af x.Cons c with
    | none=>
     rcases O3 hy with h | h
     .simp only [Ak h,cond_true,Ad,okL]
     .by_cases h':c<0
      .simp only [Ak h',cond_true,Ad,okL]
      .simp only [Al h',Ak (show c>=(x.Cons.length:Int) from h),cond_true,cond_false,Ad,okL]
    | some y=>
     obtain ⟨b1,b2,_,k⟩:=F0 hy
     obtain ⟨I,b⟩:=B x hxm y k
     simp only [Al (by omega:¬c<0),Al (by omega:¬c>=(x.Cons.length:Int)),cond_false,Ad]
     rw [Li (n:=t.Args.length) (c:=t.Args.length) rfl rfl (by omega) (by omega) (by omega),Ad]
     refine D9 t.Args (fun j=>((j:Int),((t.Args.take j).map fun s=>(Bg s:Int))++List.replicate (t.Args.length-j) 0)) rfl (by omega) ?_ ?_
     .intro j s hj i h1 h2 h3
      have:=Hm (Bo i)
      obtain ⟨m,E⟩:∃m,t.Args.length-j=m+1:=⟨t.Args.length-j-1,by omega⟩
      have G:t.Args.length-(j+1)=m:=by omega
      have l:j=((t.Args.take j).map fun s=>(Bg s:Int)).length:=by simp; omega
      simp only [h1,h2,h3,cond_true,Ad,Au8 4000000 s (by omega) (by omega),E,G,List.replicate_succ,Aem _ _ _ (j:Int) j rfl l,Ael _ _ _ _ (j:Int) j rfl l,Cw i]
      simp
     .intro h1
      refine ⟨t.Args.map fun s=>(Bg s:Int),by simp,?_⟩
      have q:∀s∈t.Args,Bg s<=200:=fun s i=>by have:=Hm i; omega
      refine (Ox (rt:=(y.Args.map (Cy t.Args),true)) (rf:=([],false)) y.Args (fun a=>decide (Bg (Cy t.Args a)<=200)) (fun j=>(j:Int)) rfl (by omega) ?_ ?_).trans ?_
      .intro j a ha h1 h2 h3
       have A:=b a (Bo ha)
       obtain ⟨v,z,v2,v3⟩:=Au9 t.Args 200 (by omega) (by omega) q 4000000 a (by omega) (by omega)
       simp only [h1,h2,h3,cond_true,Ad,z]
       by_cases hb:Bg (Cy t.Args a)<=200
       .rw [Ak hb,Al (by omega)]
        exact ⟨fun _=>rfl,fun h=>by cases h⟩
       .rw [Al hb,Ak (by omega)]
        exact ⟨(fun h=>by cases h),fun _=>⟨_,rfl,rfl⟩⟩
      .intro h1
       refine ⟨.inr (),by simp,?_⟩
       simp only
       refine D9 y.Args (fun j=>((j:Int),(y.Args.take j).map (Cy t.Args))) rfl (by omega) ?_ ?_
       .intro j a hj ha h1 h2 h3
        have A:=b a (Bo ha)
        simp only [h1,h2,h3,cond_true,Ad,Au5 4000000 a t.Args 200 q (by omega) (by omega)]
        rw [Cu (by simp; omega),Ad,Cw ha]; simp
       .intro h1
        exact ⟨y.Args.map (Cy t.Args),by simp,rfl⟩
      .rw [List.all_map]
       cases f:y.Args.all ((fun a=>decide (Bg a<=200)) ∘ Cy t.Args) with
       | true=>rw [if_pos rfl]; rw [show (y.Args.all fun a=>decide (Bg (Cy t.Args a)<=200))=true from f]; rfl
       | false=>rw [show (y.Args.all fun a=>decide (Bg (Cy t.Args a)<=200))=false from f]; rfl
   .simp only [Db g,cond_true,Ad,if_neg g,okL]
 .simp only [Db hk,cond_true,Ad,if_neg hk,okL]
theorem Wr {data:List Az} {t:Ai} {c:Int} {l:List Ai} (h:Km data t c=some l) :
  ∃x y,t.Kind=5/\Af data t.Num=some x/\(t.Args.length:Int)=x.Vars/\Af x.Cons c=some y/\l=y.Args.map (Cy t.Args)/\∀a∈l,Bg a<=200:=by
 unfold Km at h
 by_cases hk:t.Kind=5
 .rw [if_pos hk] at h
  cases hx:Af data t.Num with
  | none=>rw [hx] at h; cases h
  | some x=>
   rw [hx] at h
   simp only at h
   by_cases f:(t.Args.length:Int)=x.Vars
   .rw [if_pos f] at h
    cases hy:Af x.Cons c with
    | none=>rw [hy] at h; cases h
    | some y=>
     rw [hy] at h
     simp only at h
     by_cases b:(y.Args.map (Cy t.Args)).all (fun a=>decide (Bg a<=200))=true
     .rw [if_pos b] at h
      cases h
      refine ⟨x,y,hk,rfl,f,hy,rfl,fun a ha=>?_⟩
      have:=List.all_eq_true.1 b a ha
      simpa using this
     .rw [if_neg b] at h; cases h
   .rw [if_neg f] at h; cases h
 .rw [if_neg hk] at h; cases h
def Gg (l:List Ai) (r:List Bool):List Ai:=((l.zip r).filter fun p=>!p.2).map (·.1)
def Iz (data:List Az) (t:Ai) (c:Int):Option (List Ai):=(Km data t c).map fun l=>Gg l (Gf data t.Num c)
theorem Aet {data:List Az} {t:Ai} {c:Int} {l:List Ai} (h:Km data t c=some l):(Gf data t.Num c).length=l.length:=by
 obtain ⟨x,y,_,hx,_,hy,rfl,_⟩:=Wr h
 unfold Gf
 simp only [hx,hy,List.length_map]
theorem Alb {l:List Ai} {r:List Bool} {j:Nat} {a:Ai} {b:Bool} (h1:l[j]? = some a) (h2:r[j]? = some b):Gg (l.take (j+1)) (r.take (j+1))=Gg (l.take j) (r.take j)++bif b then [] else [a]:=by
 unfold Gg
 have f:=Df h1
 have c:=Df h2
 rw [Cw h1,Cw h2,List.zip_append (by simp; omega)]
 cases b <;> simp
theorem Alc (l:List Ai) (r:List Bool):(Gg l r).length<=l.length:=by
 unfold Gg
 rw [List.length_map]
 refine Nat.le_trans (List.length_filter_le _ _) ?_
 rw [List.length_zip]; omega
def Kn (r:List Bool):List Int:=(r.zipIdx.filter fun p=>!p.1).map fun p=>(p.2:Int)
def Rh (r:List Bool):List Int:=(r.zipIdx.filter fun p=>p.1).map fun p=>(p.2:Int)
theorem Aeu {r:List Bool} {j:Nat} {b:Bool} (h:r[j]? = some b):(r.take (j+1)).zipIdx=(r.take j).zipIdx++[(b,j)]:=by
 have:=Df h
 rw [Cw h,List.zipIdx_append]; simp; omega
theorem Avd {data:List Az} (g:Szv data) (i:Ll data) (t:Ai) (ht:Bg t<=200) (c:Int) {l:List Ai} (f:Km data t c=some l):Vs data t c=some (Kn (Gf data t.Num c),Rh (Gf data t.Num c),true):=by
 unfold Vs
 have k:=Aet f
 obtain ⟨x,y,_,hx,_,hy,s,_⟩:=Wr f
 obtain ⟨h,_⟩:=g x (F0 hx).2.2.2 y (F0 hy).2.2.2
 have q:l.length<=6:=by rw [s]; simpa using h
 rw [Ala g t ht c,f,Ad]
 simp only [okL,Dj,cond_false,At8 data t.Num c i,Ad]
 generalize Gf data t.Num c=r at *
 refine D9 r (fun j=>((j:Int),Kn (r.take j),Rh (r.take j))) (by simp [Kn,Rh]) (by omega) ?_ ?_
 .intro j b hj hb h1 h2 h3
  have z:(Kn (r.take j)).length<=6:=by
   unfold Kn; rw [List.length_map]; refine Nat.le_trans (List.length_filter_le _ _) ?_; simp; omega
  have u:(Rh (r.take j)).length<=6:=by
   unfold Rh; rw [List.length_map]; refine Nat.le_trans (List.length_filter_le _ _) ?_; simp; omega
  simp only [h1,h2,h3,cond_true,Ad]
  rw [Cu (by simp; omega),Cu (by simp; omega)]
  unfold Kn Rh
  rw [Aeu hb]
  cases b <;> simp
 .intro h1
  exact ⟨(Kn r,Rh r),by simp,rfl⟩
theorem Ave {l:List Ai} {r:List Bool} (h:r.length=l.length):∀(j:Nat) (a:Int),(Kn r)[j]? = some a->∃x,Af l a=some x/\(Gg l r)[j]? = some x:=by
 intro j a ha
 have e:Gg l r=(r.zipIdx.filter fun p=>!p.1).map fun p=>(l[p.2]?).getD ⟨0,0,[]⟩:=by
  unfold Gg
  have key:∀n,n<=r.length->(((l.take n).zip (r.take n)).filter fun p=>!p.2).map (·.1)=((r.take n).zipIdx.filter fun p=>!p.1).map fun p=>(l[p.2]?).getD ⟨0,0,[]⟩:=by
   intro n
   induction n with
   | zero=>intro _; simp
   | succ n ih=>
    intro g
    have h1:l[n]? = some l[n]:=Bn (by omega)
    have h2:r[n]? = some r[n]:=Bn (by omega)
    have:=Alb h1 h2
    unfold Gg at this
    rw [this,ih (by omega),Aeu h2]
    cases r[n] <;> simp [h1]
  have:=key r.length (Nat.le_refl _)
  rw [List.take_of_length_le (by omega),List.take_of_length_le (Nat.le_refl _)] at this
  exact this
 unfold Kn at ha
 rw [List.getElem?_map] at ha
 cases hp:(r.zipIdx.filter fun p=>!p.1)[j]? with
 | none=>rw [hp] at ha; cases ha
 | some p=>
  rw [hp] at ha
  cases ha
  have c:=Bo hp
  rw [List.mem_filter] at c
  have b:r[p.2]? = some p.1:=List.mk_mem_zipIdx_iff_getElem?.1 c.1
  have f:=Df b
  have hx:l[p.2]? = some l[p.2]:=Bn (by omega)
  refine ⟨l[p.2],Ch rfl hx,?_⟩
  rw [e,List.getElem?_map,hp]
  simp [hx]
theorem Avf {l:List Ai} {r:List Bool} (h:r.length=l.length):(Kn r).length=(Gg l r).length:=by
 unfold Kn Gg
 simp only [List.length_map]
 have key:∀n,n<=r.length->(((l.take n).zip (r.take n)).filter fun p=>!p.2).length=((r.take n).zipIdx.filter fun p=>!p.1).length:=by
  intro n
  induction n with
  | zero=>intro _; simp
  | succ n ih=>
   intro b
   have h1:l[n]? = some l[n]:=Bn (by omega)
   have h2:r[n]? = some r[n]:=Bn (by omega)
   rw [Aeu h2,Cw h1,Cw h2,List.zip_append (by simp; omega),List.filter_append,List.length_append,ih (by omega),List.filter_append,List.length_append]
   cases r[n] <;> simp
 have:=key r.length (Nat.le_refl _)
 rw [List.take_of_length_le (by omega),List.take_of_length_le (Nat.le_refl _)] at this
 exact this.symm
theorem Z4 {data:List Az} (g:Szv data) (i:Ll data) (t:Ai) (ht:Bg t<=200) (c:Int):Sr data t c=some (okL (Iz data t c)):=by
 unfold Sr Iz
 rw [Ala g t ht c,Ad]
 cases hf:Km data t c with
 | none=>rfl
 | some l=>
  have f:=Aet hf
  obtain ⟨x,y,_,hx,_,hy,s,_⟩:=Wr hf
  obtain ⟨h,_⟩:=g x (F0 hx).2.2.2 y (F0 hy).2.2.2
  have q:l.length<=6:=by rw [s]; simpa using h
  simp only [okL,Dj,cond_false,Avd g i t ht c hf,Ad,Option.map_some]
  generalize Gf data t.Num c=r at *
  have k:=Avf f
  have u:=Alc l r
  refine D9 (Kn r) (fun j=>((j:Int),(Gg l r).take j)) (by simp) (by omega) ?_ ?_
  .intro j b hj hb h1 h2 h3
   obtain ⟨a,a1,a2⟩:=Ave f j b hb
   simp only [h1,h2,h3,cond_true,Ad,a1]
   rw [Cu (by simp; omega),Ad,Cw a2]
  .intro h1
   refine ⟨Gg l r,?_,rfl⟩
   simp only [h1]
   rw [List.take_of_length_le (by omega)]; rfl
theorem Ald {data:List Az} {t:Ai} {c:Int} {l:List Ai} (h:Iz data t c=some l):(∀a∈l,Bg a<=200)/\∃x,Af data t.Num=some x/\0<=c/\c<x.Cons.length:=by
 unfold Iz at h
 cases hf:Km data t c with
 | none=>rw [hf] at h; cases h
 | some m=>
  rw [hf] at h
  cases h
  obtain ⟨x,y,_,hx,_,hy,_,f⟩:=Wr hf
  refine ⟨fun a ha=>?_,x,hx,(F0 hy).1,(F0 hy).2.1⟩
  unfold Gg at ha
  obtain ⟨p,b,rfl⟩:=List.mem_map.1 ha
  exact f _ (List.of_mem_zip (List.mem_filter.1 b).1).1
end Go.Ab
namespace Go.Ab
open Go
mutual
def C4:A9->Nat
 | ⟨_,l⟩=>1+E8 l
def E8:List A9->Nat
 | []=>0
 | x::xs=>C4 x+E8 xs
end
theorem Fd (t:A9):C4 t=1+E8 t.Kids:=by cases t; simp only [C4]
theorem J1 {l:List A9} {a:A9} (h:a∈l):C4 a<=E8 l:=by
 induction l with
 | nil=>cases h
 | cons x xs ih=>
  simp only [E8]
  rcases List.mem_cons.1 h with rfl | h
  .omega
  .have:=ih h; omega
theorem Ko (l:List A9):l.length<=E8 l:=by
 induction l with
 | nil=>simp
 | cons x xs ih=>simp only [E8,List.length_cons]; have:=Fd x; omega
mutual
def F6 (data:List Az):A9->Ai->Option Nat
 | ⟨n,kids⟩,t=>
  if t.Kind=6 then (if n=0 then Ey data kids t.Args else none)
  else if t.Kind=7 then (if 0<=n/\n<=6/\kids.length=0 then some n.toNat else none)
  else if t.Kind=5 then (if n=0 then Hb data kids t else none)
  else if n=0/\kids.length=0 then some 0 else none
def Ey (data:List Az):List A9->List Ai->Option Nat
 | [],[]=>some 0
 | i::is,t::ts=>(F6 data i t).bind fun a=>(Ey data is ts).map (a + ·)
 | [],_::_=>none
 | _::_,[]=>none
def Hb (data:List Az):List A9->Ai->Option Nat
 | [],_=>some 0
 | ⟨n,kids⟩::es,t=>(Iz data t n).bind fun ts=>(Ey data kids ts).bind fun a=>(Hb data es t).map (1+a + ·)
end
theorem Aev (data:List Az) (i:A9) (t:Ai):F6 data i t=if t.Kind=6 then (if i.Num=0 then Ey data i.Kids t.Args else none)
  else if t.Kind=7 then (if 0<=i.Num/\i.Num<=6/\i.Kids.length=0 then some i.Num.toNat else none)
  else if t.Kind=5 then (if i.Num=0 then Hb data i.Kids t else none)
  else if i.Num=0/\i.Kids.length=0 then some 0 else none:=by cases i; simp only [F6]
theorem Z5 (data:List Az) (e:A9) (es:List A9) (t:Ai):Hb data (e::es) t=(Iz data t e.Num).bind fun ts=>(Ey data e.Kids ts).bind fun a=>(Hb data es t).map (1+a + ·):=by cases e; simp only [Hb]
theorem Z6 (data:List Az) (i:A9) (b:List A9) (t:Ai) (ts:List Ai):Ey data (i::b) (t::ts)=(F6 data i t).bind fun a=>(Ey data b ts).map (a + ·):=by simp only [Ey]
theorem Aew (data:List Az):∀(b:List A9) (ts:List Ai),ts.length≠b.length->Ey data b ts=none
 | [],[],h=>absurd rfl h
 | i::b,t::ts,h=>by rw [Z6,Aew data b ts (by simpa using h)]; cases F6 data i t <;> rfl
 | [],_::_,_=>by simp only [Ey]
 | _::_,[],_=>by simp only [Ey]
theorem Ale (data:List Az):∀(es:List A9) (t:Ai) (d:Nat),Hb data es t=some d->es.length<=d
 | [],_,_,_=>by simp
 | e::es,t,d,h=>by
  rw [Z5] at h
  cases h1:Iz data t e.Num with
  | none=>rw [h1] at h; cases h
  | some ts=>
   rw [h1,Ad] at h
   cases h2:Ey data e.Kids ts with
   | none=>rw [h2] at h; cases h
   | some a=>
    rw [h2,Ad] at h
    cases h3:Hb data es t with
    | none=>rw [h3] at h; cases h
    | some b=>
     rw [h3] at h
     cases h
     have:=Ale data es t b h3
     simp only [List.length_cons]; omega
def Fp (o:Option Nat):Int:=match o with | some d=>if d<=6 then (d:Int) else -1 | none => -1
theorem Aex {d:Nat} (h:d<=6):Fp (some d)=d:=by simp [Fp,h]
theorem Aey {d:Nat} (h:6<d):Fp (some d) = -1:=by simp only [Fp]; rw [if_neg (by omega)]
theorem Aez (o:Option Nat):(Fp o = -1/\∀d,o=some d->6<d)\/∃d,o=some d/\d<=6/\Fp o=d:=by
 cases o with
 | none=>exact .inl ⟨rfl,fun d h=>by cases h⟩
 | some d=>
  rcases Nat.lt_or_ge 6 d with h | h
  .exact .inl ⟨Aey h,fun e b=>by cases b; exact h⟩
  .exact .inr ⟨d,rfl,h,Aex h⟩
theorem Tk {o:Option Nat} (h:∀d,o=some d->6<d):Fp o = -1:=by
 cases o with
 | none=>rfl
 | some d=>exact Aey (h d rfl)
theorem L9 {α:Type} {l:List α} {j:Nat} {x:α} (h:l[j]? = some x):l.drop j=x::l.drop (j+1):=by
 have hj:=Df h
 rw [List.drop_eq_getElem_cons hj]
 rw [Bn hj] at h
 rw [Option.some.inj h]
end Go.Ab
namespace Go.Ab
open Go
theorem Avg {data:List Az} (V:Szv data) (X:Ll data) (h8:∀x∈data,x.Cons.length<=8):∀k:Nat,
  (∀(i:A9) (t:Ai),2*C4 i<=k->C4 i<=1048576->Bg t<=200->Oa k data t i=some (Fp (F6 data i t))) /\
  (∀(c:List A9) (ts:List Ai),2*E8 c+1<=k->E8 c<=1048576->(∀t∈ts,Bg t<=200)->Oh k data ts c=some (Fp (Ey data c ts))):=by
 intro k
 induction k with
 | zero=>exact ⟨fun i t h=>by have:=Fd i; omega,fun c ts h=>by omega⟩
 | succ k ih=>
  obtain ⟨a8,M⟩:=ih
  have J:∀o:Option Nat,o.map (0 + ·)=o:=by intro o; cases o <;> simp
  constructor
  .intro i t hk hi ht
   have ag:=Fd i
   have aa:=Ko i.Kids
   rw [Oa,Aev]
   by_cases Z:t.Kind=6
   .simp only [D8 Z,cond_true,if_pos Z]
    by_cases h0:i.Num=0
    .simp only [De h0,cond_false,if_pos h0]
     rw [M i.Kids t.Args (by omega) (by omega) (fun a ha=>by have:=Hm ha; have:=G9 t; omega)]
     rfl
    .simp only [Db h0,cond_true,if_neg h0]; rfl
   .simp only [Co Z,cond_false,if_neg Z]
    by_cases Y:t.Kind=7
    .simp only [D8 Y,cond_true,if_pos Y]
     by_cases a1:0<=i.Num
     .by_cases a2:i.Num<=6
      .by_cases a3:i.Kids.length=0
       .rw [Al (by omega),Al (by omega),Al (by omega),if_pos ⟨a1,a2,a3⟩,Aex (by omega)]
        simp; omega
       .rw [Al (by omega),Al (by omega),Ak (by omega),if_neg (fun h=>a3 h.2.2)]; rfl
      .rw [Al (by omega),Ak (by omega),if_neg (fun h=>a2 h.2.1)]; rfl
     .rw [Ak (by omega),if_neg (fun h=>a1 h.1)]; rfl
    .simp only [Co Y,cond_false,if_neg Y]
     by_cases h5:t.Kind=5
     .simp only [D8 h5,cond_true,if_pos h5]
      by_cases h0:i.Num=0
      .simp only [De h0,cond_false,if_pos h0,Ad]
       by_cases N:(i.Kids.length:Int)>6
       .rw [Ak N]
        refine congrArg some (Tk fun d hd=>?_).symm
        have:=Ale data _ _ _ hd
        omega
       rw [Al N]
       simp only [cond_false]
       have key:∀(m j acc:Nat),j+m=i.Kids.length->acc<=6->∃z,Am (S:=(Int×Int)) (E:=(Int⊕Int)) (fun (G,D)=>
         bif (decide (D<(i.Kids.length:Int))) then (
         (Af i.Kids D).bind fun v12=>
         (show Option Bool from
         bif (decide (v12.Num<(0:Int))) then some true
         else some (decide (v12.Num>=(8:Int)))).bind fun a6=>
         bif a6 then some (.inr (.inl (-1)))
         else (
         (Sr data t v12.Num).bind fun L=>
         bif (!L.2) then some (.inr (.inl (-1)))
         else (
         (Oh k data L.1 v12.Kids).bind fun B=>
         bif (decide (B<(0:Int))) then some (.inr (.inl (-1)))
         else (
         bif (decide ((Ac ((Ac (G+1))+B))>(6:Int))) then some (.inr (.inl (-1)))
         else some (.inl ((Ac (G+(Ac (1+B)))),(Ac (D+1))))))))
         else some (.inr (.inr G))) ((acc:Int),(j:Int))=some z/\(match z with | .inl v=>v | .inr v=>v)=Fp ((Hb data (i.Kids.drop j) t).map (acc + ·)):=by
        intro m
        induction m with
        | zero=>
         intro j acc hj f
         have:j=i.Kids.length:=by omega
         subst this
         refine ⟨.inr (acc:Int),Fe (by simp),?_⟩
         simp [Hb,Fp,f]
        | succ m s=>
         intro j acc hj f
         have g:i.Kids[j]? = some i.Kids[j]:=Bn (by omega)
         generalize i.Kids[j]=e at g
         have ab:=J1 (Bo g)
         have ah:=Fd e
         rw [L9 g,Z5]
         have hb:(bif decide (e.Num<(0:Int)) then some true else some (decide (e.Num>=(8:Int))))=some (decide (e.Num<0\/8<=e.Num)):=by
          by_cases g1:e.Num<0 <;> by_cases g2:8<=e.Num <;> simp [g1,g2]
         cases hp:Iz data t e.Num with
         | none=>
          refine ⟨.inl (-1),Fe ?_,by simp [Fp]⟩
          simp only [Ak (by omega:(j:Int)<(i.Kids.length:Int)),cond_true,Ch rfl g,Ad,Z4 V X t ht e.Num,hp,okL,Bool.not_false,hb]
          cases decide (e.Num<0\/8<=e.Num) <;> rfl
         | some ts=>
          obtain ⟨pz,x,a7,ae,ad⟩:=Ald hp
          have af:=h8 x (F0 a7).2.2.2
          have q:=M e.Kids ts (by omega) (by omega) pz
          have hb':decide (e.Num<0\/8<=e.Num)=false:=Al (by omega)
          rcases Aez (Ey data e.Kids ts) with ⟨A,U⟩ | ⟨a,A,U,c3⟩
          .rw [A] at q
           refine ⟨.inl (-1),Fe ?_,?_⟩
           .simp only [Ak (by omega:(j:Int)<(i.Kids.length:Int)),cond_true,Ch rfl g,Ad,Z4 V X t ht e.Num,hp,okL,Dj,cond_false,hb,hb',q]; rfl
           .refine (Tk fun d h=>?_).symm
            rw [Ad] at h
            cases ha:Ey data e.Kids ts with
            | none=>rw [ha] at h; cases h
            | some a=>
             rw [ha,Ad] at h
             have:=U a ha
             cases y:Hb data (i.Kids.drop (j+1)) t with
             | none=>rw [y] at h; cases h
             | some b=>rw [y] at h; simp at h; omega
          .rw [c3] at q
           have R:Ac (Ac ((acc:Int)+1)+(a:Int))=((acc+(1+a):Nat):Int):=by
            rw [show Ac ((acc:Int)+1)=((acc+1:Nat):Int) by rw [Ac,Bz] <;> omega,Ac,Bz] <;> omega
           have ac:Ac ((acc:Int)+Ac (1+(a:Int)))=((acc+(1+a):Nat):Int):=by
            rw [show Ac (1+(a:Int))=((1+a:Nat):Int) by rw [Ac,Bz] <;> omega,Ac,Bz] <;> omega
           by_cases I:acc+(1+a)<=6
           .obtain ⟨z,l,z2⟩:=s (j+1) (acc+(1+a)) (by omega) I
            refine ⟨z,?_,?_⟩
            .rw [I6 (s':=(((acc+(1+a):Nat):Int),((j+1:Nat):Int)))]
             .exact l
             .simp only [Ak (by omega:(j:Int)<(i.Kids.length:Int)),cond_true,Ch rfl g,Ad,Z4 V X t ht e.Num,hp,okL,Dj,cond_false,hb,hb',q,R,ac,Al (by omega:¬(a:Int)<0),Al (by omega:¬((acc+(1+a):Nat):Int)>6),Cz (show j<i.Kids.length by omega) (by omega)]
            .have J:∀o:Option Nat,(((some a:Option Nat).bind fun a=>o.map (1+a + ·)).map (acc + ·))=o.map (acc+(1+a) + ·):=by
              intro o; cases o <;> simp [Nat.add_assoc]
             rw [Ad,A,J]
             exact z2
           .refine ⟨.inl (-1),Fe ?_,?_⟩
            .simp only [Ak (by omega:(j:Int)<(i.Kids.length:Int)),cond_true,Ch rfl g,Ad,Z4 V X t ht e.Num,hp,okL,Dj,cond_false,hb,hb',q,R,Al (by omega:¬(a:Int)<0),Ak (by omega:((acc+(1+a):Nat):Int)>6)]
            .refine (Tk fun d h=>?_).symm
             rw [Ad,A,Ad] at h
             cases y:Hb data (i.Kids.drop (j+1)) t with
             | none=>rw [y] at h; cases h
             | some b=>rw [y] at h; simp at h; omega
       obtain ⟨z,l,z2⟩:=key i.Kids.length 0 0 (by omega) (by omega)
       have l:Am _ ((0:Int),(0:Int))=some z:=l
       erw [l,Ad]
       rw [List.drop_zero,J] at z2
       rw [<-z2]
       cases z <;> rfl
      .simp only [Db h0,cond_true,if_neg h0]; rfl
     .simp only [Co h5,cond_false,if_neg h5]
      by_cases h0:i.Num=0
      .simp only [De h0,cond_false]
       by_cases a3:i.Kids.length=0
       .rw [if_pos ⟨h0,a3⟩,Al (by omega)]; rfl
       .rw [if_neg (fun h=>a3 h.2),Ak (by omega)]; rfl
      .simp only [Db h0,cond_true]
       rw [if_neg (fun h=>h0 h.1)]; rfl
  .intro c ts hk hi ht
   have aa:=Ko c
   rw [Oh]
   by_cases hl:ts.length=c.length
   .rw [De (by omega)]
    simp only [cond_false]
    have key:∀(m j acc:Nat),j+m=c.length->acc<=6->∃z,Am (S:=(Int×Int)) (E:=(Int⊕Int)) (fun (v4,v5)=>
      bif (decide (v5<(ts.length:Int))) then (
      (Af ts v5).bind fun v6=>
      (Af c v5).bind fun v7=>
      (Oa k data v6 v7).bind fun v8=>
      bif (decide (v8<(0:Int))) then some (.inr (.inl (-1)))
      else (
      bif (decide ((Ac (v4+v8))>(6:Int))) then some (.inr (.inl (-1)))
      else some (.inl ((Ac (v4+v8)),(Ac (v5+1))))))
      else some (.inr (.inr v4))) ((acc:Int),(j:Int))=some z/\(match z with | .inl v=>v | .inr v=>v)=Fp ((Ey data (c.drop j) (ts.drop j)).map (acc + ·)):=by
     intro m
     induction m with
     | zero=>
      intro j acc hj f
      have:j=ts.length:=by omega
      subst this
      refine ⟨.inr (acc:Int),Fe (by simp),?_⟩
      rw [List.drop_of_length_le (by omega),List.drop_of_length_le (by omega)]
      simp [Ey,Fp,f]
     | succ m s=>
      intro j acc hj f
      have g:c[j]? = some c[j]:=Bn (by omega)
      generalize c[j]=e at g
      have hu:ts[j]? = some ts[j]:=Bn (by omega)
      generalize ts[j]=u at hu
      have ab:=J1 (Bo g)
      rw [L9 g,L9 hu,Z6]
      have q:=a8 e u (by omega) (by omega) (ht u (Bo hu))
      rcases Aez (F6 data e u) with ⟨A,U⟩ | ⟨a,A,U,c3⟩
      .rw [A] at q
       refine ⟨.inl (-1),Fe ?_,?_⟩
       .simp only [Ak (by omega:(j:Int)<(ts.length:Int)),cond_true,Ch rfl g,Ch rfl hu,Ad,q]; rfl
       .refine (Tk fun d h=>?_).symm
        cases ha:F6 data e u with
        | none=>rw [ha] at h; cases h
        | some a=>
         rw [ha,Ad] at h
         have:=U a ha
         cases y:Ey data (c.drop (j+1)) (ts.drop (j+1)) with
         | none=>rw [y] at h; cases h
         | some b=>rw [y] at h; simp at h; omega
      .rw [c3] at q
       have R:Ac ((acc:Int)+(a:Int))=((acc+a:Nat):Int):=by rw [Ac,Bz] <;> omega
       by_cases I:acc+a<=6
       .obtain ⟨z,l,z2⟩:=s (j+1) (acc+a) (by omega) I
        refine ⟨z,?_,?_⟩
        .rw [I6 (s':=(((acc+a:Nat):Int),((j+1:Nat):Int)))]
         .exact l
         .simp only [Ak (by omega:(j:Int)<(ts.length:Int)),cond_true,Ch rfl g,Ch rfl hu,Ad,cond_false,q,R,Al (by omega:¬(a:Int)<0),Al (by omega:¬((acc+a:Nat):Int)>6),Cz (show j<c.length by omega) (by omega)]
        .have J:∀o:Option Nat,(((some a:Option Nat).bind fun a=>o.map (a + ·)).map (acc + ·))=o.map (acc+a + ·):=by
          intro o; cases o <;> simp [Nat.add_assoc]
         rw [A,J]
         exact z2
       .refine ⟨.inl (-1),Fe ?_,?_⟩
        .simp only [Ak (by omega:(j:Int)<(ts.length:Int)),cond_true,Ch rfl g,Ch rfl hu,Ad,cond_false,q,R,Al (by omega:¬(a:Int)<0),Ak (by omega:((acc+a:Nat):Int)>6)]
        .refine (Tk fun d h=>?_).symm
         rw [A,Ad] at h
         cases y:Ey data (c.drop (j+1)) (ts.drop (j+1)) with
         | none=>rw [y] at h; cases h
         | some b=>rw [y] at h; simp at h; omega
    obtain ⟨z,l,z2⟩:=key c.length 0 0 (by omega) (by omega)
    have l:Am _ ((0:Int),(0:Int))=some z:=l
    rw [l,Ad]
    rw [List.drop_zero,List.drop_zero,J] at z2
    rw [<-z2]
    cases z <;> rfl
   .rw [Db (by omega),Aew data c ts hl]; rfl
theorem Ic.cons8 {data:List Az} (h:Ic data):∀x∈data,x.Cons.length<=8:=by
 intro x hx
 obtain ⟨d,hd⟩:=List.getElem?_of_mem hx
 exact (h.2.1 d x hd).2.2.2.1
theorem Z7 {data:List Az} (b:Ic data) (c:Ll data) (t:Ai) (i:A9) (ht:Bg t<=200) (hi:C4 i<=1048576):Lb data t i=some (Fp (F6 data i t)):=by
 unfold Lb
 rw [(Avg b.szv c b.cons8 4000000).1 i t (by omega) hi ht]; rfl
end Go.Ab
namespace Go.Ab
open Go
def I64 (n:Int):Prop:= -9223372036854775808<=n/\n<=9223372036854775807
def ti (n:Int):List Int:=(Lib.itoa n).map fun c=>(c.toNat:Int)
def M9 (c:Int):Bool:=c==45||(decide (48<=c)&&decide (c<=57))
theorem Tl {d:Nat} (h:d<10):(UInt8.ofNat (48+d)).toNat=48+d:=by
 rw [UInt8.toNat_ofNat']; omega
theorem Z8:∀(n u:Nat),u<=n->∀c∈Lib.decDigits u,48<=c.toNat/\c.toNat<=57:=by
 intro n
 induction n with
 | zero=>
  intro u hu c hc
  rw [Lib.decDigits,dif_pos (by omega)] at hc
  simp only [List.mem_singleton] at hc
  subst hc; rw [Tl (by omega)]; omega
 | succ n ih=>
  intro u hu c hc
  rw [Lib.decDigits] at hc
  split at hc
  .simp only [List.mem_singleton] at hc
   subst hc; rw [Tl (by omega)]; omega
  .rcases List.mem_append.1 hc with h | h
   .exact ih (u / 10) (by omega) c h
   .simp only [List.mem_singleton] at h
    subst h; rw [Tl (by omega)]; omega
def Z9 (l:List UInt8):Nat:=l.foldl (fun a c=>10*a+(c.toNat-48)) 0
theorem Alf:∀(n u:Nat),u<=n->Z9 (Lib.decDigits u)=u:=by
 intro n
 induction n with
 | zero=>
  intro u hu
  rw [Lib.decDigits,dif_pos (by omega)]
  simp only [Z9,List.foldl_cons,List.foldl_nil]
  rw [Tl (by omega)]; omega
 | succ n ih=>
  intro u hu
  rw [Lib.decDigits]
  split
  .simp only [Z9,List.foldl_cons,List.foldl_nil]
   rw [Tl (by omega)]; omega
  .have:=ih (u / 10) (by omega)
   unfold Z9 at *
   rw [List.foldl_append,this]
   simp only [List.foldl_cons,List.foldl_nil]
   rw [Tl (by omega)]; omega
theorem Alg {u v:Nat} (h:Lib.decDigits u=Lib.decDigits v):u=v:=by
 rw [<-Alf u u (Nat.le_refl _),h,Alf v v (Nat.le_refl _)]
theorem Avh (u:Nat):Lib.decDigits u≠[]:=by
 rw [Lib.decDigits]; split <;> simp
theorem Avi {m n:Int} (h:Lib.itoa m=Lib.itoa n):m=n:=by
 have b:∀u v:Nat,45::Lib.decDigits u≠Lib.decDigits v:=by
  intro u v e
  have:=Z8 v v (Nat.le_refl _) 45 (by rw [<-e]; simp)
  exact absurd this (by decide)
 unfold Lib.itoa at h
 split at h <;> split at h
 .have:=Alg (List.cons.inj h).2; omega
 .exact absurd h (b _ _)
 .exact absurd h.symm (b _ _)
 .have:=Alg h; omega
theorem Gr (n:Int):∀c∈ti n,M9 c=true:=by
 intro c hc
 unfold ti at hc
 obtain ⟨b,hb,rfl⟩:=List.mem_map.1 hc
 have key:b=45\/(48<=b.toNat/\b.toNat<=57):=by
  unfold Lib.itoa at hb
  split at hb
  .rcases List.mem_cons.1 hb with h | h
   .exact .inl h
   .exact .inr (Z8 _ _ (Nat.le_refl _) b h)
  .exact .inr (Z8 _ _ (Nat.le_refl _) b hb)
 unfold M9
 rcases key with rfl | ⟨h1,h2⟩
 .decide
 .rw [Bool.or_eq_true,C6,decide_eq_true_eq,decide_eq_true_eq]; right; omega
theorem Ae0 (n:Int):ti n≠[]:=by
 unfold ti Lib.itoa
 split
 .simp
 .simpa using Avh _
theorem Ri {m n:Int} (h:ti m=ti n):m=n:=by
 unfold ti at h
 have:∀l m:List UInt8,l.map (fun c=>(c.toNat:Int))=m.map (fun c=>(c.toNat:Int))->l=m:=by
  intro l
  induction l with
  | nil=>intro m h; cases m with | nil=>rfl | cons=>simp at h
  | cons x xs ih=>
   intro m h
   cases m with
   | nil=>simp at h
   | cons y ys=>
    simp only [List.map_cons,List.cons.injEq] at h
    rw [ih ys h.2,UInt8.toNat.inj (by omega:x.toNat=y.toNat)]
 exact Avi (this _ _ h)
theorem Lm {n:Int} (h:I64 n):(ti n).length<=21:=by
 unfold ti; rw [List.length_map]; exact Lib.itoa_length_le n h.1 h.2
def O5 (X:List Int):Prop:=∀c m,X=c::m->M9 c=false/\c≠40
def J2 (X:List Int):Prop:=∀c m,X=c::m->M9 c=false
theorem Na:∀(a b X Y:List Int),(∀c∈a,M9 c=true)->(∀c∈b,M9 c=true)->J2 X->J2 Y->a++X=b++Y->a=b/\X=Y
 | [],[],_,_,_,_,_,_,h=>⟨rfl,h⟩
 | [],y::b,X,Y,_,hb,g,_,h=>by
  have:=g y (b++Y) h
  rw [hb y (by simp)] at this; cases this
 | x::a,[],X,Y,ha,_,_,f,h=>by
  have:=f x (a++X) h.symm
  rw [ha x (by simp)] at this; cases this
 | x::a,y::b,X,Y,ha,hb,g,f,h=>by
  simp only [List.cons_append,List.cons.injEq] at h
  obtain ⟨j,i⟩:=Na a b X Y (fun c hc=>ha c (by simp [hc])) (fun c hc=>hb c (by simp [hc])) g f h.2
  exact ⟨by rw [h.1,j],i⟩
mutual
def wx:A9->List Int
 | ⟨n,kids⟩=>ti n++(if kids.length=0 then [] else 40::(wxs kids++[41]))
def wxs:List A9->List Int
 | []=>[]
 | x::xs=>wx x++44::wxs xs
end
theorem Ae1 (i:A9):wx i=ti i.Num++(if i.Kids.length=0 then [] else 40::(wxs i.Kids++[41])):=by cases i; simp only [wx]
theorem Alh (l m:List A9):wxs (l++m)=wxs l++wxs m:=by
 induction l with
 | nil=>simp [wxs]
 | cons x xs ih=>simp only [List.cons_append,wxs,ih,List.append_assoc]
theorem Ali (b:List A9) (X:List Int) (f:O5 X):J2 ((if b.length=0 then [] else 40::(wxs b++[41]))++X):=by
 intro c m h
 by_cases hk:b.length=0
 .rw [if_pos hk,List.nil_append] at h
  exact (f c m h).1
 .rw [if_neg hk,List.cons_append] at h
  cases h; decide
theorem Alj (X:List Int):O5 (44::X):=by intro c m h; cases h; exact ⟨by decide,by decide⟩
theorem Alk:O5 []:=by intro c m h; cases h
mutual
theorem Ae2:∀(i j:A9) (X Y:List Int),O5 X->O5 Y->wx i++X=wx j++Y->i=j/\X=Y
 | ⟨n,k⟩,⟨n',k'⟩,X,Y,hX,hY,h=>by
  simp only [wx,List.append_assoc] at h
  obtain ⟨e1,e2⟩:=Na _ _ _ _ (Gr n) (Gr n') (Ali k X hX) (Ali k' Y hY) h
  have e1:=Ri e1
  subst e1
  by_cases hk:k.length=0
  .by_cases hk':k'.length=0
   .rw [if_pos hk,if_pos hk'] at e2
    rw [List.length_eq_zero_iff.1 hk,List.length_eq_zero_iff.1 hk']
    exact ⟨rfl,e2⟩
   .rw [if_pos hk,if_neg hk',List.nil_append,List.cons_append] at e2
    exact absurd rfl (hX _ _ e2).2
  .by_cases hk':k'.length=0
   .rw [if_neg hk,if_pos hk',List.nil_append,List.cons_append] at e2
    exact absurd rfl (hY _ _ e2.symm).2
   .rw [if_neg hk,if_neg hk',List.cons_append,List.cons_append,List.append_assoc,List.append_assoc] at e2
    obtain ⟨e3,e4⟩:=All k k' X Y hX hY (List.cons.inj e2).2
    rw [e3]; exact ⟨rfl,e4⟩
theorem All:∀(l m:List A9) (X Y:List Int),O5 X->O5 Y->wxs l++([41]++X)=wxs m++([41]++Y)->l=m/\X=Y
 | [],[],X,Y,_,_,h=>by
  simp only [wxs,List.nil_append,List.cons_append,List.cons.injEq,true_and] at h
  exact ⟨rfl,h⟩
 | [],y::ys,X,Y,_,_,h=>by
  exfalso
  cases ht:ti y.Num with
  | nil=>exact Ae0 _ ht
  | cons c r=>
   have hc:=Gr y.Num c (by rw [ht]; simp)
   simp only [wxs,Ae1 y,ht,List.nil_append,List.cons_append,List.cons.injEq] at h
   rw [<-h.1] at hc; exact absurd hc (by decide)
 | x::xs,[],X,Y,_,_,h=>by
  exfalso
  cases ht:ti x.Num with
  | nil=>exact Ae0 _ ht
  | cons c r=>
   have hc:=Gr x.Num c (by rw [ht]; simp)
   simp only [wxs,Ae1 x,ht,List.nil_append,List.cons_append,List.cons.injEq] at h
   rw [h.1] at hc; exact absurd hc (by decide)
 | x::xs,y::ys,X,Y,hX,hY,h=>by
  simp only [wxs,List.append_assoc,List.cons_append] at h
  obtain ⟨e1,e2⟩:=Ae2 x y _ _ (Alj _) (Alj _) h
  obtain ⟨e3,e4⟩:=All xs ys X Y hX hY (by simpa using e2)
  exact ⟨by rw [e1,e3],e4⟩
end
mutual
def iR:A9->Prop
 | ⟨n,l⟩=>I64 n/\iRs l
def iRs:List A9->Prop
 | []=>True
 | x::xs=>iR x/\iRs xs
end
theorem Avj (i:A9):iR i↔I64 i.Num/\iRs i.Kids:=by cases i; simp only [iR]
theorem Avk {l:List A9} (h:iRs l) {a:A9} (ha:a∈l):iR a:=by
 induction l with
 | nil=>cases ha
 | cons x xs ih=>
  simp only [iRs] at h
  rcases List.mem_cons.1 ha with rfl | ha
  .exact h.1
  .exact ih h.2 ha
mutual
theorem Ae3:∀i:A9,iR i->(wx i).length+1<=24*C4 i
 | ⟨n,l⟩,h=>by
  simp only [iR] at h
  have h1:=Aaa l h.2
  have h2:=Lm h.1
  simp only [wx,C4,List.length_append]
  by_cases hl:l.length=0
  .rw [if_pos hl]; simp; omega
  .rw [if_neg hl]; simp; omega
theorem Aaa:∀l:List A9,iRs l->(wxs l).length<=24*E8 l
 | [],_=>by simp [wxs,E8]
 | x::xs,h=>by
  simp only [iRs] at h
  have h1:=Ae3 x h.1
  have h2:=Aaa xs h.2
  have h3:=Fd x
  simp only [wxs,E8,List.length_append,List.length_cons]; omega
end
theorem Alm (l m:List A9):E8 (l++m)=E8 l+E8 m:=by
 induction l with
 | nil=>simp [E8]
 | cons x xs ih=>simp only [List.cons_append,E8,ih]; omega
theorem Avl (l m:List A9):iRs (l++m)↔iRs l/\iRs m:=by
 induction l with
 | nil=>simp [iRs]
 | cons x xs ih=>simp only [List.cons_append,iRs,ih,and_assoc]
theorem Ae4 {n:Int} (h:I64 n):Mq n=some ⟨(Lib.itoa n).toArray⟩:=by unfold Mq; rw [if_pos (show _/\_ from h)]
theorem Avm (n:Int):K2 ⟨(Lib.itoa n).toArray⟩=ti n:=by unfold K2 ti; simp
theorem Avn:∀(k:Nat) (i:A9) (b:List Int),C4 i<=k->iR i->b.length+24*C4 i<=1099511627776->Qi k i b=some (b++wx i):=by
 intro k
 induction k with
 | zero=>intro i b h; have:=Fd i; omega
 | succ k ih=>
  intro i b h c hb
  have hi:=Fd i
  have A:=Ko i.Kids
  have c:=(Avj i).1 c
  have D:=Lm c.1
  rw [Qi,Ae1]
  simp only [G4,Ae4 c.1,Ad,Fw,Ta,Avm]
  rw [Cu (by omega)]
  simp only [Ad]
  by_cases h0:i.Kids.length=0
  .rw [Al (by omega),if_pos h0]; simp
  .rw [Ak (by omega),if_neg h0]
   simp only [cond_true,Sw,Ta,Ad]
   rw [Cu (by simp; omega),Ad]
   have g:=Aaa i.Kids c.2
   have l:∀j,(wxs (i.Kids.take j)).length<=24*E8 i.Kids:=fun j=>by
    have:=Alh (i.Kids.take j) (i.Kids.drop j)
    rw [List.take_append_drop] at this
    rw [this,List.length_append] at g; omega
   refine D9 i.Kids (fun j=>((j:Int),b++ti i.Num++[40]++wxs (i.Kids.take j))) (by simp [wxs]) (by omega) ?_ ?_
   .intro j x hj hx h1 h2 h3
    have B:=J1 (Bo hx)
    have f:=Avk c.2 (Bo hx)
    have z:=Ae3 x f
    have q:=l (j+1)
    have e:wxs (i.Kids.take (j+1))=wxs (i.Kids.take j)++(wx x++[44]):=by rw [Cw hx,Alh]; simp [wxs]
    rw [e] at q
    simp only [List.length_append,List.length_cons,List.length_nil] at q
    simp only [h1,h2,h3,cond_true,Ad]
    have y:E8 (i.Kids.take j)+C4 x<=E8 i.Kids:=by
     have s:=Alm (i.Kids.take (j+1)) (i.Kids.drop (j+1))
     rw [List.take_append_drop,Cw hx,Alm] at s
     simp only [E8] at s; omega
    have u:(wxs (i.Kids.take j)).length<=24*E8 (i.Kids.take j):=Aaa _ (by
     have:=(Avl (i.Kids.take j) (i.Kids.drop j)).1 (by rw [List.take_append_drop]; exact c.2)
     exact this.1)
    rw [ih x _ (by omega) f (by simp; omega)]
    simp only [Ad]
    rw [Cu (by simp; omega),e]
    simp
   .intro h1
    refine ⟨b++ti i.Num++[40]++wxs i.Kids,by simp,?_⟩
    rw [Cu (by simp; omega)]
    simp
def Ie (v:Int) (i:A9):List Int:=118::(ti v++58::wx i)
def Ma (v:Int) (i:A9):ByteArray:=⟨(Dy (Ie v i)).toArray⟩
mutual
theorem Aln:∀i:A9,∀c∈wx i,0<=c/\c<256
 | ⟨n,l⟩,c,h=>by
  simp only [wx,List.mem_append] at h
  rcases h with h | h
  .have:=Gr n c h
   simp only [M9,Bool.or_eq_true,C6,beq_iff_eq,decide_eq_true_eq] at this
   omega
  .by_cases hl:l.length=0
   .rw [if_pos hl] at h; cases h
   .rw [if_neg hl] at h
    simp only [List.mem_cons,List.mem_append,List.not_mem_nil,or_false] at h
    rcases h with h | h | h
    .omega
    .exact Alo l c h
    .omega
theorem Alo:∀l:List A9,∀c∈wxs l,0<=c/\c<256
 | [],c,h=>by simp [wxs] at h
 | x::xs,c,h=>by
  simp only [wxs,List.mem_append,List.mem_cons] at h
  rcases h with h | h | h
  .exact Aln x c h
  .omega
  .exact Alo xs c h
end
theorem Aab (v:Int) (i:A9):∀c∈Ie v i,0<=c/\c<256:=by
 intro c h
 simp only [Ie,List.mem_cons,List.mem_append] at h
 rcases h with h | h | h | h
 .omega
 .have:=Gr v c h
  simp only [M9,Bool.or_eq_true,C6,beq_iff_eq,decide_eq_true_eq] at this
  omega
 .omega
 .exact Aln i c h
theorem Ae5:∀l m:List Int,(∀c∈l,0<=c/\c<256)->(∀c∈m,0<=c/\c<256)->Dy l=Dy m->l=m
 | [],[],_,_,_=>rfl
 | [],_::_,_,_,h=>by simp [Dy] at h
 | _::_,[],_,_,h=>by simp [Dy] at h
 | x::xs,y::ys,h1,h2,h=>by
  simp only [Dy,List.map_cons,List.cons.injEq] at h
  have hx:=h1 x (by simp)
  have hy:=h2 y (by simp)
  have e:x.toNat=y.toNat:=by
   have:=congrArg UInt8.toNat h.1
   rw [UInt8.toNat_ofNat',UInt8.toNat_ofNat'] at this
   omega
  rw [Ae5 xs ys (fun c hc=>h1 c (by simp [hc])) (fun c hc=>h2 c (by simp [hc])) h.2,show x=y by omega]
theorem Avo {v w:Int} {i j:A9} (h:Ma v i=Ma w j):v=w/\i=j:=by
 unfold Ma at h
 have h1:(Dy (Ie v i)).toArray=(Dy (Ie w j)).toArray:=by injection h
 have h2:Dy (Ie v i)=Dy (Ie w j):=by simpa using congrArg Array.toList h1
 have h3:=Ae5 _ _ (Aab v i) (Aab w j) h2
 simp only [Ie,List.cons.injEq,true_and] at h3
 have b:∀X:List Int,J2 (58::X):=fun X c m e=>by cases e; decide
 obtain ⟨k,g⟩:=Na _ _ _ _ (Gr v) (Gr w) (b _) (b _) h3
 obtain ⟨f,_⟩:=Ae2 i j [] [] Alk Alk (by simpa using (List.cons.inj g).2)
 exact ⟨Ri k,f⟩
theorem Avp (l:List UInt8):K2 ⟨l.toArray⟩=l.map fun b=>(b.toNat:Int):=by unfold K2; simp
theorem Alp (v:Int) (i:A9) (c:I64 v) (g:iR i) (hi:C4 i<=1048576):N7 v i=some (Ma v i):=by
 have l:=Lm c
 have f:(Lib.itoa v).length=(ti v).length:=by unfold ti; simp
 unfold N7
 have k:Ep (ByteArray.mk #[118]) ⟨(Lib.itoa v).toArray⟩=some ⟨(118::Lib.itoa v).toArray⟩:=by
  unfold Ep
  rw [if_pos]
  .congr 1
  .show 1+(Lib.itoa v).toArray.size<=9223372036854775807
   rw [List.size_toArray]; omega
 have j:Ep ⟨(118::Lib.itoa v).toArray⟩ (ByteArray.mk #[58])=some ⟨(118::(Lib.itoa v++[58])).toArray⟩:=by
  unfold Ep
  rw [if_pos]
  .congr 1
  .show (118::Lib.itoa v).toArray.size+1<=9223372036854775807
   rw [List.size_toArray,List.length_cons]; omega
 simp only [G4,Ae4 c,Ad,k,j,Is,Vr,Avp]
 rw [Cu (by simp; omega)]
 simp only [Ad]
 rw [Avn 4000000 i _ (by omega) g (by simp; omega)]
 simp only [Ad,Kf]
 have h:([]++(118::(Lib.itoa v++[58])).map fun b=>(b.toNat:Int))++wx i=Ie v i:=by
  unfold Ie ti; simp
 rw [h]
 unfold Ue Ma
 rw [if_pos (Aab v i)]; rfl
end Go.Ab
namespace Go.Ab
open Go
mutual
theorem Alq (data:List Az):∀(i:A9) (t:Ai) (d:Nat),F6 data i t=some d->d<=6*C4 i
 | ⟨n,kids⟩,t,d,h=>by
  rw [Aev] at h
  simp only [C4]
  simp only at h
  split at h
  .split at h
   .have:=Ws data kids _ d h; omega
   .cases h
  .split at h
   .split at h
    .cases h; omega
    .cases h
   .split at h
    .split at h
     .have:=Alr data kids _ d h; omega
     .cases h
    .split at h
     .cases h; omega
     .cases h
theorem Ws (data:List Az):∀(is:List A9) (ts:List Ai) (d:Nat),Ey data is ts=some d->d<=6*E8 is
 | [],[],d,h=>by simp only [Ey] at h; cases h; omega
 | i::is,t::ts,d,h=>by
  rw [Z6] at h
  cases h1:F6 data i t with
  | none=>rw [h1] at h; cases h
  | some a=>
   rw [h1,Ad] at h
   cases h2:Ey data is ts with
   | none=>rw [h2] at h; cases h
   | some b=>
    rw [h2] at h
    cases h
    have:=Alq data i t a h1
    have:=Ws data is ts b h2
    simp only [E8]; omega
 | [],_::_,d,h=>by simp only [Ey] at h; cases h
 | _::_,[],d,h=>by simp only [Ey] at h; cases h
theorem Alr (data:List Az):∀(es:List A9) (t:Ai) (d:Nat),Hb data es t=some d->d<=6*E8 es
 | [],t,d,h=>by simp only [Hb] at h; cases h; omega
 | ⟨n,kids⟩::es,t,d,h=>by
  rw [Z5] at h
  simp only at h
  cases h1:Iz data t n with
  | none=>rw [h1] at h; cases h
  | some ts=>
   rw [h1,Ad] at h
   cases h2:Ey data kids ts with
   | none=>rw [h2] at h; cases h
   | some a=>
    rw [h2,Ad] at h
    cases h3:Hb data es t with
    | none=>rw [h3] at h; cases h
    | some b=>
     rw [h3] at h
     cases h
     have:=Ws data kids ts a h2
     have:=Alr data es t b h3
     simp only [E8,C4]; omega
end
def Tm (data:List Az) (e:A9) (t:Ai):Option Nat:=(Iz data t e.Num).bind fun ts=>(Ey data e.Kids ts).map (1 + ·)
theorem Avq (data:List Az) (e:A9) (es:List A9) (t:Ai):Hb data (e::es) t=(Tm data e t).bind fun a=>(Hb data es t).map (a + ·):=by
 rw [Z5]; unfold Tm
 cases Iz data t e.Num with
 | none=>rfl
 | some ts=>simp only [Ad]; cases Ey data e.Kids ts <;> rfl
theorem Avr (data:List Az) (e:A9) (t:Ai) (d:Nat) (h:Tm data e t=some d):d<=6*C4 e:=by
 unfold Tm at h
 cases h1:Iz data t e.Num with
 | none=>rw [h1] at h; cases h
 | some ts=>
  rw [h1,Ad] at h
  cases h2:Ey data e.Kids ts with
  | none=>rw [h2] at h; cases h
  | some a=>
   rw [h2] at h
   cases h
   have:=Ws data _ ts a h2
   have:=Fd e
   show 1+a<=_
   omega
def Dg (v:Int) (o:Option Nat):Prop:=(v = -1/\∀d,o=some d->6<d)\/∃d:Nat,o=some d/\v=d
theorem Dg.clip {v:Int} {o:Option Nat} (h:Dg v o):(if v>6 then -1 else v)=Fp o:=by
 rcases h with ⟨rfl,h⟩ | ⟨d,rfl,rfl⟩
 .rw [if_neg (by omega),Tk h]
 .by_cases hd:6<d
  .rw [if_pos (by omega),Aey hd]
  .rw [if_neg (by omega),Aex (by omega)]
theorem Aac {o p:Option Nat} {acc:Nat} {d:Nat} (h:(o.bind fun a=>p.map (a + ·)).map (acc + ·)=some d):∃a b,o=some a/\p=some b/\d=acc+(a+b):=by
 cases o with
 | none=>cases h
 | some a=>
  cases p with
  | none=>cases h
  | some b=>exact ⟨a,b,rfl,rfl,by simp at h; omega⟩
theorem Avs {data:List Az} (hz:Szv data) (hs:Ll data) (b1:List (ByteArray×Int)) (b2:List (ByteArray×List Eh)) (vars:List Ai) (N M:Int) (L:List Ai):∀k:Nat,
  (∀(i:A9) (t:Ai),3*C4 i<=k->C4 i<=1048576->Bg t<=200->∃v,N8 k t i b1 b2 data vars N M L=some v/\Dg v (F6 data i t)) /\
  (∀(f:List A9) (ts:List Ai),3*E8 f+1<=k->E8 f<=1048576->(∀t∈ts,Bg t<=200)->∃v,Qj k ts f b1 b2 data vars N M L=some v/\Dg v (Ey data f ts)) /\
  (∀(e:A9) (t:Ai),3*C4 e<=k->C4 e<=1048576->Bg t<=200->∃v,Qk k t e b1 b2 data vars N M L=some v/\Dg v (Tm data e t)):=by
 intro k
 induction k with
 | zero=>exact ⟨fun i t h=>by have:=Fd i; omega,fun f ts h=>by omega,fun i t h=>by have:=Fd i; omega⟩
 | succ k ih=>
  obtain ⟨a6,R,a7⟩:=ih
  have D:∀o:Option Nat,o.map (0 + ·)=o:=by intro o; cases o <;> simp
  have c:∀d:Nat,(none:Option Nat)=some d->6<d:=fun d h=>by cases h
  refine ⟨?_,?_,?_⟩
  .intro i t hk hi ht
   have af:=Fd i
   have U:=Ko i.Kids
   rw [N8,Aev]
   by_cases Z:t.Kind=6
   .simp only [D8 Z,cond_true,if_pos Z]
    by_cases h0:i.Num=0
    .simp only [D8 h0,cond_true,if_pos h0]
     obtain ⟨p,p1,p2⟩:=R i.Kids t.Args (by omega) (by omega) (fun a ha=>by have:=Hm ha; have:=G9 t; omega)
     rw [p1]
     exact ⟨p,rfl,p2⟩
    .simp only [Co h0,cond_false,if_neg h0]
     exact ⟨_,rfl,.inl ⟨rfl,c⟩⟩
   .simp only [Co Z,cond_false,if_neg Z]
    by_cases Y:t.Kind=7
    .simp only [D8 Y,cond_true,if_pos Y]
     by_cases a1:0<=i.Num
     .by_cases a2:i.Num<=6
      .by_cases a3:i.Kids.length=0
       .rw [Ak (show i.Num>=0 from a1),Ak a2,if_pos ⟨a1,a2,a3⟩,D8 (by omega)]
        exact ⟨_,rfl,.inr ⟨i.Num.toNat,rfl,by omega⟩⟩
       .rw [Ak (show i.Num>=0 from a1),Ak a2,if_neg (fun h=>a3 h.2.2),Co (by omega)]
        exact ⟨_,rfl,.inl ⟨rfl,c⟩⟩
      .rw [Ak (show i.Num>=0 from a1),Al a2,if_neg (fun h=>a2 h.2.1)]
       exact ⟨_,rfl,.inl ⟨rfl,c⟩⟩
     .rw [Al (show ¬i.Num>=0 from a1),if_neg (fun h=>a1 h.1)]
      exact ⟨_,rfl,.inl ⟨rfl,c⟩⟩
    .simp only [Co Y,cond_false,if_neg Y]
     by_cases h5:t.Kind=5
     .simp only [D8 h5,cond_true,if_pos h5]
      by_cases h0:i.Num=0
      .simp only [De h0,cond_false,if_pos h0]
       have key:∀(m j acc:Nat),j+m=i.Kids.length->acc<=10000000->∃z,Am (S:=(Int×Int)) (E:=(Int⊕Int)) (fun (G,v8)=>
         bif (decide (v8<(i.Kids.length:Int))) then (
         (Af i.Kids v8).bind fun v9=>
         (Qk k t v9 b1 b2 data vars N M L).bind fun I=>
         bif (decide (I<(0:Int))) then some (.inr (.inl (-1)))
         else (
         bif (decide (G>(6:Int))) then some (.inr (.inl (-1)))
         else some (.inl ((Ac (G+I)),(Ac (v8+1))))))
         else some (.inr (.inr G))) ((acc:Int),(j:Int))=some z/\Dg (match z with | .inl v=>v | .inr v=>v) ((Hb data (i.Kids.drop j) t).map (acc + ·)):=by
        intro m
        induction m with
        | zero=>
         intro j acc hj A
         have:j=i.Kids.length:=by omega
         subst this
         exact ⟨.inr (acc:Int),Fe (by simp),.inr ⟨acc,by simp [Hb],rfl⟩⟩
        | succ m s=>
         intro j acc hj A
         have g:i.Kids[j]? = some i.Kids[j]:=Bn (by omega)
         generalize i.Kids[j]=e at g
         have ac:=J1 (Bo g)
         rw [L9 g,Avq]
         obtain ⟨v,B,v2⟩:=a7 e t (by omega) (by omega) ht
         rcases v2 with ⟨rfl,v2⟩ | ⟨a,a1,rfl⟩
         .refine ⟨.inl (-1),Fe ?_,.inl ⟨rfl,fun d h=>?_⟩⟩
          .simp only [Ak (by omega:(j:Int)<(i.Kids.length:Int)),cond_true,Ch rfl g,Ad,B]; rfl
          .obtain ⟨a,b,ha,hb,rfl⟩:=Aac h
           have:=v2 a ha; omega
         .have V:=Avr data e t a a1
          by_cases hb:acc>6
          .refine ⟨.inl (-1),Fe ?_,.inl ⟨rfl,fun d h=>?_⟩⟩
           .simp only [Ak (by omega:(j:Int)<(i.Kids.length:Int)),cond_true,Ch rfl g,Ad,B,Al (by omega:¬(a:Int)<0),Ak (by omega:(acc:Int)>6),cond_false]
           .obtain ⟨a,b,ha,hb,rfl⟩:=Aac h
            omega
          .have ew:Ac ((acc:Int)+(a:Int))=((acc+a:Nat):Int):=by rw [Ac,Bz] <;> omega
           obtain ⟨z,q,z2⟩:=s (j+1) (acc+a) (by omega) (by omega)
           refine ⟨z,?_,?_⟩
           .rw [I6 (s':=(((acc+a:Nat):Int),((j+1:Nat):Int)))]
            .exact q
            .simp only [Ak (by omega:(j:Int)<(i.Kids.length:Int)),cond_true,Ch rfl g,Ad,B,Al (by omega:¬(a:Int)<0),Al (by omega:¬(acc:Int)>6),cond_false,ew,Cz (show j<i.Kids.length by omega) (by omega)]
           .have D:∀o:Option Nat,(((some a:Option Nat).bind fun a=>o.map (a + ·)).map (acc + ·))=o.map (acc+a + ·):=by
             intro o; cases o <;> simp [Nat.add_assoc]
            rw [a1,D]
            exact z2
       obtain ⟨z,q,z2⟩:=key i.Kids.length 0 0 (by omega) (by omega)
       have q:Am _ ((0:Int),(0:Int))=some z:=q
       rw [q,Ad]
       rw [List.drop_zero,D] at z2
       cases z with
       | inl v=>exact ⟨v,rfl,z2⟩
       | inr v=>exact ⟨v,rfl,z2⟩
      .simp only [Db h0,cond_true,if_neg h0]
       exact ⟨_,rfl,.inl ⟨rfl,c⟩⟩
     .simp only [Co h5,cond_false,if_neg h5]
      by_cases h0:i.Num=0
      .simp only [D8 h0,cond_true]
       by_cases a3:i.Kids.length=0
       .rw [if_pos ⟨h0,a3⟩,D8 (by omega)]
        exact ⟨_,rfl,.inr ⟨0,rfl,rfl⟩⟩
       .rw [if_neg (fun h=>a3 h.2),Co (by omega)]
        exact ⟨_,rfl,.inl ⟨rfl,c⟩⟩
      .simp only [Co h0,cond_false]
       rw [if_neg (fun h=>h0 h.1)]
       exact ⟨_,rfl,.inl ⟨rfl,c⟩⟩
  .intro f ts hk hi ht
   have U:=Ko f
   rw [Qj]
   by_cases hl:ts.length=f.length
   .rw [De (by omega)]
    simp only [cond_false]
    have key:∀(m j acc:Nat),j+m=f.length->acc<=10000000->∃z,Am (S:=(Int×Int)) (E:=(Int⊕Int)) (fun (v5,X)=>
      bif (decide (X<(ts.length:Int))) then (
      (Af ts X).bind fun G=>
      (Af f X).bind fun v9=>
      (N8 k G v9 b1 b2 data vars N M L).bind fun J=>
      bif (decide (J<(0:Int))) then some (.inr (.inl (-1)))
      else (
      bif (decide (v5>(6:Int))) then some (.inr (.inl (-1)))
      else some (.inl ((Ac (v5+J)),(Ac (X+1))))))
      else some (.inr (.inr v5))) ((acc:Int),(j:Int))=some z/\Dg (match z with | .inl v=>v | .inr v=>v) ((Ey data (f.drop j) (ts.drop j)).map (acc + ·)):=by
     intro m
     induction m with
     | zero=>
      intro j acc hj A
      have:j=ts.length:=by omega
      subst this
      refine ⟨.inr (acc:Int),Fe (by simp),.inr ⟨acc,?_,rfl⟩⟩
      rw [List.drop_of_length_le (by omega),List.drop_of_length_le (by omega)]
      simp [Ey]
     | succ m s=>
      intro j acc hj A
      have g:f[j]? = some f[j]:=Bn (by omega)
      generalize f[j]=e at g
      have hu:ts[j]? = some ts[j]:=Bn (by omega)
      generalize ts[j]=u at hu
      have ac:=J1 (Bo g)
      rw [L9 g,L9 hu,Z6]
      obtain ⟨v,B,v2⟩:=a6 e u (by omega) (by omega) (ht u (Bo hu))
      rcases v2 with ⟨rfl,v2⟩ | ⟨a,a1,rfl⟩
      .refine ⟨.inl (-1),Fe ?_,.inl ⟨rfl,fun d h=>?_⟩⟩
       .simp only [Ak (by omega:(j:Int)<(ts.length:Int)),cond_true,Ch rfl g,Ch rfl hu,Ad,B]; rfl
       .obtain ⟨a,b,ha,hb,rfl⟩:=Aac h
        have:=v2 a ha; omega
      .have V:=Alq data e u a a1
       by_cases hb:acc>6
       .refine ⟨.inl (-1),Fe ?_,.inl ⟨rfl,fun d h=>?_⟩⟩
        .simp only [Ak (by omega:(j:Int)<(ts.length:Int)),cond_true,Ch rfl g,Ch rfl hu,Ad,B,Al (by omega:¬(a:Int)<0),Ak (by omega:(acc:Int)>6),cond_false]
        .obtain ⟨a,b,ha,hb,rfl⟩:=Aac h
         omega
       .have ew:Ac ((acc:Int)+(a:Int))=((acc+a:Nat):Int):=by rw [Ac,Bz] <;> omega
        obtain ⟨z,q,z2⟩:=s (j+1) (acc+a) (by omega) (by omega)
        refine ⟨z,?_,?_⟩
        .rw [I6 (s':=(((acc+a:Nat):Int),((j+1:Nat):Int)))]
         .exact q
         .simp only [Ak (by omega:(j:Int)<(ts.length:Int)),cond_true,Ch rfl g,Ch rfl hu,Ad,B,Al (by omega:¬(a:Int)<0),Al (by omega:¬(acc:Int)>6),cond_false,ew,Cz (show j<f.length by omega) (by omega)]
        .have D:∀o:Option Nat,(((some a:Option Nat).bind fun a=>o.map (a + ·)).map (acc + ·))=o.map (acc+a + ·):=by
          intro o; cases o <;> simp [Nat.add_assoc]
         rw [a1,D]
         exact z2
    obtain ⟨z,q,z2⟩:=key f.length 0 0 (by omega) (by omega)
    have q:Am _ ((0:Int),(0:Int))=some z:=q
    rw [q,Ad]
    rw [List.drop_zero,List.drop_zero,D] at z2
    cases z with
    | inl v=>exact ⟨v,rfl,z2⟩
    | inr v=>exact ⟨v,rfl,z2⟩
   .rw [Db (by omega),Aew data f ts hl]
    exact ⟨_,rfl,.inl ⟨rfl,c⟩⟩
  .intro e t hk g ht
   have ag:=Fd e
   rw [Qk]
   unfold Tm Iz
   rw [Avc hz t ht e.Num,Ad]
   cases hf:Km data t e.Num with
   | none=>exact ⟨-1,rfl,.inl ⟨rfl,c⟩⟩
   | some l=>
    have ad:=Aet hf
    obtain ⟨x,y,_,hx,_,hy,hl,ab⟩:=Wr hf
    obtain ⟨y6,_⟩:=hz x (F0 hx).2.2.2 y (F0 hy).2.2.2
    have ae:l.length<=6:=by rw [hl]; simpa using y6
    have aa:∀a∈Gg l (Gf data t.Num e.Num),Bg a<=200:=(Ald (show Iz data t e.Num=some _ by unfold Iz; rw [hf]; rfl)).1
    obtain ⟨v,B,v2⟩:=R e.Kids (Gg l (Gf data t.Num e.Num)) (by omega) (by omega) aa
    have hd:Dg (if v<0 then -1 else 1+v) (((some l).map fun l=>Gg l (Gf data t.Num e.Num)).bind fun ts=>(Ey data e.Kids ts).map (1 + ·)):=by
     rw [Option.map_some,Ad]
     rcases v2 with ⟨rfl,v2⟩ | ⟨a,a1,rfl⟩
     .refine .inl ⟨rfl,fun d h=>?_⟩
      cases ha:Ey data e.Kids (Gg l (Gf data t.Num e.Num)) with
      | none=>rw [ha] at h; cases h
      | some a=>rw [ha] at h; have:=v2 a ha; simp at h; omega
     .rw [a1,if_neg (by omega)]
      exact .inr ⟨1+a,rfl,by omega⟩
    have a8:v = -1\/(0<=v/\v<=10000000):=by
     rcases v2 with ⟨rfl,v2⟩ | ⟨a,a1,rfl⟩
     .exact .inl rfl
     .have:=Ws data _ _ a a1; right; omega
    refine ⟨_,?_,hd⟩
    simp only [okL,Dj,cond_false,Akv data t.Num e.Num hs,Ad]
    refine D9 (Gf data t.Num e.Num) (fun j=>((j:Int),Gg (l.take j) ((Gf data t.Num e.Num).take j))) (by simp [Gg]) (by omega) ?_ ?_
    .intro j b hj hb h1 h2 h3
     have ha:l[j]? = some l[j]:=Bn (by omega)
     generalize l[j]=a at ha
     have U:=Alc (l.take j) ((Gf data t.Num e.Num).take j)
     have:(l.take j).length<=6:=by simp; omega
     simp only [h1,h2,h3,cond_true,Ad,Ch rfl ha,Alb ha hb]
     rw [Cu (by simp; omega)]
     cases b <;> simp
    .intro h1
     refine ⟨Gg l (Gf data t.Num e.Num),?_,?_⟩
     .simp only [h1]
      rw [List.take_of_length_le (by omega),List.take_of_length_le (Nat.le_refl _)]; rfl
     .rw [B,Ad]
      rcases a8 with h | h
      .subst h; rfl
      .rw [Al (by omega),if_neg (by omega)]
       simp only [cond_false]
       rw [Ac,Bz] <;> omega
def tyX (vars:List Ai) (res:Ai) (v:Int):Option Ai:=if v = -1 then some res else Af vars v
def Fq (data:List Az) (vars:List Ai) (res:Ai) (o:List (ByteArray×Int)):Prop:=∀p∈o,∀v i t,p.1=Ma v i->tyX vars res v=some t->p.2=Fp (F6 data i t)
theorem Als {α:Type}:∀(o:List (ByteArray×α)) (s:ByteArray) (v:α),∀p∈Fb o s v,p∈o\/p=(s,v)
 | [],s,v,p,h=>by simp only [Fb,List.mem_singleton] at h; exact .inr h
 | q::o,s,v,p,h=>by
  unfold Fb at h
  cases hq:(s==q.1) with
  | true=>
   rw [hq] at h
   simp only [cond_true,List.mem_cons] at h
   rcases h with h | h
   .exact .inr h
   .exact .inl (by simp [h])
  | false=>
   rw [hq] at h
   simp only [cond_false,List.mem_cons] at h
   rcases h with h | h
   .exact .inl (by simp [h])
   .rcases Als o s v p h with h | h
    .exact .inl (by simp [h])
    .exact .inr h
theorem Avt {data:List Az} (E:Szv data) (I:Ll data) (b1:List (ByteArray×Int)) (b2:List (ByteArray×List Eh)) (vars:List Ai) (res:Ai) (f:Fq data vars res b1)
  (v:Int) (i:A9) (t:Ai) (ht:tyX vars res v=some t) (b:Bg t<=200) (G:I64 v) (J:iR i) (hi:C4 i<=1048576) :
  ∃s,Lz v i b1 b2 data vars res.Kind res.Num res.Args=some (Fp (F6 data i t),s)/\Fq data vars res s:=by
 unfold Lz
 rw [Alp v i G J hi,Ad]
 cases g:Eu b1 (Ma v i) with
 | true=>
  refine ⟨b1,?_,f⟩
  have:Hy b1 (Ma v i) 0=Fp (F6 data i t):=by
   unfold Hy
   unfold Eu at g
   rw [List.any_eq_true] at g
   obtain ⟨p,B,A⟩:=g
   cases hf:b1.find? (fun p=>Ma v i==p.1) with
   | none=>exact absurd A (by have:=List.find?_eq_none.1 hf p B; simpa using this)
   | some q=>
    have hq:=List.find?_some hf
    exact f q (List.mem_of_find?_eq_some hf) v i t ((Rg _ _).1 hq).symm ht
  simp only [cond_true,Ad,Dj,cond_false,this]
 | false=>
  obtain ⟨w,x,u⟩:=(Avs E I b1 b2 vars res.Kind res.Num res.Args 4000000).1 i t (by omega) hi b
  have c:N9 v b1 b2 data vars res.Kind res.Num res.Args=some t:=by
   unfold N9
   unfold tyX at ht
   by_cases h:v = -1
   .rw [if_pos h] at ht; cases ht
    have L:(Ai.mk res.Kind res.Num res.Args)=res:=by cases res; rfl
    rw [D8 h,L]; rfl
   .rw [if_neg h] at ht
    rw [Co h,ht]; rfl
  have j:(bif decide (w>6) then some (-1) else some w:Option Int)=some (Fp (F6 data i t)):=by
   rw [<-u.clip]
   by_cases h:w>6
   .rw [Ak h,if_pos h]; rfl
   .rw [Al h,if_neg h]; rfl
  refine ⟨Fb b1 (Ma v i) (Fp (F6 data i t)),?_,?_⟩
  .simp only [cond_false,Ad,Bool.not_false,cond_true,c,x,j]
  .intro p hp y D z l k
   rcases Als _ _ _ p hp with h | h
   .exact f p h y D z l k
   .subst h
    obtain ⟨rfl,rfl⟩:=Avo l
    rw [ht] at k; cases k; rfl
end Go.Ab
namespace Go.Ab
open Go
def Dw (a b:Int):Int:=if a<b then -1 else if a>b then 1 else 0
def Dk (a b:Int):Int:=if a=0 then b else a
theorem Fg {a b:Int}:Dw a b=0↔a=b:=by unfold Dw; split <;> (try split) <;> omega
theorem Nb (a b:Int):Ke a b=some (Dw a b):=by
 unfold Ke Vj Dw
 simp only [Ad,bne_self_eq_false,cond_false]
 by_cases h:a<b
 .rw [Ak h,if_pos h]; rfl
 .rw [Al h,if_neg h]
  by_cases h':a>b
  .rw [Ak h',if_pos h']; rfl
  .rw [Al h',if_neg h']; rfl
theorem Alt (a b:Int):Vm a b=some (Dw a b):=Nb a b
theorem Tn (a b:Int):L0 [a,b]=some (Dk a b):=by
 unfold L0 Dk
 by_cases ha:a=0
 .rw [if_pos ha]
  by_cases hb:b=0
  .refine L6 2 (fun j=>(j:Int)) rfl ?_ ⟨.inr (),rfl,by rw [hb]⟩
   intro j hj
   match j,hj with
   | 0,_=>subst ha; rfl
   | 1,_=>subst hb; rfl
  .refine L6 1 (fun j=>(j:Int)) rfl ?_ ⟨.inl b,?_,rfl⟩
   .intro j hj
    match j,hj with
    | 0,_=>subst ha; rfl
   .show (bif (b != 0) then _ else _)=_
    rw [Db hb]; rfl
 .rw [if_neg ha]
  refine L6 0 (fun j=>(j:Int)) rfl (fun j hj=>by omega) ⟨.inl a,?_,rfl⟩
  show (bif (a != 0) then _ else _)=_
  rw [Db ha]; rfl
theorem Aad (a b:Int) (h:a≠b):So (decide (a<b))=some (Dw a b):=by
 unfold So Dw
 by_cases h':a<b
 .rw [Ak h',if_pos h']; rfl
 .rw [Al h',if_neg h',if_pos (by omega)]; rfl
theorem Aae (a b:Int) (h:a≠b):Qh (decide (a<b))=some (Dw a b):=Aad a b h
theorem Aaf (a b:Int) (h:a≠b):Qc (decide (a<b))=some (Dw a b):=Aad a b h
def Eb {α:Type} (g:α->α->Int):List α->List α->Int
 | x::xs,y::ys=>Dk (g x y) (Eb g xs ys)
 | _,_=>0
theorem Wt {α:Type} (g:α->α->Int) (l m:List α) {step:Int->Option (Int⊕(Int⊕Unit))} (k:l.length=m.length) (hb:l.length<4611686018427387904)
  (f:∀(j:Nat) (x y:α),l[j]? = some x->m[j]? = some y->decide ((j:Int)<(l.length:Int))=true->Af l (j:Int)=some x->Af m (j:Int)=some y->decide ((j:Int)>=(m.length:Int))=false->Ac ((j:Int)+1)=((j+1:Nat):Int) ->
   step (j:Int)=if g x y=0 then some (.inl ((j+1:Nat):Int)) else some (.inr (.inl (g x y))))
  (i:decide ((l.length:Int)<(l.length:Int))=false->step (l.length:Int)=some (.inr (.inr ()))) :
  ∃z,Am step 0=some z/\(match z with | .inl r=>r=Eb g l m/\r≠0 | .inr _=>Eb g l m=0):=by
 have key:∀(n j:Nat),j+n=l.length->∃z,Am step (j:Int)=some z/\(match z with | .inl r=>r=Eb g (l.drop j) (m.drop j)/\r≠0 | .inr _=>Eb g (l.drop j) (m.drop j)=0):=by
  intro n
  induction n with
  | zero=>
   intro j hj
   have:j=l.length:=by omega
   subst this
   refine ⟨.inr (),Fe (i (by simp)),?_⟩
   rw [List.drop_of_length_le (by omega)]; simp [Eb]
  | succ n ih=>
   intro j hj
   have hx:l[j]? = some l[j]:=Bn (by omega)
   have hy:m[j]? = some m[j]:=Bn (by omega)
   generalize l[j]=x at hx
   generalize m[j]=y at hy
   have h:=f j x y hx hy (Ak (by omega)) (Ch rfl hx) (Ch rfl hy) (Al (by omega)) (Cz (show j<l.length by omega) hb)
   rw [L9 hx,L9 hy]
   by_cases b:g x y=0
   .rw [if_pos b] at h
    obtain ⟨z,c,z2⟩:=ih (j+1) (by omega)
    refine ⟨z,by rw [I6 h]; exact c,?_⟩
    have e:Eb g (x::l.drop (j+1)) (y::m.drop (j+1))=Eb g (l.drop (j+1)) (m.drop (j+1)):=by simp only [Eb,Dk,b,if_true]
    cases z with
    | inl r=>simp only [e]; exact z2
    | inr u=>simp only [e]; exact z2
   .rw [if_neg b] at h
    refine ⟨.inl (g x y),Fe h,?_,b⟩
    simp only [Eb,Dk,b,if_false]
 exact key l.length 0 (by omega)
theorem Aag {α:Type} (f:α->α->Option Int) (g:α->α->Int) (l m:List α) (A:l.length=m.length) (hb:l.length<4611686018427387904) (B:∀(j:Nat) (x y:α),l[j]? = some x->m[j]? = some y->f x y=some (g x y)) :
  ((Am (S:=Int) (E:=(Int⊕Unit)) (fun b=>
   bif (decide (b<(l.length:Int))) then (
   (Af l b).bind fun s=>
   bif (decide (b>=(m.length:Int))) then some (.inr (.inl 1))
   else (
   (Af m b).bind fun v9=>
   (f s v9).bind fun c=>
   bif (c != (0:Int)) then some (.inr (.inl c))
   else some (.inl (Ac (b+1)))))
   else some (.inr (.inr ()))) 0).bind fun z=>
   match z with
   | .inl k=>some k
   | .inr _=>bif (decide ((l.length:Int)<(m.length:Int))) then some (-1) else some 0)=some (Eb g l m):=by
 refine We (Wt g l m A hb ?_ (fun h=>by simp only [h]; rfl)) ?_
 .intro j x y hx hy h1 h2 h3 G D
  simp only [h1,h2,h3,G,D,cond_true,cond_false,Ad,B j x y hx hy]
  by_cases i:g x y=0
  .rw [De i,if_pos i]; rfl
  .rw [Db i,if_neg i]; rfl
 .rintro (r | u) q
  .rw [q.1]
  .simp only
   rw [Al (by omega),show Eb g l m=0 from q]; rfl
def Kp (x y:Bw):Int:=Dk (Dw x.Var y.Var) (Dw x.Coef y.Coef)
def Gi (a b:Ce):Int:=if a.Terms.length=b.Terms.length then Dk (Eb Kp a.Terms b.Terms) (Dw a.Const b.Const) else Dw a.Terms.length b.Terms.length
theorem Alu (a b:Ce) (ha:a.Terms.length<1099511627776):Oe a b=some (Gi a b):=by
 unfold Oe Gi
 rw [Nb,Ad]
 by_cases h:a.Terms.length=b.Terms.length
 .rw [De (Fg.2 (by omega)),if_pos h]
  simp only [cond_false]
  have:=Aag Vl Kp a.Terms b.Terms h (by omega) (fun j x y _ _=>by
   unfold Vl Kp
   rw [Nb,Alt]; simp only [Ad,Tn])
  rw [show Yy a.Terms b.Terms=_ from this,Ad,Alt]
  simp only [Ad,Tn]
 .rw [Db (fun e=>h (by have:=Fg.1 e; omega)),if_neg h]; rfl
theorem Ae6 (a b:Ce) (ha:a.Terms.length<1099511627776):Jv a b=some (Gi a b):=by
 unfold Jv Gi
 by_cases h:a.Terms.length=b.Terms.length
 .rw [De (by omega),if_pos h]
  simp only [cond_false]
  refine We (Wt Kp a.Terms b.Terms h (by omega) ?_ (fun h=>by simp only [h]; rfl)) ?_
  .intro j x y hx hy h1 h2 h3 i g
   simp only [h1,h2,h3,g,cond_true,Ad]
   by_cases c:x.Var=y.Var
   .rw [De c]
    by_cases hc:x.Coef=y.Coef
    .rw [De hc]
     rw [if_pos (by unfold Kp; rw [Fg.2 c,Fg.2 hc]; rfl)]; rfl
    .rw [Db hc,Aae _ _ hc]
     have e:Kp x y=Dw x.Coef y.Coef:=by unfold Kp; rw [Fg.2 c]; rfl
     rw [e,if_neg (fun e=>hc (Fg.1 e))]; rfl
   .rw [Db c,Aae _ _ c]
    have e:Kp x y=Dw x.Var y.Var:=by unfold Kp Dk; rw [if_neg (fun e=>c (Fg.1 e))]
    rw [e,if_neg (fun e=>c (Fg.1 e))]; rfl
  .rintro (r | u) f
   .obtain ⟨rfl,h0⟩:=f
    unfold Dk; rw [if_neg h0]
   .have f:Eb Kp a.Terms b.Terms=0:=f
    rw [f]
    simp only [Dk,if_true]
    by_cases hc:a.Const=b.Const
    .rw [De hc,Fg.2 hc]; rfl
    .rw [Db hc,Aae _ _ hc]; rfl
 .rw [Db (by omega),if_neg h,Aae _ _ (by omega)]; rfl
mutual
def H5:A9->A9->Int
 | ⟨n,k⟩,j=>if n=j.Num then (if k.length=j.Kids.length then Rj k j.Kids else Dw k.length j.Kids.length) else Dw n j.Num
def Rj:List A9->List A9->Int
 | x::xs,y::ys=>Dk (H5 x y) (Rj xs ys)
 | [],_=>0
 | _::_,[]=>0
end
theorem Ae7 (i j:A9):H5 i j=if i.Num=j.Num then (if i.Kids.length=j.Kids.length then Rj i.Kids j.Kids else Dw i.Kids.length j.Kids.length) else Dw i.Num j.Num:=by cases i; simp only [H5]
theorem Aah:∀l m:List A9,Rj l m=Eb H5 l m
 | x::xs,y::ys=>by simp only [Rj,Eb,Aah xs ys]
 | [],_=>by simp [Rj,Eb]
 | _::_,[]=>by simp [Rj,Eb]
theorem Avu:∀(n k:Nat) (i j:A9),C4 i<=n->2*n<=k->n<1099511627776->Od k i j=some (H5 i j):=by
 intro n
 induction n with
 | zero=>intro k i j h; have:=Fd i; omega
 | succ n ih=>
  intro k i j h hk c
  obtain ⟨k,rfl⟩:∃b,k=b+2:=⟨k-2,by omega⟩
  have hi:=Fd i
  have f:=Ko i.Kids
  rw [Od,Ae7,Nb,Nb]
  simp only [Ad,Tn]
  by_cases h1:i.Num=j.Num
  .rw [if_pos h1]
   by_cases h2:i.Kids.length=j.Kids.length
   .rw [if_pos h2,De (by unfold Dk; rw [Fg.2 h1,Fg.2 (by omega)]; rfl),Aah]
    simp only [cond_false]
    have:=Aag (Od k) H5 i.Kids j.Kids h2 (by omega) (fun q x y hx hy=>ih k x y (by have:=J1 (Bo hx); omega) (by omega) (by omega))
    rw [Vk]
    refine Eq.trans (congrArg (fun q=>Option.bind q _) this) rfl
   .have e:Dk (Dw i.Num j.Num) (Dw (i.Kids.length:Int) (j.Kids.length:Int))=Dw i.Kids.length j.Kids.length:=by unfold Dk; rw [Fg.2 h1]; rfl
    rw [if_neg h2,e,Db (fun e=>h2 (by have:=Fg.1 e; omega))]; rfl
  .have e:Dk (Dw i.Num j.Num) (Dw (i.Kids.length:Int) (j.Kids.length:Int))=Dw i.Num j.Num:=by unfold Dk; rw [if_neg (fun e=>h1 (Fg.1 e))]
   rw [if_neg h1,e,Db (fun e=>h1 (Fg.1 e))]; rfl
theorem Avv:∀(n k:Nat) (i j:A9),C4 i<=n->2*n<=k->n<1099511627776->N6 k i j=some (H5 i j):=by
 intro n
 induction n with
 | zero=>intro k i j h; have:=Fd i; omega
 | succ n ih=>
  intro k i j h hk A
  obtain ⟨k,rfl⟩:∃l,k=l+2:=⟨k-2,by omega⟩
  have hi:=Fd i
  have B:=Ko i.Kids
  rw [N6,Ae7]
  by_cases h1:i.Num=j.Num
  .rw [if_pos h1,De h1]
   simp only [cond_false]
   rw [Va]
   by_cases h2:i.Kids.length=j.Kids.length
   .rw [if_pos h2,De (by omega),Aah]
    simp only [cond_false]
    have:=Wt H5 i.Kids j.Kids h2 (by omega) (step:=fun v5=>bif (decide (v5<(i.Kids.length:Int))) then ((Af i.Kids v5).bind fun g=>(Af j.Kids v5).bind fun f=>(N6 k g f).bind fun v8=>bif (v8 != (0:Int)) then some (.inr (.inl v8)) else some (.inl (Ac (v5+1)))) else some (.inr (.inr ()))) (fun q x y hx hy h1 h2 h3 D s=>by
     simp only [h1,h2,h3,s,cond_true,Ad,ih k x y (by have:=J1 (Bo hx); omega) (by omega) (by omega)]
     by_cases b:H5 x y=0
     .rw [De b,if_pos b]; rfl
     .rw [Db b,if_neg b]; rfl) (fun h=>by simp only [h]; rfl)
    obtain ⟨z,c,z2⟩:=this
    rw [c,Ad]
    cases z with
    | inl r=>rw [z2.1]; rfl
    | inr u=>rw [show Eb H5 i.Kids j.Kids=0 from z2]; rfl
   .rw [if_neg h2,Db (by omega),Aad _ _ (by omega)]; rfl
  .rw [if_neg h1,Db h1,Aad _ _ h1]; rfl
def Kq (x y:Cj):Int:=Dk (Dw x.Var y.Var) (H5 x.Index y.Index)
def Ln (x y:B5):Int:=Dk (Gi x.Lin y.Lin) (Dw x.Deg y.Deg)
def B7 (a b:A8):Int :=
 if a.Factors.length=b.Factors.length then
  Dk (Eb Kq a.Factors b.Factors) (if a.Atoms.length=b.Atoms.length then Eb Ln a.Atoms b.Atoms else Dw a.Atoms.length b.Atoms.length)
 else Dw a.Factors.length b.Factors.length
structure Dl (m:A8):Prop where
 nf:m.Factors.length<=1048576
 na:m.Atoms.length<=1048576
 fi:∀f∈m.Factors,C4 f.Index<=1048576
 fr:∀f∈m.Factors,iR f.Index/\I64 f.Var
 al:∀a∈m.Atoms,a.Lin.Terms.length<=1048576
theorem Ae8 (a b:A8) (ha:Dl a):Ld a b=some (B7 a b):=by
 have h1:=ha.nf
 have h2:=ha.na
 unfold Ld B7
 rw [Nb,Ad]
 by_cases h:a.Factors.length=b.Factors.length
 .rw [De (Fg.2 (by omega)),if_pos h]
  simp only [cond_false]
  have:=Aag U7 Kq a.Factors b.Factors h (by omega) (fun j x y hx hy=>by
   unfold U7 Kq
   rw [Nb,Avu 1048576 4000000 x.Index y.Index (ha.fi x (Bo hx)) (by omega) (by omega)]; simp only [Ad,Tn])
  rw [show Yq a.Factors b.Factors=_ from this,Ad,Nb]
  simp only [Ad,Tn]
  by_cases h0:Eb Kq a.Factors b.Factors=0
  .simp only [h0,Dk,if_true]
   by_cases h':a.Atoms.length=b.Atoms.length
   .rw [De (Fg.2 (by omega)),if_pos h']
    simp only [cond_false]
    have:=Aag U8 Ln a.Atoms b.Atoms h' (by omega) (fun j x y hx hy=>by
     unfold U8 Ln
     rw [Nb,Alu x.Lin y.Lin (by have:=ha.al x (Bo hx); omega)]; simp only [Ad,Tn])
    rw [show Yr a.Atoms b.Atoms=_ from this]; rfl
   .rw [Db (fun e=>h' (by have:=Fg.1 e; omega)),if_neg h']; rfl
  .simp only [Dk,if_neg h0]
   rw [Db h0]; rfl
 .rw [Db (fun e=>h (by have:=Fg.1 e; omega)),if_neg h]; rfl
theorem To (a b:A8) (ha:Dl a):H8 a b=some (B7 a b):=by
 have h1:=ha.nf
 have h2:=ha.na
 unfold H8 B7
 by_cases h:a.Factors.length=b.Factors.length
 .rw [De (by omega),if_pos h]
  simp only [cond_false]
  refine We (Wt Kq a.Factors b.Factors h (by omega) ?_ (fun h=>by simp only [h]; rfl)) ?_
  .intro j x y hx hy h1 h2 h3 i g
   simp only [h1,h2,h3,g,cond_true,Ad,Avv 1048576 4000000 x.Index y.Index (ha.fi x (Bo hx)) (by omega) (by omega)]
   by_cases c:x.Var=y.Var
   .rw [De c]
    have e:Kq x y=H5 x.Index y.Index:=by unfold Kq Dk; rw [if_pos (Fg.2 c)]
    rw [e]
    by_cases hc:H5 x.Index y.Index=0
    .rw [De hc,if_pos hc]; rfl
    .rw [Db hc,if_neg hc]; rfl
   .rw [Db c,Aaf _ _ c]
    have e:Kq x y=Dw x.Var y.Var:=by unfold Kq Dk; rw [if_neg (fun e=>c (Fg.1 e))]
    rw [e,if_neg (fun e=>c (Fg.1 e))]; rfl
  .rintro (r | u) f
   .obtain ⟨rfl,h0⟩:=f
    unfold Dk; rw [if_neg h0]
   .have f:Eb Kq a.Factors b.Factors=0:=f
    rw [f]
    simp only [Dk,if_true]
    by_cases h':a.Atoms.length=b.Atoms.length
    .rw [De (by omega),if_pos h']
     simp only [cond_false]
     refine We (Wt Ln a.Atoms b.Atoms h' (by omega) ?_ (fun h=>by simp only [h]; rfl)) ?_
     .intro j x y hx hy h1 h2 h3 i g
      simp only [h1,h2,h3,g,cond_true,Ad,Ae6 x.Lin y.Lin (by have:=ha.al x (Bo hx); omega)]
      by_cases c:Gi x.Lin y.Lin=0
      .rw [De c]
       have e:Ln x y=Dw x.Deg y.Deg:=by unfold Ln Dk; rw [if_pos c]
       rw [e]
       by_cases hc:x.Deg=y.Deg
       .rw [De hc,if_pos (Fg.2 hc)]; rfl
       .rw [Db hc,Aaf _ _ hc,if_neg (fun e=>hc (Fg.1 e))]; rfl
      .have e:Ln x y=Gi x.Lin y.Lin:=by unfold Ln Dk; rw [if_neg c]
       rw [Db c,e,if_neg c]; rfl
     .rintro (r | u) f
      .rw [f.1]
      .rw [show Eb Ln a.Atoms b.Atoms=0 from f]
    .rw [Db (by omega),if_neg h',Aaf _ _ (by omega)]; rfl
 .rw [Db (by omega),if_neg h,Aaf _ _ (by omega)]; rfl
def Jk {α:Type} (f:α->Int) (l:List α) (x:α) (j:Nat):Bool:=j==0||(match l[j-1]? with | some y=>decide (f y<f x) | none=>false)
def Lo (l:List Bw) (x:Bw) (j:Nat):Bool:=decide (-1<=x.Var/\x.Var<3000/\x.Coef≠0/\-1048576<=x.Coef/\x.Coef<=1048576)&&Jk (·.Var) l x j
def Fh (a:Ce):Bool:=decide (-1048576<=a.Const/\a.Const<=1048576/\a.Terms.length<=16)&&a.Terms.zipIdx.all (fun q=>Lo a.Terms q.1 q.2)
theorem Alv (n:Int):Si n=some (decide (-1048576<=n/\n<=1048576)):=by
 unfold Si
 by_cases h:(-1048576:Int)<=n <;> simp [h]
theorem Avw (n:Int):Uw n=some (decide (-1<=n/\n<3000)):=by
 unfold Uw
 by_cases h:(-1:Int)<=n <;> simp [h]
theorem Ae9 {α S E:Type} (f:α->Int) (l:List α) {x:α} {j:Nat} (hx:l[j]? = some x) (i:l.length<4611686018427387904) (c b:Option (S⊕E)) :
  (bif decide ((j:Int)>0) then ((Af l (Ac ((j:Int)-1))).bind fun g=>bif decide (f g>=f x) then c else b) else b)=bif Jk f l x j then b else c:=by
 have hj:=Df hx
 unfold Jk
 by_cases h:j=0
 .subst h; rfl
 .rw [Ak (by omega)]
  have e:Ac ((j:Int)-1)=((j-1:Nat):Int):=by rw [Ac,Bz] <;> omega
  have hy:l[j-1]? = some l[j-1]:=Bn (by omega)
  rw [e,Ch rfl hy,hy]
  have h0:(j==0)=false:=by simpa using h
  simp only [cond_true,Ad,h0,Bool.false_or]
  by_cases hc:f l[j-1]<f x
  .rw [Al (by omega),Ak hc]; rfl
  .rw [Ak (by omega),Al hc]; rfl
theorem Alw (a:Ce):P7 a=some (Fh a):=by
 unfold P7 Fh
 rw [Alv]
 simp only [Ad]
 by_cases h1 : -1048576<=a.Const/\a.Const<=1048576
 .rw [Ak h1]
  by_cases h2:a.Terms.length<=16
  .rw [Al (by omega:¬(a.Terms.length:Int)>16),Ak ⟨h1.1,h1.2,h2⟩]
   simp only [Dj,cond_false,Ad,Bool.true_and]
   refine (Q6 a.Terms (fun q=>Lo a.Terms q.1 q.2) (fun j=>(j:Int)) rfl (by omega) (rt:=true) (rf:=false) ?_ ?_).trans (by rw [M4])
   .intro j x hx _ h1 h2 h3
    simp only [h1,h2,h3,cond_true,Ad,Avw,Alv,Ae9 (·.Var) a.Terms hx (by omega),Lo]
    by_cases g1 : -1<=x.Var/\x.Var<3000
    .by_cases g2:x.Coef=0
     .rw [Ak g1,D8 g2,Al (fun h=>h.2.2.1 g2)]
      exact ⟨(fun h=>by cases h),fun _=>⟨.inl false,rfl,rfl⟩⟩
     .by_cases g3 : -1048576<=x.Coef/\x.Coef<=1048576
      .rw [Ak g1,Co g2,Ak g3,Ak ⟨g1.1,g1.2,g2,g3.1,g3.2⟩]
       cases Jk (·.Var) a.Terms x j with
       | true=>exact ⟨fun _=>rfl,fun h=>by cases h⟩
       | false=>exact ⟨(fun h=>by cases h),fun _=>⟨.inl false,rfl,rfl⟩⟩
      .rw [Ak g1,Co g2,Al g3,Al (fun h=>g3 h.2.2.2)]
       exact ⟨(fun h=>by cases h),fun _=>⟨.inl false,rfl,rfl⟩⟩
    .rw [Al g1,Al (fun h=>g1 ⟨h.1,h.2.1⟩)]
     exact ⟨(fun h=>by cases h),fun _=>⟨.inl false,rfl,rfl⟩⟩
   .intro h _
    exact ⟨.inr (),by simp only [h]; rfl,rfl⟩
  .rw [Ak (by omega:(a.Terms.length:Int)>16),Al (fun h=>h2 h.2.2)]; rfl
 .rw [Al h1,Al (fun h : -1048576<=a.Const/\a.Const<=1048576/\a.Terms.length<=16=>h1 ⟨h.1,h.2.1⟩)]; rfl
theorem Alx (a:Ce):N1 a=some (Fh a):=by
 unfold N1 Fh
 by_cases h2:a.Terms.length<=16
 .rw [Al (by omega:¬(a.Terms.length:Int)>16)]
  by_cases h1 : -1048576<=a.Const
  .rw [Al (by omega:¬a.Const < -1048576)]
   by_cases h3:a.Const<=1048576
   .rw [Al (by omega:¬a.Const>1048576),Ak ⟨h1,h3,h2⟩]
    simp only [cond_false,Ad,Bool.true_and]
    refine (Q6 a.Terms (fun q=>Lo a.Terms q.1 q.2) (fun j=>(j:Int)) rfl (by omega) (rt:=true) (rf:=false) ?_ ?_).trans (by rw [M4])
    .intro j x hx _ h1 h2 h3
     simp only [h1,h2,h3,cond_true,Ad,Ae9 (·.Var) a.Terms hx (by omega),Lo]
     by_cases g1:x.Var < -1
     .rw [Ak g1,Al (fun h=>by omega)]
      exact ⟨(fun h=>by cases h),fun _=>⟨.inl false,rfl,rfl⟩⟩
     by_cases g2:x.Var>=3000
     .rw [Al g1,Ak g2,Al (fun h=>by omega)]
      exact ⟨(fun h=>by cases h),fun _=>⟨.inl false,rfl,rfl⟩⟩
     by_cases g3:x.Coef=0
     .rw [Al g1,Al g2,D8 g3,Al (fun h=>by omega)]
      exact ⟨(fun h=>by cases h),fun _=>⟨.inl false,rfl,rfl⟩⟩
     by_cases g4:x.Coef < -1048576
     .rw [Al g1,Al g2,Co g3,Ak g4,Al (fun h=>by omega)]
      exact ⟨(fun h=>by cases h),fun _=>⟨.inl false,rfl,rfl⟩⟩
     by_cases g5:x.Coef>1048576
     .rw [Al g1,Al g2,Co g3,Al g4,Ak g5,Al (fun h=>by omega)]
      exact ⟨(fun h=>by cases h),fun _=>⟨.inl false,rfl,rfl⟩⟩
     rw [Al g1,Al g2,Co g3,Al g4,Al g5,Ak (by omega)]
     cases Jk (·.Var) a.Terms x j with
     | true=>exact ⟨fun _=>rfl,fun h=>by cases h⟩
     | false=>exact ⟨(fun h=>by cases h),fun _=>⟨.inl false,rfl,rfl⟩⟩
    .intro h _
     exact ⟨.inr (),by simp only [h]; rfl,rfl⟩
   .rw [Ak (by omega:a.Const>1048576),Al (fun h : -1048576<=a.Const/\a.Const<=1048576/\a.Terms.length<=16=>by omega)]; rfl
  .rw [Ak (by omega:a.Const < -1048576),Al (fun h : -1048576<=a.Const/\a.Const<=1048576/\a.Terms.length<=16=>by omega)]; rfl
 .rw [Ak (by omega:(a.Terms.length:Int)>16),Al (fun h : -1048576<=a.Const/\a.Const<=1048576/\a.Terms.length<=16=>by omega)]; rfl
end Go.Ab
namespace Go.Ab
open Go
structure O6 (data:List Az) (vars:List Ai) (res:Ai):Prop where
 vd:Ic data
 sh:Ll data
 sz:∀v t,tyX vars res v=some t->Bg t<=200
 nv:vars.length<=3000
theorem Avx (vars:List Ai) (res:Ai) (v:Int):(tyX vars res v).isSome=decide (-1<=v/\v<vars.length):=by
 unfold tyX
 by_cases h:v = -1
 .rw [if_pos h]; subst h; rw [Ak (by omega)]; rfl
 .rw [if_neg h]
  cases hx:Af vars v with
  | none=>rcases O3 hx with h' | h' <;> rw [Al (by omega)] <;> rfl
  | some t=>have:=F0 hx; rw [Ak (by omega)]; rfl
section
variable (b1:List (ByteArray×Int)) (b2:List (ByteArray×List Eh)) (data:List Az) (vars:List Ai) (res:Ai)
theorem Aly (v:Int) (f c:Int) (b:List Ai):P6 v b1 b2 data vars f c b=some (tyX vars res v).isSome:=by
 rw [Avx]
 unfold P6
 by_cases h:v>=-1
 .rw [Ak h]
  by_cases h':v<(vars.length:Int)
  .rw [Ak h',Ak ⟨h,h'⟩]; rfl
  .rw [Al h',Al (fun g=>h' g.2)]; rfl
 .rw [Al h,Al (fun g : -1<=v/\v<(vars.length:Int)=>h g.1)]; rfl
theorem Avy {v:Int} {t:Ai} (ht:tyX vars res v=some t):N9 v b1 b2 data vars res.Kind res.Num res.Args=some t:=by
 unfold N9
 unfold tyX at ht
 by_cases h:v = -1
 .rw [if_pos h] at ht; cases ht
  have b:(Ai.mk res.Kind res.Num res.Args)=res:=by cases res; rfl
  rw [D8 h,b]; rfl
 .rw [if_neg h] at ht
  rw [Co h,ht]; rfl
def Tp (t:Bw):Bool:=match tyX vars res t.Var with | some u=>u.Kind==1 | none=>false
def Jl (l:Ce):Bool:=l.Terms.all (Tp vars res)
theorem Avz (l:Ce) (c:l.Terms.length<=1048576):Se l b1 b2 data vars res.Kind res.Num res.Args=some (Jl vars res l):=by
 unfold Se Yo Ys
 have key:=Aka l.Terms (fun t=>!Tp vars res t) (by omega) (J:=fun z=>match z with | .inl b=>some b | .inr _=>some (-1)) (step:=fun v3=>bif (decide (v3<(l.Terms.length:Int))) then ((Af l.Terms v3).bind fun v4=>(Sj v4 b1 b2 data vars res.Kind res.Num res.Args).bind fun v5=>bif v5 then some (.inr (.inl v3)) else some (.inl (Ac (v3+1)))) else some (.inr (.inr ()))) (by
  intro j x hx h1 h2 h3
  have e:Sj x b1 b2 data vars res.Kind res.Num res.Args=some (!Tp vars res x):=by
   unfold Sj Tp
   rw [Aly b1 b2 data vars res,Ad]
   cases ht:tyX vars res x.Var with
   | none=>rfl
   | some t=>rw [Avy b1 b2 data vars res ht]; rfl
  simp only [h1,h2,h3,cond_true,Ad,e]) (fun h=>by simp only [h]; rfl) (fun _=>rfl) rfl
 obtain ⟨i,i1,i2⟩:=key
 erw [i1]
 simp only [Ad,i2]
 congr 1
 unfold Jl
 rw [List.any_eq_not_all_not]; simp
theorem Wu (x:Bh) (v:Int):Kb x v=some (match tyX x.Vars x.Res v with | some t=>(t,true) | none=>(⟨0,0,[]⟩,false)):=by
 unfold Kb tyX
 by_cases h:v = -1
 .rw [D8 h,if_pos h]; rfl
 .rw [Co h,if_neg h]
  cases hx:Af x.Vars v with
  | none=>
   rcases O3 hx with h' | h'
   .simp only [Ak h',cond_true,cond_false,Ad]
   .by_cases h0:v<0
    .simp only [Ak h0,cond_true,cond_false,Ad]
    .simp only [Al h0,Ak (show v>=(x.Vars.length:Int) from h'),cond_true,cond_false,Ad]
  | some t=>
   obtain ⟨a1,a2,_⟩:=F0 hx
   simp only [Al (by omega:¬v<0),Al (by omega:¬v>=(x.Vars.length:Int)),cond_false,Ad]
theorem Alz (x:Bh) (l:Ce) (b:l.Terms.length<=1048576):N2 x l=some (Jl x.Vars x.Res l):=by
 unfold N2
 refine (Ox l.Terms (Tp x.Vars x.Res) (fun j=>(j:Int)) rfl (by omega) (rt:=true) (rf:=false) ?_ ?_).trans (by rw [M4]; rfl)
 .intro j t ht h1 h2 h3
  simp only [h1,h2,h3,cond_true,Ad,Wu]
  unfold Tp
  cases hu:tyX x.Vars x.Res t.Var with
  | none=>exact ⟨(fun h=>by cases h),fun _=>⟨.inl false,rfl,rfl⟩⟩
  | some u=>
   simp only [Dj,cond_false]
   by_cases hk:u.Kind=1
   .rw [D8 hk,De hk]
    exact ⟨fun _=>rfl,fun h=>by cases h⟩
   .rw [Co hk,Db hk]
    exact ⟨(fun h=>by cases h),fun _=>⟨.inl false,rfl,rfl⟩⟩
 .intro h; exact ⟨.inr (),by simp only [h]; rfl,rfl⟩
def Di (f:Cj):Int:=match tyX vars res f.Var with | some t=>Fp (F6 data f.Index t) | none => -1
theorem Afa (f:Cj) : -1<=Di data vars res f/\Di data vars res f<=6:=by
 unfold Di
 cases tyX vars res f.Var with
 | none=>simp
 | some t=>rcases Aez (F6 data f.Index t) with ⟨h,_⟩ | ⟨d,_,h2,h⟩ <;> simp only [h] <;> omega
def Nc (m:A8):Bool:=m.Factors.all (fun f=>decide (0<=Di data vars res f))&&m.Atoms.all (fun a=>decide (0<=a.Deg)&&Jl vars res a.Lin)
def Ci (l:List Cj):Int:=(l.map (Di data vars res)).sum
def C8 (l:List B5):Int:=(l.map (·.Deg)).sum
def O7 (l:List B5) (x:B5) (j:Nat):Bool:=j==0||(match l[j-1]? with | some y=>decide (Gi y.Lin x.Lin<0) | none=>false)
def Mb (l:List Cj) (f:Cj) (j:Nat):Bool:=decide (1<=Di data vars res f)&&Jk (·.Var) l f j
def J3 (l:List B5) (a:B5) (j:Nat):Bool:=decide (1<=a.Deg)&&Fh a.Lin && !(a.Lin.Terms.length==0)&&Jl vars res a.Lin&&O7 l a j
def Hc (m:A8):Bool:=m.Factors.zipIdx.all (fun q=>Mb data vars res m.Factors q.1 q.2)&&m.Atoms.zipIdx.all (fun q=>J3 vars res m.Atoms q.1 q.2)&&decide (Ci data vars res m.Factors+C8 m.Atoms<=6)
variable {b1 data vars res}
theorem Afb (hc:O6 data vars res) (i:Fq data vars res b1) (f:Cj) (g:I64 f.Var) (h:iR f.Index) (hi:C4 f.Index<=1048576) (b:(tyX vars res f.Var).isSome=true) :
  ∃c,Lz f.Var f.Index b1 b2 data vars res.Kind res.Num res.Args=some (Di data vars res f,c)/\Fq data vars res c:=by
 cases ht:tyX vars res f.Var with
 | none=>rw [ht] at b; cases b
 | some t=>
  obtain ⟨c,h1,h2⟩:=Avt hc.vd.szv hc.sh b1 b2 vars res i f.Var f.Index t ht (hc.sz _ _ ht) g h hi
  refine ⟨c,?_,h2⟩
  rw [h1]; unfold Di; rw [ht]
theorem Av0 (hc:O6 data vars res) (V:Fq data vars res b1) (m:A8) (l:Dl m) :
  ∃s,Vp m b1 b2 data vars res.Kind res.Num res.Args=some (Nc data vars res m,s)/\Fq data vars res s:=by
 have hf:=l.nf
 have ha:=l.na
 unfold Vp
 refine Zg (fun s=>(Nc data vars res m,s)) ?_
 obtain ⟨r,U,N⟩:=Wf (M:=List (ByteArray×Int)) (R:=Bool×List (ByteArray×Int)) m.Factors (fun q=>decide (0<=Di data vars res q.1)) (fun j o=>((j:Int),o)) (Fq data vars res)
  (fun r=>Fq data vars res r.2/\r.1=m.Atoms.all (fun a=>decide (0<=a.Deg)&&Jl vars res a.Lin)) (fun r=>Fq data vars res r.2/\r.1=false) b1
  (s0:=((0:Int),b1))
  (step:=(fun (A,x)=>
   bif (decide (A<(m.Factors.length:Int))) then (
   (Af m.Factors A).bind fun v8=>
   (P6 v8.Var x b2 data vars res.Kind res.Num res.Args).bind fun B=>
   bif (!B) then some (.inr (.inl (false,x)))
   else (
   (Lz v8.Var v8.Index x b2 data vars res.Kind res.Num res.Args).bind fun g=>
   bif (decide (g.1<(0:Int))) then some (.inr (.inl (false,g.2)))
   else some (.inl ((Ac (A+1)),g.2))))
   else some (.inr (.inr x)):Int×List (ByteArray×Int)->Option ((Int×List (ByteArray×Int))⊕((Bool×List (ByteArray×Int))⊕List (ByteArray×Int)))))
  (J:=(fun z=>match z with
   | .inl (L,I)=>some (L,I)
   | .inr b=>(Am (S:=Int) (E:=((Bool×(List (ByteArray×Int)))⊕Unit)) (fun c=>
     bif (decide (c<(m.Atoms.length:Int))) then (
     (Af m.Atoms c).bind fun u=>
     bif (decide (u.Deg<(0:Int))) then some (.inr (.inl (false,b)))
     else (
     (Se u.Lin b b2 data vars res.Kind res.Num res.Args).bind fun v21=>
     bif (!v21) then some (.inr (.inl (false,b)))
     else some (.inl (Ac (c+1)))))
     else some (.inr (.inr ()))) 0).bind fun z=>match z with
      | .inl (G,D)=>some (G,D)
      | .inr _=>some (true,b)))
  rfl V (by omega) (by
   intro j f o y hx _ h1 h2 h3
   have k:=Bo hx
   simp only [h1,h2,h3,cond_true,Ad,Aly o b2 data vars res]
   cases i:(tyX vars res f.Var).isSome with
   | false=>
    have e:Di data vars res f = -1:=by
     unfold Di
     cases ht:tyX vars res f.Var with
     | none=>rfl
     | some t=>rw [ht] at i; cases i
    rw [e]
    exact ⟨(fun h=>by cases h),fun _=>⟨_,rfl,_,rfl,y,rfl⟩⟩
   | true=>
    obtain ⟨s,d1,d2⟩:=Afb b2 hc y f (l.fr f k).2 (l.fr f k).1 (l.fi f k) i
    simp only [Dj,cond_false,d1,Ad]
    by_cases h0:0<=Di data vars res f
    .rw [Ak h0,Al (by omega)]
     exact ⟨fun _=>⟨s,rfl,d2⟩,fun h=>by cases h⟩
    .rw [Al h0,Ak (by omega)]
     exact ⟨(fun h=>by cases h),fun _=>⟨_,rfl,_,rfl,d2,rfl⟩⟩) (by
   intro o y h1 _
   refine ⟨.inr o,by simp only [h1]; rfl,?_⟩
   refine ⟨(m.Atoms.all (fun a=>decide (0<=a.Deg)&&Jl vars res a.Lin),o),?_,y,rfl⟩
   refine (Ox m.Atoms (fun a=>decide (0<=a.Deg)&&Jl vars res a.Lin) (fun j=>(j:Int)) rfl (by omega) (rt:=(true,o)) (rf:=(false,o)) ?_ ?_).trans (by cases m.Atoms.all (fun a=>decide (0<=a.Deg)&&Jl vars res a.Lin) <;> rfl)
   .intro j a hx h1 h2 h3
    simp only [h1,h2,h3,cond_true,Ad,Avz o b2 data vars res a.Lin (l.al a (Bo hx))]
    by_cases h0:0<=a.Deg
    .rw [Ak h0,Al (by omega)]
     cases Jl vars res a.Lin with
     | true=>exact ⟨fun _=>rfl,fun h=>by cases h⟩
     | false=>exact ⟨(fun h=>by cases h),fun _=>⟨_,rfl,rfl⟩⟩
    .rw [Al h0,Ak (by omega)]
     exact ⟨(fun h=>by cases h),fun _=>⟨_,rfl,rfl⟩⟩
   .intro h; exact ⟨.inr (),by simp only [h]; rfl,rfl⟩)
 refine ⟨r,U,r.2,?_,?_⟩
 .unfold Nc
  rw [<-Zn]
  rcases N with ⟨h1,h2,h3⟩ | ⟨h1,h2,h3⟩
  .rw [h1,Bool.true_and,<-h3]
  .rw [h1,Bool.false_and,<-h3]
 .rcases N with ⟨h1,h2,h3⟩ | ⟨h1,h2,h3⟩ <;> exact h2
theorem Afc (g:Cj->Int) {l:List Cj} {j:Nat} {x:Cj} (h:l[j]? = some x):((l.take (j+1)).map g).sum=((l.take j).map g).sum+g x:=by
 rw [Cw h]; simp
theorem Afd {l:List B5} {j:Nat} {x:B5} (h:l[j]? = some x):C8 (l.take (j+1))=C8 (l.take j)+x.Deg:=by
 unfold C8; rw [Cw h]; simp
theorem Av1 (hc:O6 data vars res) (A:Fq data vars res b1) (m:A8) (k:Dl m) (hp:Nc data vars res m=true) :
  ∃p:Int×List (ByteArray×Int),Vq m b1 b2 data vars res.Kind res.Num res.Args=some p/\(decide (p.1>6) = !decide (Ci data vars res m.Factors+C8 m.Atoms<=6))/\Fq data vars res p.2:=by
 have hf:=k.nf
 have ha:=k.na
 unfold Nc at hp
 rw [C6,List.all_eq_true,List.all_eq_true] at hp
 unfold Vq
 refine Er (fun (v5,u,g)=>∃j:Nat,u=j/\j<=m.Factors.length/\Fq data vars res g/\0<=v5/\v5<=12/\(v5=Ci data vars res (m.Factors.take j)\/(6<v5/\6<Ci data vars res (m.Factors.take j)))) (fun (_,u,_)=>m.Factors.length-u.toNat)
  (fun (v5,g)=>Fq data vars res g/\0<=v5/\v5<=12/\(v5=Ci data vars res m.Factors\/(6<v5/\6<Ci data vars res m.Factors))) ⟨0,rfl,by omega,A,by omega,by omega,.inl (by simp [Ci])⟩ ?_ ?_
 .rintro ⟨v5,u,g⟩ ⟨j,rfl,hj,q,h0,h12,l⟩
  rcases Nat.lt_or_ge j m.Factors.length with h | h
  .have hx:m.Factors[j]? = some m.Factors[j]:=Bn h
   generalize m.Factors[j]=f at hx
   have c:=Bo hx
   have hd:=hp.1 f c
   rw [decide_eq_true_eq] at hd
   have B:=(Afa data vars res f).2
   have es:Ci data vars res (m.Factors.take (j+1))=Ci data vars res (m.Factors.take j)+Di data vars res f:=Afc _ hx
   simp only [Ak (by omega:(j:Int)<(m.Factors.length:Int)),cond_true,Ch rfl hx,Ad,Cz h (by omega)]
   by_cases s:v5<=6
   .have x:(tyX vars res f.Var).isSome=true:=by
     unfold Di at hd
     cases ht:tyX vars res f.Var with
     | none=>rw [ht] at hd; have hd:(0:Int)<=-1:=hd; omega
     | some t=>rfl
    obtain ⟨D,d1,d2⟩:=Afb b2 hc q f (k.fr f c).2 (k.fr f c).1 (k.fi f c) x
    rw [Ak s]
    simp only [cond_true,d1,Ad]
    have b:Ac (v5+Di data vars res f)=v5+Di data vars res f:=by rw [Ac,Bz] <;> omega
    exact .inl ⟨_,rfl,⟨j+1,rfl,by omega,d2,by simp only [b]; omega,by simp only [b]; omega,by simp only [b,es]; omega⟩,by simp; omega⟩
   .rw [Al s]
    exact .inl ⟨_,rfl,⟨j+1,rfl,by omega,q,h0,h12,by simp only [es]; omega⟩,by simp; omega⟩
  .have:j=m.Factors.length:=by omega
   subst this
   rw [List.take_length] at l
   exact .inr ⟨(v5,g),by simp,q,h0,h12,l⟩
 .rintro ⟨v5,g⟩ ⟨q,h0,h12,l⟩
  simp only
  refine Er (fun (v,i)=>∃j:Nat,i=j/\j<=m.Atoms.length/\0<=v/\v<=13/\(v=Ci data vars res m.Factors+C8 (m.Atoms.take j)\/(6<v/\6<Ci data vars res m.Factors+C8 (m.Atoms.take j)))) (fun (_,i)=>m.Atoms.length-i.toNat)
   (fun v=>(v=Ci data vars res m.Factors+C8 m.Atoms\/(6<v/\6<Ci data vars res m.Factors+C8 m.Atoms))) ⟨0,rfl,by omega,h0,by omega,by simpa [C8] using l⟩ ?_ ?_
  .rintro ⟨v,i⟩ ⟨j,rfl,hj,g0,g13,z⟩
   rcases Nat.lt_or_ge j m.Atoms.length with h | h
   .have hx:m.Atoms[j]? = some m.Atoms[j]:=Bn h
    generalize m.Atoms[j]=a at hx
    have hd:=hp.2 a (Bo hx)
    rw [C6,decide_eq_true_eq] at hd
    have es:=Afd hx
    simp only [Ak (by omega:(j:Int)<(m.Atoms.length:Int)),cond_true,Ch rfl hx,Ad,Cz h (by omega)]
    by_cases s:v<=6
    .rw [Ak s]
     simp only [cond_true]
     by_cases y:7<a.Deg
     .rw [if_pos y]
      have b:Ac (v+7)=v+7:=by rw [Ac,Bz] <;> omega
      exact .inl ⟨_,rfl,⟨j+1,rfl,by omega,by simp only [b]; omega,by simp only [b]; omega,by simp only [b,es]; omega⟩,by simp; omega⟩
     .rw [if_neg y]
      have b:Ac (v+a.Deg)=v+a.Deg:=by rw [Ac,Bz] <;> omega
      exact .inl ⟨_,rfl,⟨j+1,rfl,by omega,by simp only [b]; omega,by simp only [b]; omega,by simp only [b,es]; omega⟩,by simp; omega⟩
    .rw [Al s]
     exact .inl ⟨_,rfl,⟨j+1,rfl,by omega,g0,g13,by simp only [es]; omega⟩,by simp; omega⟩
   .have:j=m.Atoms.length:=by omega
    subst this
    rw [List.take_length] at z
    exact .inr ⟨v,by simp,z⟩
  .intro v l
   refine ⟨(v,g),rfl,?_,q⟩
   by_cases h:Ci data vars res m.Factors+C8 m.Atoms<=6
   .rw [Ak h,Al (by simp only; omega)]; rfl
   .rw [Al h,Ak (by simp only; omega)]; rfl
end
end Go.Ab
namespace Go.Ab
open Go
theorem Al0 {S E:Type} (F:Ce->Ce->Option Int) (l:List B5) (g:∀y∈l,∀x,F y.Lin x=some (Gi y.Lin x)) {x:B5} {j:Nat} (hx:l[j]? = some x) (i:l.length<4611686018427387904) (c b:Option (S⊕E)) :
  (bif decide ((j:Int)>0) then ((Af l (Ac ((j:Int)-1))).bind fun f=>(F f.Lin x.Lin).bind fun v28=>bif decide (v28>=0) then c else b) else b)=bif O7 l x j then b else c:=by
 have hj:=Df hx
 unfold O7
 by_cases h:j=0
 .subst h; rfl
 .rw [Ak (by omega)]
  have e:Ac ((j:Int)-1)=((j-1:Nat):Int):=by rw [Ac,Bz] <;> omega
  have hy:l[j-1]? = some l[j-1]:=Bn (by omega)
  rw [e,Ch rfl hy,hy]
  have h0:(j==0)=false:=by simpa using h
  simp only [cond_true,Ad,h0,Bool.false_or,g _ (List.getElem_mem (by omega:j-1<l.length))]
  by_cases hc:Gi l[j-1].Lin x.Lin<0
  .rw [Al (by omega),Ak hc]; rfl
  .rw [Ak (by omega),Al hc]; rfl
section
variable {b1:List (ByteArray×Int)} (b2:List (ByteArray×List Eh)) {data:List Az} {vars:List Ai} {res:Ai}
def Wv (data:List Az) (vars:List Ai) (res:Ai) (l:List Cj) (f:Cj) (j:Nat):Bool:=!(Di data vars res f==0)&&Jk (·.Var) l f j
def O8 (l:List B5) (a:B5) (j:Nat):Bool:=!(a.Deg==0)&&Fh a.Lin && !(a.Lin.Terms.length==0)&&O7 l a j
theorem Av2 (m:A8):Hc data vars res m=(Nc data vars res m&&decide (Ci data vars res m.Factors+C8 m.Atoms<=6)&&m.Factors.zipIdx.all (fun q=>Wv data vars res m.Factors q.1 q.2)&&m.Atoms.zipIdx.all (fun q=>O8 m.Atoms q.1 q.2)):=by
 rw [Bool.eq_iff_iff]
 unfold Hc Nc
 rw [<-Zn m.Factors (fun f=>decide (0<=Di data vars res f)),<-Zn m.Atoms (fun a=>decide (0<=a.Deg)&&Jl vars res a.Lin)]
 simp only [C6,List.all_eq_true,Mb,J3,Wv,O8,decide_eq_true_eq,Bool.not_eq_true',beq_eq_false_iff_ne,ne_eq]
 constructor
 .rintro ⟨⟨h1,h2⟩,h3⟩
  refine ⟨⟨⟨⟨fun q hq=>?_,fun q hq=>?_⟩,h3⟩,fun q hq=>?_⟩,fun q hq=>?_⟩
  .have:=(h1 q hq).1; omega
  .have:=h2 q hq; exact ⟨by omega,this.1.2⟩
  .have:=h1 q hq; exact ⟨by omega,this.2⟩
  .have:=h2 q hq; exact ⟨⟨⟨by omega,this.1.1.1.2⟩,this.1.1.2⟩,this.2⟩
 .rintro ⟨⟨⟨⟨h1,h2⟩,h3⟩,c⟩,b⟩
  refine ⟨⟨fun q hq=>?_,fun q hq=>?_⟩,h3⟩
  .have:=h1 q hq; have g:=c q hq; exact ⟨by omega,g.2⟩
  .have:=h2 q hq; have g:=b q hq; exact ⟨⟨⟨⟨by omega,g.1.1.2⟩,g.1.2⟩,this.2⟩,g.2⟩
theorem Av3 (hc:O6 data vars res) (hm:Fq data vars res b1) (m:A8) (i:Dl m) :
  ∃A,Sp m b1 b2 data vars res.Kind res.Num res.Args=some (Hc data vars res m,A)/\Fq data vars res A:=by
 have hf:=i.nf
 have ha:=i.na
 rw [Av2]
 unfold Sp
 obtain ⟨b,p1,Z⟩:=Av0 b2 hc hm m i
 rw [p1]
 cases hp:Nc data vars res m with
 | false=>exact ⟨b,rfl,Z⟩
 | true=>
  obtain ⟨q,q1,q2,Y⟩:=Av1 b2 hc Z m i hp
  simp only [Ad,Dj,cond_false,q1,q2]
  cases hs:decide (Ci data vars res m.Factors+C8 m.Atoms<=6) with
  | false=>exact ⟨q.2,rfl,Y⟩
  | true=>
   simp only [Dj,cond_false,Bool.true_and]
   have U:∀f∈m.Factors,(tyX vars res f.Var).isSome=true:=by
    intro f c
    unfold Nc at hp
    rw [C6,List.all_eq_true] at hp
    have hd:=hp.1 f c
    rw [decide_eq_true_eq] at hd
    unfold Di at hd
    cases ht:tyX vars res f.Var with
    | none=>rw [ht] at hd; have hd:(0:Int)<=-1:=hd; omega
    | some t=>rfl
   obtain ⟨r,r1,X⟩:=Wf (M:=List (ByteArray×Int)) (R:=Bool×List (ByteArray×Int)) m.Factors (fun q=>Wv data vars res m.Factors q.1 q.2) (fun j o=>((j:Int),o)) (Fq data vars res)
    (fun r=>Fq data vars res r.2/\r.1=m.Atoms.zipIdx.all (fun q=>O8 m.Atoms q.1 q.2)) (fun r=>Fq data vars res r.2/\r.1=false) q.2
    (s0:=((0:Int),q.2))
    (step:=(fun (v9,s)=>
     bif (decide (v9<(m.Factors.length:Int))) then (
     (Af m.Factors v9).bind fun k=>
     (Lz k.Var k.Index s b2 data vars res.Kind res.Num res.Args).bind fun g=>
     bif (g.1==(0:Int)) then some (.inr (.inl (false,g.2)))
     else (
     bif (decide (v9>(0:Int))) then (
     (Af m.Factors (Ac (v9-1))).bind fun D=>
     bif (decide (D.Var>=k.Var)) then some (.inr (.inl (false,g.2)))
     else some (.inl ((Ac (v9+1)),g.2)))
     else some (.inl ((Ac (v9+1)),g.2))))
     else some (.inr (.inr s)):Int×List (ByteArray×Int)->Option ((Int×List (ByteArray×Int))⊕((Bool×List (ByteArray×Int))⊕List (ByteArray×Int)))))
    (J:=(fun z=>match z with
     | .inl (N,L)=>some (N,L)
     | .inr l=>(Am (S:=Int) (E:=((Bool×(List (ByteArray×Int)))⊕Unit)) (fun v22=>
       bif (decide (v22<(m.Atoms.length:Int))) then (
       (Af m.Atoms v22).bind fun v23=>
       (show Option Bool from
       bif (v23.Deg==(0:Int)) then some true
       else (
       (P7 v23.Lin).bind fun v25=>
       bif (!v25) then some true
       else some ((v23.Lin.Terms.length:Int)==(0:Int)))).bind fun v26=>
       bif v26 then some (.inr (.inl (false,l)))
       else (
       bif (decide (v22>(0:Int))) then (
       (Af m.Atoms (Ac (v22-1))).bind fun B=>
       (Oe B.Lin v23.Lin).bind fun v28=>
       bif (decide (v28>=(0:Int))) then some (.inr (.inl (false,l)))
       else some (.inl (Ac (v22+1))))
       else some (.inl (Ac (v22+1)))))
       else some (.inr (.inr ()))) 0).bind fun z=>match z with
        | .inl (I,G)=>some (I,G)
        | .inr _=>some (true,l)))
    rfl Y (by omega) (by
     intro j f o V hx _ h1 h2 h3
     have c:=Bo hx
     obtain ⟨A,d1,d2⟩:=Afb b2 hc V f (i.fr f c).2 (i.fr f c).1 (i.fi f c) (U f c)
     simp only [h1,h2,h3,cond_true,Ad,d1,Ae9 (·.Var) m.Factors hx (by omega),Wv]
     cases (Di data vars res f==0) with
     | true=>exact ⟨(fun h=>by cases h),fun _=>⟨_,rfl,_,rfl,d2,rfl⟩⟩
     | false=>
      cases Jk (·.Var) m.Factors f j with
      | true=>exact ⟨fun _=>⟨A,rfl,d2⟩,fun h=>by cases h⟩
      | false=>exact ⟨(fun h=>by cases h),fun _=>⟨_,rfl,_,rfl,d2,rfl⟩⟩) (by
     intro o V h1 _
     refine ⟨.inr o,by simp only [h1]; rfl,?_⟩
     refine ⟨(m.Atoms.zipIdx.all (fun q=>O8 m.Atoms q.1 q.2),o),?_,V,rfl⟩
     refine (Q6 m.Atoms (fun q=>O8 m.Atoms q.1 q.2) (fun j=>(j:Int)) rfl (by omega) (rt:=(true,o)) (rf:=(false,o)) ?_ ?_).trans (by cases m.Atoms.zipIdx.all (fun q=>O8 m.Atoms q.1 q.2) <;> rfl)
     .intro j a hx _ h1 h2 h3
      have u:((a.Lin.Terms.length:Int)==(0:Int))=(a.Lin.Terms.length==0):=Ako a.Lin.Terms 0
      simp only [h1,h2,h3,cond_true,Ad,Alw,Al0 Oe m.Atoms (fun y hy x=>Alu y.Lin x (by have:=i.al y hy; omega)) hx (by omega),O8,u]
      cases (a.Deg==0) with
      | true=>exact ⟨(fun h=>by cases h),fun _=>⟨_,rfl,rfl⟩⟩
      | false=>
       cases Fh a.Lin with
       | false=>exact ⟨(fun h=>by cases h),fun _=>⟨_,rfl,rfl⟩⟩
       | true=>
        cases (a.Lin.Terms.length==0) with
        | true=>exact ⟨(fun h=>by cases h),fun _=>⟨_,rfl,rfl⟩⟩
        | false=>
         cases O7 m.Atoms a j with
         | true=>exact ⟨fun _=>rfl,fun h=>by cases h⟩
         | false=>exact ⟨(fun h=>by cases h),fun _=>⟨_,rfl,rfl⟩⟩
     .intro h _; exact ⟨.inr (),by simp only [h]; rfl,rfl⟩)
   refine ⟨r.2,?_,?_⟩
   .have e:some r=some (m.Factors.zipIdx.all (fun q=>Wv data vars res m.Factors q.1 q.2)&&m.Atoms.zipIdx.all (fun q=>O8 m.Atoms q.1 q.2),r.2):=by
     rcases X with ⟨h1,h2,h3⟩ | ⟨h1,h2,h3⟩
     .rw [h1,Bool.true_and,<-h3]
     .rw [h1,Bool.false_and,<-h3]
    rw [<-e]
    exact r1
   .rcases X with ⟨h1,h2,h3⟩ | ⟨h1,h2,h3⟩ <;> exact h2
theorem Al1 (l:List Cj):Ci data vars res l<=6*l.length/\-(l.length:Int)<=Ci data vars res l:=by
 induction l with
 | nil=>simp [Ci]
 | cons x xs ih=>
  have:=Afa data vars res x
  unfold Ci at *
  simp only [List.map_cons,List.sum_cons,List.length_cons]
  omega
theorem Al2 (l:List Cj) (h:∀f∈l,0<=Di data vars res f):0<=Ci data vars res l:=by
 induction l with
 | nil=>simp [Ci]
 | cons x xs ih=>
  have h1:=h x (by simp)
  have h2:=ih (fun f hf=>h f (by simp [hf]))
  unfold Ci at *
  simp only [List.map_cons,List.sum_cons]
  omega
theorem Ww (l:List B5) (h:∀a∈l,0<=a.Deg):0<=C8 l/\((∀a∈l,a.Deg<=6)->C8 l<=6*l.length)/\∀a∈l,a.Deg<=C8 l:=by
 induction l with
 | nil=>simp [C8]
 | cons x xs ih=>
  have h1:=h x (by simp)
  obtain ⟨i1,i2,i3⟩:=ih (fun f hf=>h f (by simp [hf]))
  unfold C8 at *
  simp only [List.map_cons,List.sum_cons,List.length_cons]
  refine ⟨by omega,fun g=>?_,fun a ha=>?_⟩
  .have:=g x (by simp)
   have:=i2 (fun a ha=>g a (by simp [ha]))
   omega
  .rcases List.mem_cons.1 ha with rfl | ha
   .omega
   .have:=i3 a ha; omega
end
theorem Av4 {x:Bh} (hc:O6 x.Data x.Vars x.Res) (m:A8) (I:Dl m):∃v,U5 x m=some v/\decide (v<0) = !Hc x.Data x.Vars x.Res m:=by
 have hf:=I.nf
 have ha:=I.na
 unfold U5
 have V:∀n,m.Factors.zipIdx.all (fun q=>Mb x.Data x.Vars x.Res m.Factors q.1 q.2)=true->0<=Ci x.Data x.Vars x.Res (m.Factors.take n):=by
  intro n h
  refine Al2 _ (fun f hf=>?_)
  obtain ⟨j,hj⟩:=List.getElem?_of_mem (List.mem_of_mem_take hf)
  have:=Gz h hj
  simp only [Mb,C6,decide_eq_true_eq] at this
  omega
 have X:m.Factors.zipIdx.all (fun q=>Mb x.Data x.Vars x.Res m.Factors q.1 q.2)=false->Hc x.Data x.Vars x.Res m=false:=by
  intro h; unfold Hc; rw [h]; rfl
 obtain ⟨r,r1,r2⟩:=Wf (M:=Unit) (R:=Int) m.Factors (fun q=>Mb x.Data x.Vars x.Res m.Factors q.1 q.2) (fun j _=>(Ci x.Data x.Vars x.Res (m.Factors.take j),(j:Int))) (fun _=>True)
  (fun v=>decide (v<0) = !Hc x.Data x.Vars x.Res m) (fun v=>v = -1) ()
  (s0:=((0:Int),(0:Int)))
  (step:=(fun (v9,c)=>
   bif (decide (c<(m.Factors.length:Int))) then (
   (Af m.Factors c).bind fun u=>
   (Kb x u.Var).bind fun G=>
   (show Option Bool from
   bif (!G.2) then some true
   else (
   bif (decide (c>(0:Int))) then (
   (Af m.Factors (Ac (c-1))).bind fun s=>
   some (decide (s.Var>=u.Var)))
   else some false)).bind fun a1=>
   bif a1 then some (.inr (.inl (-1)))
   else (
   (Lb x.Data G.1 u.Index).bind fun v17=>
   bif (decide (v17<(1:Int))) then some (.inr (.inl (-1)))
   else some (.inl ((Ac (v9+v17)),(Ac (c+1))))))
   else some (.inr (.inr v9)):Int×Int->Option ((Int×Int)⊕(Int⊕Int))))
  (J:=(fun z=>match z with
   | .inl a6=>some a6
   | .inr Z=>(Am (S:=(Int×Int)) (E:=(Int⊕Int)) (fun (v24,v25)=>
     bif (decide (v25<(m.Atoms.length:Int))) then (
     (Af m.Atoms v25).bind fun v26=>
     (N1 v26.Lin).bind fun v28=>
     bif (!v28) then some (.inr (.inl (-1)))
     else (
     bif ((v26.Lin.Terms.length:Int)==(0:Int)) then some (.inr (.inl (-1)))
     else (
     (N2 x v26.Lin).bind fun l=>
     bif (!l) then some (.inr (.inl (-1)))
     else (
     bif (decide (v25>(0:Int))) then (
     (Af m.Atoms (Ac (v25-1))).bind fun k=>
     (Jv k.Lin v26.Lin).bind fun v31=>
     bif (decide (v31>=(0:Int))) then some (.inr (.inl (-1)))
     else (
     bif (decide (v26.Deg<(1:Int))) then some (.inr (.inl (-1)))
     else (
     bif (decide (v26.Deg>(6:Int))) then some (.inr (.inl (-1)))
     else some (.inl ((Ac (v24+v26.Deg)),(Ac (v25+1)))))))
     else (
     bif (decide (v26.Deg<(1:Int))) then some (.inr (.inl (-1)))
     else (
     bif (decide (v26.Deg>(6:Int))) then some (.inr (.inl (-1)))
     else some (.inl ((Ac (v24+v26.Deg)),(Ac (v25+1))))))))))
     else some (.inr (.inr v24))) (Z,0)).bind fun z=>match z with
      | .inl A=>some A
      | .inr v33=>bif (decide (v33>(6:Int))) then some (-1) else some v33))
  (by simp [Ci]) trivial (by omega) (by
   intro j f _ _ hx _ h1 h2 h3
   have ab:=Bo hx
   have hj:=Df hx
   have a7:(bif decide ((j:Int)>0) then ((Af m.Factors (Ac ((j:Int)-1))).bind fun s=>some (decide (s.Var>=f.Var))) else some false)=some (!Jk (·.Var) m.Factors f j):=by
    unfold Jk
    by_cases h:j=0
    .subst h; rfl
    .rw [Ak (by omega)]
     have e:Ac ((j:Int)-1)=((j-1:Nat):Int):=by rw [Ac,Bz] <;> omega
     have hy:m.Factors[j-1]? = some m.Factors[j-1]:=Bn (by omega)
     rw [e,Ch rfl hy,hy]
     have h0:(j==0)=false:=by simpa using h
     simp only [cond_true,Ad,h0,Bool.false_or]
     by_cases hc:m.Factors[j-1].Var<f.Var
     .rw [Al (by omega),Ak hc]; rfl
     .rw [Ak (by omega),Al hc]; rfl
   have es:Ci x.Data x.Vars x.Res (m.Factors.take (j+1))=Ci x.Data x.Vars x.Res (m.Factors.take j)+Di x.Data x.Vars x.Res f:=Afc _ hx
   have hb:=Al1 (data:=x.Data) (vars:=x.Vars) (res:=x.Res) (m.Factors.take j)
   have ag:(m.Factors.take j).length<=1048576:=by simp; omega
   have ae:=Afa x.Data x.Vars x.Res f
   simp only [h1,h2,h3,cond_true,Ad,Wu,Mb,es]
   cases ht:tyX x.Vars x.Res f.Var with
   | none=>
    have e:Di x.Data x.Vars x.Res f = -1:=by unfold Di; rw [ht]
    rw [e]
    exact ⟨(fun h=>by cases h),fun _=>⟨.inl (-1),rfl,_,rfl,rfl⟩⟩
   | some t=>
    have e:Di x.Data x.Vars x.Res f=Fp (F6 x.Data f.Index t):=by unfold Di; rw [ht]
    simp only [Dj,cond_false,a7,Ad,Z7 hc.vd hc.sh t f.Index (hc.sz _ _ ht) (I.fi f ab),<-e]
    cases ac:Jk (·.Var) m.Factors f j with
    | false=>exact ⟨(fun h=>by simp at h),fun _=>⟨.inl (-1),rfl,_,rfl,rfl⟩⟩
    | true=>
     simp only [Dj,cond_false,Bool.and_true]
     by_cases h1:1<=Di x.Data x.Vars x.Res f
     .rw [Ak h1,Al (by omega)]
      refine ⟨fun _=>⟨(),?_,trivial⟩,fun h=>by cases h⟩
      simp only [cond_false]
      rw [show Ac (Ci x.Data x.Vars x.Res (m.Factors.take j)+Di x.Data x.Vars x.Res f)=Ci x.Data x.Vars x.Res (m.Factors.take j)+Di x.Data x.Vars x.Res f by rw [Ac,Bz] <;> omega]
     .rw [Al h1,Ak (by omega)]
      exact ⟨(fun h=>by cases h),fun _=>⟨.inl (-1),rfl,_,rfl,rfl⟩⟩) (by
   intro _ _ h1 g
   have aa:=V m.Factors.length g
   have af:=Al1 (data:=x.Data) (vars:=x.Vars) (res:=x.Res) m.Factors
   rw [List.take_length] at aa
   refine ⟨.inr (Ci x.Data x.Vars x.Res m.Factors),by simp,?_⟩
   obtain ⟨w,w1,w2⟩:=Wf (M:=Unit) (R:=Int) m.Atoms (fun q=>J3 x.Vars x.Res m.Atoms q.1 q.2&&decide (q.1.Deg<=6)) (fun j _=>(Ci x.Data x.Vars x.Res m.Factors+C8 (m.Atoms.take j),(j:Int))) (fun _=>True)
    (fun v=>decide (v<0) = !decide (Ci x.Data x.Vars x.Res m.Factors+C8 m.Atoms<=6)) (fun v=>v = -1) ()
    (s0:=(Ci x.Data x.Vars x.Res m.Factors,(0:Int)))
    (step:=(fun (v24,v25)=>
     bif (decide (v25<(m.Atoms.length:Int))) then (
     (Af m.Atoms v25).bind fun v26=>
     (N1 v26.Lin).bind fun v28=>
     bif (!v28) then some (.inr (.inl (-1)))
     else (
     bif ((v26.Lin.Terms.length:Int)==(0:Int)) then some (.inr (.inl (-1)))
     else (
     (N2 x v26.Lin).bind fun l=>
     bif (!l) then some (.inr (.inl (-1)))
     else (
     bif (decide (v25>(0:Int))) then (
     (Af m.Atoms (Ac (v25-1))).bind fun k=>
     (Jv k.Lin v26.Lin).bind fun v31=>
     bif (decide (v31>=(0:Int))) then some (.inr (.inl (-1)))
     else (
     bif (decide (v26.Deg<(1:Int))) then some (.inr (.inl (-1)))
     else (
     bif (decide (v26.Deg>(6:Int))) then some (.inr (.inl (-1)))
     else some (.inl ((Ac (v24+v26.Deg)),(Ac (v25+1)))))))
     else (
     bif (decide (v26.Deg<(1:Int))) then some (.inr (.inl (-1)))
     else (
     bif (decide (v26.Deg>(6:Int))) then some (.inr (.inl (-1)))
     else some (.inl ((Ac (v24+v26.Deg)),(Ac (v25+1))))))))))
     else some (.inr (.inr v24)):Int×Int->Option ((Int×Int)⊕(Int⊕Int))))
    (J:=(fun z=>match z with
      | .inl A=>some A
      | .inr v33=>bif (decide (v33>(6:Int))) then some (-1) else some v33))
    (by simp [C8]) trivial (by omega) (by
     intro j a _ _ hx B h1 h2 h3
     have L:((a.Lin.Terms.length:Int)==(0:Int))=(a.Lin.Terms.length==0):=Ako a.Lin.Terms 0
     have es:=Afd hx
     have ah:0<=C8 (m.Atoms.take j)/\C8 (m.Atoms.take j)<=6*1048576:=by
      have N:∀b∈m.Atoms.take j,1<=b.Deg/\b.Deg<=6:=by
       intro b hb
       obtain ⟨i,hi⟩:=List.getElem?_of_mem hb
       have a8:=Df hi
       have U:i<j:=by simp at a8; omega
       rw [List.getElem?_take_of_lt U] at hi
       have:=B i b U hi
       simp only [J3,C6,decide_eq_true_eq] at this
       omega
      obtain ⟨k1,k2,_⟩:=Ww (m.Atoms.take j) (fun b hb=>by have:=N b hb; omega)
      have:=k2 (fun b hb=>(N b hb).2)
      have hl:(m.Atoms.take j).length<=1048576:=by simp; omega
      omega
     simp only [h1,h2,h3,cond_true,Ad,Alx,Alz x a.Lin (I.al a (Bo hx)),Al0 Jv m.Atoms (fun y hy x=>Ae6 y.Lin x (by have:=I.al y hy; omega)) hx (by omega),J3,L,es]
     cases Fh a.Lin with
     | false=>exact ⟨(fun h=>by simp at h),fun _=>⟨.inl (-1),rfl,_,rfl,rfl⟩⟩
     | true=>
      cases (a.Lin.Terms.length==0) with
      | true=>exact ⟨(fun h=>by simp at h),fun _=>⟨.inl (-1),rfl,_,rfl,rfl⟩⟩
      | false=>
       cases Jl x.Vars x.Res a.Lin with
       | false=>exact ⟨(fun h=>by simp at h),fun _=>⟨.inl (-1),rfl,_,rfl,rfl⟩⟩
       | true=>
        simp only [Dj,cond_false,Bool.not_false,Bool.and_true]
        cases O7 m.Atoms a j with
        | false=>exact ⟨(fun h=>by simp at h),fun _=>⟨.inl (-1),rfl,_,rfl,rfl⟩⟩
        | true=>
         simp only [cond_true,Bool.and_true]
         by_cases g1:a.Deg<1
         .rw [Ak g1,Al (by omega:¬1<=a.Deg)]
          exact ⟨(fun h=>by simp at h),fun _=>⟨.inl (-1),rfl,_,rfl,rfl⟩⟩
         .by_cases g2:a.Deg>6
          .rw [Al g1,Ak g2,Al (by omega:¬a.Deg<=6)]
           exact ⟨(fun h=>by simp at h),fun _=>⟨.inl (-1),rfl,_,rfl,rfl⟩⟩
          .rw [Al g1,Al g2,Ak (by omega:a.Deg<=6),Ak (by omega:1<=a.Deg)]
           refine ⟨fun _=>⟨(),?_,trivial⟩,fun h=>by cases h⟩
           simp only [cond_false]
           rw [show Ac (Ci x.Data x.Vars x.Res m.Factors+C8 (m.Atoms.take j)+a.Deg)=Ci x.Data x.Vars x.Res m.Factors+(C8 (m.Atoms.take j)+a.Deg) by rw [Ac,Bz] <;> omega]) (by
     intro _ _ h1 D
     refine ⟨.inr (Ci x.Data x.Vars x.Res m.Factors+C8 m.Atoms),by simp,?_⟩
     have ai:0<=C8 m.Atoms:=(Ww m.Atoms (fun b hb=>by
      obtain ⟨i,hi⟩:=List.getElem?_of_mem hb
      have:=Gz D hi
      simp only [J3,C6,decide_eq_true_eq] at this
      omega)).1
     simp only
     by_cases h6:Ci x.Data x.Vars x.Res m.Factors+C8 m.Atoms<=6
     .rw [Al (by omega),Ak h6]
      exact ⟨_,rfl,Al (by omega)⟩
     .rw [Ak (by omega),Al h6]
      exact ⟨_,rfl,rfl⟩)
   refine ⟨w,w1,?_⟩
   unfold Hc
   rw [g,Bool.true_and]
   rcases w2 with ⟨g1,g2⟩ | ⟨g1,g2⟩
   .have Y:m.Atoms.zipIdx.all (fun q=>J3 x.Vars x.Res m.Atoms q.1 q.2)=true:=Zm fun j a hj=>by
     have:=Gz g1 hj
     simp only [C6] at this
     exact this.1
    rw [Y,Bool.true_and,g2]
   .rw [g2]
    cases Y:m.Atoms.zipIdx.all (fun q=>J3 x.Vars x.Res m.Atoms q.1 q.2) with
    | false=>rfl
    | true=>
     have hgt:¬Ci x.Data x.Vars x.Res m.Factors+C8 m.Atoms<=6:=by
      intro ad
      have:m.Atoms.zipIdx.all (fun q=>J3 x.Vars x.Res m.Atoms q.1 q.2&&decide (q.1.Deg<=6))=true:=Zm fun j a hj=>by
       have gj:=Gz Y hj
       have hpos:∀b∈m.Atoms,0<=b.Deg:=fun b hb=>by
        obtain ⟨i,hi⟩:=List.getElem?_of_mem hb
        have:=Gz Y hi
        simp only [J3,C6,decide_eq_true_eq] at this
        omega
       have:=(Ww m.Atoms hpos).2.2 a (Bo hj)
       simp only [gj,Bool.true_and,decide_eq_true_eq]
       omega
      rw [this] at g1; cases g1
     rw [Al hgt]; rfl)
 refine ⟨r,r1,?_⟩
 rcases r2 with ⟨h1,h2⟩ | ⟨h1,h2⟩
 .exact h2
 .rw [h2,X h1]; rfl
end Go.Ab
