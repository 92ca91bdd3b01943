/- Plain laws: what the plain functions answer. -/
import Derived.Test.YtjjkmepjaemceaaGreatDoorBlPl1
import Derived.Lib.ItoaLen
namespace Go.Ab
open Go
def isV (σ:List Ah) (k n:Int):Bool:=k==4&&decide (0<=n)&&decide (n<(σ.length:Int))
mutual
def Cd (σ:List Ah):Ah->Ah
 | ⟨k,n,l⟩=>match (if isV σ k n then σ[n.toNat]? else none) with
  | some s=>s
  | none=>⟨k,n,Lg σ l⟩
def Lg (σ:List Ah):List Ah->List Ah
 | []=>[]
 | x::xs=>Cd σ x::Lg σ xs
end
theorem Ap7 (σ l:List Ah):Lg σ l=l.map (Cd σ):=by
 induction l with
 | nil=>rfl
 | cons x xs ih=>simp only [Lg,ih,List.map_cons]
theorem W4 {σ:List Ah} {k n:Int} (h:isV σ k n=true):∃s,σ[n.toNat]? = some s/\Af σ n=some s/\s∈σ:=by
 simp only [isV,C9,decide_eq_true_eq] at h
 have b:n.toNat < σ.length:=by omega
 refine ⟨σ[n.toNat],Cb b,?_,List.getElem_mem b⟩
 unfold Af
 rw [if_pos (by omega),Cb b]
theorem W5 {σ:List Ah} {t s:Ah} (h:isV σ t.Kind t.Num=true) (b:σ[t.Num.toNat]? = some s):Cd σ t=s:=by
 cases t; simp only [Cd] at *; simp [h,b]
theorem Abb {σ:List Ah} {t:Ah} (h:isV σ t.Kind t.Num=false):Cd σ t=⟨t.Kind,t.Num,t.Args.map (Cd σ)⟩:=by
 cases t; simp only [Cd] at *; simp [h,Ap7]
mutual
theorem Ahc:∀t:Ah,Cd [] t=t
 | ⟨k,n,l⟩=>by
  have hv:isV [] k n=false:=by
   unfold isV
   by_cases h:0<=n
   .rw [Al (by simp; omega:¬n<(([]:List Ah).length:Int))]; simp
   .rw [Al h]; simp
  simp only [Cd,hv,Ahd l]; rfl
theorem Ahd:∀l:List Ah,Lg [] l=l
 | []=>rfl
 | x::xs=>by simp only [Lg,Ahc x,Ahd xs]
end
mutual
theorem Abc (σ:List Ah) (M:Nat) (hM:1<=M) (hσ:∀s∈σ,A8 s<=M):∀t:Ah,A8 (Cd σ t)<=A8 t*M
 | ⟨k,n,l⟩=>by
  cases hv:isV σ k n with
  | true=>
   obtain ⟨s,h1,_,h3⟩:=W4 hv
   rw [W5 (t:=⟨k,n,l⟩) hv h1]
   have:=hσ s h3
   have h2:=Kp ⟨k,n,l⟩
   calc A8 s<=1*M:=by omega
    _<=_:=Nat.mul_le_mul_right M h2
  | false=>
   have:=Ahe σ M hM hσ l
   simp only [Cd,hv,A8]
   simp only [Bool.false_eq_true,if_false,A8]
   rw [Nat.add_mul]; omega
theorem Ahe (σ:List Ah) (M:Nat) (hM:1<=M) (hσ:∀s∈σ,A8 s<=M):∀l:List Ah,B5 (Lg σ l)<=B5 l*M
 | []=>by simp [Lg,B5]
 | x::xs=>by
  have h1:=Abc σ M hM hσ x
  have h2:=Ahe σ M hM hσ xs
  simp only [Lg,B5]
  rw [Nat.add_mul]; omega
end
theorem Abd (σ:List Ah) (t:Ah):(bif t.Kind==(4:Int) then bif decide (t.Num>=(0:Int)) then some (decide (t.Num<(σ.length:Int))) else some false else some false)=some (isV σ t.Kind t.Num):=by
 unfold isV
 cases t.Kind==4 <;> simp
 by_cases h:0<=t.Num <;> simp [h]
theorem Ap8:∀(k:Nat) (t:Ah) (σ:List Ah) (M:Nat),(∀s∈σ,A8 s<=M)->A8 t+M+1<=k->k<1099511627776->Mh k t σ=some (Cd σ t):=by
 intro k
 induction k with
 | zero=>intro t σ M _ h; omega
 | succ k ih=>
  intro t σ M c h hk
  have g:=F7 t
  have f:=Hr t.Args
  rw [Mh]
  rw [show (show Option Bool from bif t.Kind==(4:Int) then bif decide (t.Num>=(0:Int)) then some (decide (t.Num<(σ.length:Int))) else some false else some false)=some (isV σ t.Kind t.Num) from Abd σ t,Ac]
  cases b:isV σ t.Kind t.Num with
  | true=>
   obtain ⟨s,h1,h2,h3⟩:=W4 b
   have:=c s h3
   simp only [cond_true,h2,Ac,W5 b h1,ih s [] 0 (by simp) (by omega) (by omega),Ahc]
  | false=>
   rw [Abb b]
   simp only [cond_false]
   refine Fm t.Args (fun j=>((j:Int),(t.Args.take j).map (Cd σ))) rfl (by omega) ?_ ?_
   .intro j x hj hx h1 h2 h3
    have:=Gm (B3 hx)
    simp only [h1,h2,h3,cond_true,Ac,ih x σ M c (by omega) (by omega)]
    rw [Cs (by simp; omega),Ac,C5 hx]; simp
   .intro h1
    exact ⟨t.Args.map (Cd σ),by simp,rfl⟩
theorem Ap9:∀(k:Nat) (t:Ah),A8 t<=k->k<1099511627776->Oe k t=some t:=by
 intro k
 induction k with
 | zero=>intro t h; have:=Kp t; omega
 | succ k ih=>
  intro t h hk
  have c:=F7 t
  have b:=Hr t.Args
  rw [Oe]
  refine Fm t.Args (fun j=>((j:Int),(t.Args.take j))) rfl (by omega) ?_ ?_
  .intro j x hj hx h1 h2 h3
   have:=Gm (B3 hx)
   simp only [h1,h2,h3,cond_true,Ac,ih x (by omega) (by omega)]
   rw [Cs (by simp; omega),Ac,C5 hx]
  .intro h1
   exact ⟨t.Args,by simp,by cases t; rfl⟩
theorem Aqa:∀(k:Nat) (t:Ah) (σ:List Ah) (M:Nat),(∀s∈σ,A8 s<=M)->M<=4000000->A8 t<=k->k<1099511627776->Mi k t σ=some (Cd σ t):=by
 intro k
 induction k with
 | zero=>intro t σ M _ _ h; have:=Kp t; omega
 | succ k ih=>
  intro t σ M c i h hk
  have g:=F7 t
  have f:=Hr t.Args
  rw [Mi]
  rw [show (show Option Bool from bif t.Kind==(4:Int) then bif decide (t.Num>=(0:Int)) then some (decide (t.Num<(σ.length:Int))) else some false else some false)=some (isV σ t.Kind t.Num) from Abd σ t,Ac]
  cases b:isV σ t.Kind t.Num with
  | true=>
   obtain ⟨s,h1,h2,h3⟩:=W4 b
   have:=c s h3
   simp only [cond_true,h2,Ac,W5 b h1,Ap9 4000000 s (by omega) (by omega)]
  | false=>
   rw [Abb b]
   simp only [cond_false]
   refine Fm t.Args (fun j=>((j:Int),(t.Args.take j).map (Cd σ))) rfl (by omega) ?_ ?_
   .intro j x hj hx h1 h2 h3
    have:=Gm (B3 hx)
    simp only [h1,h2,h3,cond_true,Ac,ih x σ M c i (by omega) (by omega)]
    rw [Cs (by simp; omega),Ac,C5 hx]; simp
   .intro h1
    exact ⟨t.Args.map (Cd σ),by simp,rfl⟩
theorem Aqb:∀(k:Nat) (t:Ah),A8 t<=k->A8 t<1099511627776->N5 k t=some (A8 t:Int):=by
 intro k
 induction k with
 | zero=>intro t h; have:=Kp t; omega
 | succ k ih=>
  intro t h ht
  have b:=F7 t
  have c:=Hr t.Args
  rw [N5]
  refine Fm t.Args (fun j=>(1+(B5 (t.Args.take j):Int),(j:Int))) rfl (by omega) ?_ ?_
  .intro j x hj hx h1 h2 h3
   have g:=Gm (B3 hx)
   have f:=T2 t.Args (j+1)
   have e:B5 (t.Args.take (j+1))=B5 (t.Args.take j)+A8 x:=by rw [C5 hx,W0]; simp [B5]
   simp only [h1,h2,h3,cond_true,Ac,ih x (by omega) (by omega)]
   rw [show Ad (1+(B5 (t.Args.take j):Int)+(A8 x:Int))=1+(B5 (t.Args.take (j+1)):Int) by rw [e,Ad,Bt] <;> omega]
  .intro h1
   exact ⟨1+(B5 t.Args:Int),by simp,by rw [b]; simp⟩
theorem Aqc (σ:List Ah) (M:Nat) (E:1<=M) (u:M<=1048576) (A:∀s∈σ,A8 s<=M):∀(k:Nat) (t:Ah),A8 t<=k->A8 t<=1048576 ->
  ∃v:Nat,N6 k t (σ.map fun s=>(A8 s:Int))=some (v:Int)/\v<=A8 (Cd σ t)/\((v=A8 (Cd σ t))\/200<v):=by
 intro k
 induction k with
 | zero=>intro t h; have:=Kp t; omega
 | succ k ih=>
  intro t h ht
  have B:=F7 t
  have z:=Hr t.Args
  have l:∀x,A8 x<=1048576->A8 (Cd σ x)<=1099511627776:=fun x hx=>by
   have:=Abc σ M E A x
   have:A8 x*M<=1048576*1048576:=Nat.mul_le_mul hx u
   omega
  rw [N6]
  rw [show (show Option Bool from bif t.Kind==(4:Int) then bif decide (t.Num>=(0:Int)) then some (decide (t.Num<((σ.map fun s=>(A8 s:Int)).length:Int))) else some false else some false)=some (isV σ t.Kind t.Num) by rw [List.length_map]; exact Abd σ t,Ac]
  cases f:isV σ t.Kind t.Num with
  | true=>
   obtain ⟨s,h1,h2,h3⟩:=W4 f
   have hi:Af (σ.map fun s=>(A8 s:Int)) t.Num=some (A8 s:Int):=by
    have:=E6 h2
    rw [Ch (n:=t.Num.toNat) (by omega)]
    simp [h1]
   simp only [cond_true,hi,Ac,W5 f h1]
   exact ⟨A8 s,rfl,Nat.le_refl _,.inl rfl⟩
  | false=>
   have y:=l t ht
   rw [Abb f] at y ⊢
   simp only [cond_false]
   have g:A8 ⟨t.Kind,t.Num,t.Args.map (Cd σ)⟩=1+B5 (t.Args.map (Cd σ)):=by simp only [A8]
   rw [g] at y ⊢
   refine Wi (fun v:Nat=>(v:Int)) (Eb (fun (n,i)=>∃j:Nat,i=j/\j<=t.Args.length/\n=1+(B5 ((t.Args.map (Cd σ)).take j):Int)) (fun (_,i)=>t.Args.length-i.toNat)
    (fun n=>∃v:Nat,n=v/\v<=1+B5 (t.Args.map (Cd σ))/\(v=1+B5 (t.Args.map (Cd σ))\/200<v)) ⟨0,rfl,by omega,by simp [B5]⟩ ?_ ?_)
   .rintro ⟨n,i⟩ ⟨j,rfl,hj,q⟩
    have q:n=_:=q
    subst q
    rcases Nat.lt_or_ge j t.Args.length with h' | h'
    .have hx:t.Args[j]? = some t.Args[j]:=Cb h'
     generalize t.Args[j]=x at hx
     have I:=Gm (B3 hx)
     obtain ⟨v,b,v2,v3⟩:=ih x (by omega) (by omega)
     have c:(t.Args.map (Cd σ))[j]? = some (Cd σ x):=by simp [hx]
     have e:B5 ((t.Args.map (Cd σ)).take (j+1))=B5 ((t.Args.map (Cd σ)).take j)+A8 (Cd σ x):=by rw [C5 c,W0]; simp [B5]
     have D:=T2 (t.Args.map (Cd σ)) (j+1)
     have G:Ad (1+(B5 ((t.Args.map (Cd σ)).take j):Int)+(v:Int))=((1+B5 ((t.Args.map (Cd σ)).take j)+v:Nat):Int):=by rw [Ad,Bt] <;> omega
     simp only [Ak (by omega:(j:Int)<(t.Args.length:Int)),cond_true,Ch rfl hx,Ac,b,Dk h' (by omega),G]
     by_cases hb:1+B5 ((t.Args.map (Cd σ)).take j)+v>200
     .rw [Ak (by omega)]
      exact .inr ⟨_,rfl,_,rfl,by omega,.inr hb⟩
     .rw [Al (by omega)]
      refine .inl ⟨_,rfl,⟨j+1,rfl,by omega,?_⟩,by simp; omega⟩
      have:v=A8 (Cd σ x):=by omega
      subst this
      rw [e]; omega
    .have:j=t.Args.length:=by omega
     subst this
     refine .inr ⟨_,by simp; rfl,1+B5 (t.Args.map (Cd σ)),?_,by omega,.inl rfl⟩
     rw [List.take_of_length_le (by simp)]; omega
   .rintro n ⟨v,rfl,b,v2⟩
    exact ⟨_,rfl,v,rfl,b,v2⟩
def I4 (data:List As) (t:Ah) (c:Int):Option (List Ah) :=
 if t.Kind=5 then
  match Af data t.Num with
  | none=>none
  | some x=>if (t.Args.length:Int)=x.Vars then
    match Af x.Cons c with
    | none=>none
    | some y=>if (y.Args.map (Cd t.Args)).all (fun a=>decide (A8 a<=200)) then some (y.Args.map (Cd t.Args)) else none
   else none
 else none
def okL (o:Option (List Ah)):List Ah×Bool:=match o with | none=>([],false) | some l=>(l,true)
theorem Aqd {R:Type} (data:List As) (t:Ah) (c:Int) (F:As->Ig->Option R) (z:R) (X:Option R)
  (b:X=(match Af data t.Num with
   | none=>some z
   | some x=>match Af x.Cons c with
    | none=>some z
    | some y=>if t.Kind=5/\(t.Args.length:Int)=x.Vars then F x y else some z)):X=if t.Kind=5 then
  match Af data t.Num with
  | none=>some z
  | some x=>if (t.Args.length:Int)=x.Vars then
    match Af x.Cons c with
    | none=>some z
    | some y=>F x y
   else some z
 else some z:=by
 subst b
 by_cases h:t.Kind=5
 .rw [if_pos h]
  cases Af data t.Num with
  | none=>rfl
  | some x=>
   simp only
   by_cases h':(t.Args.length:Int)=x.Vars
   .rw [if_pos h']
    cases Af x.Cons c with
    | none=>rfl
    | some y=>simp [h,h']
   .rw [if_neg h']
    cases Af x.Cons c with
    | none=>rfl
    | some y=>simp [h']
 .rw [if_neg h]
  cases Af data t.Num with
  | none=>rfl
  | some x=>
   simp only
   cases Af x.Cons c with
   | none=>rfl
   | some y=>simp [h]
def Szv (data:List As):Prop:=∀x∈data,∀y∈x.Cons,y.Args.length<=6/\∀a∈y.Args,A8 a<=200
theorem G5.szv {data:List As} (h:G5 data):Szv data:=by
 intro x hx y hy
 obtain ⟨d,hd⟩:=List.getElem?_of_mem hx
 have h1:=h.2.1 d x hd
 obtain ⟨_,c,b⟩:=h1.2.2.2.2.2 y hy
 refine ⟨c,fun a ha=>?_⟩
 have:=List.all_eq_true.1 b a ha
 unfold Hs at this
 rw [Bool.or_eq_true] at this
 rcases this with h' | h'
 .exact (Ag4 hd h1.2.1 h').2
 .simp only [C9,decide_eq_true_eq] at h'; exact h'.2
theorem Aqe {t a:Ah} (ht:A8 t<=200) (ha:A8 a<=200):A8 (Cd t.Args a)<=40000:=by
 have h1:=Abc t.Args 200 (by omega) (fun s b=>by have:=Gm b; have:=F7 t; omega) a
 have:A8 a*200<=200*200:=Nat.mul_le_mul_right 200 ha
 omega
theorem Ahf {data:List As} (G:Szv data) (t:Ah) (ht:A8 t<=200) (c:Int):Qp data t c=some (okL (I4 data t c)):=by
 have J:Qp data t c=_:=Aqd data t c (fun x y=>(Ao (S:=(Int×(List Ah))) (E:=(((List Ah)×Bool)⊕(List Ah))) (fun (f,i)=>
   bif (decide (f<(y.Args.length:Int))) then (
   (Af y.Args f).bind fun v24=>
   (Mi (4000000) v24 t.Args).bind fun g=>
   (K8 (4000000) g).bind fun v28=>
   bif (decide (v28>(200:Int))) then some (.inr (.inl ([],false)))
   else (
   (Bx 40 i [g]).bind fun B=>
   some (.inl ((Ad (f+1)),B))))
   else some (.inr (.inr i))) (0,[])).bind fun z=>
   match z with
   | .inl (u,q)=>some (u,q)
   | .inr A=>some (A,true)) ([],false) _ (by
  unfold Qp
  by_cases hk:t.Kind=5
  .simp only [Cz hk,cond_false]
   cases hx:Af data t.Num with
   | none=>
    rcases Mw hx with h | h
    .simp only [Ak h,cond_true,Ac]
    .by_cases h':t.Num<0
     .simp only [Ak h',cond_true,Ac]
     .simp only [Al h',Ak (show t.Num>=(data.length:Int) from h),cond_true,cond_false,Ac]
   | some x=>
    obtain ⟨a1,a2,_,_⟩:=E6 hx
    simp only [Al (by omega:¬t.Num<0),Al (by omega:¬t.Num>=(data.length:Int)),cond_false,Ac]
    by_cases b:(t.Args.length:Int)=x.Vars
    .simp only [Cz b,cond_false]
     cases hy:Af x.Cons c with
     | none=>
      rcases Mw hy with h | h
      .simp only [Ak h,cond_true,Ac]
      .by_cases h':c<0
       .simp only [Ak h',cond_true,Ac]
       .simp only [Al h',Ak (show c>=(x.Cons.length:Int) from h),cond_true,cond_false,Ac]
     | some y=>
      obtain ⟨b1,b2,_,_⟩:=E6 hy
      simp only [Al (by omega:¬c<0),Al (by omega:¬c>=(x.Cons.length:Int)),cond_false,Ac,hk,b,and_self,if_true]
      rfl
    .simp only [Cv b,cond_true,Ac]
     cases hy:Af x.Cons c with
     | none=>rfl
     | some y=>simp [b]
  .simp only [Cv hk,cond_true,Ac]
   cases hx:Af data t.Num with
   | none=>rfl
   | some x=>
    simp only
    cases hy:Af x.Cons c with
    | none=>rfl
    | some y=>simp [hk])
 rw [J]
 unfold I4
 by_cases hk:t.Kind=5
 .rw [if_pos hk,if_pos hk]
  cases hx:Af data t.Num with
  | none=>rfl
  | some x=>
   simp only
   by_cases b:(t.Args.length:Int)=x.Vars
   .rw [if_pos b,if_pos b]
    cases hy:Af x.Cons c with
    | none=>rfl
    | some y=>
     simp only
     obtain ⟨L,l⟩:=G x (E6 hx).2.2.2 y (E6 hy).2.2.2
     refine (Ms (rt:=(y.Args.map (Cd t.Args),true)) (rf:=([],false)) y.Args (fun a=>decide (A8 (Cd t.Args a)<=200)) (fun j=>((j:Int),(y.Args.take j).map (Cd t.Args))) rfl (by omega) ?_ ?_).trans ?_
     .intro j a ha h1 h2 h3
      have hj:=Em ha
      have D:=l a (B3 ha)
      have M:=Aqe ht D
      simp only [h1,h2,h3,cond_true,Ac,Aqa 4000000 a t.Args 200 (fun s I=>by have:=Gm I; have:=F7 t; omega) (by omega) (by omega) (by omega),Agw 4000000 (Cd t.Args a) (by omega) (by omega)]
      by_cases hb:A8 (Cd t.Args a)<=200
      .rw [Ak hb,Al (by omega)]
       refine ⟨fun _=>?_,fun h=>by cases h⟩
       rw [Cs (by simp; omega)]
       simp only [cond_false,Ac]
       rw [C5 ha]; simp
      .rw [Al hb,Ak (by omega)]
       exact ⟨(fun h=>by cases h),fun _=>⟨_,rfl,rfl⟩⟩
     .intro h1
      exact ⟨.inr (y.Args.map (Cd t.Args)),by simp,rfl⟩
     .rw [List.all_map]
      cases k:y.Args.all ((fun a=>decide (A8 a<=200)) ∘ Cd t.Args) with
      | true=>rw [if_pos rfl]; rw [show (y.Args.all fun a=>decide (A8 (Cd t.Args a)<=200))=true from k]; rfl
      | false=>rw [show (y.Args.all fun a=>decide (A8 (Cd t.Args a)<=200))=false from k]; rfl
   .rw [if_neg b,if_neg b]; rfl
 .rw [if_neg hk,if_neg hk]; rfl
end Go.Ab
namespace Go.Ab
open Go
theorem Aqf {data:List As} (B:Szv data) (t:Ah) (ht:A8 t<=200) (c:Int):To data t c=some (okL (I4 data t c)):=by
 have D:=F7 t
 have u:=Hr t.Args
 unfold To I4
 by_cases hk:t.Kind=5
 .simp only [Cz hk,cond_false,if_pos hk]
  cases hx:Af data t.Num with
  | none=>
   rcases Mw hx with h | h
   .simp only [Ak h,cond_true,Ac,okL]
   .by_cases h':t.Num<0
    .simp only [Ak h',cond_true,Ac,okL]
    .simp only [Al h',Ak (show t.Num>=(data.length:Int) from h),cond_true,cond_false,Ac,okL]
  | some x=>
   obtain ⟨a1,a2,_,hxm⟩:=E6 hx
   simp only [Al (by omega:¬t.Num<0),Al (by omega:¬t.Num>=(data.length:Int)),cond_false,Ac]
   by_cases g:(t.Args.length:Int)=x.Vars
   .simp only [Cz g,cond_false,if_pos g]
    cases hy:Af x.Cons c with
    | none=>
     rcases Mw hy with h | h
     .simp only [Ak h,cond_true,Ac,okL]
     .by_cases h':c<0
      .simp only [Ak h',cond_true,Ac,okL]
      .simp only [Al h',Ak (show c>=(x.Cons.length:Int) from h),cond_true,cond_false,Ac,okL]
    | some y=>
     obtain ⟨b1,b2,_,k⟩:=E6 hy
     obtain ⟨I,b⟩:=B x hxm y k
     simp only [Al (by omega:¬c<0),Al (by omega:¬c>=(x.Cons.length:Int)),cond_false,Ac]
     rw [Jv (n:=t.Args.length) (c:=t.Args.length) rfl rfl (by omega) (by omega) (by omega),Ac]
     refine Fm t.Args (fun j=>((j:Int),((t.Args.take j).map fun s=>(A8 s:Int))++List.replicate (t.Args.length-j) 0)) rfl (by omega) ?_ ?_
     .intro j s hj i h1 h2 h3
      have:=Gm (B3 i)
      obtain ⟨m,E⟩:∃m,t.Args.length-j=m+1:=⟨t.Args.length-j-1,by omega⟩
      have G:t.Args.length-(j+1)=m:=by omega
      have l:j=((t.Args.take j).map fun s=>(A8 s:Int)).length:=by simp; omega
      simp only [h1,h2,h3,cond_true,Ac,Aqb 4000000 s (by omega) (by omega),E,G,List.replicate_succ,Aa7 _ _ _ (j:Int) j rfl l,Aa6 _ _ _ _ (j:Int) j rfl l,C5 i]
      simp
     .intro h1
      refine ⟨t.Args.map fun s=>(A8 s:Int),by simp,?_⟩
      have q:∀s∈t.Args,A8 s<=200:=fun s i=>by have:=Gm i; omega
      refine (Ms (rt:=(y.Args.map (Cd t.Args),true)) (rf:=([],false)) y.Args (fun a=>decide (A8 (Cd t.Args a)<=200)) (fun j=>(j:Int)) rfl (by omega) ?_ ?_).trans ?_
      .intro j a ha h1 h2 h3
       have A:=b a (B3 ha)
       obtain ⟨v,z,v2,v3⟩:=Aqc t.Args 200 (by omega) (by omega) q 4000000 a (by omega) (by omega)
       simp only [h1,h2,h3,cond_true,Ac,z]
       by_cases hb:A8 (Cd t.Args a)<=200
       .rw [Ak hb,Al (by omega)]
        exact ⟨fun _=>rfl,fun h=>by cases h⟩
       .rw [Al hb,Ak (by omega)]
        exact ⟨(fun h=>by cases h),fun _=>⟨_,rfl,rfl⟩⟩
      .intro h1
       refine ⟨.inr (),by simp,?_⟩
       simp only
       refine Fm y.Args (fun j=>((j:Int),(y.Args.take j).map (Cd t.Args))) rfl (by omega) ?_ ?_
       .intro j a hj ha h1 h2 h3
        have A:=b a (B3 ha)
        simp only [h1,h2,h3,cond_true,Ac,Ap8 4000000 a t.Args 200 q (by omega) (by omega)]
        rw [Cs (by simp; omega),Ac,C5 ha]; simp
       .intro h1
        exact ⟨y.Args.map (Cd t.Args),by simp,rfl⟩
      .rw [List.all_map]
       cases f:y.Args.all ((fun a=>decide (A8 a<=200)) ∘ Cd t.Args) with
       | true=>rw [if_pos rfl]; rw [show (y.Args.all fun a=>decide (A8 (Cd t.Args a)<=200))=true from f]; rfl
       | false=>rw [show (y.Args.all fun a=>decide (A8 (Cd t.Args a)<=200))=false from f]; rfl
   .simp only [Cv g,cond_true,Ac,if_neg g,okL]
 .simp only [Cv hk,cond_true,Ac,if_neg hk,okL]
theorem T7 {data:List As} {t:Ah} {c:Int} {l:List Ah} (h:I4 data t c=some l) :
  ∃x y,t.Kind=5/\Af data t.Num=some x/\(t.Args.length:Int)=x.Vars/\Af x.Cons c=some y/\l=y.Args.map (Cd t.Args)/\∀a∈l,A8 a<=200:=by
 unfold I4 at h
 by_cases hk:t.Kind=5
 .rw [if_pos hk] at h
  cases hx:Af data t.Num with
  | none=>rw [hx] at h; cases h
  | some x=>
   rw [hx] at h
   simp only at h
   by_cases f:(t.Args.length:Int)=x.Vars
   .rw [if_pos f] at h
    cases hy:Af x.Cons c with
    | none=>rw [hy] at h; cases h
    | some y=>
     rw [hy] at h
     simp only at h
     by_cases b:(y.Args.map (Cd t.Args)).all (fun a=>decide (A8 a<=200))=true
     .rw [if_pos b] at h
      cases h
      refine ⟨x,y,hk,rfl,f,hy,rfl,fun a ha=>?_⟩
      have:=List.all_eq_true.1 b a ha
      simpa using this
     .rw [if_neg b] at h; cases h
   .rw [if_neg f] at h; cases h
 .rw [if_neg hk] at h; cases h
def Fp (l:List Ah) (r:List Bool):List Ah:=((l.zip r).filter fun p=>!p.2).map (·.1)
def Ht (data:List As) (t:Ah) (c:Int):Option (List Ah):=(I4 data t c).map fun l=>Fp l (Fo data t.Num c)
theorem Abe {data:List As} {t:Ah} {c:Int} {l:List Ah} (h:I4 data t c=some l):(Fo data t.Num c).length=l.length:=by
 obtain ⟨x,y,_,hx,_,hy,rfl,_⟩:=T7 h
 unfold Fo
 simp only [hx,hy,List.length_map]
theorem Ahg {l:List Ah} {r:List Bool} {j:Nat} {a:Ah} {b:Bool} (h1:l[j]? = some a) (h2:r[j]? = some b):Fp (l.take (j+1)) (r.take (j+1))=Fp (l.take j) (r.take j)++bif b then [] else [a]:=by
 unfold Fp
 have f:=Em h1
 have c:=Em h2
 rw [C5 h1,C5 h2,List.zip_append (by simp; omega)]
 cases b <;> simp
theorem Ahh (l:List Ah) (r:List Bool):(Fp l r).length<=l.length:=by
 unfold Fp
 rw [List.length_map]
 refine Nat.le_trans (List.length_filter_le _ _) ?_
 rw [List.length_zip]; omega
def I5 (r:List Bool):List Int:=(r.zipIdx.filter fun p=>!p.1).map fun p=>(p.2:Int)
def O0 (r:List Bool):List Int:=(r.zipIdx.filter fun p=>p.1).map fun p=>(p.2:Int)
theorem Abf {r:List Bool} {j:Nat} {b:Bool} (h:r[j]? = some b):(r.take (j+1)).zipIdx=(r.take j).zipIdx++[(b,j)]:=by
 have:=Em h
 rw [C5 h,List.zipIdx_append]; simp; omega
theorem Aqg {data:List As} (g:Szv data) (i:Jx data) (t:Ah) (ht:A8 t<=200) (c:Int) {l:List Ah} (f:I4 data t c=some l):Tf data t c=some (I5 (Fo data t.Num c),O0 (Fo data t.Num c),true):=by
 unfold Tf
 have k:=Abe f
 obtain ⟨x,y,_,hx,_,hy,s,_⟩:=T7 f
 obtain ⟨h,_⟩:=g x (E6 hx).2.2.2 y (E6 hy).2.2.2
 have q:l.length<=6:=by rw [s]; simpa using h
 rw [Ahf g t ht c,f,Ac]
 simp only [okL,bnt,cond_false,Apb data t.Num c i,Ac]
 generalize Fo data t.Num c=r at *
 refine Fm r (fun j=>((j:Int),I5 (r.take j),O0 (r.take j))) (by simp [I5,O0]) (by omega) ?_ ?_
 .intro j b hj hb h1 h2 h3
  have z:(I5 (r.take j)).length<=6:=by
   unfold I5; rw [List.length_map]; refine Nat.le_trans (List.length_filter_le _ _) ?_; simp; omega
  have u:(O0 (r.take j)).length<=6:=by
   unfold O0; rw [List.length_map]; refine Nat.le_trans (List.length_filter_le _ _) ?_; simp; omega
  simp only [h1,h2,h3,cond_true,Ac]
  rw [Cs (by simp; omega),Cs (by simp; omega)]
  unfold I5 O0
  rw [Abf hb]
  cases b <;> simp
 .intro h1
  exact ⟨(I5 r,O0 r),by simp,rfl⟩
theorem Aqh {l:List Ah} {r:List Bool} (h:r.length=l.length):∀(j:Nat) (a:Int),(I5 r)[j]? = some a->∃x,Af l a=some x/\(Fp l r)[j]? = some x:=by
 intro j a ha
 have e:Fp l r=(r.zipIdx.filter fun p=>!p.1).map fun p=>(l[p.2]?).getD ⟨0,0,[]⟩:=by
  unfold Fp
  have key:∀n,n<=r.length->(((l.take n).zip (r.take n)).filter fun p=>!p.2).map (·.1)=((r.take n).zipIdx.filter fun p=>!p.1).map fun p=>(l[p.2]?).getD ⟨0,0,[]⟩:=by
   intro n
   induction n with
   | zero=>intro _; simp
   | succ n ih=>
    intro g
    have h1:l[n]? = some l[n]:=Cb (by omega)
    have h2:r[n]? = some r[n]:=Cb (by omega)
    have:=Ahg h1 h2
    unfold Fp at this
    rw [this,ih (by omega),Abf h2]
    cases r[n] <;> simp [h1]
  have:=key r.length (Nat.le_refl _)
  rw [List.take_of_length_le (by omega),List.take_of_length_le (Nat.le_refl _)] at this
  exact this
 unfold I5 at ha
 rw [List.getElem?_map] at ha
 cases hp:(r.zipIdx.filter fun p=>!p.1)[j]? with
 | none=>rw [hp] at ha; cases ha
 | some p=>
  rw [hp] at ha
  cases ha
  have c:=B3 hp
  rw [List.mem_filter] at c
  have b:r[p.2]? = some p.1:=List.mk_mem_zipIdx_iff_getElem?.1 c.1
  have f:=Em b
  have hx:l[p.2]? = some l[p.2]:=Cb (by omega)
  refine ⟨l[p.2],Ch rfl hx,?_⟩
  rw [e,List.getElem?_map,hp]
  simp [hx]
theorem Aqi {l:List Ah} {r:List Bool} (h:r.length=l.length):(I5 r).length=(Fp l r).length:=by
 unfold I5 Fp
 simp only [List.length_map]
 have key:∀n,n<=r.length->(((l.take n).zip (r.take n)).filter fun p=>!p.2).length=((r.take n).zipIdx.filter fun p=>!p.1).length:=by
  intro n
  induction n with
  | zero=>intro _; simp
  | succ n ih=>
   intro b
   have h1:l[n]? = some l[n]:=Cb (by omega)
   have h2:r[n]? = some r[n]:=Cb (by omega)
   rw [Abf h2,C5 h1,C5 h2,List.zip_append (by simp; omega),List.filter_append,List.length_append,ih (by omega),List.filter_append,List.length_append]
   cases r[n] <;> simp
 have:=key r.length (Nat.le_refl _)
 rw [List.take_of_length_le (by omega),List.take_of_length_le (Nat.le_refl _)] at this
 exact this.symm
theorem W6 {data:List As} (g:Szv data) (k:Jx data) (t:Ah) (ht:A8 t<=200) (c:Int):P7 data t c=some (okL (Ht data t c)):=by
 unfold P7 Ht
 rw [Ahf g t ht c,Ac]
 cases h:I4 data t c with
 | none=>rfl
 | some l=>
  have f:=Abe h
  obtain ⟨x,y,_,hx,_,hy,u,_⟩:=T7 h
  obtain ⟨i,_⟩:=g x (E6 hx).2.2.2 y (E6 hy).2.2.2
  have s:l.length<=6:=by rw [u]; simpa using i
  simp only [okL,bnt,cond_false,Aqg g k t ht c h,Ac,Option.map_some]
  generalize Fo data t.Num c=r at *
  have q:=Aqi f
  have z:=Ahh l r
  refine Fm (I5 r) (fun j=>((j:Int),(Fp l r).take j)) (by simp) (by omega) ?_ ?_
  .intro j b hj hb h1 h2 h3
   obtain ⟨a,a1,a2⟩:=Aqh f j b hb
   simp only [h1,h2,h3,cond_true,Ac,a1]
   rw [Cs (by simp; omega),Ac,C5 a2]
  .intro h1
   refine ⟨Fp l r,?_,rfl⟩
   simp only [h1]
   rw [List.take_of_length_le (by omega)]; rfl
theorem Ahi {data:List As} {t:Ah} {c:Int} {l:List Ah} (h:Ht data t c=some l):(∀a∈l,A8 a<=200)/\∃x,Af data t.Num=some x/\0<=c/\c<x.Cons.length:=by
 unfold Ht at h
 cases b:I4 data t c with
 | none=>rw [b] at h; cases h
 | some m=>
  rw [b] at h
  cases h
  obtain ⟨x,y,_,hx,_,hy,_,g⟩:=T7 b
  refine ⟨fun a ha=>?_,x,hx,(E6 hy).1,(E6 hy).2.1⟩
  unfold Fp at ha
  obtain ⟨p,f,rfl⟩:=List.mem_map.1 ha
  exact g _ (List.of_mem_zip (List.mem_filter.1 f).1).1
end Go.Ab
namespace Go.Ab
open Go
mutual
def Co:A6->Nat
 | ⟨_,l⟩=>1+Ei l
def Ei:List A6->Nat
 | []=>0
 | x::xs=>Co x+Ei xs
end
theorem Ez (t:A6):Co t=1+Ei t.Kids:=by cases t; simp only [Co]
theorem Jy {l:List A6} {a:A6} (h:a∈l):Co a<=Ei l:=by
 induction l with
 | nil=>cases h
 | cons x xs ih=>
  simp only [Ei]
  rcases List.mem_cons.1 h with rfl | h
  .omega
  .have:=ih h; omega
theorem Kr (l:List A6):l.length<=Ei l:=by
 induction l with
 | nil=>simp
 | cons x xs ih=>simp only [Ei,List.length_cons]; have:=Ez x; omega
mutual
def Fy (data:List As):A6->Ah->Option Nat
 | ⟨n,kids⟩,t=>
  if t.Kind=6 then (if n=0 then D8 data kids t.Args else none)
  else if t.Kind=7 then (if 0<=n/\n<=6/\kids.length=0 then some n.toNat else none)
  else if t.Kind=5 then (if n=0 then F9 data kids t else none)
  else if n=0/\kids.length=0 then some 0 else none
def D8 (data:List As):List A6->List Ah->Option Nat
 | [],[]=>some 0
 | i::is,t::ts=>(Fy data i t).bind fun a=>(D8 data is ts).map (a + ·)
 | [],_::_=>none
 | _::_,[]=>none
def F9 (data:List As):List A6->Ah->Option Nat
 | [],_=>some 0
 | ⟨n,kids⟩::es,t=>(Ht data t n).bind fun ts=>(D8 data kids ts).bind fun a=>(F9 data es t).map (1+a + ·)
end
theorem Abg (data:List As) (i:A6) (t:Ah):Fy data i t=if t.Kind=6 then (if i.Num=0 then D8 data i.Kids t.Args else none)
  else if t.Kind=7 then (if 0<=i.Num/\i.Num<=6/\i.Kids.length=0 then some i.Num.toNat else none)
  else if t.Kind=5 then (if i.Num=0 then F9 data i.Kids t else none)
  else if i.Num=0/\i.Kids.length=0 then some 0 else none:=by cases i; simp only [Fy]
theorem W7 (data:List As) (e:A6) (es:List A6) (t:Ah):F9 data (e::es) t=(Ht data t e.Num).bind fun ts=>(D8 data e.Kids ts).bind fun a=>(F9 data es t).map (1+a + ·):=by cases e; simp only [F9]
theorem W8 (data:List As) (i:A6) (b:List A6) (t:Ah) (ts:List Ah):D8 data (i::b) (t::ts)=(Fy data i t).bind fun a=>(D8 data b ts).map (a + ·):=by simp only [D8]
theorem Abh (data:List As):∀(b:List A6) (ts:List Ah),ts.length≠b.length->D8 data b ts=none
 | [],[],h=>absurd rfl h
 | i::b,t::ts,h=>by rw [W8,Abh data b ts (by simpa using h)]; cases Fy data i t <;> rfl
 | [],_::_,_=>by simp only [D8]
 | _::_,[],_=>by simp only [D8]
theorem Ahj (data:List As):∀(es:List A6) (t:Ah) (d:Nat),F9 data es t=some d->es.length<=d
 | [],_,_,_=>by simp
 | e::es,t,d,h=>by
  rw [W7] at h
  cases h1:Ht data t e.Num with
  | none=>rw [h1] at h; cases h
  | some ts=>
   rw [h1,Ac] at h
   cases h2:D8 data e.Kids ts with
   | none=>rw [h2] at h; cases h
   | some a=>
    rw [h2,Ac] at h
    cases h3:F9 data es t with
    | none=>rw [h3] at h; cases h
    | some b=>
     rw [h3] at h
     cases h
     have:=Ahj data es t b h3
     simp only [List.length_cons]; omega
def Fg (o:Option Nat):Int:=match o with | some d=>if d<=6 then (d:Int) else -1 | none => -1
theorem Abi {d:Nat} (h:d<=6):Fg (some d)=d:=by simp [Fg,h]
theorem Abj {d:Nat} (h:6<d):Fg (some d) = -1:=by simp only [Fg]; rw [if_neg (by omega)]
theorem Abk (o:Option Nat):(Fg o = -1/\∀d,o=some d->6<d)\/∃d,o=some d/\d<=6/\Fg o=d:=by
 cases o with
 | none=>exact .inl ⟨rfl,fun d h=>by cases h⟩
 | some d=>
  rcases Nat.lt_or_ge 6 d with h | h
  .exact .inl ⟨Abj h,fun e b=>by cases b; exact h⟩
  .exact .inr ⟨d,rfl,h,Abi h⟩
theorem Q2 {o:Option Nat} (h:∀d,o=some d->6<d):Fg o = -1:=by
 cases o with
 | none=>rfl
 | some d=>exact Abj (h d rfl)
theorem Lh {α:Type} {l:List α} {j:Nat} {x:α} (h:l[j]? = some x):l.drop j=x::l.drop (j+1):=by
 have hj:=Em h
 rw [List.drop_eq_getElem_cons hj]
 rw [Cb hj] at h
 rw [Option.some.inj h]
end Go.Ab
namespace Go.Ab
open Go
theorem Aqj {data:List As} (V:Szv data) (X:Jx data) (h8:∀x∈data,x.Cons.length<=8):∀k:Nat,
  (∀(i:A6) (t:Ah),2*Co i<=k->Co i<=1048576->A8 t<=200->Mc k data t i=some (Fg (Fy data i t))) /\
  (∀(c:List A6) (ts:List Ah),2*Ei c+1<=k->Ei c<=1048576->(∀t∈ts,A8 t<=200)->Mj k data ts c=some (Fg (D8 data c ts))):=by
 intro k
 induction k with
 | zero=>exact ⟨fun i t h=>by have:=Ez i; omega,fun c ts h=>by omega⟩
 | succ k ih=>
  obtain ⟨a8,M⟩:=ih
  have J:∀o:Option Nat,o.map (0 + ·)=o:=by intro o; cases o <;> simp
  constructor
  .intro i t hk hi ht
   have ag:=Ez i
   have aa:=Kr i.Kids
   rw [Mc,Abg]
   by_cases Z:t.Kind=6
   .simp only [Eh Z,cond_true,if_pos Z]
    by_cases h0:i.Num=0
    .simp only [Cz h0,cond_false,if_pos h0]
     rw [M i.Kids t.Args (by omega) (by omega) (fun a ha=>by have:=Gm ha; have:=F7 t; omega)]
     rfl
    .simp only [Cv h0,cond_true,if_neg h0]; rfl
   .simp only [Ci Z,cond_false,if_neg Z]
    by_cases Y:t.Kind=7
    .simp only [Eh Y,cond_true,if_pos Y]
     by_cases a1:0<=i.Num
     .by_cases a2:i.Num<=6
      .by_cases a3:i.Kids.length=0
       .rw [Al (by omega),Al (by omega),Al (by omega),if_pos ⟨a1,a2,a3⟩,Abi (by omega)]
        simp; omega
       .rw [Al (by omega),Al (by omega),Ak (by omega),if_neg (fun h=>a3 h.2.2)]; rfl
      .rw [Al (by omega),Ak (by omega),if_neg (fun h=>a2 h.2.1)]; rfl
     .rw [Ak (by omega),if_neg (fun h=>a1 h.1)]; rfl
    .simp only [Ci Y,cond_false,if_neg Y]
     by_cases h5:t.Kind=5
     .simp only [Eh h5,cond_true,if_pos h5]
      by_cases h0:i.Num=0
      .simp only [Cz h0,cond_false,if_pos h0,Ac]
       by_cases N:(i.Kids.length:Int)>6
       .rw [Ak N]
        refine congrArg some (Q2 fun d hd=>?_).symm
        have:=Ahj data _ _ _ hd
        omega
       rw [Al N]
       simp only [cond_false]
       have key:∀(m j acc:Nat),j+m=i.Kids.length->acc<=6->∃z,Ao (S:=(Int×Int)) (E:=(Int⊕Int)) (fun (G,D)=>
         bif (decide (D<(i.Kids.length:Int))) then (
         (Af i.Kids D).bind fun v12=>
         (show Option Bool from
         bif (decide (v12.Num<(0:Int))) then some true
         else some (decide (v12.Num>=(8:Int)))).bind fun a6=>
         bif a6 then some (.inr (.inl (-1)))
         else (
         (P7 data t v12.Num).bind fun L=>
         bif (!L.2) then some (.inr (.inl (-1)))
         else (
         (Mj k data L.1 v12.Kids).bind fun B=>
         bif (decide (B<(0:Int))) then some (.inr (.inl (-1)))
         else (
         bif (decide ((Ad ((Ad (G+1))+B))>(6:Int))) then some (.inr (.inl (-1)))
         else some (.inl ((Ad (G+(Ad (1+B)))),(Ad (D+1))))))))
         else some (.inr (.inr G))) ((acc:Int),(j:Int))=some z/\(match z with | .inl v=>v | .inr v=>v)=Fg ((F9 data (i.Kids.drop j) t).map (acc + ·)):=by
        intro m
        induction m with
        | zero=>
         intro j acc hj f
         have:j=i.Kids.length:=by omega
         subst this
         refine ⟨.inr (acc:Int),Ey (by simp),?_⟩
         simp [F9,Fg,f]
        | succ m s=>
         intro j acc hj f
         have g:i.Kids[j]? = some i.Kids[j]:=Cb (by omega)
         generalize i.Kids[j]=e at g
         have ab:=Jy (B3 g)
         have ah:=Ez e
         rw [Lh g,W7]
         have hb:(bif decide (e.Num<(0:Int)) then some true else some (decide (e.Num>=(8:Int))))=some (decide (e.Num<0\/8<=e.Num)):=by
          by_cases g1:e.Num<0 <;> by_cases g2:8<=e.Num <;> simp [g1,g2]
         cases hp:Ht data t e.Num with
         | none=>
          refine ⟨.inl (-1),Ey ?_,by simp [Fg]⟩
          simp only [Ak (by omega:(j:Int)<(i.Kids.length:Int)),cond_true,Ch rfl g,Ac,W6 V X t ht e.Num,hp,okL,Bool.not_false,hb]
          cases decide (e.Num<0\/8<=e.Num) <;> rfl
         | some ts=>
          obtain ⟨pz,x,a7,ae,ad⟩:=Ahi hp
          have af:=h8 x (E6 a7).2.2.2
          have q:=M e.Kids ts (by omega) (by omega) pz
          have hb':decide (e.Num<0\/8<=e.Num)=false:=Al (by omega)
          rcases Abk (D8 data e.Kids ts) with ⟨A,U⟩ | ⟨a,A,U,c3⟩
          .rw [A] at q
           refine ⟨.inl (-1),Ey ?_,?_⟩
           .simp only [Ak (by omega:(j:Int)<(i.Kids.length:Int)),cond_true,Ch rfl g,Ac,W6 V X t ht e.Num,hp,okL,bnt,cond_false,hb,hb',q]; rfl
           .refine (Q2 fun d h=>?_).symm
            rw [Ac] at h
            cases ha:D8 data e.Kids ts with
            | none=>rw [ha] at h; cases h
            | some a=>
             rw [ha,Ac] at h
             have:=U a ha
             cases y:F9 data (i.Kids.drop (j+1)) t with
             | none=>rw [y] at h; cases h
             | some b=>rw [y] at h; simp at h; omega
          .rw [c3] at q
           have R:Ad (Ad ((acc:Int)+1)+(a:Int))=((acc+(1+a):Nat):Int):=by
            rw [show Ad ((acc:Int)+1)=((acc+1:Nat):Int) by rw [Ad,Bt] <;> omega,Ad,Bt] <;> omega
           have ac:Ad ((acc:Int)+Ad (1+(a:Int)))=((acc+(1+a):Nat):Int):=by
            rw [show Ad (1+(a:Int))=((1+a:Nat):Int) by rw [Ad,Bt] <;> omega,Ad,Bt] <;> omega
           by_cases I:acc+(1+a)<=6
           .obtain ⟨z,l,z2⟩:=s (j+1) (acc+(1+a)) (by omega) I
            refine ⟨z,?_,?_⟩
            .rw [Jk (s':=(((acc+(1+a):Nat):Int),((j+1:Nat):Int)))]
             .exact l
             .simp only [Ak (by omega:(j:Int)<(i.Kids.length:Int)),cond_true,Ch rfl g,Ac,W6 V X t ht e.Num,hp,okL,bnt,cond_false,hb,hb',q,R,ac,Al (by omega:¬(a:Int)<0),Al (by omega:¬((acc+(1+a):Nat):Int)>6),Dk (show j<i.Kids.length by omega) (by omega)]
            .have J:∀o:Option Nat,(((some a:Option Nat).bind fun a=>o.map (1+a + ·)).map (acc + ·))=o.map (acc+(1+a) + ·):=by
              intro o; cases o <;> simp [Nat.add_assoc]
             rw [Ac,A,J]
             exact z2
           .refine ⟨.inl (-1),Ey ?_,?_⟩
            .simp only [Ak (by omega:(j:Int)<(i.Kids.length:Int)),cond_true,Ch rfl g,Ac,W6 V X t ht e.Num,hp,okL,bnt,cond_false,hb,hb',q,R,Al (by omega:¬(a:Int)<0),Ak (by omega:((acc+(1+a):Nat):Int)>6)]
            .refine (Q2 fun d h=>?_).symm
             rw [Ac,A,Ac] at h
             cases y:F9 data (i.Kids.drop (j+1)) t with
             | none=>rw [y] at h; cases h
             | some b=>rw [y] at h; simp at h; omega
       obtain ⟨z,l,z2⟩:=key i.Kids.length 0 0 (by omega) (by omega)
       have l:Ao _ ((0:Int),(0:Int))=some z:=l
       erw [l,Ac]
       rw [List.drop_zero,J] at z2
       rw [<-z2]
       cases z <;> rfl
      .simp only [Cv h0,cond_true,if_neg h0]; rfl
     .simp only [Ci h5,cond_false,if_neg h5]
      by_cases h0:i.Num=0
      .simp only [Cz h0,cond_false]
       by_cases a3:i.Kids.length=0
       .rw [if_pos ⟨h0,a3⟩,Al (by omega)]; rfl
       .rw [if_neg (fun h=>a3 h.2),Ak (by omega)]; rfl
      .simp only [Cv h0,cond_true]
       rw [if_neg (fun h=>h0 h.1)]; rfl
  .intro c ts hk hi ht
   have aa:=Kr c
   rw [Mj]
   by_cases hl:ts.length=c.length
   .rw [Cz (by omega)]
    simp only [cond_false]
    have key:∀(m j acc:Nat),j+m=c.length->acc<=6->∃z,Ao (S:=(Int×Int)) (E:=(Int⊕Int)) (fun (v4,v5)=>
      bif (decide (v5<(ts.length:Int))) then (
      (Af ts v5).bind fun v6=>
      (Af c v5).bind fun v7=>
      (Mc k data v6 v7).bind fun v8=>
      bif (decide (v8<(0:Int))) then some (.inr (.inl (-1)))
      else (
      bif (decide ((Ad (v4+v8))>(6:Int))) then some (.inr (.inl (-1)))
      else some (.inl ((Ad (v4+v8)),(Ad (v5+1))))))
      else some (.inr (.inr v4))) ((acc:Int),(j:Int))=some z/\(match z with | .inl v=>v | .inr v=>v)=Fg ((D8 data (c.drop j) (ts.drop j)).map (acc + ·)):=by
     intro m
     induction m with
     | zero=>
      intro j acc hj f
      have:j=ts.length:=by omega
      subst this
      refine ⟨.inr (acc:Int),Ey (by simp),?_⟩
      rw [List.drop_of_length_le (by omega),List.drop_of_length_le (by omega)]
      simp [D8,Fg,f]
     | succ m s=>
      intro j acc hj f
      have g:c[j]? = some c[j]:=Cb (by omega)
      generalize c[j]=e at g
      have hu:ts[j]? = some ts[j]:=Cb (by omega)
      generalize ts[j]=u at hu
      have ab:=Jy (B3 g)
      rw [Lh g,Lh hu,W8]
      have q:=a8 e u (by omega) (by omega) (ht u (B3 hu))
      rcases Abk (Fy data e u) with ⟨A,U⟩ | ⟨a,A,U,c3⟩
      .rw [A] at q
       refine ⟨.inl (-1),Ey ?_,?_⟩
       .simp only [Ak (by omega:(j:Int)<(ts.length:Int)),cond_true,Ch rfl g,Ch rfl hu,Ac,q]; rfl
       .refine (Q2 fun d h=>?_).symm
        cases ha:Fy data e u with
        | none=>rw [ha] at h; cases h
        | some a=>
         rw [ha,Ac] at h
         have:=U a ha
         cases y:D8 data (c.drop (j+1)) (ts.drop (j+1)) with
         | none=>rw [y] at h; cases h
         | some b=>rw [y] at h; simp at h; omega
      .rw [c3] at q
       have R:Ad ((acc:Int)+(a:Int))=((acc+a:Nat):Int):=by rw [Ad,Bt] <;> omega
       by_cases I:acc+a<=6
       .obtain ⟨z,l,z2⟩:=s (j+1) (acc+a) (by omega) I
        refine ⟨z,?_,?_⟩
        .rw [Jk (s':=(((acc+a:Nat):Int),((j+1:Nat):Int)))]
         .exact l
         .simp only [Ak (by omega:(j:Int)<(ts.length:Int)),cond_true,Ch rfl g,Ch rfl hu,Ac,cond_false,q,R,Al (by omega:¬(a:Int)<0),Al (by omega:¬((acc+a:Nat):Int)>6),Dk (show j<c.length by omega) (by omega)]
        .have J:∀o:Option Nat,(((some a:Option Nat).bind fun a=>o.map (a + ·)).map (acc + ·))=o.map (acc+a + ·):=by
          intro o; cases o <;> simp [Nat.add_assoc]
         rw [A,J]
         exact z2
       .refine ⟨.inl (-1),Ey ?_,?_⟩
        .simp only [Ak (by omega:(j:Int)<(ts.length:Int)),cond_true,Ch rfl g,Ch rfl hu,Ac,cond_false,q,R,Al (by omega:¬(a:Int)<0),Ak (by omega:((acc+a:Nat):Int)>6)]
        .refine (Q2 fun d h=>?_).symm
         rw [A,Ac] at h
         cases y:D8 data (c.drop (j+1)) (ts.drop (j+1)) with
         | none=>rw [y] at h; cases h
         | some b=>rw [y] at h; simp at h; omega
    obtain ⟨z,l,z2⟩:=key c.length 0 0 (by omega) (by omega)
    have l:Ao _ ((0:Int),(0:Int))=some z:=l
    rw [l,Ac]
    rw [List.drop_zero,List.drop_zero,J] at z2
    rw [<-z2]
    cases z <;> rfl
   .rw [Cv (by omega),Abh data c ts hl]; rfl
theorem G5.cons8 {data:List As} (h:G5 data):∀x∈data,x.Cons.length<=8:=by
 intro x hx
 obtain ⟨d,hd⟩:=List.getElem?_of_mem hx
 exact (h.2.1 d x hd).2.2.2.1
theorem Aqk {data:List As} (b:G5 data) (c:Jx data) (t:Ah) (i:A6) (ht:A8 t<=200) (hi:Co i<=1048576):P3 data t i=some (Fg (Fy data i t)):=by
 unfold P3
 rw [(Aqj b.szv c b.cons8 4000000).1 i t (by omega) hi ht]; rfl
end Go.Ab
namespace Go.Ab
open Go
def I64 (n:Int):Prop:= -9223372036854775808<=n/\n<=9223372036854775807
def ti (n:Int):List Int:=(Lib.itoa n).map fun c=>(c.toNat:Int)
def Li (c:Int):Bool:=c==45||(decide (48<=c)&&decide (c<=57))
theorem Q3 {d:Nat} (h:d<10):(UInt8.ofNat (48+d)).toNat=48+d:=by
 rw [UInt8.toNat_ofNat']; omega
theorem W9:∀(n u:Nat),u<=n->∀c∈Lib.decDigits u,48<=c.toNat/\c.toNat<=57:=by
 intro n
 induction n with
 | zero=>
  intro u hu c hc
  rw [Lib.decDigits,dif_pos (by omega)] at hc
  simp only [List.mem_singleton] at hc
  subst hc; rw [Q3 (by omega)]; omega
 | succ n ih=>
  intro u hu c hc
  rw [Lib.decDigits] at hc
  split at hc
  .simp only [List.mem_singleton] at hc
   subst hc; rw [Q3 (by omega)]; omega
  .rcases List.mem_append.1 hc with h | h
   .exact ih (u / 10) (by omega) c h
   .simp only [List.mem_singleton] at h
    subst h; rw [Q3 (by omega)]; omega
def Xa (l:List UInt8):Nat:=l.foldl (fun a c=>10*a+(c.toNat-48)) 0
theorem Ahk:∀(n u:Nat),u<=n->Xa (Lib.decDigits u)=u:=by
 intro n
 induction n with
 | zero=>
  intro u hu
  rw [Lib.decDigits,dif_pos (by omega)]
  simp only [Xa,List.foldl_cons,List.foldl_nil]
  rw [Q3 (by omega)]; omega
 | succ n ih=>
  intro u hu
  rw [Lib.decDigits]
  split
  .simp only [Xa,List.foldl_cons,List.foldl_nil]
   rw [Q3 (by omega)]; omega
  .have:=ih (u / 10) (by omega)
   unfold Xa at *
   rw [List.foldl_append,this]
   simp only [List.foldl_cons,List.foldl_nil]
   rw [Q3 (by omega)]; omega
theorem Ahl {u v:Nat} (h:Lib.decDigits u=Lib.decDigits v):u=v:=by
 rw [<-Ahk u u (Nat.le_refl _),h,Ahk v v (Nat.le_refl _)]
theorem Aql (u:Nat):Lib.decDigits u≠[]:=by
 rw [Lib.decDigits]; split <;> simp
theorem Aqm {m n:Int} (h:Lib.itoa m=Lib.itoa n):m=n:=by
 have b:∀u v:Nat,45::Lib.decDigits u≠Lib.decDigits v:=by
  intro u v e
  have:=W9 v v (Nat.le_refl _) 45 (by rw [<-e]; simp)
  exact absurd this (by decide)
 unfold Lib.itoa at h
 split at h <;> split at h
 .have:=Ahl (List.cons.inj h).2; omega
 .exact absurd h (b _ _)
 .exact absurd h.symm (b _ _)
 .have:=Ahl h; omega
theorem Ft (n:Int):∀c∈ti n,Li c=true:=by
 intro c hc
 unfold ti at hc
 obtain ⟨b,hb,rfl⟩:=List.mem_map.1 hc
 have key:b=45\/(48<=b.toNat/\b.toNat<=57):=by
  unfold Lib.itoa at hb
  split at hb
  .rcases List.mem_cons.1 hb with h | h
   .exact .inl h
   .exact .inr (W9 _ _ (Nat.le_refl _) b h)
  .exact .inr (W9 _ _ (Nat.le_refl _) b hb)
 unfold Li
 rcases key with rfl | ⟨h1,h2⟩
 .decide
 .rw [Bool.or_eq_true,C9,decide_eq_true_eq,decide_eq_true_eq]; right; omega
theorem Abl (n:Int):ti n≠[]:=by
 unfold ti Lib.itoa
 split
 .simp
 .simpa using Aql _
theorem O1 {m n:Int} (h:ti m=ti n):m=n:=by
 unfold ti at h
 have:∀l m:List UInt8,l.map (fun c=>(c.toNat:Int))=m.map (fun c=>(c.toNat:Int))->l=m:=by
  intro l
  induction l with
  | nil=>intro m h; cases m with | nil=>rfl | cons=>simp at h
  | cons x xs ih=>
   intro m h
   cases m with
   | nil=>simp at h
   | cons y b=>
    simp only [List.map_cons,List.cons.injEq] at h
    rw [ih b h.2,UInt8.toNat.inj (by omega:x.toNat=y.toNat)]
 exact Aqm (this _ _ h)
theorem Jz {n:Int} (h:I64 n):(ti n).length<=21:=by
 unfold ti; rw [List.length_map]; exact Lib.itoa_length_le n h.1 h.2
def My (X:List Int):Prop:=∀c m,X=c::m->Li c=false/\c≠40
def Ik (X:List Int):Prop:=∀c m,X=c::m->Li c=false
theorem Lj:∀(a b X Y:List Int),(∀c∈a,Li c=true)->(∀c∈b,Li c=true)->Ik X->Ik Y->a++X=b++Y->a=b/\X=Y
 | [],[],_,_,_,_,_,_,h=>⟨rfl,h⟩
 | [],y::b,X,Y,_,hb,g,_,h=>by
  have:=g y (b++Y) h
  rw [hb y (by simp)] at this; cases this
 | x::a,[],X,Y,ha,_,_,f,h=>by
  have:=f x (a++X) h.symm
  rw [ha x (by simp)] at this; cases this
 | x::a,y::b,X,Y,ha,hb,g,f,h=>by
  simp only [List.cons_append,List.cons.injEq] at h
  obtain ⟨j,i⟩:=Lj a b X Y (fun c hc=>ha c (by simp [hc])) (fun c hc=>hb c (by simp [hc])) g f h.2
  exact ⟨by rw [h.1,j],i⟩
mutual
def wx:A6->List Int
 | ⟨n,kids⟩=>ti n++(if kids.length=0 then [] else 40::(wxs kids++[41]))
def wxs:List A6->List Int
 | []=>[]
 | x::xs=>wx x++44::wxs xs
end
theorem Abm (i:A6):wx i=ti i.Num++(if i.Kids.length=0 then [] else 40::(wxs i.Kids++[41])):=by cases i; simp only [wx]
theorem Ahm (l m:List A6):wxs (l++m)=wxs l++wxs m:=by
 induction l with
 | nil=>simp [wxs]
 | cons x xs ih=>simp only [List.cons_append,wxs,ih,List.append_assoc]
theorem Ahn (b:List A6) (X:List Int) (f:My X):Ik ((if b.length=0 then [] else 40::(wxs b++[41]))++X):=by
 intro c m h
 by_cases hk:b.length=0
 .rw [if_pos hk,List.nil_append] at h
  exact (f c m h).1
 .rw [if_neg hk,List.cons_append] at h
  cases h; decide
theorem Aho (X:List Int):My (44::X):=by intro c m h; cases h; exact ⟨by decide,by decide⟩
theorem Ahp:My []:=by intro c m h; cases h
mutual
theorem Abn:∀(i j:A6) (X Y:List Int),My X->My Y->wx i++X=wx j++Y->i=j/\X=Y
 | ⟨n,k⟩,⟨n',k'⟩,X,Y,hX,hY,h=>by
  simp only [wx,List.append_assoc] at h
  obtain ⟨e1,e2⟩:=Lj _ _ _ _ (Ft n) (Ft n') (Ahn k X hX) (Ahn k' Y hY) h
  have e1:=O1 e1
  subst e1
  by_cases hk:k.length=0
  .by_cases hk':k'.length=0
   .rw [if_pos hk,if_pos hk'] at e2
    rw [List.length_eq_zero_iff.1 hk,List.length_eq_zero_iff.1 hk']
    exact ⟨rfl,e2⟩
   .rw [if_pos hk,if_neg hk',List.nil_append,List.cons_append] at e2
    exact absurd rfl (hX _ _ e2).2
  .by_cases hk':k'.length=0
   .rw [if_neg hk,if_pos hk',List.nil_append,List.cons_append] at e2
    exact absurd rfl (hY _ _ e2.symm).2
   .rw [if_neg hk,if_neg hk',List.cons_append,List.cons_append,List.append_assoc,List.append_assoc] at e2
    obtain ⟨e3,e4⟩:=Ahq k k' X Y hX hY (List.cons.inj e2).2
    rw [e3]; exact ⟨rfl,e4⟩
theorem Ahq:∀(l m:List A6) (X Y:List Int),My X->My Y->wxs l++([41]++X)=wxs m++([41]++Y)->l=m/\X=Y
 | [],[],X,Y,_,_,h=>by
  simp only [wxs,List.nil_append,List.cons_append,List.cons.injEq,true_and] at h
  exact ⟨rfl,h⟩
 | [],y::ys,X,Y,_,_,h=>by
  exfalso
  cases ht:ti y.Num with
  | nil=>exact Abl _ ht
  | cons c r=>
   have hc:=Ft y.Num c (by rw [ht]; simp)
   simp only [wxs,Abm y,ht,List.nil_append,List.cons_append,List.cons.injEq] at h
   rw [<-h.1] at hc; exact absurd hc (by decide)
 | x::xs,[],X,Y,_,_,h=>by
  exfalso
  cases ht:ti x.Num with
  | nil=>exact Abl _ ht
  | cons c r=>
   have hc:=Ft x.Num c (by rw [ht]; simp)
   simp only [wxs,Abm x,ht,List.nil_append,List.cons_append,List.cons.injEq] at h
   rw [h.1] at hc; exact absurd hc (by decide)
 | x::xs,y::ys,X,Y,hX,hY,h=>by
  simp only [wxs,List.append_assoc,List.cons_append] at h
  obtain ⟨e1,e2⟩:=Abn x y _ _ (Aho _) (Aho _) h
  obtain ⟨e3,e4⟩:=Ahq xs ys X Y hX hY (by simpa using e2)
  exact ⟨by rw [e1,e3],e4⟩
end
mutual
def iR:A6->Prop
 | ⟨n,l⟩=>I64 n/\iRs l
def iRs:List A6->Prop
 | []=>True
 | x::xs=>iR x/\iRs xs
end
theorem Aqn (i:A6):iR i↔I64 i.Num/\iRs i.Kids:=by cases i; simp only [iR]
theorem Aqo {l:List A6} (h:iRs l) {a:A6} (ha:a∈l):iR a:=by
 induction l with
 | nil=>cases ha
 | cons x xs ih=>
  simp only [iRs] at h
  rcases List.mem_cons.1 ha with rfl | ha
  .exact h.1
  .exact ih h.2 ha
mutual
theorem Abo:∀i:A6,iR i->(wx i).length+1<=24*Co i
 | ⟨n,l⟩,h=>by
  simp only [iR] at h
  have h1:=Xb l h.2
  have h2:=Jz h.1
  simp only [wx,Co,List.length_append]
  by_cases hl:l.length=0
  .rw [if_pos hl]; simp; omega
  .rw [if_neg hl]; simp; omega
theorem Xb:∀l:List A6,iRs l->(wxs l).length<=24*Ei l
 | [],_=>by simp [wxs,Ei]
 | x::xs,h=>by
  simp only [iRs] at h
  have h1:=Abo x h.1
  have h2:=Xb xs h.2
  have h3:=Ez x
  simp only [wxs,Ei,List.length_append,List.length_cons]; omega
end
theorem Ahr (l m:List A6):Ei (l++m)=Ei l+Ei m:=by
 induction l with
 | nil=>simp [Ei]
 | cons x xs ih=>simp only [List.cons_append,Ei,ih]; omega
theorem Aqp (l m:List A6):iRs (l++m)↔iRs l/\iRs m:=by
 induction l with
 | nil=>simp [iRs]
 | cons x xs ih=>simp only [List.cons_append,iRs,ih,and_assoc]
theorem Abp {n:Int} (h:I64 n):K1 n=some ⟨(Lib.itoa n).toArray⟩:=by unfold K1; rw [if_pos (show _/\_ from h)]
theorem Aqq (n:Int):Jl ⟨(Lib.itoa n).toArray⟩=ti n:=by unfold Jl ti; simp
theorem Aqr:∀(k:Nat) (i:A6) (b:List Int),Co i<=k->iR i->b.length+24*Co i<=1099511627776->Ob k i b=some (b++wx i):=by
 intro k
 induction k with
 | zero=>intro i b h; have:=Ez i; omega
 | succ k ih=>
  intro i b h c hb
  have hi:=Ez i
  have A:=Kr i.Kids
  have c:=(Aqn i).1 c
  have D:=Jz c.1
  rw [Ob,Abm]
  simp only [F4,Abp c.1,Ac,E4,Qo,Aqq]
  rw [Cs (by omega)]
  simp only [Ac]
  by_cases h0:i.Kids.length=0
  .rw [Al (by omega),if_pos h0]; simp
  .rw [Ak (by omega),if_neg h0]
   simp only [cond_true,Qf,Qo,Ac]
   rw [Cs (by simp; omega),Ac]
   have g:=Xb i.Kids c.2
   have l:∀j,(wxs (i.Kids.take j)).length<=24*Ei i.Kids:=fun j=>by
    have:=Ahm (i.Kids.take j) (i.Kids.drop j)
    rw [List.take_append_drop] at this
    rw [this,List.length_append] at g; omega
   refine Fm i.Kids (fun j=>((j:Int),b++ti i.Num++[40]++wxs (i.Kids.take j))) (by simp [wxs]) (by omega) ?_ ?_
   .intro j x hj hx h1 h2 h3
    have B:=Jy (B3 hx)
    have f:=Aqo c.2 (B3 hx)
    have z:=Abo x f
    have q:=l (j+1)
    have e:wxs (i.Kids.take (j+1))=wxs (i.Kids.take j)++(wx x++[44]):=by rw [C5 hx,Ahm]; simp [wxs]
    rw [e] at q
    simp only [List.length_append,List.length_cons,List.length_nil] at q
    simp only [h1,h2,h3,cond_true,Ac]
    have y:Ei (i.Kids.take j)+Co x<=Ei i.Kids:=by
     have s:=Ahr (i.Kids.take (j+1)) (i.Kids.drop (j+1))
     rw [List.take_append_drop,C5 hx,Ahr] at s
     simp only [Ei] at s; omega
    have u:(wxs (i.Kids.take j)).length<=24*Ei (i.Kids.take j):=Xb _ (by
     have:=(Aqp (i.Kids.take j) (i.Kids.drop j)).1 (by rw [List.take_append_drop]; exact c.2)
     exact this.1)
    rw [ih x _ (by omega) f (by simp; omega)]
    simp only [Ac]
    rw [Cs (by simp; omega),e]
    simp
   .intro h1
    refine ⟨b++ti i.Num++[40]++wxs i.Kids,by simp,?_⟩
    rw [Cs (by simp; omega)]
    simp
def G6 (v:Int) (i:A6):List Int:=118::(ti v++58::wx i)
def Ks (v:Int) (i:A6):ByteArray:=⟨(Ej (G6 v i)).toArray⟩
mutual
theorem Ahs:∀i:A6,∀c∈wx i,0<=c/\c<256
 | ⟨n,l⟩,c,h=>by
  simp only [wx,List.mem_append] at h
  rcases h with h | h
  .have:=Ft n c h
   simp only [Li,Bool.or_eq_true,C9,beq_iff_eq,decide_eq_true_eq] at this
   omega
  .by_cases hl:l.length=0
   .rw [if_pos hl] at h; cases h
   .rw [if_neg hl] at h
    simp only [List.mem_cons,List.mem_append,List.not_mem_nil,or_false] at h
    rcases h with h | h | h
    .omega
    .exact Aht l c h
    .omega
theorem Aht:∀l:List A6,∀c∈wxs l,0<=c/\c<256
 | [],c,h=>by simp [wxs] at h
 | x::xs,c,h=>by
  simp only [wxs,List.mem_append,List.mem_cons] at h
  rcases h with h | h | h
  .exact Ahs x c h
  .omega
  .exact Aht xs c h
end
theorem Xc (v:Int) (i:A6):∀c∈G6 v i,0<=c/\c<256:=by
 intro c h
 simp only [G6,List.mem_cons,List.mem_append] at h
 rcases h with h | h | h | h
 .omega
 .have:=Ft v c h
  simp only [Li,Bool.or_eq_true,C9,beq_iff_eq,decide_eq_true_eq] at this
  omega
 .omega
 .exact Ahs i c h
theorem Abq:∀l m:List Int,(∀c∈l,0<=c/\c<256)->(∀c∈m,0<=c/\c<256)->Ej l=Ej m->l=m
 | [],[],_,_,_=>rfl
 | [],_::_,_,_,h=>by simp [Ej] at h
 | _::_,[],_,_,h=>by simp [Ej] at h
 | x::xs,y::b,h1,h2,h=>by
  simp only [Ej,List.map_cons,List.cons.injEq] at h
  have hx:=h1 x (by simp)
  have hy:=h2 y (by simp)
  have e:x.toNat=y.toNat:=by
   have:=congrArg UInt8.toNat h.1
   rw [UInt8.toNat_ofNat',UInt8.toNat_ofNat'] at this
   omega
  rw [Abq xs b (fun c hc=>h1 c (by simp [hc])) (fun c hc=>h2 c (by simp [hc])) h.2,show x=y by omega]
theorem Aqs {v w:Int} {i j:A6} (h:Ks v i=Ks w j):v=w/\i=j:=by
 unfold Ks at h
 have h1:(Ej (G6 v i)).toArray=(Ej (G6 w j)).toArray:=by injection h
 have h2:Ej (G6 v i)=Ej (G6 w j):=by simpa using congrArg Array.toList h1
 have h3:=Abq _ _ (Xc v i) (Xc w j) h2
 simp only [G6,List.cons.injEq,true_and] at h3
 have b:∀X:List Int,Ik (58::X):=fun X c m e=>by cases e; decide
 obtain ⟨k,g⟩:=Lj _ _ _ _ (Ft v) (Ft w) (b _) (b _) h3
 obtain ⟨f,_⟩:=Abn i j [] [] Ahp Ahp (by simpa using (List.cons.inj g).2)
 exact ⟨O1 k,f⟩
theorem Aqt (l:List UInt8):Jl ⟨l.toArray⟩=l.map fun b=>(b.toNat:Int):=by unfold Jl; simp
theorem Ahu (v:Int) (i:A6) (c:I64 v) (g:iR i) (hi:Co i<=1048576):Mf v i=some (Ks v i):=by
 have l:=Jz c
 have f:(Lib.itoa v).length=(ti v).length:=by unfold ti; simp
 unfold Mf
 have k:D3 (ByteArray.mk #[118]) ⟨(Lib.itoa v).toArray⟩=some ⟨(118::Lib.itoa v).toArray⟩:=by
  unfold D3
  rw [if_pos]
  .congr 1
  .show 1+(Lib.itoa v).toArray.size<=9223372036854775807
   rw [List.size_toArray]; omega
 have j:D3 ⟨(118::Lib.itoa v).toArray⟩ (ByteArray.mk #[58])=some ⟨(118::(Lib.itoa v++[58])).toArray⟩:=by
  unfold D3
  rw [if_pos]
  .congr 1
  .show (118::Lib.itoa v).toArray.size+1<=9223372036854775807
   rw [List.size_toArray,List.length_cons]; omega
 simp only [F4,Abp c,Ac,k,j,Hi,S9,Aqt]
 rw [Cs (by simp; omega)]
 simp only [Ac]
 rw [Aqr 4000000 i _ (by omega) g (by simp; omega)]
 simp only [Ac,Iy]
 have h:([]++(118::(Lib.itoa v++[58])).map fun b=>(b.toNat:Int))++wx i=G6 v i:=by
  unfold G6 ti; simp
 rw [h]
 unfold Rv Ks
 rw [if_pos (Xc v i)]; rfl
end Go.Ab
namespace Go.Ab
open Go
mutual
theorem Ahv (data:List As):∀(i:A6) (t:Ah) (d:Nat),Fy data i t=some d->d<=6*Co i
 | ⟨n,kids⟩,t,d,h=>by
  rw [Abg] at h
  simp only [Co]
  simp only at h
  split at h
  .split at h
   .have:=T8 data kids _ d h; omega
   .cases h
  .split at h
   .split at h
    .cases h; omega
    .cases h
   .split at h
    .split at h
     .have:=Ahw data kids _ d h; omega
     .cases h
    .split at h
     .cases h; omega
     .cases h
theorem T8 (data:List As):∀(is:List A6) (ts:List Ah) (d:Nat),D8 data is ts=some d->d<=6*Ei is
 | [],[],d,h=>by simp only [D8] at h; cases h; omega
 | i::is,t::ts,d,h=>by
  rw [W8] at h
  cases h1:Fy data i t with
  | none=>rw [h1] at h; cases h
  | some a=>
   rw [h1,Ac] at h
   cases h2:D8 data is ts with
   | none=>rw [h2] at h; cases h
   | some b=>
    rw [h2] at h
    cases h
    have:=Ahv data i t a h1
    have:=T8 data is ts b h2
    simp only [Ei]; omega
 | [],_::_,d,h=>by simp only [D8] at h; cases h
 | _::_,[],d,h=>by simp only [D8] at h; cases h
theorem Ahw (data:List As):∀(es:List A6) (t:Ah) (d:Nat),F9 data es t=some d->d<=6*Ei es
 | [],t,d,h=>by simp only [F9] at h; cases h; omega
 | ⟨n,kids⟩::es,t,d,h=>by
  rw [W7] at h
  simp only at h
  cases h1:Ht data t n with
  | none=>rw [h1] at h; cases h
  | some ts=>
   rw [h1,Ac] at h
   cases h2:D8 data kids ts with
   | none=>rw [h2] at h; cases h
   | some a=>
    rw [h2,Ac] at h
    cases h3:F9 data es t with
    | none=>rw [h3] at h; cases h
    | some b=>
     rw [h3] at h
     cases h
     have:=T8 data kids ts a h2
     have:=Ahw data es t b h3
     simp only [Ei,Co]; omega
end
def Q4 (data:List As) (e:A6) (t:Ah):Option Nat:=(Ht data t e.Num).bind fun ts=>(D8 data e.Kids ts).map (1 + ·)
theorem Aqu (data:List As) (e:A6) (es:List A6) (t:Ah):F9 data (e::es) t=(Q4 data e t).bind fun a=>(F9 data es t).map (a + ·):=by
 rw [W7]; unfold Q4
 cases Ht data t e.Num with
 | none=>rfl
 | some ts=>simp only [Ac]; cases D8 data e.Kids ts <;> rfl
theorem Aqv (data:List As) (e:A6) (t:Ah) (d:Nat) (h:Q4 data e t=some d):d<=6*Co e:=by
 unfold Q4 at h
 cases h1:Ht data t e.Num with
 | none=>rw [h1] at h; cases h
 | some ts=>
  rw [h1,Ac] at h
  cases h2:D8 data e.Kids ts with
  | none=>rw [h2] at h; cases h
  | some a=>
   rw [h2] at h
   cases h
   have:=T8 data _ ts a h2
   have:=Ez e
   show 1+a<=_
   omega
def Dg (v:Int) (o:Option Nat):Prop:=(v = -1/\∀d,o=some d->6<d)\/∃d:Nat,o=some d/\v=d
theorem Dg.clip {v:Int} {o:Option Nat} (h:Dg v o):(if v>6 then -1 else v)=Fg o:=by
 rcases h with ⟨rfl,h⟩ | ⟨d,rfl,rfl⟩
 .rw [if_neg (by omega),Q2 h]
 .by_cases hd:6<d
  .rw [if_pos (by omega),Abj hd]
  .rw [if_neg (by omega),Abi (by omega)]
theorem Xd {o p:Option Nat} {acc:Nat} {d:Nat} (h:(o.bind fun a=>p.map (a + ·)).map (acc + ·)=some d):∃a b,o=some a/\p=some b/\d=acc+(a+b):=by
 cases o with
 | none=>cases h
 | some a=>
  cases p with
  | none=>cases h
  | some b=>exact ⟨a,b,rfl,rfl,by simp at h; omega⟩
theorem Aqw {data:List As} (hz:Szv data) (hs:Jx data) (b1:List (ByteArray×Int)) (b2:List (ByteArray×List Dv)) (vars:List Ah) (N M:Int) (L:List Ah):∀k:Nat,
  (∀(i:A6) (t:Ah),3*Co i<=k->Co i<=1048576->A8 t<=200->∃v,Ml k t i b1 b2 data vars N M L=some v/\Dg v (Fy data i t)) /\
  (∀(f:List A6) (ts:List Ah),3*Ei f+1<=k->Ei f<=1048576->(∀t∈ts,A8 t<=200)->∃v,Oi k ts f b1 b2 data vars N M L=some v/\Dg v (D8 data f ts)) /\
  (∀(e:A6) (t:Ah),3*Co e<=k->Co e<=1048576->A8 t<=200->∃v,Oj k t e b1 b2 data vars N M L=some v/\Dg v (Q4 data e t)):=by
 intro k
 induction k with
 | zero=>exact ⟨fun i t h=>by have:=Ez i; omega,fun f ts h=>by omega,fun i t h=>by have:=Ez i; omega⟩
 | succ k ih=>
  obtain ⟨a6,R,a7⟩:=ih
  have D:∀o:Option Nat,o.map (0 + ·)=o:=by intro o; cases o <;> simp
  have c:∀d:Nat,(none:Option Nat)=some d->6<d:=fun d h=>by cases h
  refine ⟨?_,?_,?_⟩
  .intro i t hk hi ht
   have af:=Ez i
   have U:=Kr i.Kids
   rw [Ml,Abg]
   by_cases Z:t.Kind=6
   .simp only [Eh Z,cond_true,if_pos Z]
    by_cases h0:i.Num=0
    .simp only [Eh h0,cond_true,if_pos h0]
     obtain ⟨p,p1,p2⟩:=R i.Kids t.Args (by omega) (by omega) (fun a ha=>by have:=Gm ha; have:=F7 t; omega)
     rw [p1]
     exact ⟨p,rfl,p2⟩
    .simp only [Ci h0,cond_false,if_neg h0]
     exact ⟨_,rfl,.inl ⟨rfl,c⟩⟩
   .simp only [Ci Z,cond_false,if_neg Z]
    by_cases Y:t.Kind=7
    .simp only [Eh Y,cond_true,if_pos Y]
     by_cases a1:0<=i.Num
     .by_cases a2:i.Num<=6
      .by_cases a3:i.Kids.length=0
       .rw [Ak (show i.Num>=0 from a1),Ak a2,if_pos ⟨a1,a2,a3⟩,Eh (by omega)]
        exact ⟨_,rfl,.inr ⟨i.Num.toNat,rfl,by omega⟩⟩
       .rw [Ak (show i.Num>=0 from a1),Ak a2,if_neg (fun h=>a3 h.2.2),Ci (by omega)]
        exact ⟨_,rfl,.inl ⟨rfl,c⟩⟩
      .rw [Ak (show i.Num>=0 from a1),Al a2,if_neg (fun h=>a2 h.2.1)]
       exact ⟨_,rfl,.inl ⟨rfl,c⟩⟩
     .rw [Al (show ¬i.Num>=0 from a1),if_neg (fun h=>a1 h.1)]
      exact ⟨_,rfl,.inl ⟨rfl,c⟩⟩
    .simp only [Ci Y,cond_false,if_neg Y]
     by_cases h5:t.Kind=5
     .simp only [Eh h5,cond_true,if_pos h5]
      by_cases h0:i.Num=0
      .simp only [Cz h0,cond_false,if_pos h0]
       have key:∀(m j acc:Nat),j+m=i.Kids.length->acc<=10000000->∃z,Ao (S:=(Int×Int)) (E:=(Int⊕Int)) (fun (G,v8)=>
         bif (decide (v8<(i.Kids.length:Int))) then (
         (Af i.Kids v8).bind fun v9=>
         (Oj k t v9 b1 b2 data vars N M L).bind fun I=>
         bif (decide (I<(0:Int))) then some (.inr (.inl (-1)))
         else (
         bif (decide (G>(6:Int))) then some (.inr (.inl (-1)))
         else some (.inl ((Ad (G+I)),(Ad (v8+1))))))
         else some (.inr (.inr G))) ((acc:Int),(j:Int))=some z/\Dg (match z with | .inl v=>v | .inr v=>v) ((F9 data (i.Kids.drop j) t).map (acc + ·)):=by
        intro m
        induction m with
        | zero=>
         intro j acc hj A
         have:j=i.Kids.length:=by omega
         subst this
         exact ⟨.inr (acc:Int),Ey (by simp),.inr ⟨acc,by simp [F9],rfl⟩⟩
        | succ m s=>
         intro j acc hj A
         have g:i.Kids[j]? = some i.Kids[j]:=Cb (by omega)
         generalize i.Kids[j]=e at g
         have ac:=Jy (B3 g)
         rw [Lh g,Aqu]
         obtain ⟨v,B,v2⟩:=a7 e t (by omega) (by omega) ht
         rcases v2 with ⟨rfl,v2⟩ | ⟨a,a1,rfl⟩
         .refine ⟨.inl (-1),Ey ?_,.inl ⟨rfl,fun d h=>?_⟩⟩
          .simp only [Ak (by omega:(j:Int)<(i.Kids.length:Int)),cond_true,Ch rfl g,Ac,B]; rfl
          .obtain ⟨a,b,ha,hb,rfl⟩:=Xd h
           have:=v2 a ha; omega
         .have V:=Aqv data e t a a1
          by_cases hb:acc>6
          .refine ⟨.inl (-1),Ey ?_,.inl ⟨rfl,fun d h=>?_⟩⟩
           .simp only [Ak (by omega:(j:Int)<(i.Kids.length:Int)),cond_true,Ch rfl g,Ac,B,Al (by omega:¬(a:Int)<0),Ak (by omega:(acc:Int)>6),cond_false]
           .obtain ⟨a,b,ha,hb,rfl⟩:=Xd h
            omega
          .have ew:Ad ((acc:Int)+(a:Int))=((acc+a:Nat):Int):=by rw [Ad,Bt] <;> omega
           obtain ⟨z,q,z2⟩:=s (j+1) (acc+a) (by omega) (by omega)
           refine ⟨z,?_,?_⟩
           .rw [Jk (s':=(((acc+a:Nat):Int),((j+1:Nat):Int)))]
            .exact q
            .simp only [Ak (by omega:(j:Int)<(i.Kids.length:Int)),cond_true,Ch rfl g,Ac,B,Al (by omega:¬(a:Int)<0),Al (by omega:¬(acc:Int)>6),cond_false,ew,Dk (show j<i.Kids.length by omega) (by omega)]
           .have D:∀o:Option Nat,(((some a:Option Nat).bind fun a=>o.map (a + ·)).map (acc + ·))=o.map (acc+a + ·):=by
             intro o; cases o <;> simp [Nat.add_assoc]
            rw [a1,D]
            exact z2
       obtain ⟨z,q,z2⟩:=key i.Kids.length 0 0 (by omega) (by omega)
       have q:Ao _ ((0:Int),(0:Int))=some z:=q
       rw [q,Ac]
       rw [List.drop_zero,D] at z2
       cases z with
       | inl v=>exact ⟨v,rfl,z2⟩
       | inr v=>exact ⟨v,rfl,z2⟩
      .simp only [Cv h0,cond_true,if_neg h0]
       exact ⟨_,rfl,.inl ⟨rfl,c⟩⟩
     .simp only [Ci h5,cond_false,if_neg h5]
      by_cases h0:i.Num=0
      .simp only [Eh h0,cond_true]
       by_cases a3:i.Kids.length=0
       .rw [if_pos ⟨h0,a3⟩,Eh (by omega)]
        exact ⟨_,rfl,.inr ⟨0,rfl,rfl⟩⟩
       .rw [if_neg (fun h=>a3 h.2),Ci (by omega)]
        exact ⟨_,rfl,.inl ⟨rfl,c⟩⟩
      .simp only [Ci h0,cond_false]
       rw [if_neg (fun h=>h0 h.1)]
       exact ⟨_,rfl,.inl ⟨rfl,c⟩⟩
  .intro f ts hk hi ht
   have U:=Kr f
   rw [Oi]
   by_cases hl:ts.length=f.length
   .rw [Cz (by omega)]
    simp only [cond_false]
    have key:∀(m j acc:Nat),j+m=f.length->acc<=10000000->∃z,Ao (S:=(Int×Int)) (E:=(Int⊕Int)) (fun (v5,X)=>
      bif (decide (X<(ts.length:Int))) then (
      (Af ts X).bind fun G=>
      (Af f X).bind fun v9=>
      (Ml k G v9 b1 b2 data vars N M L).bind fun J=>
      bif (decide (J<(0:Int))) then some (.inr (.inl (-1)))
      else (
      bif (decide (v5>(6:Int))) then some (.inr (.inl (-1)))
      else some (.inl ((Ad (v5+J)),(Ad (X+1))))))
      else some (.inr (.inr v5))) ((acc:Int),(j:Int))=some z/\Dg (match z with | .inl v=>v | .inr v=>v) ((D8 data (f.drop j) (ts.drop j)).map (acc + ·)):=by
     intro m
     induction m with
     | zero=>
      intro j acc hj A
      have:j=ts.length:=by omega
      subst this
      refine ⟨.inr (acc:Int),Ey (by simp),.inr ⟨acc,?_,rfl⟩⟩
      rw [List.drop_of_length_le (by omega),List.drop_of_length_le (by omega)]
      simp [D8]
     | succ m s=>
      intro j acc hj A
      have g:f[j]? = some f[j]:=Cb (by omega)
      generalize f[j]=e at g
      have hu:ts[j]? = some ts[j]:=Cb (by omega)
      generalize ts[j]=u at hu
      have ac:=Jy (B3 g)
      rw [Lh g,Lh hu,W8]
      obtain ⟨v,B,v2⟩:=a6 e u (by omega) (by omega) (ht u (B3 hu))
      rcases v2 with ⟨rfl,v2⟩ | ⟨a,a1,rfl⟩
      .refine ⟨.inl (-1),Ey ?_,.inl ⟨rfl,fun d h=>?_⟩⟩
       .simp only [Ak (by omega:(j:Int)<(ts.length:Int)),cond_true,Ch rfl g,Ch rfl hu,Ac,B]; rfl
       .obtain ⟨a,b,ha,hb,rfl⟩:=Xd h
        have:=v2 a ha; omega
      .have V:=Ahv data e u a a1
       by_cases hb:acc>6
       .refine ⟨.inl (-1),Ey ?_,.inl ⟨rfl,fun d h=>?_⟩⟩
        .simp only [Ak (by omega:(j:Int)<(ts.length:Int)),cond_true,Ch rfl g,Ch rfl hu,Ac,B,Al (by omega:¬(a:Int)<0),Ak (by omega:(acc:Int)>6),cond_false]
        .obtain ⟨a,b,ha,hb,rfl⟩:=Xd h
         omega
       .have ew:Ad ((acc:Int)+(a:Int))=((acc+a:Nat):Int):=by rw [Ad,Bt] <;> omega
        obtain ⟨z,q,z2⟩:=s (j+1) (acc+a) (by omega) (by omega)
        refine ⟨z,?_,?_⟩
        .rw [Jk (s':=(((acc+a:Nat):Int),((j+1:Nat):Int)))]
         .exact q
         .simp only [Ak (by omega:(j:Int)<(ts.length:Int)),cond_true,Ch rfl g,Ch rfl hu,Ac,B,Al (by omega:¬(a:Int)<0),Al (by omega:¬(acc:Int)>6),cond_false,ew,Dk (show j<f.length by omega) (by omega)]
        .have D:∀o:Option Nat,(((some a:Option Nat).bind fun a=>o.map (a + ·)).map (acc + ·))=o.map (acc+a + ·):=by
          intro o; cases o <;> simp [Nat.add_assoc]
         rw [a1,D]
         exact z2
    obtain ⟨z,q,z2⟩:=key f.length 0 0 (by omega) (by omega)
    have q:Ao _ ((0:Int),(0:Int))=some z:=q
    rw [q,Ac]
    rw [List.drop_zero,List.drop_zero,D] at z2
    cases z with
    | inl v=>exact ⟨v,rfl,z2⟩
    | inr v=>exact ⟨v,rfl,z2⟩
   .rw [Cv (by omega),Abh data f ts hl]
    exact ⟨_,rfl,.inl ⟨rfl,c⟩⟩
  .intro e t hk g ht
   have ag:=Ez e
   rw [Oj]
   unfold Q4 Ht
   rw [Aqf hz t ht e.Num,Ac]
   cases hf:I4 data t e.Num with
   | none=>exact ⟨-1,rfl,.inl ⟨rfl,c⟩⟩
   | some l=>
    have ad:=Abe hf
    obtain ⟨x,y,_,hx,_,hy,hl,ab⟩:=T7 hf
    obtain ⟨y6,_⟩:=hz x (E6 hx).2.2.2 y (E6 hy).2.2.2
    have ae:l.length<=6:=by rw [hl]; simpa using y6
    have aa:∀a∈Fp l (Fo data t.Num e.Num),A8 a<=200:=(Ahi (show Ht data t e.Num=some _ by unfold Ht; rw [hf]; rfl)).1
    obtain ⟨v,B,v2⟩:=R e.Kids (Fp l (Fo data t.Num e.Num)) (by omega) (by omega) aa
    have hd:Dg (if v<0 then -1 else 1+v) (((some l).map fun l=>Fp l (Fo data t.Num e.Num)).bind fun ts=>(D8 data e.Kids ts).map (1 + ·)):=by
     rw [Option.map_some,Ac]
     rcases v2 with ⟨rfl,v2⟩ | ⟨a,a1,rfl⟩
     .refine .inl ⟨rfl,fun d h=>?_⟩
      cases ha:D8 data e.Kids (Fp l (Fo data t.Num e.Num)) with
      | none=>rw [ha] at h; cases h
      | some a=>rw [ha] at h; have:=v2 a ha; simp at h; omega
     .rw [a1,if_neg (by omega)]
      exact .inr ⟨1+a,rfl,by omega⟩
    have a8:v = -1\/(0<=v/\v<=10000000):=by
     rcases v2 with ⟨rfl,v2⟩ | ⟨a,a1,rfl⟩
     .exact .inl rfl
     .have:=T8 data _ _ a a1; right; omega
    refine ⟨_,?_,hd⟩
    simp only [okL,bnt,cond_false,Ag0 data t.Num e.Num hs,Ac]
    refine Fm (Fo data t.Num e.Num) (fun j=>((j:Int),Fp (l.take j) ((Fo data t.Num e.Num).take j))) (by simp [Fp]) (by omega) ?_ ?_
    .intro j b hj hb h1 h2 h3
     have ha:l[j]? = some l[j]:=Cb (by omega)
     generalize l[j]=a at ha
     have U:=Ahh (l.take j) ((Fo data t.Num e.Num).take j)
     have:(l.take j).length<=6:=by simp; omega
     simp only [h1,h2,h3,cond_true,Ac,Ch rfl ha,Ahg ha hb]
     rw [Cs (by simp; omega)]
     cases b <;> simp
    .intro h1
     refine ⟨Fp l (Fo data t.Num e.Num),?_,?_⟩
     .simp only [h1]
      rw [List.take_of_length_le (by omega),List.take_of_length_le (Nat.le_refl _)]; rfl
     .rw [B,Ac]
      rcases a8 with h | h
      .subst h; rfl
      .rw [Al (by omega),if_neg (by omega)]
       simp only [cond_false]
       rw [Ad,Bt] <;> omega
def tyX (vars:List Ah) (res:Ah) (v:Int):Option Ah:=if v = -1 then some res else Af vars v
def Eu (data:List As) (vars:List Ah) (res:Ah) (o:List (ByteArray×Int)):Prop:=∀p∈o,∀v i t,p.1=Ks v i->tyX vars res v=some t->p.2=Fg (Fy data i t)
theorem Ahx {α:Type}:∀(o:List (ByteArray×α)) (s:ByteArray) (v:α),∀p∈Eg o s v,p∈o\/p=(s,v)
 | [],s,v,p,h=>by simp only [Eg,List.mem_singleton] at h; exact .inr h
 | q::o,s,v,p,h=>by
  unfold Eg at h
  cases hq:(s==q.1) with
  | true=>
   rw [hq] at h
   simp only [cond_true,List.mem_cons] at h
   rcases h with h | h
   .exact .inr h
   .exact .inl (by simp [h])
  | false=>
   rw [hq] at h
   simp only [cond_false,List.mem_cons] at h
   rcases h with h | h
   .exact .inl (by simp [h])
   .rcases Ahx o s v p h with h | h
    .exact .inl (by simp [h])
    .exact .inr h
theorem Aqx {data:List As} (G:Szv data) (J:Jx data) (b1:List (ByteArray×Int)) (b2:List (ByteArray×List Dv)) (vars:List Ah) (res:Ah) (f:Eu data vars res b1)
  (v:Int) (i:A6) (t:Ah) (ht:tyX vars res v=some t) (b:A8 t<=200) (I:I64 v) (L:iR i) (hi:Co i<=1048576) :
  ∃u,Kj v i b1 b2 data vars res.Kind res.Num res.Args=some (Fg (Fy data i t),u)/\Eu data vars res u:=by
 unfold Kj
 rw [Ahu v i I L hi,Ac]
 cases g:D6 b1 (Ks v i) with
 | true=>
  refine ⟨b1,?_,f⟩
  have:Gw b1 (Ks v i) 0=Fg (Fy data i t):=by
   unfold Gw
   unfold D6 at g
   rw [List.any_eq_true] at g
   obtain ⟨p,D,B⟩:=g
   cases j:b1.find? (fun p=>Ks v i==p.1) with
   | none=>exact absurd B (by have:=List.find?_eq_none.1 j p D; simpa using this)
   | some q=>
    have hq:=List.find?_some j
    exact f q (List.mem_of_find?_eq_some j) v i t ((Oz _ _).1 hq).symm ht
  simp only [cond_true,Ac,bnt,cond_false,this]
 | false=>
  obtain ⟨w,y,x⟩:=(Aqw G J b1 b2 vars res.Kind res.Num res.Args 4000000).1 i t (by omega) hi b
  have c:L3 v b1 b2 data vars res.Kind res.Num res.Args=some t:=by
   unfold L3
   unfold tyX at ht
   by_cases h:v = -1
   .rw [if_pos h] at ht; cases ht
    have M:(Ah.mk res.Kind res.Num res.Args)=res:=by cases res; rfl
    rw [Eh h,M]; rfl
   .rw [if_neg h] at ht
    rw [Ci h,ht]; rfl
  have k:(bif decide (w>6) then some (-1) else some w:Option Int)=some (Fg (Fy data i t)):=by
   rw [<-x.clip]
   by_cases h:w>6
   .rw [Ak h,if_pos h]; rfl
   .rw [Al h,if_neg h]; rfl
  refine ⟨Eg b1 (Ks v i) (Fg (Fy data i t)),?_,?_⟩
  .simp only [cond_false,Ac,Bool.not_false,cond_true,c,y,k]
  .intro p hp z E A s l
   rcases Ahx _ _ _ p hp with h | h
   .exact f p h z E A s l
   .subst h
    obtain ⟨rfl,rfl⟩:=Aqs s
    rw [ht] at l; cases l; rfl
end Go.Ab
namespace Go.Ab
open Go
def Db (a b:Int):Int:=if a<b then -1 else if a>b then 1 else 0
def C2 (a b:Int):Int:=if a=0 then b else a
theorem En {a b:Int}:Db a b=0↔a=b:=by unfold Db; split <;> (try split) <;> omega
theorem Lk (a b:Int):Ix a b=some (Db a b):=by
 unfold Ix S0 Db
 simp only [Ac,bne_self_eq_false,cond_false]
 by_cases h:a<b
 .rw [Ak h,if_pos h]; rfl
 .rw [Al h,if_neg h]
  by_cases h':a>b
  .rw [Ak h',if_pos h']; rfl
  .rw [Al h',if_neg h']; rfl
theorem Ahy (a b:Int):S5 a b=some (Db a b):=Lk a b
theorem Q5 (a b:Int):Kh [a,b]=some (C2 a b):=by
 unfold Kh C2
 by_cases ha:a=0
 .rw [if_pos ha]
  by_cases hb:b=0
  .refine Kn 2 (fun j=>(j:Int)) rfl ?_ ⟨.inr (),rfl,by rw [hb]⟩
   intro j hj
   match j,hj with
   | 0,_=>subst ha; rfl
   | 1,_=>subst hb; rfl
  .refine Kn 1 (fun j=>(j:Int)) rfl ?_ ⟨.inl b,?_,rfl⟩
   .intro j hj
    match j,hj with
    | 0,_=>subst ha; rfl
   .show (bif (b != 0) then _ else _)=_
    rw [Cv hb]; rfl
 .rw [if_neg ha]
  refine Kn 0 (fun j=>(j:Int)) rfl (fun j hj=>by omega) ⟨.inl a,?_,rfl⟩
  show (bif (a != 0) then _ else _)=_
  rw [Cv ha]; rfl
theorem Xe (a b:Int) (h:a≠b):P6 (decide (a<b))=some (Db a b):=by
 unfold P6 Db
 by_cases h':a<b
 .rw [Ak h',if_pos h']; rfl
 .rw [Al h',if_neg h',if_pos (by omega)]; rfl
theorem Xf (a b:Int) (h:a≠b):N4 (decide (a<b))=some (Db a b):=Xe a b h
theorem Xg (a b:Int) (h:a≠b):Nv (decide (a<b))=some (Db a b):=Xe a b h
def Dp {α:Type} (g:α->α->Int):List α->List α->Int
 | x::xs,y::b=>C2 (g x y) (Dp g xs b)
 | _,_=>0
theorem T9 {α:Type} (g:α->α->Int) (l m:List α) {step:Int->Option (Int⊕(Int⊕Unit))} (k:l.length=m.length) (hb:l.length<4611686018427387904)
  (f:∀(j:Nat) (x y:α),l[j]? = some x->m[j]? = some y->decide ((j:Int)<(l.length:Int))=true->Af l (j:Int)=some x->Af m (j:Int)=some y->decide ((j:Int)>=(m.length:Int))=false->Ad ((j:Int)+1)=((j+1:Nat):Int) ->
   step (j:Int)=if g x y=0 then some (.inl ((j+1:Nat):Int)) else some (.inr (.inl (g x y))))
  (i:decide ((l.length:Int)<(l.length:Int))=false->step (l.length:Int)=some (.inr (.inr ()))) :
  ∃z,Ao step 0=some z/\(match z with | .inl r=>r=Dp g l m/\r≠0 | .inr _=>Dp g l m=0):=by
 have key:∀(n j:Nat),j+n=l.length->∃z,Ao step (j:Int)=some z/\(match z with | .inl r=>r=Dp g (l.drop j) (m.drop j)/\r≠0 | .inr _=>Dp g (l.drop j) (m.drop j)=0):=by
  intro n
  induction n with
  | zero=>
   intro j hj
   have:j=l.length:=by omega
   subst this
   refine ⟨.inr (),Ey (i (by simp)),?_⟩
   rw [List.drop_of_length_le (by omega)]; simp [Dp]
  | succ n ih=>
   intro j hj
   have hx:l[j]? = some l[j]:=Cb (by omega)
   have hy:m[j]? = some m[j]:=Cb (by omega)
   generalize l[j]=x at hx
   generalize m[j]=y at hy
   have h:=f j x y hx hy (Ak (by omega)) (Ch rfl hx) (Ch rfl hy) (Al (by omega)) (Dk (show j<l.length by omega) hb)
   rw [Lh hx,Lh hy]
   by_cases b:g x y=0
   .rw [if_pos b] at h
    obtain ⟨z,c,z2⟩:=ih (j+1) (by omega)
    refine ⟨z,by rw [Jk h]; exact c,?_⟩
    have e:Dp g (x::l.drop (j+1)) (y::m.drop (j+1))=Dp g (l.drop (j+1)) (m.drop (j+1)):=by simp only [Dp,C2,b,if_true]
    cases z with
    | inl r=>simp only [e]; exact z2
    | inr u=>simp only [e]; exact z2
   .rw [if_neg b] at h
    refine ⟨.inl (g x y),Ey h,?_,b⟩
    simp only [Dp,C2,b,if_false]
 exact key l.length 0 (by omega)
theorem Xh {α:Type} (f:α->α->Option Int) (g:α->α->Int) (l m:List α) (A:l.length=m.length) (hb:l.length<4611686018427387904) (B:∀(j:Nat) (x y:α),l[j]? = some x->m[j]? = some y->f x y=some (g x y)) :
  ((Ao (S:=Int) (E:=(Int⊕Unit)) (fun b=>
   bif (decide (b<(l.length:Int))) then (
   (Af l b).bind fun s=>
   bif (decide (b>=(m.length:Int))) then some (.inr (.inl 1))
   else (
   (Af m b).bind fun v9=>
   (f s v9).bind fun c=>
   bif (c != (0:Int)) then some (.inr (.inl c))
   else some (.inl (Ad (b+1)))))
   else some (.inr (.inr ()))) 0).bind fun z=>
   match z with
   | .inl k=>some k
   | .inr _=>bif (decide ((l.length:Int)<(m.length:Int))) then some (-1) else some 0)=some (Dp g l m):=by
 refine Tu (T9 g l m A hb ?_ (fun h=>by simp only [h]; rfl)) ?_
 .intro j x y hx hy h1 h2 h3 G D
  simp only [h1,h2,h3,G,D,cond_true,cond_false,Ac,B j x y hx hy]
  by_cases i:g x y=0
  .rw [Cz i,if_pos i]; rfl
  .rw [Cv i,if_neg i]; rfl
 .rintro (r | u) q
  .rw [q.1]
  .simp only
   rw [Al (by omega),show Dp g l m=0 from q]; rfl
def I6 (x y:Ds):Int:=C2 (Db x.Var y.Var) (Db x.Coef y.Coef)
def I7 (a b:Di):Int:=if a.Terms.length=b.Terms.length then C2 (Dp I6 a.Terms b.Terms) (Db a.Const b.Const) else Db a.Terms.length b.Terms.length
theorem Ahz (a b:Di) (ha:a.Terms.length<1099511627776):Me a b=some (I7 a b):=by
 unfold Me I7
 rw [Lk,Ac]
 by_cases h:a.Terms.length=b.Terms.length
 .rw [Cz (En.2 (by omega)),if_pos h]
  simp only [cond_false]
  have:=Xh S4 I6 a.Terms b.Terms h (by omega) (fun j x y _ _=>by
   unfold S4 I6
   rw [Lk,Ahy]; simp only [Ac,Q5])
  rw [show V2 a.Terms b.Terms=_ from this,Ac,Ahy]
  simp only [Ac,Q5]
 .rw [Cv (fun e=>h (by have:=En.1 e; omega)),if_neg h]; rfl
theorem Ah0 (a b:Di) (ha:a.Terms.length<1099511627776):K6 a b=some (I7 a b):=by
 unfold K6 I7
 by_cases h:a.Terms.length=b.Terms.length
 .rw [Cz (by omega),if_pos h]
  simp only [cond_false]
  refine Tu (T9 I6 a.Terms b.Terms h (by omega) ?_ (fun h=>by simp only [h]; rfl)) ?_
  .intro j x y hx hy h1 h2 h3 i g
   simp only [h1,h2,h3,g,cond_true,Ac]
   by_cases c:x.Var=y.Var
   .rw [Cz c]
    by_cases hc:x.Coef=y.Coef
    .rw [Cz hc]
     rw [if_pos (by unfold I6; rw [En.2 c,En.2 hc]; rfl)]; rfl
    .rw [Cv hc,Xf _ _ hc]
     have e:I6 x y=Db x.Coef y.Coef:=by unfold I6; rw [En.2 c]; rfl
     rw [e,if_neg (fun e=>hc (En.1 e))]; rfl
   .rw [Cv c,Xf _ _ c]
    have e:I6 x y=Db x.Var y.Var:=by unfold I6 C2; rw [if_neg (fun e=>c (En.1 e))]
    rw [e,if_neg (fun e=>c (En.1 e))]; rfl
  .rintro (r | u) f
   .obtain ⟨rfl,h0⟩:=f
    unfold C2; rw [if_neg h0]
   .have f:Dp I6 a.Terms b.Terms=0:=f
    rw [f]
    simp only [C2,if_true]
    by_cases hc:a.Const=b.Const
    .rw [Cz hc,En.2 hc]; rfl
    .rw [Cv hc,Xf _ _ hc]; rfl
 .rw [Cv (by omega),if_neg h,Xf _ _ (by omega)]; rfl
mutual
def G1:A6->A6->Int
 | ⟨n,k⟩,j=>if n=j.Num then (if k.length=j.Kids.length then O2 k j.Kids else Db k.length j.Kids.length) else Db n j.Num
def O2:List A6->List A6->Int
 | x::xs,y::ys=>C2 (G1 x y) (O2 xs ys)
 | [],_=>0
 | _::_,[]=>0
end
theorem Abr (i j:A6):G1 i j=if i.Num=j.Num then (if i.Kids.length=j.Kids.length then O2 i.Kids j.Kids else Db i.Kids.length j.Kids.length) else Db i.Num j.Num:=by cases i; simp only [G1]
theorem Xi:∀l m:List A6,O2 l m=Dp G1 l m
 | x::xs,y::b=>by simp only [O2,Dp,Xi xs b]
 | [],_=>by simp [O2,Dp]
 | _::_,[]=>by simp [O2,Dp]
theorem Aqy:∀(n k:Nat) (i j:A6),Co i<=n->2*n<=k->n<1099511627776->Md k i j=some (G1 i j):=by
 intro n
 induction n with
 | zero=>intro k i j h; have:=Ez i; omega
 | succ n ih=>
  intro k i j h hk c
  obtain ⟨k,rfl⟩:∃b,k=b+2:=⟨k-2,by omega⟩
  have hi:=Ez i
  have f:=Kr i.Kids
  rw [Md,Abr,Lk,Lk]
  simp only [Ac,Q5]
  by_cases h1:i.Num=j.Num
  .rw [if_pos h1]
   by_cases h2:i.Kids.length=j.Kids.length
   .rw [if_pos h2,Cz (by unfold C2; rw [En.2 h1,En.2 (by omega)]; rfl),Xi]
    simp only [cond_false]
    have:=Xh (Md k) G1 i.Kids j.Kids h2 (by omega) (fun q x y hx hy=>ih k x y (by have:=Jy (B3 hx); omega) (by omega) (by omega))
    rw [S3]
    refine Eq.trans (congrArg (fun q=>Option.bind q _) this) rfl
   .have e:C2 (Db i.Num j.Num) (Db (i.Kids.length:Int) (j.Kids.length:Int))=Db i.Kids.length j.Kids.length:=by unfold C2; rw [En.2 h1]; rfl
    rw [if_neg h2,e,Cv (fun e=>h2 (by have:=En.1 e; omega))]; rfl
  .have e:C2 (Db i.Num j.Num) (Db (i.Kids.length:Int) (j.Kids.length:Int))=Db i.Num j.Num:=by unfold C2; rw [if_neg (fun e=>h1 (En.1 e))]
   rw [if_neg h1,e,Cv (fun e=>h1 (En.1 e))]; rfl
theorem Aqz:∀(n k:Nat) (i j:A6),Co i<=n->2*n<=k->n<1099511627776->Ma k i j=some (G1 i j):=by
 intro n
 induction n with
 | zero=>intro k i j h; have:=Ez i; omega
 | succ n ih=>
  intro k i j h hk A
  obtain ⟨k,rfl⟩:∃l,k=l+2:=⟨k-2,by omega⟩
  have hi:=Ez i
  have B:=Kr i.Kids
  rw [Ma,Abr]
  by_cases h1:i.Num=j.Num
  .rw [if_pos h1,Cz h1]
   simp only [cond_false]
   rw [Sv]
   by_cases h2:i.Kids.length=j.Kids.length
   .rw [if_pos h2,Cz (by omega),Xi]
    simp only [cond_false]
    have:=T9 G1 i.Kids j.Kids h2 (by omega) (step:=fun v5=>bif (decide (v5<(i.Kids.length:Int))) then ((Af i.Kids v5).bind fun g=>(Af j.Kids v5).bind fun f=>(Ma k g f).bind fun v8=>bif (v8 != (0:Int)) then some (.inr (.inl v8)) else some (.inl (Ad (v5+1)))) else some (.inr (.inr ()))) (fun q x y hx hy h1 h2 h3 D s=>by
     simp only [h1,h2,h3,s,cond_true,Ac,ih k x y (by have:=Jy (B3 hx); omega) (by omega) (by omega)]
     by_cases b:G1 x y=0
     .rw [Cz b,if_pos b]; rfl
     .rw [Cv b,if_neg b]; rfl) (fun h=>by simp only [h]; rfl)
    obtain ⟨z,c,z2⟩:=this
    rw [c,Ac]
    cases z with
    | inl r=>rw [z2.1]; rfl
    | inr u=>rw [show Dp G1 i.Kids j.Kids=0 from z2]; rfl
   .rw [if_neg h2,Cv (by omega),Xe _ _ (by omega)]; rfl
  .rw [if_neg h1,Cv h1,Xe _ _ h1]; rfl
def I8 (x y:Cw):Int:=C2 (Db x.Var y.Var) (G1 x.Index y.Index)
def J0 (x y:C4):Int:=C2 (I7 x.Lin y.Lin) (Db x.Deg y.Deg)
def Cr (a b:Bi):Int :=
 if a.Factors.length=b.Factors.length then
  C2 (Dp I8 a.Factors b.Factors) (if a.Atoms.length=b.Atoms.length then Dp J0 a.Atoms b.Atoms else Db a.Atoms.length b.Atoms.length)
 else Db a.Factors.length b.Factors.length
structure MSz (m:Bi):Prop where
 nf:m.Factors.length<=1048576
 na:m.Atoms.length<=1048576
 fi:∀f∈m.Factors,Co f.Index<=1048576
 fr:∀f∈m.Factors,iR f.Index/\I64 f.Var
 al:∀a∈m.Atoms,a.Lin.Terms.length<=1048576
theorem Abs (a b:Bi) (ha:MSz a):Jq a b=some (Cr a b):=by
 have h1:=ha.nf
 have h2:=ha.na
 unfold Jq Cr
 rw [Lk,Ac]
 by_cases h:a.Factors.length=b.Factors.length
 .rw [Cz (En.2 (by omega)),if_pos h]
  simp only [cond_false]
  have:=Xh Sp I8 a.Factors b.Factors h (by omega) (fun j x y hx hy=>by
   unfold Sp I8
   rw [Lk,Aqy 1048576 4000000 x.Index y.Index (ha.fi x (B3 hx)) (by omega) (by omega)]; simp only [Ac,Q5])
  rw [show Vv a.Factors b.Factors=_ from this,Ac,Lk]
  simp only [Ac,Q5]
  by_cases h0:Dp I8 a.Factors b.Factors=0
  .simp only [h0,C2,if_true]
   by_cases h':a.Atoms.length=b.Atoms.length
   .rw [Cz (En.2 (by omega)),if_pos h']
    simp only [cond_false]
    have:=Xh Sq J0 a.Atoms b.Atoms h' (by omega) (fun j x y hx hy=>by
     unfold Sq J0
     rw [Lk,Ahz x.Lin y.Lin (by have:=ha.al x (B3 hx); omega)]; simp only [Ac,Q5])
    rw [show Vx a.Atoms b.Atoms=_ from this]; rfl
   .rw [Cv (fun e=>h' (by have:=En.1 e; omega)),if_neg h']; rfl
  .simp only [C2,if_neg h0]
   rw [Cv h0]; rfl
 .rw [Cv (fun e=>h (by have:=En.1 e; omega)),if_neg h]; rfl
theorem Ah1 (a b:Bi) (ha:MSz a):Nt a b=some (Cr a b):=by
 have h1:=ha.nf
 have h2:=ha.na
 unfold Nt Cr
 by_cases h:a.Factors.length=b.Factors.length
 .rw [Cz (by omega),if_pos h]
  simp only [cond_false]
  refine Tu (T9 I8 a.Factors b.Factors h (by omega) ?_ (fun h=>by simp only [h]; rfl)) ?_
  .intro j x y hx hy h1 h2 h3 i g
   simp only [h1,h2,h3,g,cond_true,Ac,Aqz 1048576 4000000 x.Index y.Index (ha.fi x (B3 hx)) (by omega) (by omega)]
   by_cases c:x.Var=y.Var
   .rw [Cz c]
    have e:I8 x y=G1 x.Index y.Index:=by unfold I8 C2; rw [if_pos (En.2 c)]
    rw [e]
    by_cases hc:G1 x.Index y.Index=0
    .rw [Cz hc,if_pos hc]; rfl
    .rw [Cv hc,if_neg hc]; rfl
   .rw [Cv c,Xg _ _ c]
    have e:I8 x y=Db x.Var y.Var:=by unfold I8 C2; rw [if_neg (fun e=>c (En.1 e))]
    rw [e,if_neg (fun e=>c (En.1 e))]; rfl
  .rintro (r | u) f
   .obtain ⟨rfl,h0⟩:=f
    unfold C2; rw [if_neg h0]
   .have f:Dp I8 a.Factors b.Factors=0:=f
    rw [f]
    simp only [C2,if_true]
    by_cases h':a.Atoms.length=b.Atoms.length
    .rw [Cz (by omega),if_pos h']
     simp only [cond_false]
     refine Tu (T9 J0 a.Atoms b.Atoms h' (by omega) ?_ (fun h=>by simp only [h]; rfl)) ?_
     .intro j x y hx hy h1 h2 h3 i g
      simp only [h1,h2,h3,g,cond_true,Ac,Ah0 x.Lin y.Lin (by have:=ha.al x (B3 hx); omega)]
      by_cases c:I7 x.Lin y.Lin=0
      .rw [Cz c]
       have e:J0 x y=Db x.Deg y.Deg:=by unfold J0 C2; rw [if_pos c]
       rw [e]
       by_cases hc:x.Deg=y.Deg
       .rw [Cz hc,if_pos (En.2 hc)]; rfl
       .rw [Cv hc,Xg _ _ hc,if_neg (fun e=>hc (En.1 e))]; rfl
      .have e:J0 x y=I7 x.Lin y.Lin:=by unfold J0 C2; rw [if_neg c]
       rw [Cv c,e,if_neg c]; rfl
     .rintro (r | u) f
      .rw [f.1]
      .rw [show Dp J0 a.Atoms b.Atoms=0 from f]
    .rw [Cv (by omega),if_neg h',Xg _ _ (by omega)]; rfl
 .rw [Cv (by omega),if_neg h,Xg _ _ (by omega)]; rfl
def J1 {α:Type} (f:α->Int) (l:List α) (x:α) (j:Nat):Bool:=j==0||(match l[j-1]? with | some y=>decide (f y<f x) | none=>false)
def Q6 (l:List Ds) (x:Ds) (j:Nat):Bool:=decide (-1<=x.Var/\x.Var<3000/\x.Coef≠0/\-1048576<=x.Coef/\x.Coef<=1048576)&&J1 (·.Var) l x j
def G7 (a:Di):Bool:=decide (-1048576<=a.Const/\a.Const<=1048576/\a.Terms.length<=16)&&a.Terms.zipIdx.all (fun q=>Q6 a.Terms q.1 q.2)
theorem Ah2 (n:Int):Qd n=some (decide (-1048576<=n/\n<=1048576)):=by
 unfold Qd
 by_cases h:(-1048576:Int)<=n <;> simp [h]
theorem Aq0 (n:Int):Tg n=some (decide (-1<=n/\n<3000)):=by
 unfold Tg
 by_cases h:(-1:Int)<=n <;> simp [h]
theorem Abt {α S E:Type} (f:α->Int) (l:List α) {x:α} {j:Nat} (hx:l[j]? = some x) (i:l.length<4611686018427387904) (c b:Option (S⊕E)) :
  (bif decide ((j:Int)>0) then ((Af l (Ad ((j:Int)-1))).bind fun g=>bif decide (f g>=f x) then c else b) else b)=bif J1 f l x j then b else c:=by
 have hj:=Em hx
 unfold J1
 by_cases h:j=0
 .subst h; rfl
 .rw [Ak (by omega)]
  have e:Ad ((j:Int)-1)=((j-1:Nat):Int):=by rw [Ad,Bt] <;> omega
  have hy:l[j-1]? = some l[j-1]:=Cb (by omega)
  rw [e,Ch rfl hy,hy]
  have h0:(j==0)=false:=by simpa using h
  simp only [cond_true,Ac,h0,Bool.false_or]
  by_cases hc:f l[j-1]<f x
  .rw [Al (by omega),Ak hc]; rfl
  .rw [Ak (by omega),Al hc]; rfl
theorem Ah3 (a:Di):Oa a=some (G7 a):=by
 unfold Oa G7
 rw [Ah2]
 simp only [Ac]
 by_cases h1 : -1048576<=a.Const/\a.Const<=1048576
 .rw [Ak h1]
  by_cases h2:a.Terms.length<=16
  .rw [Al (by omega:¬(a.Terms.length:Int)>16),Ak ⟨h1.1,h1.2,h2⟩]
   simp only [bnt,cond_false,Ac,Bool.true_and]
   refine (Oq a.Terms (fun q=>Q6 a.Terms q.1 q.2) (fun j=>(j:Int)) rfl (by omega) (rt:=true) (rf:=false) ?_ ?_).trans (by rw [Lb])
   .intro j x hx _ h1 h2 h3
    simp only [h1,h2,h3,cond_true,Ac,Aq0,Ah2,Abt (·.Var) a.Terms hx (by omega),Q6]
    by_cases g1 : -1<=x.Var/\x.Var<3000
    .by_cases g2:x.Coef=0
     .rw [Ak g1,Eh g2,Al (fun h=>h.2.2.1 g2)]
      exact ⟨(fun h=>by cases h),fun _=>⟨.inl false,rfl,rfl⟩⟩
     .by_cases g3 : -1048576<=x.Coef/\x.Coef<=1048576
      .rw [Ak g1,Ci g2,Ak g3,Ak ⟨g1.1,g1.2,g2,g3.1,g3.2⟩]
       cases J1 (·.Var) a.Terms x j with
       | true=>exact ⟨fun _=>rfl,fun h=>by cases h⟩
       | false=>exact ⟨(fun h=>by cases h),fun _=>⟨.inl false,rfl,rfl⟩⟩
      .rw [Ak g1,Ci g2,Al g3,Al (fun h=>g3 h.2.2.2)]
       exact ⟨(fun h=>by cases h),fun _=>⟨.inl false,rfl,rfl⟩⟩
    .rw [Al g1,Al (fun h=>g1 ⟨h.1,h.2.1⟩)]
     exact ⟨(fun h=>by cases h),fun _=>⟨.inl false,rfl,rfl⟩⟩
   .intro h _
    exact ⟨.inr (),by simp only [h]; rfl,rfl⟩
  .rw [Ak (by omega:(a.Terms.length:Int)>16),Al (fun h=>h2 h.2.2)]; rfl
 .rw [Al h1,Al (fun h : -1048576<=a.Const/\a.Const<=1048576/\a.Terms.length<=16=>h1 ⟨h.1,h.2.1⟩)]; rfl
theorem Aq1 (a:Di):N1 a=some (G7 a):=by
 unfold N1 G7
 by_cases h2:a.Terms.length<=16
 .rw [Al (by omega:¬(a.Terms.length:Int)>16)]
  by_cases h1 : -1048576<=a.Const
  .rw [Al (by omega:¬a.Const < -1048576)]
   by_cases h3:a.Const<=1048576
   .rw [Al (by omega:¬a.Const>1048576),Ak ⟨h1,h3,h2⟩]
    simp only [cond_false,Ac,Bool.true_and]
    refine (Oq a.Terms (fun q=>Q6 a.Terms q.1 q.2) (fun j=>(j:Int)) rfl (by omega) (rt:=true) (rf:=false) ?_ ?_).trans (by rw [Lb])
    .intro j x hx _ h1 h2 h3
     simp only [h1,h2,h3,cond_true,Ac,Abt (·.Var) a.Terms hx (by omega),Q6]
     by_cases g1:x.Var < -1
     .rw [Ak g1,Al (fun h=>by omega)]
      exact ⟨(fun h=>by cases h),fun _=>⟨.inl false,rfl,rfl⟩⟩
     by_cases g2:x.Var>=3000
     .rw [Al g1,Ak g2,Al (fun h=>by omega)]
      exact ⟨(fun h=>by cases h),fun _=>⟨.inl false,rfl,rfl⟩⟩
     by_cases g3:x.Coef=0
     .rw [Al g1,Al g2,Eh g3,Al (fun h=>by omega)]
      exact ⟨(fun h=>by cases h),fun _=>⟨.inl false,rfl,rfl⟩⟩
     by_cases g4:x.Coef < -1048576
     .rw [Al g1,Al g2,Ci g3,Ak g4,Al (fun h=>by omega)]
      exact ⟨(fun h=>by cases h),fun _=>⟨.inl false,rfl,rfl⟩⟩
     by_cases g5:x.Coef>1048576
     .rw [Al g1,Al g2,Ci g3,Al g4,Ak g5,Al (fun h=>by omega)]
      exact ⟨(fun h=>by cases h),fun _=>⟨.inl false,rfl,rfl⟩⟩
     rw [Al g1,Al g2,Ci g3,Al g4,Al g5,Ak (by omega)]
     cases J1 (·.Var) a.Terms x j with
     | true=>exact ⟨fun _=>rfl,fun h=>by cases h⟩
     | false=>exact ⟨(fun h=>by cases h),fun _=>⟨.inl false,rfl,rfl⟩⟩
    .intro h _
     exact ⟨.inr (),by simp only [h]; rfl,rfl⟩
   .rw [Ak (by omega:a.Const>1048576),Al (fun h : -1048576<=a.Const/\a.Const<=1048576/\a.Terms.length<=16=>by omega)]; rfl
  .rw [Ak (by omega:a.Const < -1048576),Al (fun h : -1048576<=a.Const/\a.Const<=1048576/\a.Terms.length<=16=>by omega)]; rfl
 .rw [Ak (by omega:(a.Terms.length:Int)>16),Al (fun h : -1048576<=a.Const/\a.Const<=1048576/\a.Terms.length<=16=>by omega)]; rfl
end Go.Ab
namespace Go.Ab
open Go
structure Mz (data:List As) (vars:List Ah) (res:Ah):Prop where
 vd:G5 data
 sh:Jx data
 sz:∀v t,tyX vars res v=some t->A8 t<=200
 nv:vars.length<=3000
theorem Aq2 (vars:List Ah) (res:Ah) (v:Int):(tyX vars res v).isSome=decide (-1<=v/\v<vars.length):=by
 unfold tyX
 by_cases h:v = -1
 .rw [if_pos h]; subst h; rw [Ak (by omega)]; rfl
 .rw [if_neg h]
  cases hx:Af vars v with
  | none=>rcases Mw hx with h' | h' <;> rw [Al (by omega)] <;> rfl
  | some t=>have:=E6 hx; rw [Ak (by omega)]; rfl
section
variable (b1:List (ByteArray×Int)) (b2:List (ByteArray×List Dv)) (data:List As) (vars:List Ah) (res:Ah)
theorem Ah4 (v:Int) (f c:Int) (b:List Ah):Oh v b1 b2 data vars f c b=some (tyX vars res v).isSome:=by
 rw [Aq2]
 unfold Oh
 by_cases h:v>=-1
 .rw [Ak h]
  by_cases h':v<(vars.length:Int)
  .rw [Ak h',Ak ⟨h,h'⟩]; rfl
  .rw [Al h',Al (fun g=>h' g.2)]; rfl
 .rw [Al h,Al (fun g : -1<=v/\v<(vars.length:Int)=>h g.1)]; rfl
theorem Aq3 {v:Int} {t:Ah} (ht:tyX vars res v=some t):L3 v b1 b2 data vars res.Kind res.Num res.Args=some t:=by
 unfold L3
 unfold tyX at ht
 by_cases h:v = -1
 .rw [if_pos h] at ht; cases ht
  have b:(Ah.mk res.Kind res.Num res.Args)=res:=by cases res; rfl
  rw [Eh h,b]; rfl
 .rw [if_neg h] at ht
  rw [Ci h,ht]; rfl
def Q7 (t:Ds):Bool:=match tyX vars res t.Var with | some u=>u.Kind==1 | none=>false
def I9 (l:Di):Bool:=l.Terms.all (Q7 vars res)
theorem Aq4 (l:Di) (c:l.Terms.length<=1048576):Qc l b1 b2 data vars res.Kind res.Num res.Args=some (I9 vars res l):=by
 unfold Qc V6 V7
 have key:=Aaq l.Terms (fun t=>!Q7 vars res t) (by omega) (J:=fun z=>match z with | .inl b=>some b | .inr _=>some (-1)) (step:=fun v3=>bif (decide (v3<(l.Terms.length:Int))) then ((Af l.Terms v3).bind fun v4=>(Qg v4 b1 b2 data vars res.Kind res.Num res.Args).bind fun v5=>bif v5 then some (.inr (.inl v3)) else some (.inl (Ad (v3+1)))) else some (.inr (.inr ()))) (by
  intro j x hx h1 h2 h3
  have e:Qg x b1 b2 data vars res.Kind res.Num res.Args=some (!Q7 vars res x):=by
   unfold Qg Q7
   rw [Ah4 b1 b2 data vars res,Ac]
   cases ht:tyX vars res x.Var with
   | none=>rfl
   | some t=>rw [Aq3 b1 b2 data vars res ht]; rfl
  simp only [h1,h2,h3,cond_true,Ac,e]) (fun h=>by simp only [h]; rfl) (fun _=>rfl) rfl
 obtain ⟨i,i1,i2⟩:=key
 erw [i1]
 simp only [Ac,i2]
 congr 1
 unfold I9
 rw [List.any_eq_not_all_not]; simp
theorem Ah5 (x:B0) (v:Int):N0 x v=some (match tyX x.Vars x.Res v with | some t=>(t,true) | none=>(⟨0,0,[]⟩,false)):=by
 unfold N0 tyX
 by_cases h:v = -1
 .rw [Eh h,if_pos h]; rfl
 .rw [Ci h,if_neg h]
  cases hx:Af x.Vars v with
  | none=>
   rcases Mw hx with h' | h'
   .simp only [Ak h',cond_true,cond_false,Ac]
   .by_cases h0:v<0
    .simp only [Ak h0,cond_true,cond_false,Ac]
    .simp only [Al h0,Ak (show v>=(x.Vars.length:Int) from h'),cond_true,cond_false,Ac]
  | some t=>
   obtain ⟨a1,a2,_⟩:=E6 hx
   simp only [Al (by omega:¬v<0),Al (by omega:¬v>=(x.Vars.length:Int)),cond_false,Ac]
theorem Aq5 (x:B0) (l:Di) (b:l.Terms.length<=1048576):N2 x l=some (I9 x.Vars x.Res l):=by
 unfold N2
 refine (Ms l.Terms (Q7 x.Vars x.Res) (fun j=>(j:Int)) rfl (by omega) (rt:=true) (rf:=false) ?_ ?_).trans (by rw [Lb]; rfl)
 .intro j t ht h1 h2 h3
  simp only [h1,h2,h3,cond_true,Ac,Ah5]
  unfold Q7
  cases hu:tyX x.Vars x.Res t.Var with
  | none=>exact ⟨(fun h=>by cases h),fun _=>⟨.inl false,rfl,rfl⟩⟩
  | some u=>
   simp only [bnt,cond_false]
   by_cases hk:u.Kind=1
   .rw [Eh hk,Cz hk]
    exact ⟨fun _=>rfl,fun h=>by cases h⟩
   .rw [Ci hk,Cv hk]
    exact ⟨(fun h=>by cases h),fun _=>⟨.inl false,rfl,rfl⟩⟩
 .intro h; exact ⟨.inr (),by simp only [h]; rfl,rfl⟩
def D9 (f:Cw):Int:=match tyX vars res f.Var with | some t=>Fg (Fy data f.Index t) | none => -1
theorem Abu (f:Cw) : -1<=D9 data vars res f/\D9 data vars res f<=6:=by
 unfold D9
 cases tyX vars res f.Var with
 | none=>simp
 | some t=>rcases Abk (Fy data f.Index t) with ⟨h,_⟩ | ⟨d,_,h2,h⟩ <;> simp only [h] <;> omega
def Ll (m:Bi):Bool:=m.Factors.all (fun f=>decide (0<=D9 data vars res f))&&m.Atoms.all (fun a=>decide (0<=a.Deg)&&I9 vars res a.Lin)
def Dc (l:List Cw):Int:=(l.map (D9 data vars res)).sum
def D5 (l:List C4):Int:=(l.map (·.Deg)).sum
def Q8 (l:List C4) (x:C4) (j:Nat):Bool:=j==0||(match l[j-1]? with | some y=>decide (I7 y.Lin x.Lin<0) | none=>false)
def Lm (l:List Cw) (f:Cw) (j:Nat):Bool:=decide (1<=D9 data vars res f)&&J1 (·.Var) l f j
def Ja (l:List C4) (a:C4) (j:Nat):Bool:=decide (1<=a.Deg)&&G7 a.Lin && !(a.Lin.Terms.length==0)&&I9 vars res a.Lin&&Q8 l a j
def Gp (m:Bi):Bool:=m.Factors.zipIdx.all (fun q=>Lm data vars res m.Factors q.1 q.2)&&m.Atoms.zipIdx.all (fun q=>Ja vars res m.Atoms q.1 q.2)&&decide (Dc data vars res m.Factors+D5 m.Atoms<=6)
variable {b1 data vars res}
theorem Abv (hc:Mz data vars res) (i:Eu data vars res b1) (f:Cw) (g:I64 f.Var) (h:iR f.Index) (hi:Co f.Index<=1048576) (b:(tyX vars res f.Var).isSome=true) :
  ∃c,Kj f.Var f.Index b1 b2 data vars res.Kind res.Num res.Args=some (D9 data vars res f,c)/\Eu data vars res c:=by
 cases ht:tyX vars res f.Var with
 | none=>rw [ht] at b; cases b
 | some t=>
  obtain ⟨c,h1,h2⟩:=Aqx hc.vd.szv hc.sh b1 b2 vars res i f.Var f.Index t ht (hc.sz _ _ ht) g h hi
  refine ⟨c,?_,h2⟩
  rw [h1]; unfold D9; rw [ht]
theorem Aq6 (hc:Mz data vars res) (V:Eu data vars res b1) (m:Bi) (l:MSz m) :
  ∃s,S7 m b1 b2 data vars res.Kind res.Num res.Args=some (Ll data vars res m,s)/\Eu data vars res s:=by
 have X:=l.nf
 have ha:=l.na
 unfold S7
 refine Wi (fun s=>(Ll data vars res m,s)) ?_
 obtain ⟨r,U,N⟩:=Tv (M:=List (ByteArray×Int)) (R:=Bool×List (ByteArray×Int)) m.Factors (fun q=>decide (0<=D9 data vars res q.1)) (fun j o=>((j:Int),o)) (Eu data vars res)
  (fun r=>Eu data vars res r.2/\r.1=m.Atoms.all (fun a=>decide (0<=a.Deg)&&I9 vars res a.Lin)) (fun r=>Eu data vars res r.2/\r.1=false) b1
  (s0:=((0:Int),b1))
  (step:=(fun (A,x)=>
   bif (decide (A<(m.Factors.length:Int))) then (
   (Af m.Factors A).bind fun v8=>
   (Oh v8.Var x b2 data vars res.Kind res.Num res.Args).bind fun B=>
   bif (!B) then some (.inr (.inl (false,x)))
   else (
   (Kj v8.Var v8.Index x b2 data vars res.Kind res.Num res.Args).bind fun g=>
   bif (decide (g.1<(0:Int))) then some (.inr (.inl (false,g.2)))
   else some (.inl ((Ad (A+1)),g.2))))
   else some (.inr (.inr x)):Int×List (ByteArray×Int)->Option ((Int×List (ByteArray×Int))⊕((Bool×List (ByteArray×Int))⊕List (ByteArray×Int)))))
  (J:=(fun z=>match z with
   | .inl (L,I)=>some (L,I)
   | .inr b=>(Ao (S:=Int) (E:=((Bool×(List (ByteArray×Int)))⊕Unit)) (fun c=>
     bif (decide (c<(m.Atoms.length:Int))) then (
     (Af m.Atoms c).bind fun u=>
     bif (decide (u.Deg<(0:Int))) then some (.inr (.inl (false,b)))
     else (
     (Qc u.Lin b b2 data vars res.Kind res.Num res.Args).bind fun v21=>
     bif (!v21) then some (.inr (.inl (false,b)))
     else some (.inl (Ad (c+1)))))
     else some (.inr (.inr ()))) 0).bind fun z=>match z with
      | .inl (G,D)=>some (G,D)
      | .inr _=>some (true,b)))
  rfl V (by omega) (by
   intro j f o y hx _ h1 h2 h3
   have k:=B3 hx
   simp only [h1,h2,h3,cond_true,Ac,Ah4 o b2 data vars res]
   cases i:(tyX vars res f.Var).isSome with
   | false=>
    have e:D9 data vars res f = -1:=by
     unfold D9
     cases ht:tyX vars res f.Var with
     | none=>rfl
     | some t=>rw [ht] at i; cases i
    rw [e]
    exact ⟨(fun h=>by cases h),fun _=>⟨_,rfl,_,rfl,y,rfl⟩⟩
   | true=>
    obtain ⟨s,d1,d2⟩:=Abv b2 hc y f (l.fr f k).2 (l.fr f k).1 (l.fi f k) i
    simp only [bnt,cond_false,d1,Ac]
    by_cases h0:0<=D9 data vars res f
    .rw [Ak h0,Al (by omega)]
     exact ⟨fun _=>⟨s,rfl,d2⟩,fun h=>by cases h⟩
    .rw [Al h0,Ak (by omega)]
     exact ⟨(fun h=>by cases h),fun _=>⟨_,rfl,_,rfl,d2,rfl⟩⟩) (by
   intro o y h1 _
   refine ⟨.inr o,by simp only [h1]; rfl,?_⟩
   refine ⟨(m.Atoms.all (fun a=>decide (0<=a.Deg)&&I9 vars res a.Lin),o),?_,y,rfl⟩
   refine (Ms m.Atoms (fun a=>decide (0<=a.Deg)&&I9 vars res a.Lin) (fun j=>(j:Int)) rfl (by omega) (rt:=(true,o)) (rf:=(false,o)) ?_ ?_).trans (by cases m.Atoms.all (fun a=>decide (0<=a.Deg)&&I9 vars res a.Lin) <;> rfl)
   .intro j a hx h1 h2 h3
    simp only [h1,h2,h3,cond_true,Ac,Aq4 o b2 data vars res a.Lin (l.al a (B3 hx))]
    by_cases h0:0<=a.Deg
    .rw [Ak h0,Al (by omega)]
     cases I9 vars res a.Lin with
     | true=>exact ⟨fun _=>rfl,fun h=>by cases h⟩
     | false=>exact ⟨(fun h=>by cases h),fun _=>⟨_,rfl,rfl⟩⟩
    .rw [Al h0,Ak (by omega)]
     exact ⟨(fun h=>by cases h),fun _=>⟨_,rfl,rfl⟩⟩
   .intro h; exact ⟨.inr (),by simp only [h]; rfl,rfl⟩)
 refine ⟨r,U,r.2,?_,?_⟩
 .unfold Ll
  rw [<-Wo]
  rcases N with ⟨h1,h2,h3⟩ | ⟨h1,h2,h3⟩
  .rw [h1,Bool.true_and,<-h3]
  .rw [h1,Bool.false_and,<-h3]
 .rcases N with ⟨h1,h2,h3⟩ | ⟨h1,h2,h3⟩ <;> exact h2
theorem Ah6 (g:Cw->Int) {l:List Cw} {j:Nat} {x:Cw} (h:l[j]? = some x):((l.take (j+1)).map g).sum=((l.take j).map g).sum+g x:=by
 rw [C5 h]; simp
theorem Ah7 {l:List C4} {j:Nat} {x:C4} (h:l[j]? = some x):D5 (l.take (j+1))=D5 (l.take j)+x.Deg:=by
 unfold D5; rw [C5 h]; simp
theorem Aq7 (hc:Mz data vars res) (A:Eu data vars res b1) (m:Bi) (k:MSz m) (hp:Ll data vars res m=true) :
  ∃p:Int×List (ByteArray×Int),S8 m b1 b2 data vars res.Kind res.Num res.Args=some p/\(decide (p.1>6) = !decide (Dc data vars res m.Factors+D5 m.Atoms<=6))/\Eu data vars res p.2:=by
 have D:=k.nf
 have ha:=k.na
 unfold Ll at hp
 rw [C9,List.all_eq_true,List.all_eq_true] at hp
 unfold S8
 refine Eb (fun (v5,u,g)=>∃j:Nat,u=j/\j<=m.Factors.length/\Eu data vars res g/\0<=v5/\v5<=12/\(v5=Dc data vars res (m.Factors.take j)\/(6<v5/\6<Dc data vars res (m.Factors.take j)))) (fun (_,u,_)=>m.Factors.length-u.toNat)
  (fun (v5,g)=>Eu data vars res g/\0<=v5/\v5<=12/\(v5=Dc data vars res m.Factors\/(6<v5/\6<Dc data vars res m.Factors))) ⟨0,rfl,by omega,A,by omega,by omega,.inl (by simp [Dc])⟩ ?_ ?_
 .rintro ⟨v5,u,g⟩ ⟨j,rfl,hj,q,h0,h12,l⟩
  rcases Nat.lt_or_ge j m.Factors.length with h | h
  .have hx:m.Factors[j]? = some m.Factors[j]:=Cb h
   generalize m.Factors[j]=f at hx
   have c:=B3 hx
   have hd:=hp.1 f c
   rw [decide_eq_true_eq] at hd
   have B:=(Abu data vars res f).2
   have es:Dc data vars res (m.Factors.take (j+1))=Dc data vars res (m.Factors.take j)+D9 data vars res f:=Ah6 _ hx
   simp only [Ak (by omega:(j:Int)<(m.Factors.length:Int)),cond_true,Ch rfl hx,Ac,Dk h (by omega)]
   by_cases s:v5<=6
   .have x:(tyX vars res f.Var).isSome=true:=by
     unfold D9 at hd
     cases ht:tyX vars res f.Var with
     | none=>rw [ht] at hd; have hd:(0:Int)<=-1:=hd; omega
     | some t=>rfl
    obtain ⟨E,d1,d2⟩:=Abv b2 hc q f (k.fr f c).2 (k.fr f c).1 (k.fi f c) x
    rw [Ak s]
    simp only [cond_true,d1,Ac]
    have b:Ad (v5+D9 data vars res f)=v5+D9 data vars res f:=by rw [Ad,Bt] <;> omega
    exact .inl ⟨_,rfl,⟨j+1,rfl,by omega,d2,by simp only [b]; omega,by simp only [b]; omega,by simp only [b,es]; omega⟩,by simp; omega⟩
   .rw [Al s]
    exact .inl ⟨_,rfl,⟨j+1,rfl,by omega,q,h0,h12,by simp only [es]; omega⟩,by simp; omega⟩
  .have:j=m.Factors.length:=by omega
   subst this
   rw [List.take_length] at l
   exact .inr ⟨(v5,g),by simp,q,h0,h12,l⟩
 .rintro ⟨v5,g⟩ ⟨q,h0,h12,l⟩
  simp only
  refine Eb (fun (v,i)=>∃j:Nat,i=j/\j<=m.Atoms.length/\0<=v/\v<=13/\(v=Dc data vars res m.Factors+D5 (m.Atoms.take j)\/(6<v/\6<Dc data vars res m.Factors+D5 (m.Atoms.take j)))) (fun (_,i)=>m.Atoms.length-i.toNat)
   (fun v=>(v=Dc data vars res m.Factors+D5 m.Atoms\/(6<v/\6<Dc data vars res m.Factors+D5 m.Atoms))) ⟨0,rfl,by omega,h0,by omega,by simpa [D5] using l⟩ ?_ ?_
  .rintro ⟨v,i⟩ ⟨j,rfl,hj,g0,g13,z⟩
   rcases Nat.lt_or_ge j m.Atoms.length with h | h
   .have hx:m.Atoms[j]? = some m.Atoms[j]:=Cb h
    generalize m.Atoms[j]=a at hx
    have hd:=hp.2 a (B3 hx)
    rw [C9,decide_eq_true_eq] at hd
    have es:=Ah7 hx
    simp only [Ak (by omega:(j:Int)<(m.Atoms.length:Int)),cond_true,Ch rfl hx,Ac,Dk h (by omega)]
    by_cases s:v<=6
    .rw [Ak s]
     simp only [cond_true]
     by_cases y:7<a.Deg
     .rw [if_pos y]
      have b:Ad (v+7)=v+7:=by rw [Ad,Bt] <;> omega
      exact .inl ⟨_,rfl,⟨j+1,rfl,by omega,by simp only [b]; omega,by simp only [b]; omega,by simp only [b,es]; omega⟩,by simp; omega⟩
     .rw [if_neg y]
      have b:Ad (v+a.Deg)=v+a.Deg:=by rw [Ad,Bt] <;> omega
      exact .inl ⟨_,rfl,⟨j+1,rfl,by omega,by simp only [b]; omega,by simp only [b]; omega,by simp only [b,es]; omega⟩,by simp; omega⟩
    .rw [Al s]
     exact .inl ⟨_,rfl,⟨j+1,rfl,by omega,g0,g13,by simp only [es]; omega⟩,by simp; omega⟩
   .have:j=m.Atoms.length:=by omega
    subst this
    rw [List.take_length] at z
    exact .inr ⟨v,by simp,z⟩
  .intro v l
   refine ⟨(v,g),rfl,?_,q⟩
   by_cases h:Dc data vars res m.Factors+D5 m.Atoms<=6
   .rw [Ak h,Al (by simp only; omega)]; rfl
   .rw [Al h,Ak (by simp only; omega)]; rfl
end
end Go.Ab
namespace Go.Ab
open Go
theorem Ah8 {S E:Type} (F:Di->Di->Option Int) (l:List C4) (g:∀y∈l,∀x,F y.Lin x=some (I7 y.Lin x)) {x:C4} {j:Nat} (hx:l[j]? = some x) (i:l.length<4611686018427387904) (c b:Option (S⊕E)) :
  (bif decide ((j:Int)>0) then ((Af l (Ad ((j:Int)-1))).bind fun f=>(F f.Lin x.Lin).bind fun v28=>bif decide (v28>=0) then c else b) else b)=bif Q8 l x j then b else c:=by
 have hj:=Em hx
 unfold Q8
 by_cases h:j=0
 .subst h; rfl
 .rw [Ak (by omega)]
  have e:Ad ((j:Int)-1)=((j-1:Nat):Int):=by rw [Ad,Bt] <;> omega
  have hy:l[j-1]? = some l[j-1]:=Cb (by omega)
  rw [e,Ch rfl hy,hy]
  have h0:(j==0)=false:=by simpa using h
  simp only [cond_true,Ac,h0,Bool.false_or,g _ (List.getElem_mem (by omega:j-1<l.length))]
  by_cases hc:I7 l[j-1].Lin x.Lin<0
  .rw [Al (by omega),Ak hc]; rfl
  .rw [Ak (by omega),Al hc]; rfl
section
variable {b1:List (ByteArray×Int)} (b2:List (ByteArray×List Dv)) {data:List As} {vars:List Ah} {res:Ah}
def Ua (data:List As) (vars:List Ah) (res:Ah) (l:List Cw) (f:Cw) (j:Nat):Bool:=!(D9 data vars res f==0)&&J1 (·.Var) l f j
def M0 (l:List C4) (a:C4) (j:Nat):Bool:=!(a.Deg==0)&&G7 a.Lin && !(a.Lin.Terms.length==0)&&Q8 l a j
theorem Aq8 (m:Bi):Gp data vars res m=(Ll data vars res m&&decide (Dc data vars res m.Factors+D5 m.Atoms<=6)&&m.Factors.zipIdx.all (fun q=>Ua data vars res m.Factors q.1 q.2)&&m.Atoms.zipIdx.all (fun q=>M0 m.Atoms q.1 q.2)):=by
 rw [Bool.eq_iff_iff]
 unfold Gp Ll
 rw [<-Wo m.Factors (fun f=>decide (0<=D9 data vars res f)),<-Wo m.Atoms (fun a=>decide (0<=a.Deg)&&I9 vars res a.Lin)]
 simp only [C9,List.all_eq_true,Lm,Ja,Ua,M0,decide_eq_true_eq,Bool.not_eq_true',beq_eq_false_iff_ne,ne_eq]
 constructor
 .rintro ⟨⟨h1,h2⟩,h3⟩
  refine ⟨⟨⟨⟨fun q hq=>?_,fun q hq=>?_⟩,h3⟩,fun q hq=>?_⟩,fun q hq=>?_⟩
  .have:=(h1 q hq).1; omega
  .have:=h2 q hq; exact ⟨by omega,this.1.2⟩
  .have:=h1 q hq; exact ⟨by omega,this.2⟩
  .have:=h2 q hq; exact ⟨⟨⟨by omega,this.1.1.1.2⟩,this.1.1.2⟩,this.2⟩
 .rintro ⟨⟨⟨⟨h1,h2⟩,h3⟩,c⟩,b⟩
  refine ⟨⟨fun q hq=>?_,fun q hq=>?_⟩,h3⟩
  .have:=h1 q hq; have g:=c q hq; exact ⟨by omega,g.2⟩
  .have:=h2 q hq; have g:=b q hq; exact ⟨⟨⟨⟨by omega,g.1.1.2⟩,g.1.2⟩,this.2⟩,g.2⟩
theorem Aq9 (hc:Mz data vars res) (hm:Eu data vars res b1) (m:Bi) (l:MSz m) :
  ∃D,P5 m b1 b2 data vars res.Kind res.Num res.Args=some (Gp data vars res m,D)/\Eu data vars res D:=by
 have hf:=l.nf
 have ha:=l.na
 rw [Aq8]
 unfold P5
 obtain ⟨b,p1,p2⟩:=Aq6 b2 hc hm m l
 rw [p1]
 cases hp:Ll data vars res m with
 | false=>exact ⟨b,rfl,p2⟩
 | true=>
  obtain ⟨q,q1,q2,q3⟩:=Aq7 b2 hc p2 m l hp
  simp only [Ac,bnt,cond_false,q1,q2]
  cases hs:decide (Dc data vars res m.Factors+D5 m.Atoms<=6) with
  | false=>exact ⟨q.2,rfl,q3⟩
  | true=>
   simp only [bnt,cond_false,Bool.true_and]
   have Z:∀f∈m.Factors,(tyX vars res f.Var).isSome=true:=by
    intro f g
    unfold Ll at hp
    rw [C9,List.all_eq_true] at hp
    have hd:=hp.1 f g
    rw [decide_eq_true_eq] at hd
    unfold D9 at hd
    cases ht:tyX vars res f.Var with
    | none=>rw [ht] at hd; have hd:(0:Int)<=-1:=hd; omega
    | some t=>rfl
   obtain ⟨r,r1,r2⟩:=Tv (M:=List (ByteArray×Int)) (R:=Bool×List (ByteArray×Int)) m.Factors (fun q=>Ua data vars res m.Factors q.1 q.2) (fun j o=>((j:Int),o)) (Eu data vars res)
    (fun r=>Eu data vars res r.2/\r.1=m.Atoms.zipIdx.all (fun q=>M0 m.Atoms q.1 q.2)) (fun r=>Eu data vars res r.2/\r.1=false) q.2
    (s0:=((0:Int),q.2))
    (step:=(fun (v9,A)=>
     bif (decide (v9<(m.Factors.length:Int))) then (
     (Af m.Factors v9).bind fun s=>
     (Kj s.Var s.Index A b2 data vars res.Kind res.Num res.Args).bind fun i=>
     bif (i.1==(0:Int)) then some (.inr (.inl (false,i.2)))
     else (
     bif (decide (v9>(0:Int))) then (
     (Af m.Factors (Ad (v9-1))).bind fun N=>
     bif (decide (N.Var>=s.Var)) then some (.inr (.inl (false,i.2)))
     else some (.inl ((Ad (v9+1)),i.2)))
     else some (.inl ((Ad (v9+1)),i.2))))
     else some (.inr (.inr A)):Int×List (ByteArray×Int)->Option ((Int×List (ByteArray×Int))⊕((Bool×List (ByteArray×Int))⊕List (ByteArray×Int)))))
    (J:=(fun z=>match z with
     | .inl (Y,X)=>some (Y,X)
     | .inr u=>(Ao (S:=Int) (E:=((Bool×(List (ByteArray×Int)))⊕Unit)) (fun c=>
       bif (decide (c<(m.Atoms.length:Int))) then (
       (Af m.Atoms c).bind fun k=>
       (show Option Bool from
       bif (k.Deg==(0:Int)) then some true
       else (
       (Oa k.Lin).bind fun L=>
       bif (!L) then some true
       else some ((k.Lin.Terms.length:Int)==(0:Int)))).bind fun I=>
       bif I then some (.inr (.inl (false,u)))
       else (
       bif (decide (c>(0:Int))) then (
       (Af m.Atoms (Ad (c-1))).bind fun G=>
       (Me G.Lin k.Lin).bind fun v28=>
       bif (decide (v28>=(0:Int))) then some (.inr (.inl (false,u)))
       else some (.inl (Ad (c+1))))
       else some (.inl (Ad (c+1)))))
       else some (.inr (.inr ()))) 0).bind fun z=>match z with
        | .inl (V,U)=>some (V,U)
        | .inr _=>some (true,u)))
    rfl q3 (by omega) (by
     intro j f o hI hx _ h1 h2 h3
     have g:=B3 hx
     obtain ⟨D,d1,d2⟩:=Abv b2 hc hI f (l.fr f g).2 (l.fr f g).1 (l.fi f g) (Z f g)
     simp only [h1,h2,h3,cond_true,Ac,d1,Abt (·.Var) m.Factors hx (by omega),Ua]
     cases (D9 data vars res f==0) with
     | true=>exact ⟨(fun h=>by cases h),fun _=>⟨_,rfl,_,rfl,d2,rfl⟩⟩
     | false=>
      cases J1 (·.Var) m.Factors f j with
      | true=>exact ⟨fun _=>⟨D,rfl,d2⟩,fun h=>by cases h⟩
      | false=>exact ⟨(fun h=>by cases h),fun _=>⟨_,rfl,_,rfl,d2,rfl⟩⟩) (by
     intro o hI h1 _
     refine ⟨.inr o,by simp only [h1]; rfl,?_⟩
     refine ⟨(m.Atoms.zipIdx.all (fun q=>M0 m.Atoms q.1 q.2),o),?_,hI,rfl⟩
     refine (Oq m.Atoms (fun q=>M0 m.Atoms q.1 q.2) (fun j=>(j:Int)) rfl (by omega) (rt:=(true,o)) (rf:=(false,o)) ?_ ?_).trans (by cases m.Atoms.zipIdx.all (fun q=>M0 m.Atoms q.1 q.2) <;> rfl)
     .intro j a hx _ h1 h2 h3
      have B:((a.Lin.Terms.length:Int)==(0:Int))=(a.Lin.Terms.length==0):=Agt a.Lin.Terms 0
      simp only [h1,h2,h3,cond_true,Ac,Ah3,Ah8 Me m.Atoms (fun y hy x=>Ahz y.Lin x (by have:=l.al y hy; omega)) hx (by omega),M0,B]
      cases (a.Deg==0) with
      | true=>exact ⟨(fun h=>by cases h),fun _=>⟨_,rfl,rfl⟩⟩
      | false=>
       cases G7 a.Lin with
       | false=>exact ⟨(fun h=>by cases h),fun _=>⟨_,rfl,rfl⟩⟩
       | true=>
        cases (a.Lin.Terms.length==0) with
        | true=>exact ⟨(fun h=>by cases h),fun _=>⟨_,rfl,rfl⟩⟩
        | false=>
         cases Q8 m.Atoms a j with
         | true=>exact ⟨fun _=>rfl,fun h=>by cases h⟩
         | false=>exact ⟨(fun h=>by cases h),fun _=>⟨_,rfl,rfl⟩⟩
     .intro h _; exact ⟨.inr (),by simp only [h]; rfl,rfl⟩)
   refine ⟨r.2,?_,?_⟩
   .have e:some r=some (m.Factors.zipIdx.all (fun q=>Ua data vars res m.Factors q.1 q.2)&&m.Atoms.zipIdx.all (fun q=>M0 m.Atoms q.1 q.2),r.2):=by
     rcases r2 with ⟨h1,h2,h3⟩ | ⟨h1,h2,h3⟩
     .rw [h1,Bool.true_and,<-h3]
     .rw [h1,Bool.false_and,<-h3]
    rw [<-e]
    exact r1
   .rcases r2 with ⟨h1,h2,h3⟩ | ⟨h1,h2,h3⟩ <;> exact h2
theorem Ah9 (l:List Cw):Dc data vars res l<=6*l.length/\-(l.length:Int)<=Dc data vars res l:=by
 induction l with
 | nil=>simp [Dc]
 | cons x xs ih=>
  have:=Abu data vars res x
  unfold Dc at *
  simp only [List.map_cons,List.sum_cons,List.length_cons]
  omega
theorem Aia (l:List Cw) (h:∀f∈l,0<=D9 data vars res f):0<=Dc data vars res l:=by
 induction l with
 | nil=>simp [Dc]
 | cons x xs ih=>
  have h1:=h x (by simp)
  have h2:=ih (fun f b=>h f (by simp [b]))
  unfold Dc at *
  simp only [List.map_cons,List.sum_cons]
  omega
theorem Ub (l:List C4) (h:∀a∈l,0<=a.Deg):0<=D5 l/\((∀a∈l,a.Deg<=6)->D5 l<=6*l.length)/\∀a∈l,a.Deg<=D5 l:=by
 induction l with
 | nil=>simp [D5]
 | cons x xs ih=>
  have h1:=h x (by simp)
  obtain ⟨i1,i2,i3⟩:=ih (fun f b=>h f (by simp [b]))
  unfold D5 at *
  simp only [List.map_cons,List.sum_cons,List.length_cons]
  refine ⟨by omega,fun g=>?_,fun a ha=>?_⟩
  .have:=g x (by simp)
   have:=i2 (fun a ha=>g a (by simp [ha]))
   omega
  .rcases List.mem_cons.1 ha with rfl | ha
   .omega
   .have:=i3 a ha; omega
end
theorem Ara {x:B0} (hc:Mz x.Data x.Vars x.Res) (m:Bi) (V:MSz m):∃v,Sf x m=some v/\decide (v<0) = !Gp x.Data x.Vars x.Res m:=by
 have hf:=V.nf
 have ha:=V.na
 unfold Sf
 have a1:∀n,m.Factors.zipIdx.all (fun q=>Lm x.Data x.Vars x.Res m.Factors q.1 q.2)=true->0<=Dc x.Data x.Vars x.Res (m.Factors.take n):=by
  intro n h
  refine Aia _ (fun f hf=>?_)
  obtain ⟨j,hj⟩:=List.getElem?_of_mem (List.mem_of_mem_take hf)
  have:=G0 h hj
  simp only [Lm,C9,decide_eq_true_eq] at this
  omega
 have a6:m.Factors.zipIdx.all (fun q=>Lm x.Data x.Vars x.Res m.Factors q.1 q.2)=false->Gp x.Data x.Vars x.Res m=false:=by
  intro h; unfold Gp; rw [h]; rfl
 obtain ⟨r,r1,r2⟩:=Tv (M:=Unit) (R:=Int) m.Factors (fun q=>Lm x.Data x.Vars x.Res m.Factors q.1 q.2) (fun j _=>(Dc x.Data x.Vars x.Res (m.Factors.take j),(j:Int))) (fun _=>True)
  (fun v=>decide (v<0) = !Gp x.Data x.Vars x.Res m) (fun v=>v = -1) ()
  (s0:=((0:Int),(0:Int)))
  (step:=(fun (v9,l)=>
   bif (decide (l<(m.Factors.length:Int))) then (
   (Af m.Factors l).bind fun D=>
   (N0 x D.Var).bind fun U=>
   (show Option Bool from
   bif (!U.2) then some true
   else (
   bif (decide (l>(0:Int))) then (
   (Af m.Factors (Ad (l-1))).bind fun B=>
   some (decide (B.Var>=D.Var)))
   else some false)).bind fun a8=>
   bif a8 then some (.inr (.inl (-1)))
   else (
   (P3 x.Data U.1 D.Index).bind fun N=>
   bif (decide (N<(1:Int))) then some (.inr (.inl (-1)))
   else some (.inl ((Ad (v9+N)),(Ad (l+1))))))
   else some (.inr (.inr v9)):Int×Int->Option ((Int×Int)⊕(Int⊕Int))))
  (J:=(fun z=>match z with
   | .inl aa=>some aa
   | .inr a7=>(Ao (S:=(Int×Int)) (E:=(Int⊕Int)) (fun (v24,g)=>
     bif (decide (g<(m.Atoms.length:Int))) then (
     (Af m.Atoms g).bind fun c=>
     (N1 c.Lin).bind fun v28=>
     bif (!v28) then some (.inr (.inl (-1)))
     else (
     bif ((c.Lin.Terms.length:Int)==(0:Int)) then some (.inr (.inl (-1)))
     else (
     (N2 x c.Lin).bind fun A=>
     bif (!A) then some (.inr (.inl (-1)))
     else (
     bif (decide (g>(0:Int))) then (
     (Af m.Atoms (Ad (g-1))).bind fun u=>
     (K6 u.Lin c.Lin).bind fun v31=>
     bif (decide (v31>=(0:Int))) then some (.inr (.inl (-1)))
     else (
     bif (decide (c.Deg<(1:Int))) then some (.inr (.inl (-1)))
     else (
     bif (decide (c.Deg>(6:Int))) then some (.inr (.inl (-1)))
     else some (.inl ((Ad (v24+c.Deg)),(Ad (g+1)))))))
     else (
     bif (decide (c.Deg<(1:Int))) then some (.inr (.inl (-1)))
     else (
     bif (decide (c.Deg>(6:Int))) then some (.inr (.inl (-1)))
     else some (.inl ((Ad (v24+c.Deg)),(Ad (g+1))))))))))
     else some (.inr (.inr v24))) (a7,0)).bind fun z=>match z with
      | .inl G=>some G
      | .inr k=>bif (decide (k>(6:Int))) then some (-1) else some k))
  (by simp [Dc]) trivial (by omega) (by
   intro j f _ _ hx _ h1 h2 h3
   have ae:=B3 hx
   have hj:=Em hx
   have ab:(bif decide ((j:Int)>0) then ((Af m.Factors (Ad ((j:Int)-1))).bind fun B=>some (decide (B.Var>=f.Var))) else some false)=some (!J1 (·.Var) m.Factors f j):=by
    unfold J1
    by_cases h:j=0
    .subst h; rfl
    .rw [Ak (by omega)]
     have e:Ad ((j:Int)-1)=((j-1:Nat):Int):=by rw [Ad,Bt] <;> omega
     have hy:m.Factors[j-1]? = some m.Factors[j-1]:=Cb (by omega)
     rw [e,Ch rfl hy,hy]
     have h0:(j==0)=false:=by simpa using h
     simp only [cond_true,Ac,h0,Bool.false_or]
     by_cases hc:m.Factors[j-1].Var<f.Var
     .rw [Al (by omega),Ak hc]; rfl
     .rw [Ak (by omega),Al hc]; rfl
   have es:Dc x.Data x.Vars x.Res (m.Factors.take (j+1))=Dc x.Data x.Vars x.Res (m.Factors.take j)+D9 x.Data x.Vars x.Res f:=Ah6 _ hx
   have hb:=Ah9 (data:=x.Data) (vars:=x.Vars) (res:=x.Res) (m.Factors.take j)
   have aj:(m.Factors.take j).length<=1048576:=by simp; omega
   have ah:=Abu x.Data x.Vars x.Res f
   simp only [h1,h2,h3,cond_true,Ac,Ah5,Lm,es]
   cases ht:tyX x.Vars x.Res f.Var with
   | none=>
    have e:D9 x.Data x.Vars x.Res f = -1:=by unfold D9; rw [ht]
    rw [e]
    exact ⟨(fun h=>by cases h),fun _=>⟨.inl (-1),rfl,_,rfl,rfl⟩⟩
   | some t=>
    have e:D9 x.Data x.Vars x.Res f=Fg (Fy x.Data f.Index t):=by unfold D9; rw [ht]
    simp only [bnt,cond_false,ab,Ac,Aqk hc.vd hc.sh t f.Index (hc.sz _ _ ht) (V.fi f ae),<-e]
    cases af:J1 (·.Var) m.Factors f j with
    | false=>exact ⟨(fun h=>by simp at h),fun _=>⟨.inl (-1),rfl,_,rfl,rfl⟩⟩
    | true=>
     simp only [bnt,cond_false,Bool.and_true]
     by_cases h1:1<=D9 x.Data x.Vars x.Res f
     .rw [Ak h1,Al (by omega)]
      refine ⟨fun _=>⟨(),?_,trivial⟩,fun h=>by cases h⟩
      simp only [cond_false]
      rw [show Ad (Dc x.Data x.Vars x.Res (m.Factors.take j)+D9 x.Data x.Vars x.Res f)=Dc x.Data x.Vars x.Res (m.Factors.take j)+D9 x.Data x.Vars x.Res f by rw [Ad,Bt] <;> omega]
     .rw [Al h1,Ak (by omega)]
      exact ⟨(fun h=>by cases h),fun _=>⟨.inl (-1),rfl,_,rfl,rfl⟩⟩) (by
   intro _ _ h1 s
   have ad:=a1 m.Factors.length s
   have ai:=Ah9 (data:=x.Data) (vars:=x.Vars) (res:=x.Res) m.Factors
   rw [List.take_length] at ad
   refine ⟨.inr (Dc x.Data x.Vars x.Res m.Factors),by simp,?_⟩
   obtain ⟨w,w1,w2⟩:=Tv (M:=Unit) (R:=Int) m.Atoms (fun q=>Ja x.Vars x.Res m.Atoms q.1 q.2&&decide (q.1.Deg<=6)) (fun j _=>(Dc x.Data x.Vars x.Res m.Factors+D5 (m.Atoms.take j),(j:Int))) (fun _=>True)
    (fun v=>decide (v<0) = !decide (Dc x.Data x.Vars x.Res m.Factors+D5 m.Atoms<=6)) (fun v=>v = -1) ()
    (s0:=(Dc x.Data x.Vars x.Res m.Factors,(0:Int)))
    (step:=(fun (v24,g)=>
     bif (decide (g<(m.Atoms.length:Int))) then (
     (Af m.Atoms g).bind fun c=>
     (N1 c.Lin).bind fun v28=>
     bif (!v28) then some (.inr (.inl (-1)))
     else (
     bif ((c.Lin.Terms.length:Int)==(0:Int)) then some (.inr (.inl (-1)))
     else (
     (N2 x c.Lin).bind fun A=>
     bif (!A) then some (.inr (.inl (-1)))
     else (
     bif (decide (g>(0:Int))) then (
     (Af m.Atoms (Ad (g-1))).bind fun u=>
     (K6 u.Lin c.Lin).bind fun v31=>
     bif (decide (v31>=(0:Int))) then some (.inr (.inl (-1)))
     else (
     bif (decide (c.Deg<(1:Int))) then some (.inr (.inl (-1)))
     else (
     bif (decide (c.Deg>(6:Int))) then some (.inr (.inl (-1)))
     else some (.inl ((Ad (v24+c.Deg)),(Ad (g+1)))))))
     else (
     bif (decide (c.Deg<(1:Int))) then some (.inr (.inl (-1)))
     else (
     bif (decide (c.Deg>(6:Int))) then some (.inr (.inl (-1)))
     else some (.inl ((Ad (v24+c.Deg)),(Ad (g+1))))))))))
     else some (.inr (.inr v24)):Int×Int->Option ((Int×Int)⊕(Int⊕Int))))
    (J:=(fun z=>match z with
      | .inl G=>some G
      | .inr k=>bif (decide (k>(6:Int))) then some (-1) else some k))
    (by simp [D5]) trivial (by omega) (by
     intro j a _ _ hx I h1 h2 h3
     have X:((a.Lin.Terms.length:Int)==(0:Int))=(a.Lin.Terms.length==0):=Agt a.Lin.Terms 0
     have es:=Ah7 hx
     have ak:0<=D5 (m.Atoms.take j)/\D5 (m.Atoms.take j)<=6*1048576:=by
      have Y:∀b∈m.Atoms.take j,1<=b.Deg/\b.Deg<=6:=by
       intro b hb
       obtain ⟨i,hi⟩:=List.getElem?_of_mem hb
       have ac:=Em hi
       have Z:i<j:=by simp at ac; omega
       rw [List.getElem?_take_of_lt Z] at hi
       have:=I i b Z hi
       simp only [Ja,C9,decide_eq_true_eq] at this
       omega
      obtain ⟨k1,k2,_⟩:=Ub (m.Atoms.take j) (fun b hb=>by have:=Y b hb; omega)
      have:=k2 (fun b hb=>(Y b hb).2)
      have hl:(m.Atoms.take j).length<=1048576:=by simp; omega
      omega
     simp only [h1,h2,h3,cond_true,Ac,Aq1,Aq5 x a.Lin (V.al a (B3 hx)),Ah8 K6 m.Atoms (fun y hy x=>Ah0 y.Lin x (by have:=V.al y hy; omega)) hx (by omega),Ja,X,es]
     cases G7 a.Lin with
     | false=>exact ⟨(fun h=>by simp at h),fun _=>⟨.inl (-1),rfl,_,rfl,rfl⟩⟩
     | true=>
      cases (a.Lin.Terms.length==0) with
      | true=>exact ⟨(fun h=>by simp at h),fun _=>⟨.inl (-1),rfl,_,rfl,rfl⟩⟩
      | false=>
       cases I9 x.Vars x.Res a.Lin with
       | false=>exact ⟨(fun h=>by simp at h),fun _=>⟨.inl (-1),rfl,_,rfl,rfl⟩⟩
       | true=>
        simp only [bnt,cond_false,Bool.not_false,Bool.and_true]
        cases Q8 m.Atoms a j with
        | false=>exact ⟨(fun h=>by simp at h),fun _=>⟨.inl (-1),rfl,_,rfl,rfl⟩⟩
        | true=>
         simp only [cond_true,Bool.and_true]
         by_cases g1:a.Deg<1
         .rw [Ak g1,Al (by omega:¬1<=a.Deg)]
          exact ⟨(fun h=>by simp at h),fun _=>⟨.inl (-1),rfl,_,rfl,rfl⟩⟩
         .by_cases g2:a.Deg>6
          .rw [Al g1,Ak g2,Al (by omega:¬a.Deg<=6)]
           exact ⟨(fun h=>by simp at h),fun _=>⟨.inl (-1),rfl,_,rfl,rfl⟩⟩
          .rw [Al g1,Al g2,Ak (by omega:a.Deg<=6),Ak (by omega:1<=a.Deg)]
           refine ⟨fun _=>⟨(),?_,trivial⟩,fun h=>by cases h⟩
           simp only [cond_false]
           rw [show Ad (Dc x.Data x.Vars x.Res m.Factors+D5 (m.Atoms.take j)+a.Deg)=Dc x.Data x.Vars x.Res m.Factors+(D5 (m.Atoms.take j)+a.Deg) by rw [Ad,Bt] <;> omega]) (by
     intro _ _ h1 L
     refine ⟨.inr (Dc x.Data x.Vars x.Res m.Factors+D5 m.Atoms),by simp,?_⟩
     have am:0<=D5 m.Atoms:=(Ub m.Atoms (fun b hb=>by
      obtain ⟨i,hi⟩:=List.getElem?_of_mem hb
      have:=G0 L hi
      simp only [Ja,C9,decide_eq_true_eq] at this
      omega)).1
     simp only
     by_cases h6:Dc x.Data x.Vars x.Res m.Factors+D5 m.Atoms<=6
     .rw [Al (by omega),Ak h6]
      exact ⟨_,rfl,Al (by omega)⟩
     .rw [Ak (by omega),Al h6]
      exact ⟨_,rfl,rfl⟩)
   refine ⟨w,w1,?_⟩
   unfold Gp
   rw [s,Bool.true_and]
   rcases w2 with ⟨g1,g2⟩ | ⟨g1,g2⟩
   .have ga:m.Atoms.zipIdx.all (fun q=>Ja x.Vars x.Res m.Atoms q.1 q.2)=true:=Wn fun j a hj=>by
     have:=G0 g1 hj
     simp only [C9] at this
     exact this.1
    rw [ga,Bool.true_and,g2]
   .rw [g2]
    cases ga:m.Atoms.zipIdx.all (fun q=>Ja x.Vars x.Res m.Atoms q.1 q.2) with
    | false=>rfl
    | true=>
     have hgt:¬Dc x.Data x.Vars x.Res m.Factors+D5 m.Atoms<=6:=by
      intro ag
      have:m.Atoms.zipIdx.all (fun q=>Ja x.Vars x.Res m.Atoms q.1 q.2&&decide (q.1.Deg<=6))=true:=Wn fun j a hj=>by
       have gj:=G0 ga hj
       have hpos:∀b∈m.Atoms,0<=b.Deg:=fun b hb=>by
        obtain ⟨i,hi⟩:=List.getElem?_of_mem hb
        have:=G0 ga hi
        simp only [Ja,C9,decide_eq_true_eq] at this
        omega
       have:=(Ub m.Atoms hpos).2.2 a (B3 hj)
       simp only [gj,Bool.true_and,decide_eq_true_eq]
       omega
      rw [this] at g1; cases g1
     rw [Al hgt]; rfl)
 refine ⟨r,r1,?_⟩
 rcases r2 with ⟨h1,h2⟩ | ⟨h1,h2⟩
 .exact h2
 .rw [h2,a6 h1]; rfl
end Go.Ab
