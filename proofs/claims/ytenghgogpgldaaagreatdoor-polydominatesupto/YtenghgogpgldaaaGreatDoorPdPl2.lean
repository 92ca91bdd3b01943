/- Plain laws: what the plain functions answer. -/
import Derived.Test.YtenghgogpgldaaaGreatDoorPdPl1
import Derived.Lib.ItoaLen
namespace Go.Ab
open Go
def isV (σ:List Ah) (k n:Int):Bool:=k==4&&decide (0<=n)&&decide (n<(σ.length:Int))
mutual
def Ck (σ:List Ah):Ah->Ah
 | ⟨k,n,l⟩=>match (if isV σ k n then σ[n.toNat]? else none) with
  | some s=>s
  | none=>⟨k,n,Lo σ l⟩
def Lo (σ:List Ah):List Ah->List Ah
 | []=>[]
 | x::xs=>Ck σ x::Lo σ xs
end
theorem Arq (σ l:List Ah):Lo σ l=l.map (Ck σ):=by
 induction l with
 | nil=>rfl
 | cons x xs ih=>simp only [Lo,ih,List.map_cons]
theorem Xo {σ:List Ah} {k n:Int} (h:isV σ k n=true):∃s,σ[n.toNat]? = some s/\Af σ n=some s/\s∈σ:=by
 simp only [isV,Db,decide_eq_true_eq] at h
 have b:n.toNat < σ.length:=by omega
 refine ⟨σ[n.toNat],Br b,?_,List.getElem_mem b⟩
 unfold Af
 rw [if_pos (by omega),Br b]
theorem Xp {σ:List Ah} {t s:Ah} (h:isV σ t.Kind t.Num=true) (b:σ[t.Num.toNat]? = some s):Ck σ t=s:=by
 cases t; simp only [Ck] at *; simp [h,b]
theorem Ab8 {σ:List Ah} {t:Ah} (h:isV σ t.Kind t.Num=false):Ck σ t=⟨t.Kind,t.Num,t.Args.map (Ck σ)⟩:=by
 cases t; simp only [Ck] at *; simp [h,Arq]
mutual
theorem Aig:∀t:Ah,Ck [] t=t
 | ⟨k,n,l⟩=>by
  have hv:isV [] k n=false:=by
   unfold isV
   by_cases h:0<=n
   .rw [Ap (by simp; omega:¬n<(([]:List Ah).length:Int))]; simp
   .rw [Ap h]; simp
  simp only [Ck,hv,Aih l]; rfl
theorem Aih:∀l:List Ah,Lo [] l=l
 | []=>rfl
 | x::xs=>by simp only [Lo,Aig x,Aih xs]
end
mutual
theorem Ab9 (σ:List Ah) (M:Nat) (hM:1<=M) (hσ:∀s∈σ,A7 s<=M):∀t:Ah,A7 (Ck σ t)<=A7 t*M
 | ⟨k,n,l⟩=>by
  cases hv:isV σ k n with
  | true=>
   obtain ⟨s,h1,_,h3⟩:=Xo hv
   rw [Xp (t:=⟨k,n,l⟩) hv h1]
   have:=hσ s h3
   have h2:=Kr ⟨k,n,l⟩
   calc A7 s<=1*M:=by omega
    _<=_:=Nat.mul_le_mul_right M h2
  | false=>
   have:=Aii σ M hM hσ l
   simp only [Ck,hv,A7]
   simp only [Bool.false_eq_true,if_false,A7]
   rw [Nat.add_mul]; omega
theorem Aii (σ:List Ah) (M:Nat) (hM:1<=M) (hσ:∀s∈σ,A7 s<=M):∀l:List Ah,B5 (Lo σ l)<=B5 l*M
 | []=>by simp [Lo,B5]
 | x::xs=>by
  have h1:=Ab9 σ M hM hσ x
  have h2:=Aii σ M hM hσ xs
  simp only [Lo,B5]
  rw [Nat.add_mul]; omega
end
theorem Aca (σ:List Ah) (t:Ah):(bif t.Kind==(4:Int) then bif decide (t.Num>=(0:Int)) then some (decide (t.Num<(σ.length:Int))) else some false else some false)=some (isV σ t.Kind t.Num):=by
 unfold isV
 cases t.Kind==4 <;> simp
 by_cases h:0<=t.Num <;> simp [h]
theorem Arr:∀(k:Nat) (t:Ah) (σ:List Ah) (M:Nat),(∀s∈σ,A7 s<=M)->A7 t+M+1<=k->k<1099511627776->Mn k t σ=some (Ck σ t):=by
 intro k
 induction k with
 | zero=>intro t σ M _ h; omega
 | succ k ih=>
  intro t σ M c h hk
  have g:=Fx t
  have f:=G1 t.Args
  rw [Mn]
  rw [show (show Option Bool from bif t.Kind==(4:Int) then bif decide (t.Num>=(0:Int)) then some (decide (t.Num<(σ.length:Int))) else some false else some false)=some (isV σ t.Kind t.Num) from Aca σ t,Ad]
  cases b:isV σ t.Kind t.Num with
  | true=>
   obtain ⟨s,h1,h2,h3⟩:=Xo b
   have:=c s h3
   simp only [cond_true,h2,Ad,Xp b h1,ih s [] 0 (by simp) (by omega) (by omega),Aig]
  | false=>
   rw [Ab8 b]
   simp only [cond_false]
   refine G6 t.Args (fun j=>((j:Int),(t.Args.take j).map (Ck σ))) rfl (by omega) ?_ ?_
   .intro j x hj hx h1 h2 h3
    have:=F3 (Bu hx)
    simp only [h1,h2,h3,cond_true,Ad,ih x σ M c (by omega) (by omega)]
    rw [C4 (by simp; omega),Ad,C2 hx]; simp
   .intro h1
    exact ⟨t.Args.map (Ck σ),by simp,rfl⟩
theorem Ars:∀(k:Nat) (t:Ah),A7 t<=k->k<1099511627776->Ou k t=some t:=by
 intro k
 induction k with
 | zero=>intro t h; have:=Kr t; omega
 | succ k ih=>
  intro t h hk
  have c:=Fx t
  have b:=G1 t.Args
  rw [Ou]
  refine G6 t.Args (fun j=>((j:Int),(t.Args.take j))) rfl (by omega) ?_ ?_
  .intro j x hj hx h1 h2 h3
   have:=F3 (Bu hx)
   simp only [h1,h2,h3,cond_true,Ad,ih x (by omega) (by omega)]
   rw [C4 (by simp; omega),Ad,C2 hx]
  .intro h1
   exact ⟨t.Args,by simp,by cases t; rfl⟩
theorem Art:∀(k:Nat) (t:Ah) (σ:List Ah) (M:Nat),(∀s∈σ,A7 s<=M)->M<=4000000->A7 t<=k->k<1099511627776->Ms k t σ=some (Ck σ t):=by
 intro k
 induction k with
 | zero=>intro t σ M _ _ h; have:=Kr t; omega
 | succ k ih=>
  intro t σ M c i h hk
  have g:=Fx t
  have f:=G1 t.Args
  rw [Ms]
  rw [show (show Option Bool from bif t.Kind==(4:Int) then bif decide (t.Num>=(0:Int)) then some (decide (t.Num<(σ.length:Int))) else some false else some false)=some (isV σ t.Kind t.Num) from Aca σ t,Ad]
  cases b:isV σ t.Kind t.Num with
  | true=>
   obtain ⟨s,h1,h2,h3⟩:=Xo b
   have:=c s h3
   simp only [cond_true,h2,Ad,Xp b h1,Ars 4000000 s (by omega) (by omega)]
  | false=>
   rw [Ab8 b]
   simp only [cond_false]
   refine G6 t.Args (fun j=>((j:Int),(t.Args.take j).map (Ck σ))) rfl (by omega) ?_ ?_
   .intro j x hj hx h1 h2 h3
    have:=F3 (Bu hx)
    simp only [h1,h2,h3,cond_true,Ad,ih x σ M c i (by omega) (by omega)]
    rw [C4 (by simp; omega),Ad,C2 hx]; simp
   .intro h1
    exact ⟨t.Args.map (Ck σ),by simp,rfl⟩
theorem Aru:∀(k:Nat) (t:Ah),A7 t<=k->A7 t<1099511627776->Oh k t=some (A7 t:Int):=by
 intro k
 induction k with
 | zero=>intro t h; have:=Kr t; omega
 | succ k ih=>
  intro t h ht
  have b:=Fx t
  have c:=G1 t.Args
  rw [Oh]
  refine G6 t.Args (fun j=>(1+(B5 (t.Args.take j):Int),(j:Int))) rfl (by omega) ?_ ?_
  .intro j x hj hx h1 h2 h3
   have g:=F3 (Bu hx)
   have f:=T9 t.Args (j+1)
   have e:B5 (t.Args.take (j+1))=B5 (t.Args.take j)+A7 x:=by rw [C2 hx,Xk]; simp [B5]
   simp only [h1,h2,h3,cond_true,Ad,ih x (by omega) (by omega)]
   rw [show Ac (1+(B5 (t.Args.take j):Int)+(A7 x:Int))=1+(B5 (t.Args.take (j+1)):Int) by rw [e,Ac,Bt] <;> omega]
  .intro h1
   exact ⟨1+(B5 t.Args:Int),by simp,by rw [b]; simp⟩
theorem Arv (σ:List Ah) (M:Nat) (E:1<=M) (u:M<=1048576) (A:∀s∈σ,A7 s<=M):∀(k:Nat) (t:Ah),A7 t<=k->A7 t<=1048576 ->
  ∃v:Nat,Oi k t (σ.map fun s=>(A7 s:Int))=some (v:Int)/\v<=A7 (Ck σ t)/\((v=A7 (Ck σ t))\/200<v):=by
 intro k
 induction k with
 | zero=>intro t h; have:=Kr t; omega
 | succ k ih=>
  intro t h ht
  have B:=Fx t
  have z:=G1 t.Args
  have l:∀x,A7 x<=1048576->A7 (Ck σ x)<=1099511627776:=fun x hx=>by
   have:=Ab9 σ M E A x
   have:A7 x*M<=1048576*1048576:=Nat.mul_le_mul hx u
   omega
  rw [Oi]
  rw [show (show Option Bool from bif t.Kind==(4:Int) then bif decide (t.Num>=(0:Int)) then some (decide (t.Num<((σ.map fun s=>(A7 s:Int)).length:Int))) else some false else some false)=some (isV σ t.Kind t.Num) by rw [List.length_map]; exact Aca σ t,Ad]
  cases f:isV σ t.Kind t.Num with
  | true=>
   obtain ⟨s,h1,h2,h3⟩:=Xo f
   have hi:Af (σ.map fun s=>(A7 s:Int)) t.Num=some (A7 s:Int):=by
    have:=E8 h2
    rw [Cf (n:=t.Num.toNat) (by omega)]
    simp [h1]
   simp only [cond_true,hi,Ad,Xp f h1]
   exact ⟨A7 s,rfl,Nat.le_refl _,.inl rfl⟩
  | false=>
   have y:=l t ht
   rw [Ab8 f] at y ⊢
   simp only [cond_false]
   have g:A7 ⟨t.Kind,t.Num,t.Args.map (Ck σ)⟩=1+B5 (t.Args.map (Ck σ)):=by simp only [A7]
   rw [g] at y ⊢
   refine W3 (fun v:Nat=>(v:Int)) (Dr (fun (n,i)=>∃j:Nat,i=j/\j<=t.Args.length/\n=1+(B5 ((t.Args.map (Ck σ)).take j):Int)) (fun (_,i)=>t.Args.length-i.toNat)
    (fun n=>∃v:Nat,n=v/\v<=1+B5 (t.Args.map (Ck σ))/\(v=1+B5 (t.Args.map (Ck σ))\/200<v)) ⟨0,rfl,by omega,by simp [B5]⟩ ?_ ?_)
   .rintro ⟨n,i⟩ ⟨j,rfl,hj,q⟩
    have q:n=_:=q
    subst q
    rcases Nat.lt_or_ge j t.Args.length with h' | h'
    .have hx:t.Args[j]? = some t.Args[j]:=Br h'
     generalize t.Args[j]=x at hx
     have I:=F3 (Bu hx)
     obtain ⟨v,b,v2,v3⟩:=ih x (by omega) (by omega)
     have c:(t.Args.map (Ck σ))[j]? = some (Ck σ x):=by simp [hx]
     have e:B5 ((t.Args.map (Ck σ)).take (j+1))=B5 ((t.Args.map (Ck σ)).take j)+A7 (Ck σ x):=by rw [C2 c,Xk]; simp [B5]
     have D:=T9 (t.Args.map (Ck σ)) (j+1)
     have G:Ac (1+(B5 ((t.Args.map (Ck σ)).take j):Int)+(v:Int))=((1+B5 ((t.Args.map (Ck σ)).take j)+v:Nat):Int):=by rw [Ac,Bt] <;> omega
     simp only [Aj (by omega:(j:Int)<(t.Args.length:Int)),cond_true,Cf rfl hx,Ad,b,C1 h' (by omega),G]
     by_cases hb:1+B5 ((t.Args.map (Ck σ)).take j)+v>200
     .rw [Aj (by omega)]
      exact .inr ⟨_,rfl,_,rfl,by omega,.inr hb⟩
     .rw [Ap (by omega)]
      refine .inl ⟨_,rfl,⟨j+1,rfl,by omega,?_⟩,by simp; omega⟩
      have:v=A7 (Ck σ x):=by omega
      subst this
      rw [e]; omega
    .have:j=t.Args.length:=by omega
     subst this
     refine .inr ⟨_,by simp; rfl,1+B5 (t.Args.map (Ck σ)),?_,by omega,.inl rfl⟩
     rw [List.take_of_length_le (by simp)]; omega
   .rintro n ⟨v,rfl,b,v2⟩
    exact ⟨_,rfl,v,rfl,b,v2⟩
def I9 (data:List Ax) (t:Ah) (c:Int):Option (List Ah) :=
 if t.Kind=5 then
  match Af data t.Num with
  | none=>none
  | some x=>if (t.Args.length:Int)=x.Vars then
    match Af x.Cons c with
    | none=>none
    | some y=>if (y.Args.map (Ck t.Args)).all (fun a=>decide (A7 a<=200)) then some (y.Args.map (Ck t.Args)) else none
   else none
 else none
def okL (o:Option (List Ah)):List Ah×Bool:=match o with | none=>([],false) | some l=>(l,true)
theorem Arw {R:Type} (data:List Ax) (t:Ah) (c:Int) (F:Ax->Jz->Option R) (z:R) (X:Option R)
  (b:X=(match Af data t.Num with
   | none=>some z
   | some x=>match Af x.Cons c with
    | none=>some z
    | some y=>if t.Kind=5/\(t.Args.length:Int)=x.Vars then F x y else some z)):X=if t.Kind=5 then
  match Af data t.Num with
  | none=>some z
  | some x=>if (t.Args.length:Int)=x.Vars then
    match Af x.Cons c with
    | none=>some z
    | some y=>F x y
   else some z
 else some z:=by
 subst b
 by_cases h:t.Kind=5
 .rw [if_pos h]
  cases Af data t.Num with
  | none=>rfl
  | some x=>
   simp only
   by_cases h':(t.Args.length:Int)=x.Vars
   .rw [if_pos h']
    cases Af x.Cons c with
    | none=>rfl
    | some y=>simp [h,h']
   .rw [if_neg h']
    cases Af x.Cons c with
    | none=>rfl
    | some y=>simp [h']
 .rw [if_neg h]
  cases Af data t.Num with
  | none=>rfl
  | some x=>
   simp only
   cases Af x.Cons c with
   | none=>rfl
   | some y=>simp [h]
def Szv (data:List Ax):Prop:=∀x∈data,∀y∈x.Cons,y.Args.length<=6/\∀a∈y.Args,A7 a<=200
theorem G7.szv {data:List Ax} (h:G7 data):Szv data:=by
 intro x hx y hy
 obtain ⟨d,hd⟩:=List.getElem?_of_mem hx
 have h1:=h.2.1 d x hd
 obtain ⟨_,c,b⟩:=h1.2.2.2.2.2 y hy
 refine ⟨c,fun a ha=>?_⟩
 have:=List.all_eq_true.1 b a ha
 unfold Hq at this
 rw [Bool.or_eq_true] at this
 rcases this with h' | h'
 .exact (Ah9 hd h1.2.1 h').2
 .simp only [Db,decide_eq_true_eq] at h'; exact h'.2
theorem Arx {t a:Ah} (ht:A7 t<=200) (ha:A7 a<=200):A7 (Ck t.Args a)<=40000:=by
 have h1:=Ab9 t.Args 200 (by omega) (fun s b=>by have:=F3 b; have:=Fx t; omega) a
 have:A7 a*200<=200*200:=Nat.mul_le_mul_right 200 ha
 omega
theorem Aij {data:List Ax} (G:Szv data) (t:Ah) (ht:A7 t<=200) (c:Int):Ot data t c=some (okL (I9 data t c)):=by
 have J:Ot data t c=_:=Arw data t c (fun x y=>(An (S:=(Int×(List Ah))) (E:=(((List Ah)×Bool)⊕(List Ah))) (fun (f,i)=>
   bif (decide (f<(y.Args.length:Int))) then (
   (Af y.Args f).bind fun v24=>
   (Ms (4000000) v24 t.Args).bind fun g=>
   (Lj (4000000) g).bind fun v28=>
   bif (decide (v28>(200:Int))) then some (.inr (.inl ([],false)))
   else (
   (Bv 40 i [g]).bind fun B=>
   some (.inl ((Ac (f+1)),B))))
   else some (.inr (.inr i))) (0,[])).bind fun z=>
   match z with
   | .inl (u,q)=>some (u,q)
   | .inr A=>some (A,true)) ([],false) _ (by
  unfold Ot
  by_cases hk:t.Kind=5
  .simp only [Cz hk,cond_false]
   cases hx:Af data t.Num with
   | none=>
    rcases M2 hx with h | h
    .simp only [Aj h,cond_true,Ad]
    .by_cases h':t.Num<0
     .simp only [Aj h',cond_true,Ad]
     .simp only [Ap h',Aj (show t.Num>=(data.length:Int) from h),cond_true,cond_false,Ad]
   | some x=>
    obtain ⟨a1,a2,_,_⟩:=E8 hx
    simp only [Ap (by omega:¬t.Num<0),Ap (by omega:¬t.Num>=(data.length:Int)),cond_false,Ad]
    by_cases b:(t.Args.length:Int)=x.Vars
    .simp only [Cz b,cond_false]
     cases hy:Af x.Cons c with
     | none=>
      rcases M2 hy with h | h
      .simp only [Aj h,cond_true,Ad]
      .by_cases h':c<0
       .simp only [Aj h',cond_true,Ad]
       .simp only [Ap h',Aj (show c>=(x.Cons.length:Int) from h),cond_true,cond_false,Ad]
     | some y=>
      obtain ⟨b1,b2,_,_⟩:=E8 hy
      simp only [Ap (by omega:¬c<0),Ap (by omega:¬c>=(x.Cons.length:Int)),cond_false,Ad,hk,b,and_self,if_true]
      rfl
    .simp only [Cv b,cond_true,Ad]
     cases hy:Af x.Cons c with
     | none=>rfl
     | some y=>simp [b]
  .simp only [Cv hk,cond_true,Ad]
   cases hx:Af data t.Num with
   | none=>rfl
   | some x=>
    simp only
    cases hy:Af x.Cons c with
    | none=>rfl
    | some y=>simp [hk])
 rw [J]
 unfold I9
 by_cases hk:t.Kind=5
 .rw [if_pos hk,if_pos hk]
  cases hx:Af data t.Num with
  | none=>rfl
  | some x=>
   simp only
   by_cases b:(t.Args.length:Int)=x.Vars
   .rw [if_pos b,if_pos b]
    cases hy:Af x.Cons c with
    | none=>rfl
    | some y=>
     simp only
     obtain ⟨L,l⟩:=G x (E8 hx).2.2.2 y (E8 hy).2.2.2
     refine (Lk (rt:=(y.Args.map (Ck t.Args),true)) (rf:=([],false)) y.Args (fun a=>decide (A7 (Ck t.Args a)<=200)) (fun j=>((j:Int),(y.Args.take j).map (Ck t.Args))) rfl (by omega) ?_ ?_).trans ?_
     .intro j a ha h1 h2 h3
      have hj:=Dd ha
      have D:=l a (Bu ha)
      have M:=Arx ht D
      simp only [h1,h2,h3,cond_true,Ad,Art 4000000 a t.Args 200 (fun s I=>by have:=F3 I; have:=Fx t; omega) (by omega) (by omega) (by omega),Ah1 4000000 (Ck t.Args a) (by omega) (by omega)]
      by_cases hb:A7 (Ck t.Args a)<=200
      .rw [Aj hb,Ap (by omega)]
       refine ⟨fun _=>?_,fun h=>by cases h⟩
       rw [C4 (by simp; omega)]
       simp only [cond_false,Ad]
       rw [C2 ha]; simp
      .rw [Ap hb,Aj (by omega)]
       exact ⟨(fun h=>by cases h),fun _=>⟨_,rfl,rfl⟩⟩
     .intro h1
      exact ⟨.inr (y.Args.map (Ck t.Args)),by simp,rfl⟩
     .rw [List.all_map]
      cases k:y.Args.all ((fun a=>decide (A7 a<=200)) ∘ Ck t.Args) with
      | true=>rw [if_pos rfl]; rw [show (y.Args.all fun a=>decide (A7 (Ck t.Args a)<=200))=true from k]; rfl
      | false=>rw [show (y.Args.all fun a=>decide (A7 (Ck t.Args a)<=200))=false from k]; rfl
   .rw [if_neg b,if_neg b]; rfl
 .rw [if_neg hk,if_neg hk]; rfl
end Go.Ab
namespace Go.Ab
open Go
theorem Ary {data:List Ax} (B:Szv data) (t:Ah) (ht:A7 t<=200) (c:Int):Ww data t c=some (okL (I9 data t c)):=by
 have D:=Fx t
 have u:=G1 t.Args
 unfold Ww I9
 by_cases hk:t.Kind=5
 .simp only [Cz hk,cond_false,if_pos hk]
  cases hx:Af data t.Num with
  | none=>
   rcases M2 hx with h | h
   .simp only [Aj h,cond_true,Ad,okL]
   .by_cases h':t.Num<0
    .simp only [Aj h',cond_true,Ad,okL]
    .simp only [Ap h',Aj (show t.Num>=(data.length:Int) from h),cond_true,cond_false,Ad,okL]
  | some x=>
   obtain ⟨a1,a2,_,hxm⟩:=E8 hx
   simp only [Ap (by omega:¬t.Num<0),Ap (by omega:¬t.Num>=(data.length:Int)),cond_false,Ad]
   by_cases g:(t.Args.length:Int)=x.Vars
   .simp only [Cz g,cond_false,if_pos g]
    cases hy:Af x.Cons c with
    | none=>
     rcases M2 hy with h | h
     .simp only [Aj h,cond_true,Ad,okL]
     .by_cases h':c<0
      .simp only [Aj h',cond_true,Ad,okL]
      .simp only [Ap h',Aj (show c>=(x.Cons.length:Int) from h),cond_true,cond_false,Ad,okL]
    | some y=>
     obtain ⟨b1,b2,_,k⟩:=E8 hy
     obtain ⟨I,b⟩:=B x hxm y k
     simp only [Ap (by omega:¬c<0),Ap (by omega:¬c>=(x.Cons.length:Int)),cond_false,Ad]
     rw [J1 (n:=t.Args.length) (c:=t.Args.length) rfl rfl (by omega) (by omega) (by omega),Ad]
     refine G6 t.Args (fun j=>((j:Int),((t.Args.take j).map fun s=>(A7 s:Int))++List.replicate (t.Args.length-j) 0)) rfl (by omega) ?_ ?_
     .intro j s hj i h1 h2 h3
      have:=F3 (Bu i)
      obtain ⟨m,E⟩:∃m,t.Args.length-j=m+1:=⟨t.Args.length-j-1,by omega⟩
      have G:t.Args.length-(j+1)=m:=by omega
      have l:j=((t.Args.take j).map fun s=>(A7 s:Int)).length:=by simp; omega
      simp only [h1,h2,h3,cond_true,Ad,Aru 4000000 s (by omega) (by omega),E,G,List.replicate_succ,Ab4 _ _ _ (j:Int) j rfl l,Ab3 _ _ _ _ (j:Int) j rfl l,C2 i]
      simp
     .intro h1
      refine ⟨t.Args.map fun s=>(A7 s:Int),by simp,?_⟩
      have q:∀s∈t.Args,A7 s<=200:=fun s i=>by have:=F3 i; omega
      refine (Lk (rt:=(y.Args.map (Ck t.Args),true)) (rf:=([],false)) y.Args (fun a=>decide (A7 (Ck t.Args a)<=200)) (fun j=>(j:Int)) rfl (by omega) ?_ ?_).trans ?_
      .intro j a ha h1 h2 h3
       have A:=b a (Bu ha)
       obtain ⟨v,z,v2,v3⟩:=Arv t.Args 200 (by omega) (by omega) q 4000000 a (by omega) (by omega)
       simp only [h1,h2,h3,cond_true,Ad,z]
       by_cases hb:A7 (Ck t.Args a)<=200
       .rw [Aj hb,Ap (by omega)]
        exact ⟨fun _=>rfl,fun h=>by cases h⟩
       .rw [Ap hb,Aj (by omega)]
        exact ⟨(fun h=>by cases h),fun _=>⟨_,rfl,rfl⟩⟩
      .intro h1
       refine ⟨.inr (),by simp,?_⟩
       simp only
       refine G6 y.Args (fun j=>((j:Int),(y.Args.take j).map (Ck t.Args))) rfl (by omega) ?_ ?_
       .intro j a hj ha h1 h2 h3
        have A:=b a (Bu ha)
        simp only [h1,h2,h3,cond_true,Ad,Arr 4000000 a t.Args 200 q (by omega) (by omega)]
        rw [C4 (by simp; omega),Ad,C2 ha]; simp
       .intro h1
        exact ⟨y.Args.map (Ck t.Args),by simp,rfl⟩
      .rw [List.all_map]
       cases f:y.Args.all ((fun a=>decide (A7 a<=200)) ∘ Ck t.Args) with
       | true=>rw [if_pos rfl]; rw [show (y.Args.all fun a=>decide (A7 (Ck t.Args a)<=200))=true from f]; rfl
       | false=>rw [show (y.Args.all fun a=>decide (A7 (Ck t.Args a)<=200))=false from f]; rfl
   .simp only [Cv g,cond_true,Ad,if_neg g,okL]
 .simp only [Cv hk,cond_true,Ad,if_neg hk,okL]
theorem Uc {data:List Ax} {t:Ah} {c:Int} {l:List Ah} (h:I9 data t c=some l) :
  ∃x y,t.Kind=5/\Af data t.Num=some x/\(t.Args.length:Int)=x.Vars/\Af x.Cons c=some y/\l=y.Args.map (Ck t.Args)/\∀a∈l,A7 a<=200:=by
 unfold I9 at h
 by_cases hk:t.Kind=5
 .rw [if_pos hk] at h
  cases hx:Af data t.Num with
  | none=>rw [hx] at h; cases h
  | some x=>
   rw [hx] at h
   simp only at h
   by_cases f:(t.Args.length:Int)=x.Vars
   .rw [if_pos f] at h
    cases hy:Af x.Cons c with
    | none=>rw [hy] at h; cases h
    | some y=>
     rw [hy] at h
     simp only at h
     by_cases b:(y.Args.map (Ck t.Args)).all (fun a=>decide (A7 a<=200))=true
     .rw [if_pos b] at h
      cases h
      refine ⟨x,y,hk,rfl,f,hy,rfl,fun a ha=>?_⟩
      have:=List.all_eq_true.1 b a ha
      simpa using this
     .rw [if_neg b] at h; cases h
   .rw [if_neg f] at h; cases h
 .rw [if_neg hk] at h; cases h
def Fp (l:List Ah) (r:List Bool):List Ah:=((l.zip r).filter fun p=>!p.2).map (·.1)
def Hr (data:List Ax) (t:Ah) (c:Int):Option (List Ah):=(I9 data t c).map fun l=>Fp l (Fo data t.Num c)
theorem Acb {data:List Ax} {t:Ah} {c:Int} {l:List Ah} (h:I9 data t c=some l):(Fo data t.Num c).length=l.length:=by
 obtain ⟨x,y,_,hx,_,hy,rfl,_⟩:=Uc h
 unfold Fo
 simp only [hx,hy,List.length_map]
theorem Aik {l:List Ah} {r:List Bool} {j:Nat} {a:Ah} {b:Bool} (h1:l[j]? = some a) (h2:r[j]? = some b):Fp (l.take (j+1)) (r.take (j+1))=Fp (l.take j) (r.take j)++bif b then [] else [a]:=by
 unfold Fp
 have f:=Dd h1
 have c:=Dd h2
 rw [C2 h1,C2 h2,List.zip_append (by simp; omega)]
 cases b <;> simp
theorem Ail (l:List Ah) (r:List Bool):(Fp l r).length<=l.length:=by
 unfold Fp
 rw [List.length_map]
 refine Nat.le_trans (List.length_filter_le _ _) ?_
 rw [List.length_zip]; omega
def Ja (r:List Bool):List Int:=(r.zipIdx.filter fun p=>!p.1).map fun p=>(p.2:Int)
def O7 (r:List Bool):List Int:=(r.zipIdx.filter fun p=>p.1).map fun p=>(p.2:Int)
theorem Acd {r:List Bool} {j:Nat} {b:Bool} (h:r[j]? = some b):(r.take (j+1)).zipIdx=(r.take j).zipIdx++[(b,j)]:=by
 have:=Dd h
 rw [C2 h,List.zipIdx_append]; simp; omega
theorem Arz {data:List Ax} (g:Szv data) (i:J3 data) (t:Ah) (ht:A7 t<=200) (c:Int) {l:List Ah} (f:I9 data t c=some l):Tu data t c=some (Ja (Fo data t.Num c),O7 (Fo data t.Num c),true):=by
 unfold Tu
 have k:=Acb f
 obtain ⟨x,y,_,hx,_,hy,s,_⟩:=Uc f
 obtain ⟨h,_⟩:=g x (E8 hx).2.2.2 y (E8 hy).2.2.2
 have q:l.length<=6:=by rw [s]; simpa using h
 rw [Aij g t ht c,f,Ad]
 simp only [okL,bnt,cond_false,Aqt data t.Num c i,Ad]
 generalize Fo data t.Num c=r at *
 refine G6 r (fun j=>((j:Int),Ja (r.take j),O7 (r.take j))) (by simp [Ja,O7]) (by omega) ?_ ?_
 .intro j b hj hb h1 h2 h3
  have z:(Ja (r.take j)).length<=6:=by
   unfold Ja; rw [List.length_map]; refine Nat.le_trans (List.length_filter_le _ _) ?_; simp; omega
  have u:(O7 (r.take j)).length<=6:=by
   unfold O7; rw [List.length_map]; refine Nat.le_trans (List.length_filter_le _ _) ?_; simp; omega
  simp only [h1,h2,h3,cond_true,Ad]
  rw [C4 (by simp; omega),C4 (by simp; omega)]
  unfold Ja O7
  rw [Acd hb]
  cases b <;> simp
 .intro h1
  exact ⟨(Ja r,O7 r),by simp,rfl⟩
theorem Ar0 {l:List Ah} {r:List Bool} (h:r.length=l.length):∀(j:Nat) (a:Int),(Ja r)[j]? = some a->∃x,Af l a=some x/\(Fp l r)[j]? = some x:=by
 intro j a ha
 have e:Fp l r=(r.zipIdx.filter fun p=>!p.1).map fun p=>(l[p.2]?).getD ⟨0,0,[]⟩:=by
  unfold Fp
  have key:∀n,n<=r.length->(((l.take n).zip (r.take n)).filter fun p=>!p.2).map (·.1)=((r.take n).zipIdx.filter fun p=>!p.1).map fun p=>(l[p.2]?).getD ⟨0,0,[]⟩:=by
   intro n
   induction n with
   | zero=>intro _; simp
   | succ n ih=>
    intro g
    have h1:l[n]? = some l[n]:=Br (by omega)
    have h2:r[n]? = some r[n]:=Br (by omega)
    have:=Aik h1 h2
    unfold Fp at this
    rw [this,ih (by omega),Acd h2]
    cases r[n] <;> simp [h1]
  have:=key r.length (Nat.le_refl _)
  rw [List.take_of_length_le (by omega),List.take_of_length_le (Nat.le_refl _)] at this
  exact this
 unfold Ja at ha
 rw [List.getElem?_map] at ha
 cases hp:(r.zipIdx.filter fun p=>!p.1)[j]? with
 | none=>rw [hp] at ha; cases ha
 | some p=>
  rw [hp] at ha
  cases ha
  have c:=Bu hp
  rw [List.mem_filter] at c
  have b:r[p.2]? = some p.1:=List.mk_mem_zipIdx_iff_getElem?.1 c.1
  have f:=Dd b
  have hx:l[p.2]? = some l[p.2]:=Br (by omega)
  refine ⟨l[p.2],Cf rfl hx,?_⟩
  rw [e,List.getElem?_map,hp]
  simp [hx]
theorem Ar1 {l:List Ah} {r:List Bool} (h:r.length=l.length):(Ja r).length=(Fp l r).length:=by
 unfold Ja Fp
 simp only [List.length_map]
 have key:∀n,n<=r.length->(((l.take n).zip (r.take n)).filter fun p=>!p.2).length=((r.take n).zipIdx.filter fun p=>!p.1).length:=by
  intro n
  induction n with
  | zero=>intro _; simp
  | succ n ih=>
   intro b
   have h1:l[n]? = some l[n]:=Br (by omega)
   have h2:r[n]? = some r[n]:=Br (by omega)
   rw [Acd h2,C2 h1,C2 h2,List.zip_append (by simp; omega),List.filter_append,List.length_append,ih (by omega),List.filter_append,List.length_append]
   cases r[n] <;> simp
 have:=key r.length (Nat.le_refl _)
 rw [List.take_of_length_le (by omega),List.take_of_length_le (Nat.le_refl _)] at this
 exact this.symm
theorem Xq {data:List Ax} (g:Szv data) (k:J3 data) (t:Ah) (ht:A7 t<=200) (c:Int):Qo data t c=some (okL (Hr data t c)):=by
 unfold Qo Hr
 rw [Aij g t ht c,Ad]
 cases h:I9 data t c with
 | none=>rfl
 | some l=>
  have f:=Acb h
  obtain ⟨x,y,_,hx,_,hy,u,_⟩:=Uc h
  obtain ⟨i,_⟩:=g x (E8 hx).2.2.2 y (E8 hy).2.2.2
  have s:l.length<=6:=by rw [u]; simpa using i
  simp only [okL,bnt,cond_false,Arz g k t ht c h,Ad,Option.map_some]
  generalize Fo data t.Num c=r at *
  have q:=Ar1 f
  have z:=Ail l r
  refine G6 (Ja r) (fun j=>((j:Int),(Fp l r).take j)) (by simp) (by omega) ?_ ?_
  .intro j b hj hb h1 h2 h3
   obtain ⟨a,a1,a2⟩:=Ar0 f j b hb
   simp only [h1,h2,h3,cond_true,Ad,a1]
   rw [C4 (by simp; omega),Ad,C2 a2]
  .intro h1
   refine ⟨Fp l r,?_,rfl⟩
   simp only [h1]
   rw [List.take_of_length_le (by omega)]; rfl
theorem Aim {data:List Ax} {t:Ah} {c:Int} {l:List Ah} (h:Hr data t c=some l):(∀a∈l,A7 a<=200)/\∃x,Af data t.Num=some x/\0<=c/\c<x.Cons.length:=by
 unfold Hr at h
 cases b:I9 data t c with
 | none=>rw [b] at h; cases h
 | some m=>
  rw [b] at h
  cases h
  obtain ⟨x,y,_,hx,_,hy,_,g⟩:=Uc b
  refine ⟨fun a ha=>?_,x,hx,(E8 hy).1,(E8 hy).2.1⟩
  unfold Fp at ha
  obtain ⟨p,f,rfl⟩:=List.mem_map.1 ha
  exact g _ (List.of_mem_zip (List.mem_filter.1 f).1).1
end Go.Ab
namespace Go.Ab
open Go
mutual
def Cr:A6->Nat
 | ⟨_,l⟩=>1+Em l
def Em:List A6->Nat
 | []=>0
 | x::xs=>Cr x+Em xs
end
theorem Fe (t:A6):Cr t=1+Em t.Kids:=by cases t; simp only [Cr]
theorem Ku {l:List A6} {a:A6} (h:a∈l):Cr a<=Em l:=by
 induction l with
 | nil=>cases h
 | cons x xs ih=>
  simp only [Em]
  rcases List.mem_cons.1 h with rfl | h
  .omega
  .have:=ih h; omega
theorem Lp (l:List A6):l.length<=Em l:=by
 induction l with
 | nil=>simp
 | cons x xs ih=>simp only [Em,List.length_cons]; have:=Fe x; omega
mutual
def F4 (data:List Ax):A6->Ah->Option Nat
 | ⟨n,kids⟩,t=>
  if t.Kind=6 then (if n=0 then Ec data kids t.Args else none)
  else if t.Kind=7 then (if 0<=n/\n<=6/\kids.length=0 then some n.toNat else none)
  else if t.Kind=5 then (if n=0 then Gd data kids t else none)
  else if n=0/\kids.length=0 then some 0 else none
def Ec (data:List Ax):List A6->List Ah->Option Nat
 | [],[]=>some 0
 | i::is,t::ts=>(F4 data i t).bind fun a=>(Ec data is ts).map (a + ·)
 | [],_::_=>none
 | _::_,[]=>none
def Gd (data:List Ax):List A6->Ah->Option Nat
 | [],_=>some 0
 | ⟨n,kids⟩::es,t=>(Hr data t n).bind fun ts=>(Ec data kids ts).bind fun a=>(Gd data es t).map (1+a + ·)
end
theorem Ace (data:List Ax) (i:A6) (t:Ah):F4 data i t=if t.Kind=6 then (if i.Num=0 then Ec data i.Kids t.Args else none)
  else if t.Kind=7 then (if 0<=i.Num/\i.Num<=6/\i.Kids.length=0 then some i.Num.toNat else none)
  else if t.Kind=5 then (if i.Num=0 then Gd data i.Kids t else none)
  else if i.Num=0/\i.Kids.length=0 then some 0 else none:=by cases i; simp only [F4]
theorem Xr (data:List Ax) (e:A6) (es:List A6) (t:Ah):Gd data (e::es) t=(Hr data t e.Num).bind fun ts=>(Ec data e.Kids ts).bind fun a=>(Gd data es t).map (1+a + ·):=by cases e; simp only [Gd]
theorem Xs (data:List Ax) (i:A6) (b:List A6) (t:Ah) (ts:List Ah):Ec data (i::b) (t::ts)=(F4 data i t).bind fun a=>(Ec data b ts).map (a + ·):=by simp only [Ec]
theorem Acf (data:List Ax):∀(b:List A6) (ts:List Ah),ts.length≠b.length->Ec data b ts=none
 | [],[],h=>absurd rfl h
 | i::b,t::ts,h=>by rw [Xs,Acf data b ts (by simpa using h)]; cases F4 data i t <;> rfl
 | [],_::_,_=>by simp only [Ec]
 | _::_,[],_=>by simp only [Ec]
theorem Ain (data:List Ax):∀(es:List A6) (t:Ah) (d:Nat),Gd data es t=some d->es.length<=d
 | [],_,_,_=>by simp
 | e::es,t,d,h=>by
  rw [Xr] at h
  cases h1:Hr data t e.Num with
  | none=>rw [h1] at h; cases h
  | some ts=>
   rw [h1,Ad] at h
   cases h2:Ec data e.Kids ts with
   | none=>rw [h2] at h; cases h
   | some a=>
    rw [h2,Ad] at h
    cases h3:Gd data es t with
    | none=>rw [h3] at h; cases h
    | some b=>
     rw [h3] at h
     cases h
     have:=Ain data es t b h3
     simp only [List.length_cons]; omega
def Fi (o:Option Nat):Int:=match o with | some d=>if d<=6 then (d:Int) else -1 | none => -1
theorem Acg {d:Nat} (h:d<=6):Fi (some d)=d:=by simp [Fi,h]
theorem Ach {d:Nat} (h:6<d):Fi (some d) = -1:=by simp only [Fi]; rw [if_neg (by omega)]
theorem Aci (o:Option Nat):(Fi o = -1/\∀d,o=some d->6<d)\/∃d,o=some d/\d<=6/\Fi o=d:=by
 cases o with
 | none=>exact .inl ⟨rfl,fun d h=>by cases h⟩
 | some d=>
  rcases Nat.lt_or_ge 6 d with h | h
  .exact .inl ⟨Ach h,fun e b=>by cases b; exact h⟩
  .exact .inr ⟨d,rfl,h,Acg h⟩
theorem Ra {o:Option Nat} (h:∀d,o=some d->6<d):Fi o = -1:=by
 cases o with
 | none=>rfl
 | some d=>exact Ach (h d rfl)
theorem M4 {α:Type} {l:List α} {j:Nat} {x:α} (h:l[j]? = some x):l.drop j=x::l.drop (j+1):=by
 have hj:=Dd h
 rw [List.drop_eq_getElem_cons hj]
 rw [Br hj] at h
 rw [Option.some.inj h]
end Go.Ab
namespace Go.Ab
open Go
theorem Ar2 {data:List Ax} (V:Szv data) (X:J3 data) (h8:∀x∈data,x.Cons.length<=8):∀k:Nat,
  (∀(i:A6) (t:Ah),2*Cr i<=k->Cr i<=1048576->A7 t<=200->Mp k data t i=some (Fi (F4 data i t))) /\
  (∀(c:List A6) (ts:List Ah),2*Em c+1<=k->Em c<=1048576->(∀t∈ts,A7 t<=200)->Mq k data ts c=some (Fi (Ec data c ts))):=by
 intro k
 induction k with
 | zero=>exact ⟨fun i t h=>by have:=Fe i; omega,fun c ts h=>by omega⟩
 | succ k ih=>
  obtain ⟨a8,M⟩:=ih
  have J:∀o:Option Nat,o.map (0 + ·)=o:=by intro o; cases o <;> simp
  constructor
  .intro i t hk hi ht
   have ag:=Fe i
   have aa:=Lp i.Kids
   rw [Mp,Ace]
   by_cases Z:t.Kind=6
   .simp only [Eh Z,cond_true,if_pos Z]
    by_cases h0:i.Num=0
    .simp only [Cz h0,cond_false,if_pos h0]
     rw [M i.Kids t.Args (by omega) (by omega) (fun a ha=>by have:=F3 ha; have:=Fx t; omega)]
     rfl
    .simp only [Cv h0,cond_true,if_neg h0]; rfl
   .simp only [Cl Z,cond_false,if_neg Z]
    by_cases Y:t.Kind=7
    .simp only [Eh Y,cond_true,if_pos Y]
     by_cases a1:0<=i.Num
     .by_cases a2:i.Num<=6
      .by_cases a3:i.Kids.length=0
       .rw [Ap (by omega),Ap (by omega),Ap (by omega),if_pos ⟨a1,a2,a3⟩,Acg (by omega)]
        simp; omega
       .rw [Ap (by omega),Ap (by omega),Aj (by omega),if_neg (fun h=>a3 h.2.2)]; rfl
      .rw [Ap (by omega),Aj (by omega),if_neg (fun h=>a2 h.2.1)]; rfl
     .rw [Aj (by omega),if_neg (fun h=>a1 h.1)]; rfl
    .simp only [Cl Y,cond_false,if_neg Y]
     by_cases h5:t.Kind=5
     .simp only [Eh h5,cond_true,if_pos h5]
      by_cases h0:i.Num=0
      .simp only [Cz h0,cond_false,if_pos h0,Ad]
       by_cases N:(i.Kids.length:Int)>6
       .rw [Aj N]
        refine congrArg some (Ra fun d hd=>?_).symm
        have:=Ain data _ _ _ hd
        omega
       rw [Ap N]
       simp only [cond_false]
       have key:∀(m j acc:Nat),j+m=i.Kids.length->acc<=6->∃z,An (S:=(Int×Int)) (E:=(Int⊕Int)) (fun (G,D)=>
         bif (decide (D<(i.Kids.length:Int))) then (
         (Af i.Kids D).bind fun v12=>
         (show Option Bool from
         bif (decide (v12.Num<(0:Int))) then some true
         else some (decide (v12.Num>=(8:Int)))).bind fun a6=>
         bif a6 then some (.inr (.inl (-1)))
         else (
         (Qo data t v12.Num).bind fun L=>
         bif (!L.2) then some (.inr (.inl (-1)))
         else (
         (Mq k data L.1 v12.Kids).bind fun B=>
         bif (decide (B<(0:Int))) then some (.inr (.inl (-1)))
         else (
         bif (decide ((Ac ((Ac (G+1))+B))>(6:Int))) then some (.inr (.inl (-1)))
         else some (.inl ((Ac (G+(Ac (1+B)))),(Ac (D+1))))))))
         else some (.inr (.inr G))) ((acc:Int),(j:Int))=some z/\(match z with | .inl v=>v | .inr v=>v)=Fi ((Gd data (i.Kids.drop j) t).map (acc + ·)):=by
        intro m
        induction m with
        | zero=>
         intro j acc hj f
         have:j=i.Kids.length:=by omega
         subst this
         refine ⟨.inr (acc:Int),Fv (by simp),?_⟩
         simp [Gd,Fi,f]
        | succ m s=>
         intro j acc hj f
         have g:i.Kids[j]? = some i.Kids[j]:=Br (by omega)
         generalize i.Kids[j]=e at g
         have ab:=Ku (Bu g)
         have ah:=Fe e
         rw [M4 g,Xr]
         have hb:(bif decide (e.Num<(0:Int)) then some true else some (decide (e.Num>=(8:Int))))=some (decide (e.Num<0\/8<=e.Num)):=by
          by_cases g1:e.Num<0 <;> by_cases g2:8<=e.Num <;> simp [g1,g2]
         cases hp:Hr data t e.Num with
         | none=>
          refine ⟨.inl (-1),Fv ?_,by simp [Fi]⟩
          simp only [Aj (by omega:(j:Int)<(i.Kids.length:Int)),cond_true,Cf rfl g,Ad,Xq V X t ht e.Num,hp,okL,Bool.not_false,hb]
          cases decide (e.Num<0\/8<=e.Num) <;> rfl
         | some ts=>
          obtain ⟨pz,x,a7,ae,ad⟩:=Aim hp
          have af:=h8 x (E8 a7).2.2.2
          have q:=M e.Kids ts (by omega) (by omega) pz
          have hb':decide (e.Num<0\/8<=e.Num)=false:=Ap (by omega)
          rcases Aci (Ec data e.Kids ts) with ⟨A,U⟩ | ⟨a,A,U,c3⟩
          .rw [A] at q
           refine ⟨.inl (-1),Fv ?_,?_⟩
           .simp only [Aj (by omega:(j:Int)<(i.Kids.length:Int)),cond_true,Cf rfl g,Ad,Xq V X t ht e.Num,hp,okL,bnt,cond_false,hb,hb',q]; rfl
           .refine (Ra fun d h=>?_).symm
            rw [Ad] at h
            cases ha:Ec data e.Kids ts with
            | none=>rw [ha] at h; cases h
            | some a=>
             rw [ha,Ad] at h
             have:=U a ha
             cases y:Gd data (i.Kids.drop (j+1)) t with
             | none=>rw [y] at h; cases h
             | some b=>rw [y] at h; simp at h; omega
          .rw [c3] at q
           have R:Ac (Ac ((acc:Int)+1)+(a:Int))=((acc+(1+a):Nat):Int):=by
            rw [show Ac ((acc:Int)+1)=((acc+1:Nat):Int) by rw [Ac,Bt] <;> omega,Ac,Bt] <;> omega
           have ac:Ac ((acc:Int)+Ac (1+(a:Int)))=((acc+(1+a):Nat):Int):=by
            rw [show Ac (1+(a:Int))=((1+a:Nat):Int) by rw [Ac,Bt] <;> omega,Ac,Bt] <;> omega
           by_cases I:acc+(1+a)<=6
           .obtain ⟨z,l,z2⟩:=s (j+1) (acc+(1+a)) (by omega) I
            refine ⟨z,?_,?_⟩
            .rw [K2 (s':=(((acc+(1+a):Nat):Int),((j+1:Nat):Int)))]
             .exact l
             .simp only [Aj (by omega:(j:Int)<(i.Kids.length:Int)),cond_true,Cf rfl g,Ad,Xq V X t ht e.Num,hp,okL,bnt,cond_false,hb,hb',q,R,ac,Ap (by omega:¬(a:Int)<0),Ap (by omega:¬((acc+(1+a):Nat):Int)>6),C1 (show j<i.Kids.length by omega) (by omega)]
            .have J:∀o:Option Nat,(((some a:Option Nat).bind fun a=>o.map (1+a + ·)).map (acc + ·))=o.map (acc+(1+a) + ·):=by
              intro o; cases o <;> simp [Nat.add_assoc]
             rw [Ad,A,J]
             exact z2
           .refine ⟨.inl (-1),Fv ?_,?_⟩
            .simp only [Aj (by omega:(j:Int)<(i.Kids.length:Int)),cond_true,Cf rfl g,Ad,Xq V X t ht e.Num,hp,okL,bnt,cond_false,hb,hb',q,R,Ap (by omega:¬(a:Int)<0),Aj (by omega:((acc+(1+a):Nat):Int)>6)]
            .refine (Ra fun d h=>?_).symm
             rw [Ad,A,Ad] at h
             cases y:Gd data (i.Kids.drop (j+1)) t with
             | none=>rw [y] at h; cases h
             | some b=>rw [y] at h; simp at h; omega
       obtain ⟨z,l,z2⟩:=key i.Kids.length 0 0 (by omega) (by omega)
       have l:An _ ((0:Int),(0:Int))=some z:=l
       erw [l,Ad]
       rw [List.drop_zero,J] at z2
       rw [<-z2]
       cases z <;> rfl
      .simp only [Cv h0,cond_true,if_neg h0]; rfl
     .simp only [Cl h5,cond_false,if_neg h5]
      by_cases h0:i.Num=0
      .simp only [Cz h0,cond_false]
       by_cases a3:i.Kids.length=0
       .rw [if_pos ⟨h0,a3⟩,Ap (by omega)]; rfl
       .rw [if_neg (fun h=>a3 h.2),Aj (by omega)]; rfl
      .simp only [Cv h0,cond_true]
       rw [if_neg (fun h=>h0 h.1)]; rfl
  .intro c ts hk hi ht
   have aa:=Lp c
   rw [Mq]
   by_cases hl:ts.length=c.length
   .rw [Cz (by omega)]
    simp only [cond_false]
    have key:∀(m j acc:Nat),j+m=c.length->acc<=6->∃z,An (S:=(Int×Int)) (E:=(Int⊕Int)) (fun (v4,v5)=>
      bif (decide (v5<(ts.length:Int))) then (
      (Af ts v5).bind fun v6=>
      (Af c v5).bind fun v7=>
      (Mp k data v6 v7).bind fun v8=>
      bif (decide (v8<(0:Int))) then some (.inr (.inl (-1)))
      else (
      bif (decide ((Ac (v4+v8))>(6:Int))) then some (.inr (.inl (-1)))
      else some (.inl ((Ac (v4+v8)),(Ac (v5+1))))))
      else some (.inr (.inr v4))) ((acc:Int),(j:Int))=some z/\(match z with | .inl v=>v | .inr v=>v)=Fi ((Ec data (c.drop j) (ts.drop j)).map (acc + ·)):=by
     intro m
     induction m with
     | zero=>
      intro j acc hj f
      have:j=ts.length:=by omega
      subst this
      refine ⟨.inr (acc:Int),Fv (by simp),?_⟩
      rw [List.drop_of_length_le (by omega),List.drop_of_length_le (by omega)]
      simp [Ec,Fi,f]
     | succ m s=>
      intro j acc hj f
      have g:c[j]? = some c[j]:=Br (by omega)
      generalize c[j]=e at g
      have hu:ts[j]? = some ts[j]:=Br (by omega)
      generalize ts[j]=u at hu
      have ab:=Ku (Bu g)
      rw [M4 g,M4 hu,Xs]
      have q:=a8 e u (by omega) (by omega) (ht u (Bu hu))
      rcases Aci (F4 data e u) with ⟨A,U⟩ | ⟨a,A,U,c3⟩
      .rw [A] at q
       refine ⟨.inl (-1),Fv ?_,?_⟩
       .simp only [Aj (by omega:(j:Int)<(ts.length:Int)),cond_true,Cf rfl g,Cf rfl hu,Ad,q]; rfl
       .refine (Ra fun d h=>?_).symm
        cases ha:F4 data e u with
        | none=>rw [ha] at h; cases h
        | some a=>
         rw [ha,Ad] at h
         have:=U a ha
         cases y:Ec data (c.drop (j+1)) (ts.drop (j+1)) with
         | none=>rw [y] at h; cases h
         | some b=>rw [y] at h; simp at h; omega
      .rw [c3] at q
       have R:Ac ((acc:Int)+(a:Int))=((acc+a:Nat):Int):=by rw [Ac,Bt] <;> omega
       by_cases I:acc+a<=6
       .obtain ⟨z,l,z2⟩:=s (j+1) (acc+a) (by omega) I
        refine ⟨z,?_,?_⟩
        .rw [K2 (s':=(((acc+a:Nat):Int),((j+1:Nat):Int)))]
         .exact l
         .simp only [Aj (by omega:(j:Int)<(ts.length:Int)),cond_true,Cf rfl g,Cf rfl hu,Ad,cond_false,q,R,Ap (by omega:¬(a:Int)<0),Ap (by omega:¬((acc+a:Nat):Int)>6),C1 (show j<c.length by omega) (by omega)]
        .have J:∀o:Option Nat,(((some a:Option Nat).bind fun a=>o.map (a + ·)).map (acc + ·))=o.map (acc+a + ·):=by
          intro o; cases o <;> simp [Nat.add_assoc]
         rw [A,J]
         exact z2
       .refine ⟨.inl (-1),Fv ?_,?_⟩
        .simp only [Aj (by omega:(j:Int)<(ts.length:Int)),cond_true,Cf rfl g,Cf rfl hu,Ad,cond_false,q,R,Ap (by omega:¬(a:Int)<0),Aj (by omega:((acc+a:Nat):Int)>6)]
        .refine (Ra fun d h=>?_).symm
         rw [A,Ad] at h
         cases y:Ec data (c.drop (j+1)) (ts.drop (j+1)) with
         | none=>rw [y] at h; cases h
         | some b=>rw [y] at h; simp at h; omega
    obtain ⟨z,l,z2⟩:=key c.length 0 0 (by omega) (by omega)
    have l:An _ ((0:Int),(0:Int))=some z:=l
    rw [l,Ad]
    rw [List.drop_zero,List.drop_zero,J] at z2
    rw [<-z2]
    cases z <;> rfl
   .rw [Cv (by omega),Acf data c ts hl]; rfl
theorem G7.cons8 {data:List Ax} (h:G7 data):∀x∈data,x.Cons.length<=8:=by
 intro x hx
 obtain ⟨d,hd⟩:=List.getElem?_of_mem hx
 exact (h.2.1 d x hd).2.2.2.1
theorem Ar3 {data:List Ax} (b:G7 data) (c:J3 data) (t:Ah) (i:A6) (ht:A7 t<=200) (hi:Cr i<=1048576):Qd data t i=some (Fi (F4 data i t)):=by
 unfold Qd
 rw [(Ar2 b.szv c b.cons8 4000000).1 i t (by omega) hi ht]; rfl
end Go.Ab
namespace Go.Ab
open Go
def I64 (n:Int):Prop:= -9223372036854775808<=n/\n<=9223372036854775807
def ti (n:Int):List Int:=(Lib.itoa n).map fun c=>(c.toNat:Int)
def Lq (c:Int):Bool:=c==45||(decide (48<=c)&&decide (c<=57))
theorem Rb {d:Nat} (h:d<10):(UInt8.ofNat (48+d)).toNat=48+d:=by
 rw [UInt8.toNat_ofNat']; omega
theorem Xt:∀(n u:Nat),u<=n->∀c∈Lib.decDigits u,48<=c.toNat/\c.toNat<=57:=by
 intro n
 induction n with
 | zero=>
  intro u hu c hc
  rw [Lib.decDigits,dif_pos (by omega)] at hc
  simp only [List.mem_singleton] at hc
  subst hc; rw [Rb (by omega)]; omega
 | succ n ih=>
  intro u hu c hc
  rw [Lib.decDigits] at hc
  split at hc
  .simp only [List.mem_singleton] at hc
   subst hc; rw [Rb (by omega)]; omega
  .rcases List.mem_append.1 hc with h | h
   .exact ih (u / 10) (by omega) c h
   .simp only [List.mem_singleton] at h
    subst h; rw [Rb (by omega)]; omega
def Xu (l:List UInt8):Nat:=l.foldl (fun a c=>10*a+(c.toNat-48)) 0
theorem Aio:∀(n u:Nat),u<=n->Xu (Lib.decDigits u)=u:=by
 intro n
 induction n with
 | zero=>
  intro u hu
  rw [Lib.decDigits,dif_pos (by omega)]
  simp only [Xu,List.foldl_cons,List.foldl_nil]
  rw [Rb (by omega)]; omega
 | succ n ih=>
  intro u hu
  rw [Lib.decDigits]
  split
  .simp only [Xu,List.foldl_cons,List.foldl_nil]
   rw [Rb (by omega)]; omega
  .have:=ih (u / 10) (by omega)
   unfold Xu at *
   rw [List.foldl_append,this]
   simp only [List.foldl_cons,List.foldl_nil]
   rw [Rb (by omega)]; omega
theorem Aip {u v:Nat} (h:Lib.decDigits u=Lib.decDigits v):u=v:=by
 rw [<-Aio u u (Nat.le_refl _),h,Aio v v (Nat.le_refl _)]
theorem Ar4 (u:Nat):Lib.decDigits u≠[]:=by
 rw [Lib.decDigits]; split <;> simp
theorem Ar5 {m n:Int} (h:Lib.itoa m=Lib.itoa n):m=n:=by
 have b:∀u v:Nat,45::Lib.decDigits u≠Lib.decDigits v:=by
  intro u v e
  have:=Xt v v (Nat.le_refl _) 45 (by rw [<-e]; simp)
  exact absurd this (by decide)
 unfold Lib.itoa at h
 split at h <;> split at h
 .have:=Aip (List.cons.inj h).2; omega
 .exact absurd h (b _ _)
 .exact absurd h.symm (b _ _)
 .have:=Aip h; omega
theorem Fy (n:Int):∀c∈ti n,Lq c=true:=by
 intro c hc
 unfold ti at hc
 obtain ⟨b,hb,rfl⟩:=List.mem_map.1 hc
 have key:b=45\/(48<=b.toNat/\b.toNat<=57):=by
  unfold Lib.itoa at hb
  split at hb
  .rcases List.mem_cons.1 hb with h | h
   .exact .inl h
   .exact .inr (Xt _ _ (Nat.le_refl _) b h)
  .exact .inr (Xt _ _ (Nat.le_refl _) b hb)
 unfold Lq
 rcases key with rfl | ⟨h1,h2⟩
 .decide
 .rw [Bool.or_eq_true,Db,decide_eq_true_eq,decide_eq_true_eq]; right; omega
theorem Acj (n:Int):ti n≠[]:=by
 unfold ti Lib.itoa
 split
 .simp
 .simpa using Ar4 _
theorem O8 {m n:Int} (h:ti m=ti n):m=n:=by
 unfold ti at h
 have:∀l m:List UInt8,l.map (fun c=>(c.toNat:Int))=m.map (fun c=>(c.toNat:Int))->l=m:=by
  intro l
  induction l with
  | nil=>intro m h; cases m with | nil=>rfl | cons=>simp at h
  | cons x xs ih=>
   intro m h
   cases m with
   | nil=>simp at h
   | cons y ys=>
    simp only [List.map_cons,List.cons.injEq] at h
    rw [ih ys h.2,UInt8.toNat.inj (by omega:x.toNat=y.toNat)]
 exact Ar5 (this _ _ h)
theorem J4 {n:Int} (h:I64 n):(ti n).length<=21:=by
 unfold ti; rw [List.length_map]; exact Lib.itoa_length_le n h.1 h.2
def M5 (X:List Int):Prop:=∀c m,X=c::m->Lq c=false/\c≠40
def Iq (X:List Int):Prop:=∀c m,X=c::m->Lq c=false
theorem Lr:∀(a b X Y:List Int),(∀c∈a,Lq c=true)->(∀c∈b,Lq c=true)->Iq X->Iq Y->a++X=b++Y->a=b/\X=Y
 | [],[],_,_,_,_,_,_,h=>⟨rfl,h⟩
 | [],y::b,X,Y,_,hb,g,_,h=>by
  have:=g y (b++Y) h
  rw [hb y (by simp)] at this; cases this
 | x::a,[],X,Y,ha,_,_,f,h=>by
  have:=f x (a++X) h.symm
  rw [ha x (by simp)] at this; cases this
 | x::a,y::b,X,Y,ha,hb,g,f,h=>by
  simp only [List.cons_append,List.cons.injEq] at h
  obtain ⟨j,i⟩:=Lr a b X Y (fun c hc=>ha c (by simp [hc])) (fun c hc=>hb c (by simp [hc])) g f h.2
  exact ⟨by rw [h.1,j],i⟩
mutual
def wx:A6->List Int
 | ⟨n,kids⟩=>ti n++(if kids.length=0 then [] else 40::(wxs kids++[41]))
def wxs:List A6->List Int
 | []=>[]
 | x::xs=>wx x++44::wxs xs
end
theorem Ack (i:A6):wx i=ti i.Num++(if i.Kids.length=0 then [] else 40::(wxs i.Kids++[41])):=by cases i; simp only [wx]
theorem Aiq (l m:List A6):wxs (l++m)=wxs l++wxs m:=by
 induction l with
 | nil=>simp [wxs]
 | cons x xs ih=>simp only [List.cons_append,wxs,ih,List.append_assoc]
theorem Air (b:List A6) (X:List Int) (f:M5 X):Iq ((if b.length=0 then [] else 40::(wxs b++[41]))++X):=by
 intro c m h
 by_cases hk:b.length=0
 .rw [if_pos hk,List.nil_append] at h
  exact (f c m h).1
 .rw [if_neg hk,List.cons_append] at h
  cases h; decide
theorem Ais (X:List Int):M5 (44::X):=by intro c m h; cases h; exact ⟨by decide,by decide⟩
theorem Ait:M5 []:=by intro c m h; cases h
mutual
theorem Acl:∀(i j:A6) (X Y:List Int),M5 X->M5 Y->wx i++X=wx j++Y->i=j/\X=Y
 | ⟨n,k⟩,⟨n',k'⟩,X,Y,hX,hY,h=>by
  simp only [wx,List.append_assoc] at h
  obtain ⟨e1,e2⟩:=Lr _ _ _ _ (Fy n) (Fy n') (Air k X hX) (Air k' Y hY) h
  have e1:=O8 e1
  subst e1
  by_cases hk:k.length=0
  .by_cases hk':k'.length=0
   .rw [if_pos hk,if_pos hk'] at e2
    rw [List.length_eq_zero_iff.1 hk,List.length_eq_zero_iff.1 hk']
    exact ⟨rfl,e2⟩
   .rw [if_pos hk,if_neg hk',List.nil_append,List.cons_append] at e2
    exact absurd rfl (hX _ _ e2).2
  .by_cases hk':k'.length=0
   .rw [if_neg hk,if_pos hk',List.nil_append,List.cons_append] at e2
    exact absurd rfl (hY _ _ e2.symm).2
   .rw [if_neg hk,if_neg hk',List.cons_append,List.cons_append,List.append_assoc,List.append_assoc] at e2
    obtain ⟨e3,e4⟩:=Aiu k k' X Y hX hY (List.cons.inj e2).2
    rw [e3]; exact ⟨rfl,e4⟩
theorem Aiu:∀(l m:List A6) (X Y:List Int),M5 X->M5 Y->wxs l++([41]++X)=wxs m++([41]++Y)->l=m/\X=Y
 | [],[],X,Y,_,_,h=>by
  simp only [wxs,List.nil_append,List.cons_append,List.cons.injEq,true_and] at h
  exact ⟨rfl,h⟩
 | [],y::ys,X,Y,_,_,h=>by
  exfalso
  cases ht:ti y.Num with
  | nil=>exact Acj _ ht
  | cons c r=>
   have hc:=Fy y.Num c (by rw [ht]; simp)
   simp only [wxs,Ack y,ht,List.nil_append,List.cons_append,List.cons.injEq] at h
   rw [<-h.1] at hc; exact absurd hc (by decide)
 | x::xs,[],X,Y,_,_,h=>by
  exfalso
  cases ht:ti x.Num with
  | nil=>exact Acj _ ht
  | cons c r=>
   have hc:=Fy x.Num c (by rw [ht]; simp)
   simp only [wxs,Ack x,ht,List.nil_append,List.cons_append,List.cons.injEq] at h
   rw [h.1] at hc; exact absurd hc (by decide)
 | x::xs,y::ys,X,Y,hX,hY,h=>by
  simp only [wxs,List.append_assoc,List.cons_append] at h
  obtain ⟨e1,e2⟩:=Acl x y _ _ (Ais _) (Ais _) h
  obtain ⟨e3,e4⟩:=Aiu xs ys X Y hX hY (by simpa using e2)
  exact ⟨by rw [e1,e3],e4⟩
end
mutual
def iR:A6->Prop
 | ⟨n,l⟩=>I64 n/\iRs l
def iRs:List A6->Prop
 | []=>True
 | x::xs=>iR x/\iRs xs
end
theorem Ar6 (i:A6):iR i↔I64 i.Num/\iRs i.Kids:=by cases i; simp only [iR]
theorem Ar7 {l:List A6} (h:iRs l) {a:A6} (ha:a∈l):iR a:=by
 induction l with
 | nil=>cases ha
 | cons x xs ih=>
  simp only [iRs] at h
  rcases List.mem_cons.1 ha with rfl | ha
  .exact h.1
  .exact ih h.2 ha
mutual
theorem Acm:∀i:A6,iR i->(wx i).length+1<=24*Cr i
 | ⟨n,l⟩,h=>by
  simp only [iR] at h
  have h1:=Xv l h.2
  have h2:=J4 h.1
  simp only [wx,Cr,List.length_append]
  by_cases hl:l.length=0
  .rw [if_pos hl]; simp; omega
  .rw [if_neg hl]; simp; omega
theorem Xv:∀l:List A6,iRs l->(wxs l).length<=24*Em l
 | [],_=>by simp [wxs,Em]
 | x::xs,h=>by
  simp only [iRs] at h
  have h1:=Acm x h.1
  have h2:=Xv xs h.2
  have h3:=Fe x
  simp only [wxs,Em,List.length_append,List.length_cons]; omega
end
theorem Aiv (l m:List A6):Em (l++m)=Em l+Em m:=by
 induction l with
 | nil=>simp [Em]
 | cons x xs ih=>simp only [List.cons_append,Em,ih]; omega
theorem Ar8 (l m:List A6):iRs (l++m)↔iRs l/\iRs m:=by
 induction l with
 | nil=>simp [iRs]
 | cons x xs ih=>simp only [List.cons_append,iRs,ih,and_assoc]
theorem Acn {n:Int} (h:I64 n):K5 n=some ⟨(Lib.itoa n).toArray⟩:=by unfold K5; rw [if_pos (show _/\_ from h)]
theorem Ar9 (n:Int):Js ⟨(Lib.itoa n).toArray⟩=ti n:=by unfold Js ti; simp
theorem Asa:∀(k:Nat) (i:A6) (b:List Int),Cr i<=k->iR i->b.length+24*Cr i<=1099511627776->N8 k i b=some (b++wx i):=by
 intro k
 induction k with
 | zero=>intro i b h; have:=Fe i; omega
 | succ k ih=>
  intro i b h c hb
  have hi:=Fe i
  have A:=Lp i.Kids
  have c:=(Ar6 i).1 c
  have D:=J4 c.1
  rw [N8,Ack]
  simp only [F8,Acn c.1,Ad,E6,Qx,Ar9]
  rw [C4 (by omega)]
  simp only [Ad]
  by_cases h0:i.Kids.length=0
  .rw [Ap (by omega),if_pos h0]; simp
  .rw [Aj (by omega),if_neg h0]
   simp only [cond_true,Qi,Qx,Ad]
   rw [C4 (by simp; omega),Ad]
   have g:=Xv i.Kids c.2
   have l:∀j,(wxs (i.Kids.take j)).length<=24*Em i.Kids:=fun j=>by
    have:=Aiq (i.Kids.take j) (i.Kids.drop j)
    rw [List.take_append_drop] at this
    rw [this,List.length_append] at g; omega
   refine G6 i.Kids (fun j=>((j:Int),b++ti i.Num++[40]++wxs (i.Kids.take j))) (by simp [wxs]) (by omega) ?_ ?_
   .intro j x hj hx h1 h2 h3
    have B:=Ku (Bu hx)
    have f:=Ar7 c.2 (Bu hx)
    have z:=Acm x f
    have q:=l (j+1)
    have e:wxs (i.Kids.take (j+1))=wxs (i.Kids.take j)++(wx x++[44]):=by rw [C2 hx,Aiq]; simp [wxs]
    rw [e] at q
    simp only [List.length_append,List.length_cons,List.length_nil] at q
    simp only [h1,h2,h3,cond_true,Ad]
    have y:Em (i.Kids.take j)+Cr x<=Em i.Kids:=by
     have s:=Aiv (i.Kids.take (j+1)) (i.Kids.drop (j+1))
     rw [List.take_append_drop,C2 hx,Aiv] at s
     simp only [Em] at s; omega
    have u:(wxs (i.Kids.take j)).length<=24*Em (i.Kids.take j):=Xv _ (by
     have:=(Ar8 (i.Kids.take j) (i.Kids.drop j)).1 (by rw [List.take_append_drop]; exact c.2)
     exact this.1)
    rw [ih x _ (by omega) f (by simp; omega)]
    simp only [Ad]
    rw [C4 (by simp; omega),e]
    simp
   .intro h1
    refine ⟨b++ti i.Num++[40]++wxs i.Kids,by simp,?_⟩
    rw [C4 (by simp; omega)]
    simp
def G8 (v:Int) (i:A6):List Int:=118::(ti v++58::wx i)
def Kv (v:Int) (i:A6):ByteArray:=⟨(En (G8 v i)).toArray⟩
mutual
theorem Aiw:∀i:A6,∀c∈wx i,0<=c/\c<256
 | ⟨n,l⟩,c,h=>by
  simp only [wx,List.mem_append] at h
  rcases h with h | h
  .have:=Fy n c h
   simp only [Lq,Bool.or_eq_true,Db,beq_iff_eq,decide_eq_true_eq] at this
   omega
  .by_cases hl:l.length=0
   .rw [if_pos hl] at h; cases h
   .rw [if_neg hl] at h
    simp only [List.mem_cons,List.mem_append,List.not_mem_nil,or_false] at h
    rcases h with h | h | h
    .omega
    .exact Aix l c h
    .omega
theorem Aix:∀l:List A6,∀c∈wxs l,0<=c/\c<256
 | [],c,h=>by simp [wxs] at h
 | x::xs,c,h=>by
  simp only [wxs,List.mem_append,List.mem_cons] at h
  rcases h with h | h | h
  .exact Aiw x c h
  .omega
  .exact Aix xs c h
end
theorem Xw (v:Int) (i:A6):∀c∈G8 v i,0<=c/\c<256:=by
 intro c h
 simp only [G8,List.mem_cons,List.mem_append] at h
 rcases h with h | h | h | h
 .omega
 .have:=Fy v c h
  simp only [Lq,Bool.or_eq_true,Db,beq_iff_eq,decide_eq_true_eq] at this
  omega
 .omega
 .exact Aiw i c h
theorem Aco:∀l m:List Int,(∀c∈l,0<=c/\c<256)->(∀c∈m,0<=c/\c<256)->En l=En m->l=m
 | [],[],_,_,_=>rfl
 | [],_::_,_,_,h=>by simp [En] at h
 | _::_,[],_,_,h=>by simp [En] at h
 | x::xs,y::ys,h1,h2,h=>by
  simp only [En,List.map_cons,List.cons.injEq] at h
  have hx:=h1 x (by simp)
  have hy:=h2 y (by simp)
  have e:x.toNat=y.toNat:=by
   have:=congrArg UInt8.toNat h.1
   rw [UInt8.toNat_ofNat',UInt8.toNat_ofNat'] at this
   omega
  rw [Aco xs ys (fun c hc=>h1 c (by simp [hc])) (fun c hc=>h2 c (by simp [hc])) h.2,show x=y by omega]
theorem Asb {v w:Int} {i j:A6} (h:Kv v i=Kv w j):v=w/\i=j:=by
 unfold Kv at h
 have h1:(En (G8 v i)).toArray=(En (G8 w j)).toArray:=by injection h
 have h2:En (G8 v i)=En (G8 w j):=by simpa using congrArg Array.toList h1
 have h3:=Aco _ _ (Xw v i) (Xw w j) h2
 simp only [G8,List.cons.injEq,true_and] at h3
 have b:∀X:List Int,Iq (58::X):=fun X c m e=>by cases e; decide
 obtain ⟨k,g⟩:=Lr _ _ _ _ (Fy v) (Fy w) (b _) (b _) h3
 obtain ⟨f,_⟩:=Acl i j [] [] Ait Ait (by simpa using (List.cons.inj g).2)
 exact ⟨O8 k,f⟩
theorem Asd (l:List UInt8):Js ⟨l.toArray⟩=l.map fun b=>(b.toNat:Int):=by unfold Js; simp
theorem Aiy (v:Int) (i:A6) (c:I64 v) (g:iR i) (hi:Cr i<=1048576):Mj v i=some (Kv v i):=by
 have l:=J4 c
 have f:(Lib.itoa v).length=(ti v).length:=by unfold ti; simp
 unfold Mj
 have k:D3 (ByteArray.mk #[118]) ⟨(Lib.itoa v).toArray⟩=some ⟨(118::Lib.itoa v).toArray⟩:=by
  unfold D3
  rw [if_pos]
  .congr 1
  .show 1+(Lib.itoa v).toArray.size<=9223372036854775807
   rw [List.size_toArray]; omega
 have j:D3 ⟨(118::Lib.itoa v).toArray⟩ (ByteArray.mk #[58])=some ⟨(118::(Lib.itoa v++[58])).toArray⟩:=by
  unfold D3
  rw [if_pos]
  .congr 1
  .show (118::Lib.itoa v).toArray.size+1<=9223372036854775807
   rw [List.size_toArray,List.length_cons]; omega
 simp only [F8,Acn c,Ad,k,j,Hj,Td,Asd]
 rw [C4 (by simp; omega)]
 simp only [Ad]
 rw [Asa 4000000 i _ (by omega) g (by simp; omega)]
 simp only [Ad,I2]
 have h:([]++(118::(Lib.itoa v++[58])).map fun b=>(b.toNat:Int))++wx i=G8 v i:=by
  unfold G8 ti; simp
 rw [h]
 unfold R3 Kv
 rw [if_pos (Xw v i)]; rfl
end Go.Ab
namespace Go.Ab
open Go
mutual
theorem Aiz (data:List Ax):∀(i:A6) (t:Ah) (d:Nat),F4 data i t=some d->d<=6*Cr i
 | ⟨n,kids⟩,t,d,h=>by
  rw [Ace] at h
  simp only [Cr]
  simp only at h
  split at h
  .split at h
   .have:=Ud data kids _ d h; omega
   .cases h
  .split at h
   .split at h
    .cases h; omega
    .cases h
   .split at h
    .split at h
     .have:=Ai0 data kids _ d h; omega
     .cases h
    .split at h
     .cases h; omega
     .cases h
theorem Ud (data:List Ax):∀(is:List A6) (ts:List Ah) (d:Nat),Ec data is ts=some d->d<=6*Em is
 | [],[],d,h=>by simp only [Ec] at h; cases h; omega
 | i::is,t::ts,d,h=>by
  rw [Xs] at h
  cases h1:F4 data i t with
  | none=>rw [h1] at h; cases h
  | some a=>
   rw [h1,Ad] at h
   cases h2:Ec data is ts with
   | none=>rw [h2] at h; cases h
   | some b=>
    rw [h2] at h
    cases h
    have:=Aiz data i t a h1
    have:=Ud data is ts b h2
    simp only [Em]; omega
 | [],_::_,d,h=>by simp only [Ec] at h; cases h
 | _::_,[],d,h=>by simp only [Ec] at h; cases h
theorem Ai0 (data:List Ax):∀(es:List A6) (t:Ah) (d:Nat),Gd data es t=some d->d<=6*Em es
 | [],t,d,h=>by simp only [Gd] at h; cases h; omega
 | ⟨n,kids⟩::es,t,d,h=>by
  rw [Xr] at h
  simp only at h
  cases h1:Hr data t n with
  | none=>rw [h1] at h; cases h
  | some ts=>
   rw [h1,Ad] at h
   cases h2:Ec data kids ts with
   | none=>rw [h2] at h; cases h
   | some a=>
    rw [h2,Ad] at h
    cases h3:Gd data es t with
    | none=>rw [h3] at h; cases h
    | some b=>
     rw [h3] at h
     cases h
     have:=Ud data kids ts a h2
     have:=Ai0 data es t b h3
     simp only [Em,Cr]; omega
end
def Rc (data:List Ax) (e:A6) (t:Ah):Option Nat:=(Hr data t e.Num).bind fun ts=>(Ec data e.Kids ts).map (1 + ·)
theorem Ase (data:List Ax) (e:A6) (es:List A6) (t:Ah):Gd data (e::es) t=(Rc data e t).bind fun a=>(Gd data es t).map (a + ·):=by
 rw [Xr]; unfold Rc
 cases Hr data t e.Num with
 | none=>rfl
 | some ts=>simp only [Ad]; cases Ec data e.Kids ts <;> rfl
theorem Asf (data:List Ax) (e:A6) (t:Ah) (d:Nat) (h:Rc data e t=some d):d<=6*Cr e:=by
 unfold Rc at h
 cases h1:Hr data t e.Num with
 | none=>rw [h1] at h; cases h
 | some ts=>
  rw [h1,Ad] at h
  cases h2:Ec data e.Kids ts with
  | none=>rw [h2] at h; cases h
  | some a=>
   rw [h2] at h
   cases h
   have:=Ud data _ ts a h2
   have:=Fe e
   show 1+a<=_
   omega
def Dg (v:Int) (o:Option Nat):Prop:=(v = -1/\∀d,o=some d->6<d)\/∃d:Nat,o=some d/\v=d
theorem Dg.clip {v:Int} {o:Option Nat} (h:Dg v o):(if v>6 then -1 else v)=Fi o:=by
 rcases h with ⟨rfl,h⟩ | ⟨d,rfl,rfl⟩
 .rw [if_neg (by omega),Ra h]
 .by_cases hd:6<d
  .rw [if_pos (by omega),Ach hd]
  .rw [if_neg (by omega),Acg (by omega)]
theorem Xx {o p:Option Nat} {acc:Nat} {d:Nat} (h:(o.bind fun a=>p.map (a + ·)).map (acc + ·)=some d):∃a b,o=some a/\p=some b/\d=acc+(a+b):=by
 cases o with
 | none=>cases h
 | some a=>
  cases p with
  | none=>cases h
  | some b=>exact ⟨a,b,rfl,rfl,by simp at h; omega⟩
theorem Asg {data:List Ax} (hz:Szv data) (hs:J3 data) (b1:List (ByteArray×Int)) (b2:List (ByteArray×List Dk)) (vars:List Ah) (N M:Int) (L:List Ah):∀k:Nat,
  (∀(i:A6) (t:Ah),3*Cr i<=k->Cr i<=1048576->A7 t<=200->∃v,Mo k t i b1 b2 data vars N M L=some v/\Dg v (F4 data i t)) /\
  (∀(f:List A6) (ts:List Ah),3*Em f+1<=k->Em f<=1048576->(∀t∈ts,A7 t<=200)->∃v,Ol k ts f b1 b2 data vars N M L=some v/\Dg v (Ec data f ts)) /\
  (∀(e:A6) (t:Ah),3*Cr e<=k->Cr e<=1048576->A7 t<=200->∃v,Om k t e b1 b2 data vars N M L=some v/\Dg v (Rc data e t)):=by
 intro k
 induction k with
 | zero=>exact ⟨fun i t h=>by have:=Fe i; omega,fun f ts h=>by omega,fun i t h=>by have:=Fe i; omega⟩
 | succ k ih=>
  obtain ⟨a6,R,a7⟩:=ih
  have D:∀o:Option Nat,o.map (0 + ·)=o:=by intro o; cases o <;> simp
  have c:∀d:Nat,(none:Option Nat)=some d->6<d:=fun d h=>by cases h
  refine ⟨?_,?_,?_⟩
  .intro i t hk hi ht
   have af:=Fe i
   have U:=Lp i.Kids
   rw [Mo,Ace]
   by_cases Z:t.Kind=6
   .simp only [Eh Z,cond_true,if_pos Z]
    by_cases h0:i.Num=0
    .simp only [Eh h0,cond_true,if_pos h0]
     obtain ⟨p,p1,p2⟩:=R i.Kids t.Args (by omega) (by omega) (fun a ha=>by have:=F3 ha; have:=Fx t; omega)
     rw [p1]
     exact ⟨p,rfl,p2⟩
    .simp only [Cl h0,cond_false,if_neg h0]
     exact ⟨_,rfl,.inl ⟨rfl,c⟩⟩
   .simp only [Cl Z,cond_false,if_neg Z]
    by_cases Y:t.Kind=7
    .simp only [Eh Y,cond_true,if_pos Y]
     by_cases a1:0<=i.Num
     .by_cases a2:i.Num<=6
      .by_cases a3:i.Kids.length=0
       .rw [Aj (show i.Num>=0 from a1),Aj a2,if_pos ⟨a1,a2,a3⟩,Eh (by omega)]
        exact ⟨_,rfl,.inr ⟨i.Num.toNat,rfl,by omega⟩⟩
       .rw [Aj (show i.Num>=0 from a1),Aj a2,if_neg (fun h=>a3 h.2.2),Cl (by omega)]
        exact ⟨_,rfl,.inl ⟨rfl,c⟩⟩
      .rw [Aj (show i.Num>=0 from a1),Ap a2,if_neg (fun h=>a2 h.2.1)]
       exact ⟨_,rfl,.inl ⟨rfl,c⟩⟩
     .rw [Ap (show ¬i.Num>=0 from a1),if_neg (fun h=>a1 h.1)]
      exact ⟨_,rfl,.inl ⟨rfl,c⟩⟩
    .simp only [Cl Y,cond_false,if_neg Y]
     by_cases h5:t.Kind=5
     .simp only [Eh h5,cond_true,if_pos h5]
      by_cases h0:i.Num=0
      .simp only [Cz h0,cond_false,if_pos h0]
       have key:∀(m j acc:Nat),j+m=i.Kids.length->acc<=10000000->∃z,An (S:=(Int×Int)) (E:=(Int⊕Int)) (fun (G,v8)=>
         bif (decide (v8<(i.Kids.length:Int))) then (
         (Af i.Kids v8).bind fun v9=>
         (Om k t v9 b1 b2 data vars N M L).bind fun I=>
         bif (decide (I<(0:Int))) then some (.inr (.inl (-1)))
         else (
         bif (decide (G>(6:Int))) then some (.inr (.inl (-1)))
         else some (.inl ((Ac (G+I)),(Ac (v8+1))))))
         else some (.inr (.inr G))) ((acc:Int),(j:Int))=some z/\Dg (match z with | .inl v=>v | .inr v=>v) ((Gd data (i.Kids.drop j) t).map (acc + ·)):=by
        intro m
        induction m with
        | zero=>
         intro j acc hj A
         have:j=i.Kids.length:=by omega
         subst this
         exact ⟨.inr (acc:Int),Fv (by simp),.inr ⟨acc,by simp [Gd],rfl⟩⟩
        | succ m s=>
         intro j acc hj A
         have g:i.Kids[j]? = some i.Kids[j]:=Br (by omega)
         generalize i.Kids[j]=e at g
         have ac:=Ku (Bu g)
         rw [M4 g,Ase]
         obtain ⟨v,B,v2⟩:=a7 e t (by omega) (by omega) ht
         rcases v2 with ⟨rfl,v2⟩ | ⟨a,a1,rfl⟩
         .refine ⟨.inl (-1),Fv ?_,.inl ⟨rfl,fun d h=>?_⟩⟩
          .simp only [Aj (by omega:(j:Int)<(i.Kids.length:Int)),cond_true,Cf rfl g,Ad,B]; rfl
          .obtain ⟨a,b,ha,hb,rfl⟩:=Xx h
           have:=v2 a ha; omega
         .have V:=Asf data e t a a1
          by_cases hb:acc>6
          .refine ⟨.inl (-1),Fv ?_,.inl ⟨rfl,fun d h=>?_⟩⟩
           .simp only [Aj (by omega:(j:Int)<(i.Kids.length:Int)),cond_true,Cf rfl g,Ad,B,Ap (by omega:¬(a:Int)<0),Aj (by omega:(acc:Int)>6),cond_false]
           .obtain ⟨a,b,ha,hb,rfl⟩:=Xx h
            omega
          .have ew:Ac ((acc:Int)+(a:Int))=((acc+a:Nat):Int):=by rw [Ac,Bt] <;> omega
           obtain ⟨z,q,z2⟩:=s (j+1) (acc+a) (by omega) (by omega)
           refine ⟨z,?_,?_⟩
           .rw [K2 (s':=(((acc+a:Nat):Int),((j+1:Nat):Int)))]
            .exact q
            .simp only [Aj (by omega:(j:Int)<(i.Kids.length:Int)),cond_true,Cf rfl g,Ad,B,Ap (by omega:¬(a:Int)<0),Ap (by omega:¬(acc:Int)>6),cond_false,ew,C1 (show j<i.Kids.length by omega) (by omega)]
           .have D:∀o:Option Nat,(((some a:Option Nat).bind fun a=>o.map (a + ·)).map (acc + ·))=o.map (acc+a + ·):=by
             intro o; cases o <;> simp [Nat.add_assoc]
            rw [a1,D]
            exact z2
       obtain ⟨z,q,z2⟩:=key i.Kids.length 0 0 (by omega) (by omega)
       have q:An _ ((0:Int),(0:Int))=some z:=q
       rw [q,Ad]
       rw [List.drop_zero,D] at z2
       cases z with
       | inl v=>exact ⟨v,rfl,z2⟩
       | inr v=>exact ⟨v,rfl,z2⟩
      .simp only [Cv h0,cond_true,if_neg h0]
       exact ⟨_,rfl,.inl ⟨rfl,c⟩⟩
     .simp only [Cl h5,cond_false,if_neg h5]
      by_cases h0:i.Num=0
      .simp only [Eh h0,cond_true]
       by_cases a3:i.Kids.length=0
       .rw [if_pos ⟨h0,a3⟩,Eh (by omega)]
        exact ⟨_,rfl,.inr ⟨0,rfl,rfl⟩⟩
       .rw [if_neg (fun h=>a3 h.2),Cl (by omega)]
        exact ⟨_,rfl,.inl ⟨rfl,c⟩⟩
      .simp only [Cl h0,cond_false]
       rw [if_neg (fun h=>h0 h.1)]
       exact ⟨_,rfl,.inl ⟨rfl,c⟩⟩
  .intro f ts hk hi ht
   have U:=Lp f
   rw [Ol]
   by_cases hl:ts.length=f.length
   .rw [Cz (by omega)]
    simp only [cond_false]
    have key:∀(m j acc:Nat),j+m=f.length->acc<=10000000->∃z,An (S:=(Int×Int)) (E:=(Int⊕Int)) (fun (v5,X)=>
      bif (decide (X<(ts.length:Int))) then (
      (Af ts X).bind fun G=>
      (Af f X).bind fun v9=>
      (Mo k G v9 b1 b2 data vars N M L).bind fun J=>
      bif (decide (J<(0:Int))) then some (.inr (.inl (-1)))
      else (
      bif (decide (v5>(6:Int))) then some (.inr (.inl (-1)))
      else some (.inl ((Ac (v5+J)),(Ac (X+1))))))
      else some (.inr (.inr v5))) ((acc:Int),(j:Int))=some z/\Dg (match z with | .inl v=>v | .inr v=>v) ((Ec data (f.drop j) (ts.drop j)).map (acc + ·)):=by
     intro m
     induction m with
     | zero=>
      intro j acc hj A
      have:j=ts.length:=by omega
      subst this
      refine ⟨.inr (acc:Int),Fv (by simp),.inr ⟨acc,?_,rfl⟩⟩
      rw [List.drop_of_length_le (by omega),List.drop_of_length_le (by omega)]
      simp [Ec]
     | succ m s=>
      intro j acc hj A
      have g:f[j]? = some f[j]:=Br (by omega)
      generalize f[j]=e at g
      have hu:ts[j]? = some ts[j]:=Br (by omega)
      generalize ts[j]=u at hu
      have ac:=Ku (Bu g)
      rw [M4 g,M4 hu,Xs]
      obtain ⟨v,B,v2⟩:=a6 e u (by omega) (by omega) (ht u (Bu hu))
      rcases v2 with ⟨rfl,v2⟩ | ⟨a,a1,rfl⟩
      .refine ⟨.inl (-1),Fv ?_,.inl ⟨rfl,fun d h=>?_⟩⟩
       .simp only [Aj (by omega:(j:Int)<(ts.length:Int)),cond_true,Cf rfl g,Cf rfl hu,Ad,B]; rfl
       .obtain ⟨a,b,ha,hb,rfl⟩:=Xx h
        have:=v2 a ha; omega
      .have V:=Aiz data e u a a1
       by_cases hb:acc>6
       .refine ⟨.inl (-1),Fv ?_,.inl ⟨rfl,fun d h=>?_⟩⟩
        .simp only [Aj (by omega:(j:Int)<(ts.length:Int)),cond_true,Cf rfl g,Cf rfl hu,Ad,B,Ap (by omega:¬(a:Int)<0),Aj (by omega:(acc:Int)>6),cond_false]
        .obtain ⟨a,b,ha,hb,rfl⟩:=Xx h
         omega
       .have ew:Ac ((acc:Int)+(a:Int))=((acc+a:Nat):Int):=by rw [Ac,Bt] <;> omega
        obtain ⟨z,q,z2⟩:=s (j+1) (acc+a) (by omega) (by omega)
        refine ⟨z,?_,?_⟩
        .rw [K2 (s':=(((acc+a:Nat):Int),((j+1:Nat):Int)))]
         .exact q
         .simp only [Aj (by omega:(j:Int)<(ts.length:Int)),cond_true,Cf rfl g,Cf rfl hu,Ad,B,Ap (by omega:¬(a:Int)<0),Ap (by omega:¬(acc:Int)>6),cond_false,ew,C1 (show j<f.length by omega) (by omega)]
        .have D:∀o:Option Nat,(((some a:Option Nat).bind fun a=>o.map (a + ·)).map (acc + ·))=o.map (acc+a + ·):=by
          intro o; cases o <;> simp [Nat.add_assoc]
         rw [a1,D]
         exact z2
    obtain ⟨z,q,z2⟩:=key f.length 0 0 (by omega) (by omega)
    have q:An _ ((0:Int),(0:Int))=some z:=q
    rw [q,Ad]
    rw [List.drop_zero,List.drop_zero,D] at z2
    cases z with
    | inl v=>exact ⟨v,rfl,z2⟩
    | inr v=>exact ⟨v,rfl,z2⟩
   .rw [Cv (by omega),Acf data f ts hl]
    exact ⟨_,rfl,.inl ⟨rfl,c⟩⟩
  .intro e t hk g ht
   have ag:=Fe e
   rw [Om]
   unfold Rc Hr
   rw [Ary hz t ht e.Num,Ad]
   cases hf:I9 data t e.Num with
   | none=>exact ⟨-1,rfl,.inl ⟨rfl,c⟩⟩
   | some l=>
    have ad:=Acb hf
    obtain ⟨x,y,_,hx,_,hy,hl,ab⟩:=Uc hf
    obtain ⟨y6,_⟩:=hz x (E8 hx).2.2.2 y (E8 hy).2.2.2
    have ae:l.length<=6:=by rw [hl]; simpa using y6
    have aa:∀a∈Fp l (Fo data t.Num e.Num),A7 a<=200:=(Aim (show Hr data t e.Num=some _ by unfold Hr; rw [hf]; rfl)).1
    obtain ⟨v,B,v2⟩:=R e.Kids (Fp l (Fo data t.Num e.Num)) (by omega) (by omega) aa
    have hd:Dg (if v<0 then -1 else 1+v) (((some l).map fun l=>Fp l (Fo data t.Num e.Num)).bind fun ts=>(Ec data e.Kids ts).map (1 + ·)):=by
     rw [Option.map_some,Ad]
     rcases v2 with ⟨rfl,v2⟩ | ⟨a,a1,rfl⟩
     .refine .inl ⟨rfl,fun d h=>?_⟩
      cases ha:Ec data e.Kids (Fp l (Fo data t.Num e.Num)) with
      | none=>rw [ha] at h; cases h
      | some a=>rw [ha] at h; have:=v2 a ha; simp at h; omega
     .rw [a1,if_neg (by omega)]
      exact .inr ⟨1+a,rfl,by omega⟩
    have a8:v = -1\/(0<=v/\v<=10000000):=by
     rcases v2 with ⟨rfl,v2⟩ | ⟨a,a1,rfl⟩
     .exact .inl rfl
     .have:=Ud data _ _ a a1; right; omega
    refine ⟨_,?_,hd⟩
    simp only [okL,bnt,cond_false,Ah5 data t.Num e.Num hs,Ad]
    refine G6 (Fo data t.Num e.Num) (fun j=>((j:Int),Fp (l.take j) ((Fo data t.Num e.Num).take j))) (by simp [Fp]) (by omega) ?_ ?_
    .intro j b hj hb h1 h2 h3
     have ha:l[j]? = some l[j]:=Br (by omega)
     generalize l[j]=a at ha
     have U:=Ail (l.take j) ((Fo data t.Num e.Num).take j)
     have:(l.take j).length<=6:=by simp; omega
     simp only [h1,h2,h3,cond_true,Ad,Cf rfl ha,Aik ha hb]
     rw [C4 (by simp; omega)]
     cases b <;> simp
    .intro h1
     refine ⟨Fp l (Fo data t.Num e.Num),?_,?_⟩
     .simp only [h1]
      rw [List.take_of_length_le (by omega),List.take_of_length_le (Nat.le_refl _)]; rfl
     .rw [B,Ad]
      rcases a8 with h | h
      .subst h; rfl
      .rw [Ap (by omega),if_neg (by omega)]
       simp only [cond_false]
       rw [Ac,Bt] <;> omega
def tyX (vars:List Ah) (res:Ah) (v:Int):Option Ah:=if v = -1 then some res else Af vars v
def E4 (data:List Ax) (vars:List Ah) (res:Ah) (o:List (ByteArray×Int)):Prop:=∀p∈o,∀v i t,p.1=Kv v i->tyX vars res v=some t->p.2=Fi (F4 data i t)
theorem Ai1 {α:Type}:∀(o:List (ByteArray×α)) (s:ByteArray) (v:α),∀p∈El o s v,p∈o\/p=(s,v)
 | [],s,v,p,h=>by simp only [El,List.mem_singleton] at h; exact .inr h
 | q::o,s,v,p,h=>by
  unfold El at h
  cases hq:(s==q.1) with
  | true=>
   rw [hq] at h
   simp only [cond_true,List.mem_cons] at h
   rcases h with h | h
   .exact .inr h
   .exact .inl (by simp [h])
  | false=>
   rw [hq] at h
   simp only [cond_false,List.mem_cons] at h
   rcases h with h | h
   .exact .inl (by simp [h])
   .rcases Ai1 o s v p h with h | h
    .exact .inl (by simp [h])
    .exact .inr h
theorem Ash {data:List Ax} (G:Szv data) (J:J3 data) (b1:List (ByteArray×Int)) (b2:List (ByteArray×List Dk)) (vars:List Ah) (res:Ah) (f:E4 data vars res b1)
  (v:Int) (i:A6) (t:Ah) (ht:tyX vars res v=some t) (b:A7 t<=200) (I:I64 v) (L:iR i) (hi:Cr i<=1048576) :
  ∃u,Kl v i b1 b2 data vars res.Kind res.Num res.Args=some (Fi (F4 data i t),u)/\E4 data vars res u:=by
 unfold Kl
 rw [Aiy v i I L hi,Ad]
 cases g:D9 b1 (Kv v i) with
 | true=>
  refine ⟨b1,?_,f⟩
  have:Gw b1 (Kv v i) 0=Fi (F4 data i t):=by
   unfold Gw
   unfold D9 at g
   rw [List.any_eq_true] at g
   obtain ⟨p,D,B⟩:=g
   cases j:b1.find? (fun p=>Kv v i==p.1) with
   | none=>exact absurd B (by have:=List.find?_eq_none.1 j p D; simpa using this)
   | some q=>
    have hq:=List.find?_some j
    exact f q (List.mem_of_find?_eq_some j) v i t ((O6 _ _).1 hq).symm ht
  simp only [cond_true,Ad,bnt,cond_false,this]
 | false=>
  obtain ⟨w,y,x⟩:=(Asg G J b1 b2 vars res.Kind res.Num res.Args 4000000).1 i t (by omega) hi b
  have c:Ma v b1 b2 data vars res.Kind res.Num res.Args=some t:=by
   unfold Ma
   unfold tyX at ht
   by_cases h:v = -1
   .rw [if_pos h] at ht; cases ht
    have M:(Ah.mk res.Kind res.Num res.Args)=res:=by cases res; rfl
    rw [Eh h,M]; rfl
   .rw [if_neg h] at ht
    rw [Cl h,ht]; rfl
  have k:(bif decide (w>6) then some (-1) else some w:Option Int)=some (Fi (F4 data i t)):=by
   rw [<-x.clip]
   by_cases h:w>6
   .rw [Aj h,if_pos h]; rfl
   .rw [Ap h,if_neg h]; rfl
  refine ⟨El b1 (Kv v i) (Fi (F4 data i t)),?_,?_⟩
  .simp only [cond_false,Ad,Bool.not_false,cond_true,c,y,k]
  .intro p hp z E A s l
   rcases Ai1 _ _ _ p hp with h | h
   .exact f p h z E A s l
   .subst h
    obtain ⟨rfl,rfl⟩:=Asb s
    rw [ht] at l; cases l; rfl
end Go.Ab
namespace Go.Ab
open Go
def De (a b:Int):Int:=if a<b then -1 else if a>b then 1 else 0
def C3 (a b:Int):Int:=if a=0 then b else a
theorem Ep {a b:Int}:De a b=0↔a=b:=by unfold De; split <;> (try split) <;> omega
theorem Ls (a b:Int):I0 a b=some (De a b):=by
 unfold I0 S4 De
 simp only [Ad,bne_self_eq_false,cond_false]
 by_cases h:a<b
 .rw [Aj h,if_pos h]; rfl
 .rw [Ap h,if_neg h]
  by_cases h':a>b
  .rw [Aj h',if_pos h']; rfl
  .rw [Ap h',if_neg h']; rfl
theorem Ai2 (a b:Int):S7 a b=some (De a b):=Ls a b
theorem Re (a b:Int):Ki [a,b]=some (C3 a b):=by
 unfold Ki C3
 by_cases ha:a=0
 .rw [if_pos ha]
  by_cases hb:b=0
  .refine O0 2 (fun j=>(j:Int)) rfl ?_ ⟨.inr (),rfl,by rw [hb]⟩
   intro j hj
   match j,hj with
   | 0,_=>subst ha; rfl
   | 1,_=>subst hb; rfl
  .refine O0 1 (fun j=>(j:Int)) rfl ?_ ⟨.inl b,?_,rfl⟩
   .intro j hj
    match j,hj with
    | 0,_=>subst ha; rfl
   .show (bif (b != 0) then _ else _)=_
    rw [Cv hb]; rfl
 .rw [if_neg ha]
  refine O0 0 (fun j=>(j:Int)) rfl (fun j hj=>by omega) ⟨.inl a,?_,rfl⟩
  show (bif (a != 0) then _ else _)=_
  rw [Cv ha]; rfl
theorem Xy (a b:Int) (h:a≠b):Qb (decide (a<b))=some (De a b):=by
 unfold Qb De
 by_cases h':a<b
 .rw [Aj h',if_pos h']; rfl
 .rw [Ap h',if_neg h',if_pos (by omega)]; rfl
theorem Xz (a b:Int) (h:a≠b):N6 (decide (a<b))=some (De a b):=Xy a b h
theorem X0 (a b:Int) (h:a≠b):N2 (decide (a<b))=some (De a b):=Xy a b h
def Dt {α:Type} (g:α->α->Int):List α->List α->Int
 | x::xs,y::ys=>C3 (g x y) (Dt g xs ys)
 | _,_=>0
theorem Ue {α:Type} (g:α->α->Int) (l m:List α) {step:Int->Option (Int⊕(Int⊕Unit))} (k:l.length=m.length) (hb:l.length<4611686018427387904)
  (f:∀(j:Nat) (x y:α),l[j]? = some x->m[j]? = some y->decide ((j:Int)<(l.length:Int))=true->Af l (j:Int)=some x->Af m (j:Int)=some y->decide ((j:Int)>=(m.length:Int))=false->Ac ((j:Int)+1)=((j+1:Nat):Int) ->
   step (j:Int)=if g x y=0 then some (.inl ((j+1:Nat):Int)) else some (.inr (.inl (g x y))))
  (i:decide ((l.length:Int)<(l.length:Int))=false->step (l.length:Int)=some (.inr (.inr ()))) :
  ∃z,An step 0=some z/\(match z with | .inl r=>r=Dt g l m/\r≠0 | .inr _=>Dt g l m=0):=by
 have key:∀(n j:Nat),j+n=l.length->∃z,An step (j:Int)=some z/\(match z with | .inl r=>r=Dt g (l.drop j) (m.drop j)/\r≠0 | .inr _=>Dt g (l.drop j) (m.drop j)=0):=by
  intro n
  induction n with
  | zero=>
   intro j hj
   have:j=l.length:=by omega
   subst this
   refine ⟨.inr (),Fv (i (by simp)),?_⟩
   rw [List.drop_of_length_le (by omega)]; simp [Dt]
  | succ n ih=>
   intro j hj
   have hx:l[j]? = some l[j]:=Br (by omega)
   have hy:m[j]? = some m[j]:=Br (by omega)
   generalize l[j]=x at hx
   generalize m[j]=y at hy
   have h:=f j x y hx hy (Aj (by omega)) (Cf rfl hx) (Cf rfl hy) (Ap (by omega)) (C1 (show j<l.length by omega) hb)
   rw [M4 hx,M4 hy]
   by_cases b:g x y=0
   .rw [if_pos b] at h
    obtain ⟨z,c,z2⟩:=ih (j+1) (by omega)
    refine ⟨z,by rw [K2 h]; exact c,?_⟩
    have e:Dt g (x::l.drop (j+1)) (y::m.drop (j+1))=Dt g (l.drop (j+1)) (m.drop (j+1)):=by simp only [Dt,C3,b,if_true]
    cases z with
    | inl r=>simp only [e]; exact z2
    | inr u=>simp only [e]; exact z2
   .rw [if_neg b] at h
    refine ⟨.inl (g x y),Fv h,?_,b⟩
    simp only [Dt,C3,b,if_false]
 exact key l.length 0 (by omega)
theorem X1 {α:Type} (f:α->α->Option Int) (g:α->α->Int) (l m:List α) (A:l.length=m.length) (hb:l.length<4611686018427387904) (B:∀(j:Nat) (x y:α),l[j]? = some x->m[j]? = some y->f x y=some (g x y)) :
  ((An (S:=Int) (E:=(Int⊕Unit)) (fun b=>
   bif (decide (b<(l.length:Int))) then (
   (Af l b).bind fun s=>
   bif (decide (b>=(m.length:Int))) then some (.inr (.inl 1))
   else (
   (Af m b).bind fun v9=>
   (f s v9).bind fun c=>
   bif (c != (0:Int)) then some (.inr (.inl c))
   else some (.inl (Ac (b+1)))))
   else some (.inr (.inr ()))) 0).bind fun z=>
   match z with
   | .inl k=>some k
   | .inr _=>bif (decide ((l.length:Int)<(m.length:Int))) then some (-1) else some 0)=some (Dt g l m):=by
 refine T0 (Ue g l m A hb ?_ (fun h=>by simp only [h]; rfl)) ?_
 .intro j x y hx hy h1 h2 h3 G D
  simp only [h1,h2,h3,G,D,cond_true,cond_false,Ad,B j x y hx hy]
  by_cases i:g x y=0
  .rw [Cz i,if_pos i]; rfl
  .rw [Cv i,if_neg i]; rfl
 .rintro (r | u) q
  .rw [q.1]
  .simp only
   rw [Ap (by omega),show Dt g l m=0 from q]; rfl
def Jb (x y:Da):Int:=C3 (De x.Var y.Var) (De x.Coef y.Coef)
def Jc (a b:Cu):Int:=if a.Terms.length=b.Terms.length then C3 (Dt Jb a.Terms b.Terms) (De a.Const b.Const) else De a.Terms.length b.Terms.length
theorem Ai3 (a b:Cu) (ha:a.Terms.length<1099511627776):Jw a b=some (Jc a b):=by
 unfold Jw Jc
 rw [Ls,Ad]
 by_cases h:a.Terms.length=b.Terms.length
 .rw [Cz (Ep.2 (by omega)),if_pos h]
  simp only [cond_false]
  have:=X1 S6 Jb a.Terms b.Terms h (by omega) (fun j x y _ _=>by
   unfold S6 Jb
   rw [Ls,Ai2]; simp only [Ad,Re])
  rw [show Wb a.Terms b.Terms=_ from this,Ad,Ai2]
  simp only [Ad,Re]
 .rw [Cv (fun e=>h (by have:=Ep.1 e; omega)),if_neg h]; rfl
theorem Ai4 (a b:Cu) (ha:a.Terms.length<1099511627776):Ld a b=some (Jc a b):=by
 unfold Ld Jc
 by_cases h:a.Terms.length=b.Terms.length
 .rw [Cz (by omega),if_pos h]
  simp only [cond_false]
  refine T0 (Ue Jb a.Terms b.Terms h (by omega) ?_ (fun h=>by simp only [h]; rfl)) ?_
  .intro j x y hx hy h1 h2 h3 i g
   simp only [h1,h2,h3,g,cond_true,Ad]
   by_cases c:x.Var=y.Var
   .rw [Cz c]
    by_cases hc:x.Coef=y.Coef
    .rw [Cz hc]
     rw [if_pos (by unfold Jb; rw [Ep.2 c,Ep.2 hc]; rfl)]; rfl
    .rw [Cv hc,Xz _ _ hc]
     have e:Jb x y=De x.Coef y.Coef:=by unfold Jb; rw [Ep.2 c]; rfl
     rw [e,if_neg (fun e=>hc (Ep.1 e))]; rfl
   .rw [Cv c,Xz _ _ c]
    have e:Jb x y=De x.Var y.Var:=by unfold Jb C3; rw [if_neg (fun e=>c (Ep.1 e))]
    rw [e,if_neg (fun e=>c (Ep.1 e))]; rfl
  .rintro (r | u) f
   .obtain ⟨rfl,h0⟩:=f
    unfold C3; rw [if_neg h0]
   .have f:Dt Jb a.Terms b.Terms=0:=f
    rw [f]
    simp only [C3,if_true]
    by_cases hc:a.Const=b.Const
    .rw [Cz hc,Ep.2 hc]; rfl
    .rw [Cv hc,Xz _ _ hc]; rfl
 .rw [Cv (by omega),if_neg h,Xz _ _ (by omega)]; rfl
mutual
def G2:A6->A6->Int
 | ⟨n,k⟩,j=>if n=j.Num then (if k.length=j.Kids.length then O9 k j.Kids else De k.length j.Kids.length) else De n j.Num
def O9:List A6->List A6->Int
 | x::xs,y::ys=>C3 (G2 x y) (O9 xs ys)
 | [],_=>0
 | _::_,[]=>0
end
theorem Acp (i j:A6):G2 i j=if i.Num=j.Num then (if i.Kids.length=j.Kids.length then O9 i.Kids j.Kids else De i.Kids.length j.Kids.length) else De i.Num j.Num:=by cases i; simp only [G2]
theorem X2:∀l m:List A6,O9 l m=Dt G2 l m
 | x::xs,y::ys=>by simp only [O9,Dt,X2 xs ys]
 | [],_=>by simp [O9,Dt]
 | _::_,[]=>by simp [O9,Dt]
theorem Asi:∀(n k:Nat) (i j:A6),Cr i<=n->2*n<=k->n<1099511627776->Mc k i j=some (G2 i j):=by
 intro n
 induction n with
 | zero=>intro k i j h; have:=Fe i; omega
 | succ n ih=>
  intro k i j h hk c
  obtain ⟨k,rfl⟩:∃b,k=b+2:=⟨k-2,by omega⟩
  have hi:=Fe i
  have f:=Lp i.Kids
  rw [Mc,Acp,Ls,Ls]
  simp only [Ad,Re]
  by_cases h1:i.Num=j.Num
  .rw [if_pos h1]
   by_cases h2:i.Kids.length=j.Kids.length
   .rw [if_pos h2,Cz (by unfold C3; rw [Ep.2 h1,Ep.2 (by omega)]; rfl),X2]
    simp only [cond_false]
    have:=X1 (Mc k) G2 i.Kids j.Kids h2 (by omega) (fun q x y hx hy=>ih k x y (by have:=Ku (Bu hx); omega) (by omega) (by omega))
    rw [S5]
    refine Eq.trans (congrArg (fun q=>Option.bind q _) this) rfl
   .have e:C3 (De i.Num j.Num) (De (i.Kids.length:Int) (j.Kids.length:Int))=De i.Kids.length j.Kids.length:=by unfold C3; rw [Ep.2 h1]; rfl
    rw [if_neg h2,e,Cv (fun e=>h2 (by have:=Ep.1 e; omega))]; rfl
  .have e:C3 (De i.Num j.Num) (De (i.Kids.length:Int) (j.Kids.length:Int))=De i.Num j.Num:=by unfold C3; rw [if_neg (fun e=>h1 (Ep.1 e))]
   rw [if_neg h1,e,Cv (fun e=>h1 (Ep.1 e))]; rfl
theorem Asj:∀(n k:Nat) (i j:A6),Cr i<=n->2*n<=k->n<1099511627776->Md k i j=some (G2 i j):=by
 intro n
 induction n with
 | zero=>intro k i j h; have:=Fe i; omega
 | succ n ih=>
  intro k i j h hk A
  obtain ⟨k,rfl⟩:∃l,k=l+2:=⟨k-2,by omega⟩
  have hi:=Fe i
  have B:=Lp i.Kids
  rw [Md,Acp]
  by_cases h1:i.Num=j.Num
  .rw [if_pos h1,Cz h1]
   simp only [cond_false]
   rw [S9]
   by_cases h2:i.Kids.length=j.Kids.length
   .rw [if_pos h2,Cz (by omega),X2]
    simp only [cond_false]
    have:=Ue G2 i.Kids j.Kids h2 (by omega) (step:=fun v5=>bif (decide (v5<(i.Kids.length:Int))) then ((Af i.Kids v5).bind fun g=>(Af j.Kids v5).bind fun f=>(Md k g f).bind fun v8=>bif (v8 != (0:Int)) then some (.inr (.inl v8)) else some (.inl (Ac (v5+1)))) else some (.inr (.inr ()))) (fun q x y hx hy h1 h2 h3 D s=>by
     simp only [h1,h2,h3,s,cond_true,Ad,ih k x y (by have:=Ku (Bu hx); omega) (by omega) (by omega)]
     by_cases b:G2 x y=0
     .rw [Cz b,if_pos b]; rfl
     .rw [Cv b,if_neg b]; rfl) (fun h=>by simp only [h]; rfl)
    obtain ⟨z,c,z2⟩:=this
    rw [c,Ad]
    cases z with
    | inl r=>rw [z2.1]; rfl
    | inr u=>rw [show Dt G2 i.Kids j.Kids=0 from z2]; rfl
   .rw [if_neg h2,Cv (by omega),Xy _ _ (by omega)]; rfl
  .rw [if_neg h1,Cv h1,Xy _ _ h1]; rfl
def Jd (x y:Ch):Int:=C3 (De x.Var y.Var) (G2 x.Index y.Index)
def J5 (x y:B4):Int:=C3 (Jc x.Lin y.Lin) (De x.Deg y.Deg)
def Cw (a b:Bb):Int :=
 if a.Factors.length=b.Factors.length then
  C3 (Dt Jd a.Factors b.Factors) (if a.Atoms.length=b.Atoms.length then Dt J5 a.Atoms b.Atoms else De a.Atoms.length b.Atoms.length)
 else De a.Factors.length b.Factors.length
structure MSz (m:Bb):Prop where
 nf:m.Factors.length<=1048576
 na:m.Atoms.length<=1048576
 fi:∀f∈m.Factors,Cr f.Index<=1048576
 fr:∀f∈m.Factors,iR f.Index/\I64 f.Var
 al:∀a∈m.Atoms,a.Lin.Terms.length<=1048576
theorem Ask (a b:Bb) (ha:MSz a):L9 a b=some (Cw a b):=by
 have h1:=ha.nf
 have h2:=ha.na
 unfold L9 Cw
 rw [Ls,Ad]
 by_cases h:a.Factors.length=b.Factors.length
 .rw [Cz (Ep.2 (by omega)),if_pos h]
  simp only [cond_false]
  have:=X1 Sq Jd a.Factors b.Factors h (by omega) (fun j x y hx hy=>by
   unfold Sq Jd
   rw [Ls,Asi 1048576 4000000 x.Index y.Index (ha.fi x (Bu hx)) (by omega) (by omega)]; simp only [Ad,Re])
  rw [show V5 a.Factors b.Factors=_ from this,Ad,Ls]
  simp only [Ad,Re]
  by_cases h0:Dt Jd a.Factors b.Factors=0
  .simp only [h0,C3,if_true]
   by_cases h':a.Atoms.length=b.Atoms.length
   .rw [Cz (Ep.2 (by omega)),if_pos h']
    simp only [cond_false]
    have:=X1 Sr J5 a.Atoms b.Atoms h' (by omega) (fun j x y hx hy=>by
     unfold Sr J5
     rw [Ls,Ai3 x.Lin y.Lin (by have:=ha.al x (Bu hx); omega)]; simp only [Ad,Re])
    rw [show V6 a.Atoms b.Atoms=_ from this]; rfl
   .rw [Cv (fun e=>h' (by have:=Ep.1 e; omega)),if_neg h']; rfl
  .simp only [C3,if_neg h0]
   rw [Cv h0]; rfl
 .rw [Cv (fun e=>h (by have:=Ep.1 e; omega)),if_neg h]; rfl
theorem X3 (a b:Bb) (ha:MSz a):Jv a b=some (Cw a b):=by
 have h1:=ha.nf
 have h2:=ha.na
 unfold Jv Cw
 by_cases h:a.Factors.length=b.Factors.length
 .rw [Cz (by omega),if_pos h]
  simp only [cond_false]
  refine T0 (Ue Jd a.Factors b.Factors h (by omega) ?_ (fun h=>by simp only [h]; rfl)) ?_
  .intro j x y hx hy h1 h2 h3 i g
   simp only [h1,h2,h3,g,cond_true,Ad,Asj 1048576 4000000 x.Index y.Index (ha.fi x (Bu hx)) (by omega) (by omega)]
   by_cases c:x.Var=y.Var
   .rw [Cz c]
    have e:Jd x y=G2 x.Index y.Index:=by unfold Jd C3; rw [if_pos (Ep.2 c)]
    rw [e]
    by_cases hc:G2 x.Index y.Index=0
    .rw [Cz hc,if_pos hc]; rfl
    .rw [Cv hc,if_neg hc]; rfl
   .rw [Cv c,X0 _ _ c]
    have e:Jd x y=De x.Var y.Var:=by unfold Jd C3; rw [if_neg (fun e=>c (Ep.1 e))]
    rw [e,if_neg (fun e=>c (Ep.1 e))]; rfl
  .rintro (r | u) f
   .obtain ⟨rfl,h0⟩:=f
    unfold C3; rw [if_neg h0]
   .have f:Dt Jd a.Factors b.Factors=0:=f
    rw [f]
    simp only [C3,if_true]
    by_cases h':a.Atoms.length=b.Atoms.length
    .rw [Cz (by omega),if_pos h']
     simp only [cond_false]
     refine T0 (Ue J5 a.Atoms b.Atoms h' (by omega) ?_ (fun h=>by simp only [h]; rfl)) ?_
     .intro j x y hx hy h1 h2 h3 i g
      simp only [h1,h2,h3,g,cond_true,Ad,Ai4 x.Lin y.Lin (by have:=ha.al x (Bu hx); omega)]
      by_cases c:Jc x.Lin y.Lin=0
      .rw [Cz c]
       have e:J5 x y=De x.Deg y.Deg:=by unfold J5 C3; rw [if_pos c]
       rw [e]
       by_cases hc:x.Deg=y.Deg
       .rw [Cz hc,if_pos (Ep.2 hc)]; rfl
       .rw [Cv hc,X0 _ _ hc,if_neg (fun e=>hc (Ep.1 e))]; rfl
      .have e:J5 x y=Jc x.Lin y.Lin:=by unfold J5 C3; rw [if_neg c]
       rw [Cv c,e,if_neg c]; rfl
     .rintro (r | u) f
      .rw [f.1]
      .rw [show Dt J5 a.Atoms b.Atoms=0 from f]
    .rw [Cv (by omega),if_neg h',X0 _ _ (by omega)]; rfl
 .rw [Cv (by omega),if_neg h,X0 _ _ (by omega)]; rfl
def J6 {α:Type} (f:α->Int) (l:List α) (x:α) (j:Nat):Bool:=j==0||(match l[j-1]? with | some y=>decide (f y<f x) | none=>false)
def Rf (l:List Da) (x:Da) (j:Nat):Bool:=decide (-1<=x.Var/\x.Var<3000/\x.Coef≠0/\-1048576<=x.Coef/\x.Coef<=1048576)&&J6 (·.Var) l x j
def G9 (a:Cu):Bool:=decide (-1048576<=a.Const/\a.Const<=1048576/\a.Terms.length<=16)&&a.Terms.zipIdx.all (fun q=>Rf a.Terms q.1 q.2)
theorem Ai5 (n:Int):P7 n=some (decide (-1048576<=n/\n<=1048576)):=by
 unfold P7
 by_cases h:(-1048576:Int)<=n <;> simp [h]
theorem Asl (n:Int):S3 n=some (decide (-1<=n/\n<3000)):=by
 unfold S3
 by_cases h:(-1:Int)<=n <;> simp [h]
theorem Acq {α S E:Type} (f:α->Int) (l:List α) {x:α} {j:Nat} (hx:l[j]? = some x) (i:l.length<4611686018427387904) (c b:Option (S⊕E)) :
  (bif decide ((j:Int)>0) then ((Af l (Ac ((j:Int)-1))).bind fun g=>bif decide (f g>=f x) then c else b) else b)=bif J6 f l x j then b else c:=by
 have hj:=Dd hx
 unfold J6
 by_cases h:j=0
 .subst h; rfl
 .rw [Aj (by omega)]
  have e:Ac ((j:Int)-1)=((j-1:Nat):Int):=by rw [Ac,Bt] <;> omega
  have hy:l[j-1]? = some l[j-1]:=Br (by omega)
  rw [e,Cf rfl hy,hy]
  have h0:(j==0)=false:=by simpa using h
  simp only [cond_true,Ad,h0,Bool.false_or]
  by_cases hc:f l[j-1]<f x
  .rw [Ap (by omega),Aj hc]; rfl
  .rw [Aj (by omega),Ap hc]; rfl
theorem Ai6 (a:Cu):Lc a=some (G9 a):=by
 unfold Lc G9
 rw [Ai5]
 simp only [Ad]
 by_cases h1 : -1048576<=a.Const/\a.Const<=1048576
 .rw [Aj h1]
  by_cases h2:a.Terms.length<=16
  .rw [Ap (by omega:¬(a.Terms.length:Int)>16),Aj ⟨h1.1,h1.2,h2⟩]
   simp only [bnt,cond_false,Ad,Bool.true_and]
   refine (O1 a.Terms (fun q=>Rf a.Terms q.1 q.2) (fun j=>(j:Int)) rfl (by omega) (rt:=true) (rf:=false) ?_ ?_).trans (by rw [Ll])
   .intro j x hx _ h1 h2 h3
    simp only [h1,h2,h3,cond_true,Ad,Asl,Ai5,Acq (·.Var) a.Terms hx (by omega),Rf]
    by_cases g1 : -1<=x.Var/\x.Var<3000
    .by_cases g2:x.Coef=0
     .rw [Aj g1,Eh g2,Ap (fun h=>h.2.2.1 g2)]
      exact ⟨(fun h=>by cases h),fun _=>⟨.inl false,rfl,rfl⟩⟩
     .by_cases g3 : -1048576<=x.Coef/\x.Coef<=1048576
      .rw [Aj g1,Cl g2,Aj g3,Aj ⟨g1.1,g1.2,g2,g3.1,g3.2⟩]
       cases J6 (·.Var) a.Terms x j with
       | true=>exact ⟨fun _=>rfl,fun h=>by cases h⟩
       | false=>exact ⟨(fun h=>by cases h),fun _=>⟨.inl false,rfl,rfl⟩⟩
      .rw [Aj g1,Cl g2,Ap g3,Ap (fun h=>g3 h.2.2.2)]
       exact ⟨(fun h=>by cases h),fun _=>⟨.inl false,rfl,rfl⟩⟩
    .rw [Ap g1,Ap (fun h=>g1 ⟨h.1,h.2.1⟩)]
     exact ⟨(fun h=>by cases h),fun _=>⟨.inl false,rfl,rfl⟩⟩
   .intro h _
    exact ⟨.inr (),by simp only [h]; rfl,rfl⟩
  .rw [Aj (by omega:(a.Terms.length:Int)>16),Ap (fun h=>h2 h.2.2)]; rfl
 .rw [Ap h1,Ap (fun h : -1048576<=a.Const/\a.Const<=1048576/\a.Terms.length<=16=>h1 ⟨h.1,h.2.1⟩)]; rfl
theorem Asm (a:Cu):Oe a=some (G9 a):=by
 unfold Oe G9
 by_cases h2:a.Terms.length<=16
 .rw [Ap (by omega:¬(a.Terms.length:Int)>16)]
  by_cases h1 : -1048576<=a.Const
  .rw [Ap (by omega:¬a.Const < -1048576)]
   by_cases h3:a.Const<=1048576
   .rw [Ap (by omega:¬a.Const>1048576),Aj ⟨h1,h3,h2⟩]
    simp only [cond_false,Ad,Bool.true_and]
    refine (O1 a.Terms (fun q=>Rf a.Terms q.1 q.2) (fun j=>(j:Int)) rfl (by omega) (rt:=true) (rf:=false) ?_ ?_).trans (by rw [Ll])
    .intro j x hx _ h1 h2 h3
     simp only [h1,h2,h3,cond_true,Ad,Acq (·.Var) a.Terms hx (by omega),Rf]
     by_cases g1:x.Var < -1
     .rw [Aj g1,Ap (fun h=>by omega)]
      exact ⟨(fun h=>by cases h),fun _=>⟨.inl false,rfl,rfl⟩⟩
     by_cases g2:x.Var>=3000
     .rw [Ap g1,Aj g2,Ap (fun h=>by omega)]
      exact ⟨(fun h=>by cases h),fun _=>⟨.inl false,rfl,rfl⟩⟩
     by_cases g3:x.Coef=0
     .rw [Ap g1,Ap g2,Eh g3,Ap (fun h=>by omega)]
      exact ⟨(fun h=>by cases h),fun _=>⟨.inl false,rfl,rfl⟩⟩
     by_cases g4:x.Coef < -1048576
     .rw [Ap g1,Ap g2,Cl g3,Aj g4,Ap (fun h=>by omega)]
      exact ⟨(fun h=>by cases h),fun _=>⟨.inl false,rfl,rfl⟩⟩
     by_cases g5:x.Coef>1048576
     .rw [Ap g1,Ap g2,Cl g3,Ap g4,Aj g5,Ap (fun h=>by omega)]
      exact ⟨(fun h=>by cases h),fun _=>⟨.inl false,rfl,rfl⟩⟩
     rw [Ap g1,Ap g2,Cl g3,Ap g4,Ap g5,Aj (by omega)]
     cases J6 (·.Var) a.Terms x j with
     | true=>exact ⟨fun _=>rfl,fun h=>by cases h⟩
     | false=>exact ⟨(fun h=>by cases h),fun _=>⟨.inl false,rfl,rfl⟩⟩
    .intro h _
     exact ⟨.inr (),by simp only [h]; rfl,rfl⟩
   .rw [Aj (by omega:a.Const>1048576),Ap (fun h : -1048576<=a.Const/\a.Const<=1048576/\a.Terms.length<=16=>by omega)]; rfl
  .rw [Aj (by omega:a.Const < -1048576),Ap (fun h : -1048576<=a.Const/\a.Const<=1048576/\a.Terms.length<=16=>by omega)]; rfl
 .rw [Aj (by omega:(a.Terms.length:Int)>16),Ap (fun h : -1048576<=a.Const/\a.Const<=1048576/\a.Terms.length<=16=>by omega)]; rfl
end Go.Ab
namespace Go.Ab
open Go
structure M6 (data:List Ax) (vars:List Ah) (res:Ah):Prop where
 vd:G7 data
 sh:J3 data
 sz:∀v t,tyX vars res v=some t->A7 t<=200
 nv:vars.length<=3000
theorem Asn (vars:List Ah) (res:Ah) (v:Int):(tyX vars res v).isSome=decide (-1<=v/\v<vars.length):=by
 unfold tyX
 by_cases h:v = -1
 .rw [if_pos h]; subst h; rw [Aj (by omega)]; rfl
 .rw [if_neg h]
  cases hx:Af vars v with
  | none=>rcases M2 hx with h' | h' <;> rw [Ap (by omega)] <;> rfl
  | some t=>have:=E8 hx; rw [Aj (by omega)]; rfl
section
variable (b1:List (ByteArray×Int)) (b2:List (ByteArray×List Dk)) (data:List Ax) (vars:List Ah) (res:Ah)
theorem Ai7 (v:Int) (f c:Int) (b:List Ah):N4 v b1 b2 data vars f c b=some (tyX vars res v).isSome:=by
 rw [Asn]
 unfold N4
 by_cases h:v>=-1
 .rw [Aj h]
  by_cases h':v<(vars.length:Int)
  .rw [Aj h',Aj ⟨h,h'⟩]; rfl
  .rw [Ap h',Ap (fun g=>h' g.2)]; rfl
 .rw [Ap h,Ap (fun g : -1<=v/\v<(vars.length:Int)=>h g.1)]; rfl
theorem Aso {v:Int} {t:Ah} (ht:tyX vars res v=some t):Ma v b1 b2 data vars res.Kind res.Num res.Args=some t:=by
 unfold Ma
 unfold tyX at ht
 by_cases h:v = -1
 .rw [if_pos h] at ht; cases ht
  have b:(Ah.mk res.Kind res.Num res.Args)=res:=by cases res; rfl
  rw [Eh h,b]; rfl
 .rw [if_neg h] at ht
  rw [Cl h,ht]; rfl
def Rg (t:Da):Bool:=match tyX vars res t.Var with | some u=>u.Kind==1 | none=>false
def Je (l:Cu):Bool:=l.Terms.all (Rg vars res)
theorem Asp (l:Cu) (c:l.Terms.length<=1048576):N0 l b1 b2 data vars res.Kind res.Num res.Args=some (Je vars res l):=by
 unfold N0 Wa Wd
 have key:=Abo l.Terms (fun t=>!Rg vars res t) (by omega) (J:=fun z=>match z with | .inl b=>some b | .inr _=>some (-1)) (step:=fun v3=>bif (decide (v3<(l.Terms.length:Int))) then ((Af l.Terms v3).bind fun v4=>(P8 v4 b1 b2 data vars res.Kind res.Num res.Args).bind fun v5=>bif v5 then some (.inr (.inl v3)) else some (.inl (Ac (v3+1)))) else some (.inr (.inr ()))) (by
  intro j x hx h1 h2 h3
  have e:P8 x b1 b2 data vars res.Kind res.Num res.Args=some (!Rg vars res x):=by
   unfold P8 Rg
   rw [Ai7 b1 b2 data vars res,Ad]
   cases ht:tyX vars res x.Var with
   | none=>rfl
   | some t=>rw [Aso b1 b2 data vars res ht]; rfl
  simp only [h1,h2,h3,cond_true,Ad,e]) (fun h=>by simp only [h]; rfl) (fun _=>rfl) rfl
 obtain ⟨i,i1,i2⟩:=key
 erw [i1]
 simp only [Ad,i2]
 congr 1
 unfold Je
 rw [List.any_eq_not_all_not]; simp
theorem Ai8 (x:Cm) (v:Int):Od x v=some (match tyX x.Vars x.Res v with | some t=>(t,true) | none=>(⟨0,0,[]⟩,false)):=by
 unfold Od tyX
 by_cases h:v = -1
 .rw [Eh h,if_pos h]; rfl
 .rw [Cl h,if_neg h]
  cases hx:Af x.Vars v with
  | none=>
   rcases M2 hx with h' | h'
   .simp only [Aj h',cond_true,cond_false,Ad]
   .by_cases h0:v<0
    .simp only [Aj h0,cond_true,cond_false,Ad]
    .simp only [Ap h0,Aj (show v>=(x.Vars.length:Int) from h'),cond_true,cond_false,Ad]
  | some t=>
   obtain ⟨a1,a2,_⟩:=E8 hx
   simp only [Ap (by omega:¬v<0),Ap (by omega:¬v>=(x.Vars.length:Int)),cond_false,Ad]
theorem Asq (x:Cm) (l:Cu) (b:l.Terms.length<=1048576):Of x l=some (Je x.Vars x.Res l):=by
 unfold Of
 refine (Lk l.Terms (Rg x.Vars x.Res) (fun j=>(j:Int)) rfl (by omega) (rt:=true) (rf:=false) ?_ ?_).trans (by rw [Ll]; rfl)
 .intro j t ht h1 h2 h3
  simp only [h1,h2,h3,cond_true,Ad,Ai8]
  unfold Rg
  cases hu:tyX x.Vars x.Res t.Var with
  | none=>exact ⟨(fun h=>by cases h),fun _=>⟨.inl false,rfl,rfl⟩⟩
  | some u=>
   simp only [bnt,cond_false]
   by_cases hk:u.Kind=1
   .rw [Eh hk,Cz hk]
    exact ⟨fun _=>rfl,fun h=>by cases h⟩
   .rw [Cl hk,Cv hk]
    exact ⟨(fun h=>by cases h),fun _=>⟨.inl false,rfl,rfl⟩⟩
 .intro h; exact ⟨.inr (),by simp only [h]; rfl,rfl⟩
def Ed (f:Ch):Int:=match tyX vars res f.Var with | some t=>Fi (F4 data f.Index t) | none => -1
theorem Acr (f:Ch) : -1<=Ed data vars res f/\Ed data vars res f<=6:=by
 unfold Ed
 cases tyX vars res f.Var with
 | none=>simp
 | some t=>rcases Aci (F4 data f.Index t) with ⟨h,_⟩ | ⟨d,_,h2,h⟩ <;> simp only [h] <;> omega
def Lt (m:Bb):Bool:=m.Factors.all (fun f=>decide (0<=Ed data vars res f))&&m.Atoms.all (fun a=>decide (0<=a.Deg)&&Je vars res a.Lin)
def Df (l:List Ch):Int:=(l.map (Ed data vars res)).sum
def D6 (l:List B4):Int:=(l.map (·.Deg)).sum
def Rh (l:List B4) (x:B4) (j:Nat):Bool:=j==0||(match l[j-1]? with | some y=>decide (Jc y.Lin x.Lin<0) | none=>false)
def Lu (l:List Ch) (f:Ch) (j:Nat):Bool:=decide (1<=Ed data vars res f)&&J6 (·.Var) l f j
def Jf (l:List B4) (a:B4) (j:Nat):Bool:=decide (1<=a.Deg)&&G9 a.Lin && !(a.Lin.Terms.length==0)&&Je vars res a.Lin&&Rh l a j
def Gp (m:Bb):Bool:=m.Factors.zipIdx.all (fun q=>Lu data vars res m.Factors q.1 q.2)&&m.Atoms.zipIdx.all (fun q=>Jf vars res m.Atoms q.1 q.2)&&decide (Df data vars res m.Factors+D6 m.Atoms<=6)
variable {b1 data vars res}
theorem Acs (hc:M6 data vars res) (i:E4 data vars res b1) (f:Ch) (g:I64 f.Var) (h:iR f.Index) (hi:Cr f.Index<=1048576) (b:(tyX vars res f.Var).isSome=true) :
  ∃c,Kl f.Var f.Index b1 b2 data vars res.Kind res.Num res.Args=some (Ed data vars res f,c)/\E4 data vars res c:=by
 cases ht:tyX vars res f.Var with
 | none=>rw [ht] at b; cases b
 | some t=>
  obtain ⟨c,h1,h2⟩:=Ash hc.vd.szv hc.sh b1 b2 vars res i f.Var f.Index t ht (hc.sz _ _ ht) g h hi
  refine ⟨c,?_,h2⟩
  rw [h1]; unfold Ed; rw [ht]
theorem Asr (hc:M6 data vars res) (V:E4 data vars res b1) (m:Bb) (l:MSz m) :
  ∃s,Tb m b1 b2 data vars res.Kind res.Num res.Args=some (Lt data vars res m,s)/\E4 data vars res s:=by
 have X:=l.nf
 have ha:=l.na
 unfold Tb
 refine W3 (fun s=>(Lt data vars res m,s)) ?_
 obtain ⟨r,U,N⟩:=T1 (M:=List (ByteArray×Int)) (R:=Bool×List (ByteArray×Int)) m.Factors (fun q=>decide (0<=Ed data vars res q.1)) (fun j o=>((j:Int),o)) (E4 data vars res)
  (fun r=>E4 data vars res r.2/\r.1=m.Atoms.all (fun a=>decide (0<=a.Deg)&&Je vars res a.Lin)) (fun r=>E4 data vars res r.2/\r.1=false) b1
  (s0:=((0:Int),b1))
  (step:=(fun (A,x)=>
   bif (decide (A<(m.Factors.length:Int))) then (
   (Af m.Factors A).bind fun v8=>
   (N4 v8.Var x b2 data vars res.Kind res.Num res.Args).bind fun B=>
   bif (!B) then some (.inr (.inl (false,x)))
   else (
   (Kl v8.Var v8.Index x b2 data vars res.Kind res.Num res.Args).bind fun g=>
   bif (decide (g.1<(0:Int))) then some (.inr (.inl (false,g.2)))
   else some (.inl ((Ac (A+1)),g.2))))
   else some (.inr (.inr x)):Int×List (ByteArray×Int)->Option ((Int×List (ByteArray×Int))⊕((Bool×List (ByteArray×Int))⊕List (ByteArray×Int)))))
  (J:=(fun z=>match z with
   | .inl (L,I)=>some (L,I)
   | .inr b=>(An (S:=Int) (E:=((Bool×(List (ByteArray×Int)))⊕Unit)) (fun c=>
     bif (decide (c<(m.Atoms.length:Int))) then (
     (Af m.Atoms c).bind fun u=>
     bif (decide (u.Deg<(0:Int))) then some (.inr (.inl (false,b)))
     else (
     (N0 u.Lin b b2 data vars res.Kind res.Num res.Args).bind fun v21=>
     bif (!v21) then some (.inr (.inl (false,b)))
     else some (.inl (Ac (c+1)))))
     else some (.inr (.inr ()))) 0).bind fun z=>match z with
      | .inl (G,D)=>some (G,D)
      | .inr _=>some (true,b)))
  rfl V (by omega) (by
   intro j f o y hx _ h1 h2 h3
   have k:=Bu hx
   simp only [h1,h2,h3,cond_true,Ad,Ai7 o b2 data vars res]
   cases i:(tyX vars res f.Var).isSome with
   | false=>
    have e:Ed data vars res f = -1:=by
     unfold Ed
     cases ht:tyX vars res f.Var with
     | none=>rfl
     | some t=>rw [ht] at i; cases i
    rw [e]
    exact ⟨(fun h=>by cases h),fun _=>⟨_,rfl,_,rfl,y,rfl⟩⟩
   | true=>
    obtain ⟨s,d1,d2⟩:=Acs b2 hc y f (l.fr f k).2 (l.fr f k).1 (l.fi f k) i
    simp only [bnt,cond_false,d1,Ad]
    by_cases h0:0<=Ed data vars res f
    .rw [Aj h0,Ap (by omega)]
     exact ⟨fun _=>⟨s,rfl,d2⟩,fun h=>by cases h⟩
    .rw [Ap h0,Aj (by omega)]
     exact ⟨(fun h=>by cases h),fun _=>⟨_,rfl,_,rfl,d2,rfl⟩⟩) (by
   intro o y h1 _
   refine ⟨.inr o,by simp only [h1]; rfl,?_⟩
   refine ⟨(m.Atoms.all (fun a=>decide (0<=a.Deg)&&Je vars res a.Lin),o),?_,y,rfl⟩
   refine (Lk m.Atoms (fun a=>decide (0<=a.Deg)&&Je vars res a.Lin) (fun j=>(j:Int)) rfl (by omega) (rt:=(true,o)) (rf:=(false,o)) ?_ ?_).trans (by cases m.Atoms.all (fun a=>decide (0<=a.Deg)&&Je vars res a.Lin) <;> rfl)
   .intro j a hx h1 h2 h3
    simp only [h1,h2,h3,cond_true,Ad,Asp o b2 data vars res a.Lin (l.al a (Bu hx))]
    by_cases h0:0<=a.Deg
    .rw [Aj h0,Ap (by omega)]
     cases Je vars res a.Lin with
     | true=>exact ⟨fun _=>rfl,fun h=>by cases h⟩
     | false=>exact ⟨(fun h=>by cases h),fun _=>⟨_,rfl,rfl⟩⟩
    .rw [Ap h0,Aj (by omega)]
     exact ⟨(fun h=>by cases h),fun _=>⟨_,rfl,rfl⟩⟩
   .intro h; exact ⟨.inr (),by simp only [h]; rfl,rfl⟩)
 refine ⟨r,U,r.2,?_,?_⟩
 .unfold Lt
  rw [<-W9]
  rcases N with ⟨h1,h2,h3⟩ | ⟨h1,h2,h3⟩
  .rw [h1,Bool.true_and,<-h3]
  .rw [h1,Bool.false_and,<-h3]
 .rcases N with ⟨h1,h2,h3⟩ | ⟨h1,h2,h3⟩ <;> exact h2
theorem Ai9 (g:Ch->Int) {l:List Ch} {j:Nat} {x:Ch} (h:l[j]? = some x):((l.take (j+1)).map g).sum=((l.take j).map g).sum+g x:=by
 rw [C2 h]; simp
theorem Aja {l:List B4} {j:Nat} {x:B4} (h:l[j]? = some x):D6 (l.take (j+1))=D6 (l.take j)+x.Deg:=by
 unfold D6; rw [C2 h]; simp
theorem Ass (hc:M6 data vars res) (A:E4 data vars res b1) (m:Bb) (k:MSz m) (hp:Lt data vars res m=true) :
  ∃p:Int×List (ByteArray×Int),Tc m b1 b2 data vars res.Kind res.Num res.Args=some p/\(decide (p.1>6) = !decide (Df data vars res m.Factors+D6 m.Atoms<=6))/\E4 data vars res p.2:=by
 have D:=k.nf
 have ha:=k.na
 unfold Lt at hp
 rw [Db,List.all_eq_true,List.all_eq_true] at hp
 unfold Tc
 refine Dr (fun (v5,u,g)=>∃j:Nat,u=j/\j<=m.Factors.length/\E4 data vars res g/\0<=v5/\v5<=12/\(v5=Df data vars res (m.Factors.take j)\/(6<v5/\6<Df data vars res (m.Factors.take j)))) (fun (_,u,_)=>m.Factors.length-u.toNat)
  (fun (v5,g)=>E4 data vars res g/\0<=v5/\v5<=12/\(v5=Df data vars res m.Factors\/(6<v5/\6<Df data vars res m.Factors))) ⟨0,rfl,by omega,A,by omega,by omega,.inl (by simp [Df])⟩ ?_ ?_
 .rintro ⟨v5,u,g⟩ ⟨j,rfl,hj,q,h0,h12,l⟩
  rcases Nat.lt_or_ge j m.Factors.length with h | h
  .have hx:m.Factors[j]? = some m.Factors[j]:=Br h
   generalize m.Factors[j]=f at hx
   have c:=Bu hx
   have hd:=hp.1 f c
   rw [decide_eq_true_eq] at hd
   have B:=(Acr data vars res f).2
   have es:Df data vars res (m.Factors.take (j+1))=Df data vars res (m.Factors.take j)+Ed data vars res f:=Ai9 _ hx
   simp only [Aj (by omega:(j:Int)<(m.Factors.length:Int)),cond_true,Cf rfl hx,Ad,C1 h (by omega)]
   by_cases s:v5<=6
   .have x:(tyX vars res f.Var).isSome=true:=by
     unfold Ed at hd
     cases ht:tyX vars res f.Var with
     | none=>rw [ht] at hd; have hd:(0:Int)<=-1:=hd; omega
     | some t=>rfl
    obtain ⟨E,d1,d2⟩:=Acs b2 hc q f (k.fr f c).2 (k.fr f c).1 (k.fi f c) x
    rw [Aj s]
    simp only [cond_true,d1,Ad]
    have b:Ac (v5+Ed data vars res f)=v5+Ed data vars res f:=by rw [Ac,Bt] <;> omega
    exact .inl ⟨_,rfl,⟨j+1,rfl,by omega,d2,by simp only [b]; omega,by simp only [b]; omega,by simp only [b,es]; omega⟩,by simp; omega⟩
   .rw [Ap s]
    exact .inl ⟨_,rfl,⟨j+1,rfl,by omega,q,h0,h12,by simp only [es]; omega⟩,by simp; omega⟩
  .have:j=m.Factors.length:=by omega
   subst this
   rw [List.take_length] at l
   exact .inr ⟨(v5,g),by simp,q,h0,h12,l⟩
 .rintro ⟨v5,g⟩ ⟨q,h0,h12,l⟩
  simp only
  refine Dr (fun (v,i)=>∃j:Nat,i=j/\j<=m.Atoms.length/\0<=v/\v<=13/\(v=Df data vars res m.Factors+D6 (m.Atoms.take j)\/(6<v/\6<Df data vars res m.Factors+D6 (m.Atoms.take j)))) (fun (_,i)=>m.Atoms.length-i.toNat)
   (fun v=>(v=Df data vars res m.Factors+D6 m.Atoms\/(6<v/\6<Df data vars res m.Factors+D6 m.Atoms))) ⟨0,rfl,by omega,h0,by omega,by simpa [D6] using l⟩ ?_ ?_
  .rintro ⟨v,i⟩ ⟨j,rfl,hj,g0,g13,z⟩
   rcases Nat.lt_or_ge j m.Atoms.length with h | h
   .have hx:m.Atoms[j]? = some m.Atoms[j]:=Br h
    generalize m.Atoms[j]=a at hx
    have hd:=hp.2 a (Bu hx)
    rw [Db,decide_eq_true_eq] at hd
    have es:=Aja hx
    simp only [Aj (by omega:(j:Int)<(m.Atoms.length:Int)),cond_true,Cf rfl hx,Ad,C1 h (by omega)]
    by_cases s:v<=6
    .rw [Aj s]
     simp only [cond_true]
     by_cases y:7<a.Deg
     .rw [if_pos y]
      have b:Ac (v+7)=v+7:=by rw [Ac,Bt] <;> omega
      exact .inl ⟨_,rfl,⟨j+1,rfl,by omega,by simp only [b]; omega,by simp only [b]; omega,by simp only [b,es]; omega⟩,by simp; omega⟩
     .rw [if_neg y]
      have b:Ac (v+a.Deg)=v+a.Deg:=by rw [Ac,Bt] <;> omega
      exact .inl ⟨_,rfl,⟨j+1,rfl,by omega,by simp only [b]; omega,by simp only [b]; omega,by simp only [b,es]; omega⟩,by simp; omega⟩
    .rw [Ap s]
     exact .inl ⟨_,rfl,⟨j+1,rfl,by omega,g0,g13,by simp only [es]; omega⟩,by simp; omega⟩
   .have:j=m.Atoms.length:=by omega
    subst this
    rw [List.take_length] at z
    exact .inr ⟨v,by simp,z⟩
  .intro v l
   refine ⟨(v,g),rfl,?_,q⟩
   by_cases h:Df data vars res m.Factors+D6 m.Atoms<=6
   .rw [Aj h,Ap (by simp only; omega)]; rfl
   .rw [Ap h,Aj (by simp only; omega)]; rfl
end
end Go.Ab
namespace Go.Ab
open Go
theorem Ajb {S E:Type} (F:Cu->Cu->Option Int) (l:List B4) (g:∀y∈l,∀x,F y.Lin x=some (Jc y.Lin x)) {x:B4} {j:Nat} (hx:l[j]? = some x) (i:l.length<4611686018427387904) (c b:Option (S⊕E)) :
  (bif decide ((j:Int)>0) then ((Af l (Ac ((j:Int)-1))).bind fun f=>(F f.Lin x.Lin).bind fun v28=>bif decide (v28>=0) then c else b) else b)=bif Rh l x j then b else c:=by
 have hj:=Dd hx
 unfold Rh
 by_cases h:j=0
 .subst h; rfl
 .rw [Aj (by omega)]
  have e:Ac ((j:Int)-1)=((j-1:Nat):Int):=by rw [Ac,Bt] <;> omega
  have hy:l[j-1]? = some l[j-1]:=Br (by omega)
  rw [e,Cf rfl hy,hy]
  have h0:(j==0)=false:=by simpa using h
  simp only [cond_true,Ad,h0,Bool.false_or,g _ (List.getElem_mem (by omega:j-1<l.length))]
  by_cases hc:Jc l[j-1].Lin x.Lin<0
  .rw [Ap (by omega),Aj hc]; rfl
  .rw [Aj (by omega),Ap hc]; rfl
section
variable {b1:List (ByteArray×Int)} (b2:List (ByteArray×List Dk)) {data:List Ax} {vars:List Ah} {res:Ah}
def Uf (data:List Ax) (vars:List Ah) (res:Ah) (l:List Ch) (f:Ch) (j:Nat):Bool:=!(Ed data vars res f==0)&&J6 (·.Var) l f j
def M7 (l:List B4) (a:B4) (j:Nat):Bool:=!(a.Deg==0)&&G9 a.Lin && !(a.Lin.Terms.length==0)&&Rh l a j
theorem Ast (m:Bb):Gp data vars res m=(Lt data vars res m&&decide (Df data vars res m.Factors+D6 m.Atoms<=6)&&m.Factors.zipIdx.all (fun q=>Uf data vars res m.Factors q.1 q.2)&&m.Atoms.zipIdx.all (fun q=>M7 m.Atoms q.1 q.2)):=by
 rw [Bool.eq_iff_iff]
 unfold Gp Lt
 rw [<-W9 m.Factors (fun f=>decide (0<=Ed data vars res f)),<-W9 m.Atoms (fun a=>decide (0<=a.Deg)&&Je vars res a.Lin)]
 simp only [Db,List.all_eq_true,Lu,Jf,Uf,M7,decide_eq_true_eq,Bool.not_eq_true',beq_eq_false_iff_ne,ne_eq]
 constructor
 .rintro ⟨⟨h1,h2⟩,h3⟩
  refine ⟨⟨⟨⟨fun q hq=>?_,fun q hq=>?_⟩,h3⟩,fun q hq=>?_⟩,fun q hq=>?_⟩
  .have:=(h1 q hq).1; omega
  .have:=h2 q hq; exact ⟨by omega,this.1.2⟩
  .have:=h1 q hq; exact ⟨by omega,this.2⟩
  .have:=h2 q hq; exact ⟨⟨⟨by omega,this.1.1.1.2⟩,this.1.1.2⟩,this.2⟩
 .rintro ⟨⟨⟨⟨h1,h2⟩,h3⟩,c⟩,b⟩
  refine ⟨⟨fun q hq=>?_,fun q hq=>?_⟩,h3⟩
  .have:=h1 q hq; have g:=c q hq; exact ⟨by omega,g.2⟩
  .have:=h2 q hq; have g:=b q hq; exact ⟨⟨⟨⟨by omega,g.1.1.2⟩,g.1.2⟩,this.2⟩,g.2⟩
theorem Asu (hc:M6 data vars res) (hm:E4 data vars res b1) (m:Bb) (l:MSz m) :
  ∃D,P5 m b1 b2 data vars res.Kind res.Num res.Args=some (Gp data vars res m,D)/\E4 data vars res D:=by
 have hf:=l.nf
 have ha:=l.na
 rw [Ast]
 unfold P5
 obtain ⟨b,p1,p2⟩:=Asr b2 hc hm m l
 rw [p1]
 cases hp:Lt data vars res m with
 | false=>exact ⟨b,rfl,p2⟩
 | true=>
  obtain ⟨q,q1,q2,q3⟩:=Ass b2 hc p2 m l hp
  simp only [Ad,bnt,cond_false,q1,q2]
  cases hs:decide (Df data vars res m.Factors+D6 m.Atoms<=6) with
  | false=>exact ⟨q.2,rfl,q3⟩
  | true=>
   simp only [bnt,cond_false,Bool.true_and]
   have Z:∀f∈m.Factors,(tyX vars res f.Var).isSome=true:=by
    intro f g
    unfold Lt at hp
    rw [Db,List.all_eq_true] at hp
    have hd:=hp.1 f g
    rw [decide_eq_true_eq] at hd
    unfold Ed at hd
    cases ht:tyX vars res f.Var with
    | none=>rw [ht] at hd; have hd:(0:Int)<=-1:=hd; omega
    | some t=>rfl
   obtain ⟨r,r1,r2⟩:=T1 (M:=List (ByteArray×Int)) (R:=Bool×List (ByteArray×Int)) m.Factors (fun q=>Uf data vars res m.Factors q.1 q.2) (fun j o=>((j:Int),o)) (E4 data vars res)
    (fun r=>E4 data vars res r.2/\r.1=m.Atoms.zipIdx.all (fun q=>M7 m.Atoms q.1 q.2)) (fun r=>E4 data vars res r.2/\r.1=false) q.2
    (s0:=((0:Int),q.2))
    (step:=(fun (v9,A)=>
     bif (decide (v9<(m.Factors.length:Int))) then (
     (Af m.Factors v9).bind fun s=>
     (Kl s.Var s.Index A b2 data vars res.Kind res.Num res.Args).bind fun i=>
     bif (i.1==(0:Int)) then some (.inr (.inl (false,i.2)))
     else (
     bif (decide (v9>(0:Int))) then (
     (Af m.Factors (Ac (v9-1))).bind fun N=>
     bif (decide (N.Var>=s.Var)) then some (.inr (.inl (false,i.2)))
     else some (.inl ((Ac (v9+1)),i.2)))
     else some (.inl ((Ac (v9+1)),i.2))))
     else some (.inr (.inr A)):Int×List (ByteArray×Int)->Option ((Int×List (ByteArray×Int))⊕((Bool×List (ByteArray×Int))⊕List (ByteArray×Int)))))
    (J:=(fun z=>match z with
     | .inl (Y,X)=>some (Y,X)
     | .inr u=>(An (S:=Int) (E:=((Bool×(List (ByteArray×Int)))⊕Unit)) (fun c=>
       bif (decide (c<(m.Atoms.length:Int))) then (
       (Af m.Atoms c).bind fun k=>
       (show Option Bool from
       bif (k.Deg==(0:Int)) then some true
       else (
       (Lc k.Lin).bind fun L=>
       bif (!L) then some true
       else some ((k.Lin.Terms.length:Int)==(0:Int)))).bind fun I=>
       bif I then some (.inr (.inl (false,u)))
       else (
       bif (decide (c>(0:Int))) then (
       (Af m.Atoms (Ac (c-1))).bind fun G=>
       (Jw G.Lin k.Lin).bind fun v28=>
       bif (decide (v28>=(0:Int))) then some (.inr (.inl (false,u)))
       else some (.inl (Ac (c+1))))
       else some (.inl (Ac (c+1)))))
       else some (.inr (.inr ()))) 0).bind fun z=>match z with
        | .inl (V,U)=>some (V,U)
        | .inr _=>some (true,u)))
    rfl q3 (by omega) (by
     intro j f o hI hx _ h1 h2 h3
     have g:=Bu hx
     obtain ⟨D,d1,d2⟩:=Acs b2 hc hI f (l.fr f g).2 (l.fr f g).1 (l.fi f g) (Z f g)
     simp only [h1,h2,h3,cond_true,Ad,d1,Acq (·.Var) m.Factors hx (by omega),Uf]
     cases (Ed data vars res f==0) with
     | true=>exact ⟨(fun h=>by cases h),fun _=>⟨_,rfl,_,rfl,d2,rfl⟩⟩
     | false=>
      cases J6 (·.Var) m.Factors f j with
      | true=>exact ⟨fun _=>⟨D,rfl,d2⟩,fun h=>by cases h⟩
      | false=>exact ⟨(fun h=>by cases h),fun _=>⟨_,rfl,_,rfl,d2,rfl⟩⟩) (by
     intro o hI h1 _
     refine ⟨.inr o,by simp only [h1]; rfl,?_⟩
     refine ⟨(m.Atoms.zipIdx.all (fun q=>M7 m.Atoms q.1 q.2),o),?_,hI,rfl⟩
     refine (O1 m.Atoms (fun q=>M7 m.Atoms q.1 q.2) (fun j=>(j:Int)) rfl (by omega) (rt:=(true,o)) (rf:=(false,o)) ?_ ?_).trans (by cases m.Atoms.zipIdx.all (fun q=>M7 m.Atoms q.1 q.2) <;> rfl)
     .intro j a hx _ h1 h2 h3
      have B:((a.Lin.Terms.length:Int)==(0:Int))=(a.Lin.Terms.length==0):=Ahy a.Lin.Terms 0
      simp only [h1,h2,h3,cond_true,Ad,Ai6,Ajb Jw m.Atoms (fun y hy x=>Ai3 y.Lin x (by have:=l.al y hy; omega)) hx (by omega),M7,B]
      cases (a.Deg==0) with
      | true=>exact ⟨(fun h=>by cases h),fun _=>⟨_,rfl,rfl⟩⟩
      | false=>
       cases G9 a.Lin with
       | false=>exact ⟨(fun h=>by cases h),fun _=>⟨_,rfl,rfl⟩⟩
       | true=>
        cases (a.Lin.Terms.length==0) with
        | true=>exact ⟨(fun h=>by cases h),fun _=>⟨_,rfl,rfl⟩⟩
        | false=>
         cases Rh m.Atoms a j with
         | true=>exact ⟨fun _=>rfl,fun h=>by cases h⟩
         | false=>exact ⟨(fun h=>by cases h),fun _=>⟨_,rfl,rfl⟩⟩
     .intro h _; exact ⟨.inr (),by simp only [h]; rfl,rfl⟩)
   refine ⟨r.2,?_,?_⟩
   .have e:some r=some (m.Factors.zipIdx.all (fun q=>Uf data vars res m.Factors q.1 q.2)&&m.Atoms.zipIdx.all (fun q=>M7 m.Atoms q.1 q.2),r.2):=by
     rcases r2 with ⟨h1,h2,h3⟩ | ⟨h1,h2,h3⟩
     .rw [h1,Bool.true_and,<-h3]
     .rw [h1,Bool.false_and,<-h3]
    rw [<-e]
    exact r1
   .rcases r2 with ⟨h1,h2,h3⟩ | ⟨h1,h2,h3⟩ <;> exact h2
theorem Ajc (l:List Ch):Df data vars res l<=6*l.length/\-(l.length:Int)<=Df data vars res l:=by
 induction l with
 | nil=>simp [Df]
 | cons x xs ih=>
  have:=Acr data vars res x
  unfold Df at *
  simp only [List.map_cons,List.sum_cons,List.length_cons]
  omega
theorem Ajd (l:List Ch) (h:∀f∈l,0<=Ed data vars res f):0<=Df data vars res l:=by
 induction l with
 | nil=>simp [Df]
 | cons x xs ih=>
  have h1:=h x (by simp)
  have h2:=ih (fun f b=>h f (by simp [b]))
  unfold Df at *
  simp only [List.map_cons,List.sum_cons]
  omega
theorem Ug (l:List B4) (h:∀a∈l,0<=a.Deg):0<=D6 l/\((∀a∈l,a.Deg<=6)->D6 l<=6*l.length)/\∀a∈l,a.Deg<=D6 l:=by
 induction l with
 | nil=>simp [D6]
 | cons x xs ih=>
  have h1:=h x (by simp)
  obtain ⟨i1,i2,i3⟩:=ih (fun f b=>h f (by simp [b]))
  unfold D6 at *
  simp only [List.map_cons,List.sum_cons,List.length_cons]
  refine ⟨by omega,fun g=>?_,fun a ha=>?_⟩
  .have:=g x (by simp)
   have:=i2 (fun a ha=>g a (by simp [ha]))
   omega
  .rcases List.mem_cons.1 ha with rfl | ha
   .omega
   .have:=i3 a ha; omega
end
theorem Asv {x:Cm} (hc:M6 x.Data x.Vars x.Res) (m:Bb) (V:MSz m):∃v,Sx x m=some v/\decide (v<0) = !Gp x.Data x.Vars x.Res m:=by
 have hf:=V.nf
 have ha:=V.na
 unfold Sx
 have a1:∀n,m.Factors.zipIdx.all (fun q=>Lu x.Data x.Vars x.Res m.Factors q.1 q.2)=true->0<=Df x.Data x.Vars x.Res (m.Factors.take n):=by
  intro n h
  refine Ajd _ (fun f hf=>?_)
  obtain ⟨j,hj⟩:=List.getElem?_of_mem (List.mem_of_mem_take hf)
  have:=G0 h hj
  simp only [Lu,Db,decide_eq_true_eq] at this
  omega
 have a6:m.Factors.zipIdx.all (fun q=>Lu x.Data x.Vars x.Res m.Factors q.1 q.2)=false->Gp x.Data x.Vars x.Res m=false:=by
  intro h; unfold Gp; rw [h]; rfl
 obtain ⟨r,r1,r2⟩:=T1 (M:=Unit) (R:=Int) m.Factors (fun q=>Lu x.Data x.Vars x.Res m.Factors q.1 q.2) (fun j _=>(Df x.Data x.Vars x.Res (m.Factors.take j),(j:Int))) (fun _=>True)
  (fun v=>decide (v<0) = !Gp x.Data x.Vars x.Res m) (fun v=>v = -1) ()
  (s0:=((0:Int),(0:Int)))
  (step:=(fun (v9,l)=>
   bif (decide (l<(m.Factors.length:Int))) then (
   (Af m.Factors l).bind fun D=>
   (Od x D.Var).bind fun U=>
   (show Option Bool from
   bif (!U.2) then some true
   else (
   bif (decide (l>(0:Int))) then (
   (Af m.Factors (Ac (l-1))).bind fun B=>
   some (decide (B.Var>=D.Var)))
   else some false)).bind fun a8=>
   bif a8 then some (.inr (.inl (-1)))
   else (
   (Qd x.Data U.1 D.Index).bind fun N=>
   bif (decide (N<(1:Int))) then some (.inr (.inl (-1)))
   else some (.inl ((Ac (v9+N)),(Ac (l+1))))))
   else some (.inr (.inr v9)):Int×Int->Option ((Int×Int)⊕(Int⊕Int))))
  (J:=(fun z=>match z with
   | .inl aa=>some aa
   | .inr a7=>(An (S:=(Int×Int)) (E:=(Int⊕Int)) (fun (v24,g)=>
     bif (decide (g<(m.Atoms.length:Int))) then (
     (Af m.Atoms g).bind fun c=>
     (Oe c.Lin).bind fun v28=>
     bif (!v28) then some (.inr (.inl (-1)))
     else (
     bif ((c.Lin.Terms.length:Int)==(0:Int)) then some (.inr (.inl (-1)))
     else (
     (Of x c.Lin).bind fun A=>
     bif (!A) then some (.inr (.inl (-1)))
     else (
     bif (decide (g>(0:Int))) then (
     (Af m.Atoms (Ac (g-1))).bind fun u=>
     (Ld u.Lin c.Lin).bind fun v31=>
     bif (decide (v31>=(0:Int))) then some (.inr (.inl (-1)))
     else (
     bif (decide (c.Deg<(1:Int))) then some (.inr (.inl (-1)))
     else (
     bif (decide (c.Deg>(6:Int))) then some (.inr (.inl (-1)))
     else some (.inl ((Ac (v24+c.Deg)),(Ac (g+1)))))))
     else (
     bif (decide (c.Deg<(1:Int))) then some (.inr (.inl (-1)))
     else (
     bif (decide (c.Deg>(6:Int))) then some (.inr (.inl (-1)))
     else some (.inl ((Ac (v24+c.Deg)),(Ac (g+1))))))))))
     else some (.inr (.inr v24))) (a7,0)).bind fun z=>match z with
      | .inl G=>some G
      | .inr k=>bif (decide (k>(6:Int))) then some (-1) else some k))
  (by simp [Df]) trivial (by omega) (by
   intro j f _ _ hx _ h1 h2 h3
   have ae:=Bu hx
   have hj:=Dd hx
   have ab:(bif decide ((j:Int)>0) then ((Af m.Factors (Ac ((j:Int)-1))).bind fun B=>some (decide (B.Var>=f.Var))) else some false)=some (!J6 (·.Var) m.Factors f j):=by
    unfold J6
    by_cases h:j=0
    .subst h; rfl
    .rw [Aj (by omega)]
     have e:Ac ((j:Int)-1)=((j-1:Nat):Int):=by rw [Ac,Bt] <;> omega
     have hy:m.Factors[j-1]? = some m.Factors[j-1]:=Br (by omega)
     rw [e,Cf rfl hy,hy]
     have h0:(j==0)=false:=by simpa using h
     simp only [cond_true,Ad,h0,Bool.false_or]
     by_cases hc:m.Factors[j-1].Var<f.Var
     .rw [Ap (by omega),Aj hc]; rfl
     .rw [Aj (by omega),Ap hc]; rfl
   have es:Df x.Data x.Vars x.Res (m.Factors.take (j+1))=Df x.Data x.Vars x.Res (m.Factors.take j)+Ed x.Data x.Vars x.Res f:=Ai9 _ hx
   have hb:=Ajc (data:=x.Data) (vars:=x.Vars) (res:=x.Res) (m.Factors.take j)
   have aj:(m.Factors.take j).length<=1048576:=by simp; omega
   have ah:=Acr x.Data x.Vars x.Res f
   simp only [h1,h2,h3,cond_true,Ad,Ai8,Lu,es]
   cases ht:tyX x.Vars x.Res f.Var with
   | none=>
    have e:Ed x.Data x.Vars x.Res f = -1:=by unfold Ed; rw [ht]
    rw [e]
    exact ⟨(fun h=>by cases h),fun _=>⟨.inl (-1),rfl,_,rfl,rfl⟩⟩
   | some t=>
    have e:Ed x.Data x.Vars x.Res f=Fi (F4 x.Data f.Index t):=by unfold Ed; rw [ht]
    simp only [bnt,cond_false,ab,Ad,Ar3 hc.vd hc.sh t f.Index (hc.sz _ _ ht) (V.fi f ae),<-e]
    cases af:J6 (·.Var) m.Factors f j with
    | false=>exact ⟨(fun h=>by simp at h),fun _=>⟨.inl (-1),rfl,_,rfl,rfl⟩⟩
    | true=>
     simp only [bnt,cond_false,Bool.and_true]
     by_cases h1:1<=Ed x.Data x.Vars x.Res f
     .rw [Aj h1,Ap (by omega)]
      refine ⟨fun _=>⟨(),?_,trivial⟩,fun h=>by cases h⟩
      simp only [cond_false]
      rw [show Ac (Df x.Data x.Vars x.Res (m.Factors.take j)+Ed x.Data x.Vars x.Res f)=Df x.Data x.Vars x.Res (m.Factors.take j)+Ed x.Data x.Vars x.Res f by rw [Ac,Bt] <;> omega]
     .rw [Ap h1,Aj (by omega)]
      exact ⟨(fun h=>by cases h),fun _=>⟨.inl (-1),rfl,_,rfl,rfl⟩⟩) (by
   intro _ _ h1 s
   have ad:=a1 m.Factors.length s
   have ai:=Ajc (data:=x.Data) (vars:=x.Vars) (res:=x.Res) m.Factors
   rw [List.take_length] at ad
   refine ⟨.inr (Df x.Data x.Vars x.Res m.Factors),by simp,?_⟩
   obtain ⟨w,w1,w2⟩:=T1 (M:=Unit) (R:=Int) m.Atoms (fun q=>Jf x.Vars x.Res m.Atoms q.1 q.2&&decide (q.1.Deg<=6)) (fun j _=>(Df x.Data x.Vars x.Res m.Factors+D6 (m.Atoms.take j),(j:Int))) (fun _=>True)
    (fun v=>decide (v<0) = !decide (Df x.Data x.Vars x.Res m.Factors+D6 m.Atoms<=6)) (fun v=>v = -1) ()
    (s0:=(Df x.Data x.Vars x.Res m.Factors,(0:Int)))
    (step:=(fun (v24,g)=>
     bif (decide (g<(m.Atoms.length:Int))) then (
     (Af m.Atoms g).bind fun c=>
     (Oe c.Lin).bind fun v28=>
     bif (!v28) then some (.inr (.inl (-1)))
     else (
     bif ((c.Lin.Terms.length:Int)==(0:Int)) then some (.inr (.inl (-1)))
     else (
     (Of x c.Lin).bind fun A=>
     bif (!A) then some (.inr (.inl (-1)))
     else (
     bif (decide (g>(0:Int))) then (
     (Af m.Atoms (Ac (g-1))).bind fun u=>
     (Ld u.Lin c.Lin).bind fun v31=>
     bif (decide (v31>=(0:Int))) then some (.inr (.inl (-1)))
     else (
     bif (decide (c.Deg<(1:Int))) then some (.inr (.inl (-1)))
     else (
     bif (decide (c.Deg>(6:Int))) then some (.inr (.inl (-1)))
     else some (.inl ((Ac (v24+c.Deg)),(Ac (g+1)))))))
     else (
     bif (decide (c.Deg<(1:Int))) then some (.inr (.inl (-1)))
     else (
     bif (decide (c.Deg>(6:Int))) then some (.inr (.inl (-1)))
     else some (.inl ((Ac (v24+c.Deg)),(Ac (g+1))))))))))
     else some (.inr (.inr v24)):Int×Int->Option ((Int×Int)⊕(Int⊕Int))))
    (J:=(fun z=>match z with
      | .inl G=>some G
      | .inr k=>bif (decide (k>(6:Int))) then some (-1) else some k))
    (by simp [D6]) trivial (by omega) (by
     intro j a _ _ hx I h1 h2 h3
     have X:((a.Lin.Terms.length:Int)==(0:Int))=(a.Lin.Terms.length==0):=Ahy a.Lin.Terms 0
     have es:=Aja hx
     have ak:0<=D6 (m.Atoms.take j)/\D6 (m.Atoms.take j)<=6*1048576:=by
      have Y:∀b∈m.Atoms.take j,1<=b.Deg/\b.Deg<=6:=by
       intro b hb
       obtain ⟨i,hi⟩:=List.getElem?_of_mem hb
       have ac:=Dd hi
       have Z:i<j:=by simp at ac; omega
       rw [List.getElem?_take_of_lt Z] at hi
       have:=I i b Z hi
       simp only [Jf,Db,decide_eq_true_eq] at this
       omega
      obtain ⟨k1,k2,_⟩:=Ug (m.Atoms.take j) (fun b hb=>by have:=Y b hb; omega)
      have:=k2 (fun b hb=>(Y b hb).2)
      have hl:(m.Atoms.take j).length<=1048576:=by simp; omega
      omega
     simp only [h1,h2,h3,cond_true,Ad,Asm,Asq x a.Lin (V.al a (Bu hx)),Ajb Ld m.Atoms (fun y hy x=>Ai4 y.Lin x (by have:=V.al y hy; omega)) hx (by omega),Jf,X,es]
     cases G9 a.Lin with
     | false=>exact ⟨(fun h=>by simp at h),fun _=>⟨.inl (-1),rfl,_,rfl,rfl⟩⟩
     | true=>
      cases (a.Lin.Terms.length==0) with
      | true=>exact ⟨(fun h=>by simp at h),fun _=>⟨.inl (-1),rfl,_,rfl,rfl⟩⟩
      | false=>
       cases Je x.Vars x.Res a.Lin with
       | false=>exact ⟨(fun h=>by simp at h),fun _=>⟨.inl (-1),rfl,_,rfl,rfl⟩⟩
       | true=>
        simp only [bnt,cond_false,Bool.not_false,Bool.and_true]
        cases Rh m.Atoms a j with
        | false=>exact ⟨(fun h=>by simp at h),fun _=>⟨.inl (-1),rfl,_,rfl,rfl⟩⟩
        | true=>
         simp only [cond_true,Bool.and_true]
         by_cases g1:a.Deg<1
         .rw [Aj g1,Ap (by omega:¬1<=a.Deg)]
          exact ⟨(fun h=>by simp at h),fun _=>⟨.inl (-1),rfl,_,rfl,rfl⟩⟩
         .by_cases g2:a.Deg>6
          .rw [Ap g1,Aj g2,Ap (by omega:¬a.Deg<=6)]
           exact ⟨(fun h=>by simp at h),fun _=>⟨.inl (-1),rfl,_,rfl,rfl⟩⟩
          .rw [Ap g1,Ap g2,Aj (by omega:a.Deg<=6),Aj (by omega:1<=a.Deg)]
           refine ⟨fun _=>⟨(),?_,trivial⟩,fun h=>by cases h⟩
           simp only [cond_false]
           rw [show Ac (Df x.Data x.Vars x.Res m.Factors+D6 (m.Atoms.take j)+a.Deg)=Df x.Data x.Vars x.Res m.Factors+(D6 (m.Atoms.take j)+a.Deg) by rw [Ac,Bt] <;> omega]) (by
     intro _ _ h1 L
     refine ⟨.inr (Df x.Data x.Vars x.Res m.Factors+D6 m.Atoms),by simp,?_⟩
     have am:0<=D6 m.Atoms:=(Ug m.Atoms (fun b hb=>by
      obtain ⟨i,hi⟩:=List.getElem?_of_mem hb
      have:=G0 L hi
      simp only [Jf,Db,decide_eq_true_eq] at this
      omega)).1
     simp only
     by_cases h6:Df x.Data x.Vars x.Res m.Factors+D6 m.Atoms<=6
     .rw [Ap (by omega),Aj h6]
      exact ⟨_,rfl,Ap (by omega)⟩
     .rw [Aj (by omega),Ap h6]
      exact ⟨_,rfl,rfl⟩)
   refine ⟨w,w1,?_⟩
   unfold Gp
   rw [s,Bool.true_and]
   rcases w2 with ⟨g1,g2⟩ | ⟨g1,g2⟩
   .have ga:m.Atoms.zipIdx.all (fun q=>Jf x.Vars x.Res m.Atoms q.1 q.2)=true:=W8 fun j a hj=>by
     have:=G0 g1 hj
     simp only [Db] at this
     exact this.1
    rw [ga,Bool.true_and,g2]
   .rw [g2]
    cases ga:m.Atoms.zipIdx.all (fun q=>Jf x.Vars x.Res m.Atoms q.1 q.2) with
    | false=>rfl
    | true=>
     have hgt:¬Df x.Data x.Vars x.Res m.Factors+D6 m.Atoms<=6:=by
      intro ag
      have:m.Atoms.zipIdx.all (fun q=>Jf x.Vars x.Res m.Atoms q.1 q.2&&decide (q.1.Deg<=6))=true:=W8 fun j a hj=>by
       have gj:=G0 ga hj
       have hpos:∀b∈m.Atoms,0<=b.Deg:=fun b hb=>by
        obtain ⟨i,hi⟩:=List.getElem?_of_mem hb
        have:=G0 ga hi
        simp only [Jf,Db,decide_eq_true_eq] at this
        omega
       have:=(Ug m.Atoms hpos).2.2 a (Bu hj)
       simp only [gj,Bool.true_and,decide_eq_true_eq]
       omega
      rw [this] at g1; cases g1
     rw [Ap hgt]; rfl)
 refine ⟨r,r1,?_⟩
 rcases r2 with ⟨h1,h2⟩ | ⟨h1,h2⟩
 .exact h2
 .rw [h2,a6 h1]; rfl
end Go.Ab
