/- Plain laws: what the plain functions answer. -/
import Derived.Test.YtjjkmepjaemceaaGreatDoorBsPl1
import Derived.Lib.ItoaLen
namespace Go.Ab
open Go
theorem Ath {l:List ByteArray} {j:Nat} {x:ByteArray} (h:l[j]? = some x) (b:l.Nodup):∀i y,i<j->l[i]? = some y->y≠x:=by
 intro i y hi hy e
 subst e
 have h1:=Dh h
 have h2:i<l.length:=by omega
 rw [Bj h1] at h
 rw [Bj h2] at hy
 have:=(List.nodup_iff_pairwise_ne.1 b)
 rw [List.pairwise_iff_getElem] at this
 exact this i j h2 h1 hi (by rw [Option.some.inj h,Option.some.inj hy])
theorem Aju (l:List ByteArray) (M:l.length<1099511627776):∃b,Tw l=some b/\(b=false↔l.Nodup):=by
 unfold Tw
 refine D3 (fun v=>∃i:Nat,v=i/\i<=l.length/\(l.take i).Nodup) (fun v=>l.length-v.toNat) (fun z=>match z with | .inl r=>r=true/\¬l.Nodup | .inr _=>l.Nodup) ⟨0,rfl,by omega,by simp⟩ ?_ ?_
 .rintro v ⟨i,rfl,hi,A⟩
  rcases Nat.lt_or_ge i l.length with h | h
  .have hx:l[i]? = some l[i]:=Bj h
   generalize l[i]=x at hx
   have G:(l.take i).length=i:=by simp; omega
   have D:∃z,Ak (S:=Int) (E:=(Bool⊕Int)) (fun v4=>bif (decide (v4<(i:Int))) then ((Ae l (i:Int)).bind fun v5=>(Ae l v4).bind fun L=>bif (v5.toList==L.toList) then some (.inr (.inl true)) else some (.inl (Ac (v4+1)))) else some (.inr (.inr v4))) 0=some z/\(match z with | .inl r=>r=true/\x∈l.take i | .inr _=>x ∉ l.take i):=by
    refine Qj (fun v4:Int=>∃j:Nat,v4=j/\j<=i/\∀k y,k<j->l[k]? = some y->y≠x) (fun v4=>i-v4.toNat) _ ?_ _ ⟨0,rfl,by omega,fun k y hk=>by omega⟩
    rintro v4 ⟨j,rfl,hj,g⟩
    rcases Nat.lt_or_ge j i with h' | h'
    .have hy:l[j]? = some l[j]:=Bj (by omega)
     generalize l[j]=y at hy
     simp only [Aj (by omega:(j:Int)<(i:Int)),cond_true,Bn rfl hx,Bn rfl hy,Ad,Y5]
     by_cases c:x=y
     .rw [Aj c]
      refine .inr ⟨.inl true,rfl,rfl,?_⟩
      subst c
      exact Bi (i:=j) (by rw [List.getElem?_take_of_lt h']; exact hy)
     .rw [Am c]
      refine .inl ⟨((j+1:Nat):Int),by simp only [cond_false]; rw [C5 h' (by omega)],⟨j+1,rfl,by omega,?_⟩,by simp; omega⟩
      intro k J hk f
      rcases Nat.lt_or_ge k j with h'' | h''
      .exact g k J h'' f
      .have:k=j:=by omega
       subst this
       rw [hy] at f; cases f
       exact fun e=>c e.symm
    .have:j=i:=by omega
     subst this
     refine .inr ⟨.inr (j:Int),by simp,?_⟩
     intro q
     obtain ⟨k,hk⟩:=List.getElem?_of_mem q
     have B:=Dh hk
     rw [List.getElem?_take_of_lt (by omega)] at hk
     exact g k x (by omega) hk rfl
   obtain ⟨z,I,z2⟩:=D
   simp only [Aj (by omega:(i:Int)<(l.length:Int)),cond_true]
   rw [I,Ad]
   match z,z2 with
   | .inl r,z2=>
    obtain ⟨rfl,z2⟩:=z2
    refine .inr ⟨.inl true,rfl,rfl,fun hh=>?_⟩
    obtain ⟨k,hk⟩:=List.getElem?_of_mem z2
    have B:=Dh hk
    rw [List.getElem?_take_of_lt (by omega)] at hk
    exact Ath hx hh k x (by omega) hk rfl
   | .inr v8,z2=>
    refine .inl ⟨((i+1:Nat):Int),by simp only [C5 h (by omega)],⟨i+1,rfl,by omega,?_⟩,by simp; omega⟩
    rw [Cw hx]
    exact Adu A z2
  .have:i=l.length:=by omega
   subst this
   rw [List.take_length] at A
   exact .inr ⟨.inr (),by simp,A⟩
 .rintro (r | u) s
  .obtain ⟨rfl,s⟩:=s
   exact ⟨true,rfl,by simp [s]⟩
  .exact ⟨false,rfl,by simpa using s⟩
theorem SzD.args {data:List Al} (h:SzD data) {x:Al} (hx:x∈data) {y:I1} (hy:y∈x.Cons) {t:Ag} (ht:t∈y.Args):A2 t<=1048576/\t.Args.length<=1048576/\y.Args.length<=1048576:=by
 have h1:=(h x hx).2 y hy
 have h3:=F1 ht
 have f:=Fw t
 have c:=Hb t.Args
 have b:=Hb y.Args
 omega
theorem Ati {data:List Al} (q:DSz data) {d:Nat} {x:Al} {y:I1} (hx:data[d]? = some x) (hy:y∈x.Cons) :
  ∃z,Ak (S:=Int) (E:=(Bool⊕Int)) (fun b=>
    bif (decide (b<(y.Args.length:Int))) then (
    (Ae y.Args b).bind fun f=>
    (M1 f d x.Vars).bind fun k=>
    bif k then some (.inl (Ac (b+1)))
    else (
    (Gl data 0 d).bind fun v218=>
    (Ky v218 f x.Vars).bind fun i=>
    bif (!i) then some (.inr (.inl false))
    else some (.inl (Ac (b+1)))))
    else some (.inr (.inr b))) 0=some z/\(match z with | .inl r=>r=false/\y.Args.all (Hk data d x.Vars)=false | .inr _=>y.Args.all (Hk data d x.Vars)=true):=by
 have hxm:=Bi hx
 have D:=Dh hx
 have u:=q.len
 have G:y.Args.length<=1048576:=by have:=(q.sz x hxm).2 y hy; have:=Hb y.Args; omega
 refine Qj (fun v:Int=>∃j:Nat,v=j/\j<=y.Args.length/\(y.Args.take j).all (Hk data d x.Vars)=true) (fun v=>y.Args.length-v.toNat) _ ?_ _ ⟨0,rfl,by omega,by simp⟩
 rintro v ⟨j,rfl,hj,c⟩
 rcases Nat.lt_or_ge j y.Args.length with h | h
 .have ht:y.Args[j]? = some y.Args[j]:=Bj h
  generalize y.Args[j]=t at ht
  have l:=Bi ht
  obtain ⟨s1,s2,I⟩:=q.sz.args hxm hy l
  simp only [Aj (by omega:(j:Int)<(y.Args.length:Int)),cond_true,Bn rfl ht,Ad,Ajj t d x.Vars (by omega),Ym rfl (show d<=data.length by omega),Sa (data.take d) t x.Vars (by omega),C5 h (by omega)]
  have g:Hk data d x.Vars t=true->(y.Args.take (j+1)).all (Hk data d x.Vars)=true:=fun B=>by
   rw [Cw ht,List.all_append,c]; simp [B]
  cases s:Gc t d x.Vars with
  | true=>exact .inl ⟨_,rfl,⟨j+1,rfl,by omega,g (by unfold Hk; rw [s]; rfl)⟩,by simp; omega⟩
  | false=>
   simp only [cond_false]
   cases A:(Cs (data.take d) x.Vars t&&decide (A2 t<=200)) with
   | true=>exact .inl ⟨_,rfl,⟨j+1,rfl,by omega,g (by unfold Hk; rw [A,s]; rfl)⟩,by simp; omega⟩
   | false=>
    refine .inr ⟨.inl false,rfl,rfl,?_⟩
    rw [List.all_eq_false]
    exact ⟨t,l,by unfold Hk; rw [A,s]; simp⟩
 .have:j=y.Args.length:=by omega
  subst this
  rw [List.take_length] at c
  exact .inr ⟨.inr (y.Args.length:Int),by simp,c⟩
theorem Atj {data:List Al} (J:DSz data) {d:Nat} {x:Al} (hx:data[d]? = some x) (X:x.Cons.length<=8) (L:List ByteArray) (V:L.length<=1048576) :
  ∃z,Ak (S:=(Int×(List ByteArray))) (E:=(Bool⊕(Int×(List ByteArray)))) (fun (f,k)=>
   bif (decide (f<(x.Cons.length:Int))) then (
   (show Option Bool from
   (Ae x.Cons f).bind fun A=>
   (Q5 A.Name).bind fun v203=>
   bif (!v203) then some true
   else (
   (Ae x.Cons f).bind fun u=>
   some (decide ((u.Args.length:Int)>(6:Int))))
   ).bind fun s=>
   bif s then some (.inr (.inl false))
   else (
   (Ae x.Cons f).bind fun v206=>
   (Bl 16 k [v206.Name]).bind fun D=>
   (Ae x.Cons f).bind fun v208=>
   (Ak (S:=Int) (E:=(Bool⊕Int)) (fun g=>
   bif (decide (g<(v208.Args.length:Int))) then (
   (Ae v208.Args g).bind fun j=>
   (M1 j d x.Vars).bind fun q=>
   bif q then some (.inl (Ac (g+1)))
   else (
   (Gl data 0 d).bind fun v218=>
   (Ky v218 j x.Vars).bind fun l=>
   bif (!l) then some (.inr (.inl false))
   else some (.inl (Ac (g+1)))))
   else some (.inr (.inr g))) 0).bind fun z=>
   match z with
   | .inl B=>some (.inr (.inl B))
   | .inr I=>some (.inl ((Ac (f+1)),D))))
   else some (.inr (.inr (f,k)))) (0,L)=some z /\
   (match z with | .inl r=>r=false/\¬(∀y∈x.Cons,Pk data d x.Vars y) | .inr (_,o)=>(∀y∈x.Cons,Pk data d x.Vars y)/\o=L++E8 x):=by
 have hxm:=Bi hx
 refine Qj (fun (v,o)=>∃c:Nat,v=c/\c<=x.Cons.length/\(∀y∈x.Cons.take c,Pk data d x.Vars y)/\o=L++(x.Cons.take c).map (·.Name)) (fun (v,_)=>x.Cons.length-v.toNat) _ ?_ _ ⟨0,rfl,by omega,by simp,by simp⟩
 rintro ⟨v,o⟩ ⟨c,rfl,hc,h1,U⟩
 subst U
 rcases Nat.lt_or_ge c x.Cons.length with h | h
 .have hy:x.Cons[c]? = some x.Cons[c]:=Bj h
  generalize x.Cons[c]=y at hy
  have i:=Bi hy
  obtain ⟨b,b1,b2⟩:=Ajs y.Name (by have:=J.cn x hxm y i; omega)
  obtain ⟨z,N,z2⟩:=Ati J hx i
  simp only [Aj (by omega:(c:Int)<(x.Cons.length:Int)),cond_true,Bn rfl hy,Ad,b1,C5 h (by omega)]
  rw [C4 (by simp; omega)]
  cases b with
  | false=>
   refine .inr ⟨.inl false,rfl,rfl,fun hh=>?_⟩
   have:=b2.2 (hh y i).1; cases this
  | true=>
   simp only [Cu,cond_false,Ad]
   by_cases M:(y.Args.length:Int)>6
   .rw [Aj M]
    refine .inr ⟨.inl false,rfl,rfl,fun hh=>?_⟩
    have:=(hh y i).2.1; omega
   .rw [Am M]
    simp only [cond_false]
    rw [N,Ad]
    match z,z2 with
    | .inl r,z2=>
     obtain ⟨rfl,z2⟩:=z2
     refine .inr ⟨.inl false,rfl,rfl,fun hh=>?_⟩
     have:=(hh y i).2.2
     rw [z2] at this; cases this
    | .inr w,z2=>
     refine .inl ⟨_,rfl,⟨c+1,rfl,by omega,?_,?_⟩,by simp; omega⟩
     .intro R G
      rw [Cw hy] at G
      rcases List.mem_append.1 G with h' | h'
      .exact h1 R h'
      .simp at h'; subst h'; exact ⟨b2.1 rfl,by omega,z2⟩
     .rw [Cw hy]; simp
 .have:c=x.Cons.length:=by omega
  subst this
  rw [List.take_length] at h1
  exact .inr ⟨.inr ((x.Cons.length:Int),L++E8 x),by simp [E8],h1,rfl⟩
theorem Y6 {data:List Al} (B:DSz data):∃b,Qv data=some b/\(b=true↔F3 data):=by
 have I:=B.len
 unfold Qv
 rcases Nat.lt_or_ge 12 data.length with h12 | h12
 .rw [Aj (by omega)]
  exact ⟨false,rfl,by simp; intro h; have:=h.1; omega⟩
 rw [Am (by omega)]
 simp only [cond_false]
 have k:∀d,d<=data.length->(∀c x,c<d->data[c]? = some x->Np data c x)->((data.take d).flatMap E8).length<=8*d:=by
  intro d
  induction d with
  | zero=>intro _ _; simp
  | succ d ih=>
   intro hd h1
   have hx:data[d]? = some data[d]:=Bj (by omega)
   have:=ih (by omega) (fun c x D=>h1 c x (by omega))
   have V:=(h1 d _ (by omega) hx).2.2.2.1
   rw [Cw hx,List.flatMap_append,List.length_append]
   simp only [List.flatMap_cons,List.flatMap_nil,List.append_nil,E8,List.length_map]
   omega
 refine D3 (fun (v,j,i)=>∃d:Nat,v=d/\d<=data.length/\(∀c x,c<d->data[c]? = some x->Np data c x)/\j=(data.take d).map (·.Name)/\i=(data.take d).flatMap E8)
  (fun (v,_,_)=>data.length-v.toNat) (fun z=>match z with | .inl r=>r=false/\¬F3 data | .inr (j,i)=>(∀d x,data[d]? = some x->Np data d x)/\j=data.map (·.Name)/\i=data.flatMap E8) ⟨0,rfl,by omega,by intro c x h; omega,by simp,by simp⟩ ?_ ?_
 .rintro ⟨v,j,i⟩ ⟨d,rfl,hd,h1,h2,h3⟩
  rcases Nat.lt_or_ge d data.length with h | h
  .have hx:data[d]? = some data[d]:=Bj h
   generalize data[d]=x at hx
   have hxm:=Bi hx
   obtain ⟨b,b1,b2⟩:=Ajs x.Name (by have:=B.nm x hxm; omega)
   simp only [Aj (by omega:(d:Int)<(data.length:Int)),cond_true,Bn rfl hx,Ad,b1]
   have bad:∀(s:¬Np data d x),∃e:Bool⊕((List ByteArray)×(List ByteArray)),(some (Sum.inr (Sum.inl false)):Option ((Int×(List ByteArray)×(List ByteArray))⊕(Bool⊕((List ByteArray)×(List ByteArray)))))=some (.inr e)/\(match e with | .inl r=>r=false/\¬F3 data | .inr (j,i)=>(∀d x,data[d]? = some x->Np data d x)/\j=data.map (·.Name)/\i=data.flatMap E8) :=
    fun s=>⟨.inl false,rfl,rfl,fun hh=>s (hh.2.1 d x hx)⟩
   by_cases f:x.Vars<0
   .simp only [Aj f,cond_true,Ad]
    exact .inr (bad fun hh=>by have:=hh.1; omega)
   by_cases g:x.Vars>6
   .simp only [Am f,Aj g,cond_true,cond_false,Ad]
    exact .inr (bad fun hh=>by have:=hh.2.1; omega)
   by_cases q:(x.Cons.length:Int)<1
   .simp only [Am f,Am g,Aj q,cond_false,cond_true,Ad]
    exact .inr (bad fun hh=>by have:=hh.2.2.1; omega)
   by_cases y:(x.Cons.length:Int)>8
   .simp only [Am f,Am g,Am q,Aj y,cond_true,cond_false,Ad]
    exact .inr (bad fun hh=>by have:=hh.2.2.2.1; omega)
   simp only [Am f,Am g,Am q,Am y,cond_false,Ad]
   cases b with
   | false=>exact .inr (bad fun hh=>by have:=b2.2 hh.2.2.2.2.1; cases this)
   | true=>
    have u:=k d hd h1
    rw [h2,h3]
    simp only [Cu,cond_false]
    rw [C4 (by simp; omega),Ad]
    obtain ⟨z,J,z2⟩:=Atj B hx (by omega) ((data.take d).flatMap E8) (by omega)
    erw [J,Ad]
    match z,z2 with
    | .inl r,z2=>
     obtain ⟨rfl,z2⟩:=z2
     exact .inr (bad fun hh=>z2 hh.2.2.2.2.2)
    | .inr (R,S),z2=>
     obtain ⟨M,L⟩:=z2
     subst L
     have ht:=Cw hx
     refine .inl ⟨(((d+1:Nat):Int),(data.take d).map (·.Name)++[x.Name],(data.take d).flatMap E8++E8 x),by simp only [C5 h (by omega)],⟨d+1,rfl,by omega,?_,?_,?_⟩,by simp; omega⟩
     .intro c N D l
      rcases Nat.lt_or_ge c d with h' | h'
      .exact h1 c N h' l
      .have:c=d:=by omega
       subst this
       rw [hx] at l; cases l
       exact ⟨by omega,by omega,by omega,by omega,b2.1 rfl,M⟩
     .rw [ht]; simp
     .rw [ht]; simp [List.flatMap_append]
  .have:d=data.length:=by omega
   subst this
   rw [List.take_length] at h2 h3
   exact .inr ⟨.inr (j,i),by simp,fun d x hx=>h1 d x (Dh hx) hx,h2,h3⟩
 .rintro (r | ⟨j,i⟩) hp
  .obtain ⟨rfl,hp⟩:=hp
   exact ⟨false,rfl,by simp [hp]⟩
  .obtain ⟨G,rfl,rfl⟩:=hp
   have u:=k data.length (by omega) (fun d x _=>G d x)
   rw [List.take_length] at u
   obtain ⟨b,b1,b2⟩:=Aju (data.map (·.Name)) (by simp; omega)
   obtain ⟨U,E,A⟩:=Aju (data.flatMap E8) (by omega)
   simp only [b1,Ad,E]
   cases b with
   | true=>exact ⟨false,rfl,by simp; intro hh; have:=b2.2 hh.2.2.1; cases this⟩
   | false=>
    cases U with
    | true=>exact ⟨false,rfl,by simp; intro hh; have:=A.2 hh.2.2.2; cases this⟩
    | false=>exact ⟨true,rfl,by simp; exact ⟨h12,G,b2.1 rfl,A.1 rfl⟩⟩
end Go.Ab
namespace Go.Ab
open Go
def isV (σ:List Ag) (k n:Int):Bool:=k==4&&decide (0<=n)&&decide (n<(σ.length:Int))
mutual
def Ch (σ:List Ag):Ag->Ag
 | ⟨k,n,l⟩=>match (if isV σ k n then σ[n.toNat]? else none) with
  | some s=>s
  | none=>⟨k,n,Kh σ l⟩
def Kh (σ:List Ag):List Ag->List Ag
 | []=>[]
 | x::xs=>Ch σ x::Kh σ xs
end
theorem Adv (σ l:List Ag):Kh σ l=l.map (Ch σ):=by
 induction l with
 | nil=>rfl
 | cons x xs ih=>simp only [Kh,ih,List.map_cons]
theorem Vj {σ:List Ag} {k n:Int} (h:isV σ k n=true):∃s,σ[n.toNat]? = some s/\Ae σ n=some s/\s∈σ:=by
 simp only [isV,Ce,decide_eq_true_eq] at h
 have b:n.toNat < σ.length:=by omega
 refine ⟨σ[n.toNat],Bj b,?_,List.getElem_mem b⟩
 unfold Ae
 rw [if_pos (by omega),Bj b]
theorem Sc {σ:List Ag} {t s:Ag} (h:isV σ t.Kind t.Num=true) (b:σ[t.Num.toNat]? = some s):Ch σ t=s:=by
 cases t; simp only [Ch] at *; simp [h,b]
theorem Vk {σ:List Ag} {t:Ag} (h:isV σ t.Kind t.Num=false):Ch σ t=⟨t.Kind,t.Num,t.Args.map (Ch σ)⟩:=by
 cases t; simp only [Ch] at *; simp [h,Adv]
mutual
theorem Ajv:∀t:Ag,Ch [] t=t
 | ⟨k,n,l⟩=>by
  have hv:isV [] k n=false:=by
   unfold isV
   by_cases h:0<=n
   .rw [Am (by simp; omega:¬n<(([]:List Ag).length:Int))]; simp
   .rw [Am h]; simp
  simp only [Ch,hv,Ajw l]; rfl
theorem Ajw:∀l:List Ag,Kh [] l=l
 | []=>rfl
 | x::xs=>by simp only [Kh,Ajv x,Ajw xs]
end
mutual
theorem Adw (σ:List Ag) (M:Nat) (hM:1<=M) (hσ:∀s∈σ,A2 s<=M):∀t:Ag,A2 (Ch σ t)<=A2 t*M
 | ⟨k,n,l⟩=>by
  cases hv:isV σ k n with
  | true=>
   obtain ⟨s,h1,_,h3⟩:=Vj hv
   rw [Sc (t:=⟨k,n,l⟩) hv h1]
   have:=hσ s h3
   have h2:=Kg ⟨k,n,l⟩
   calc A2 s<=1*M:=by omega
    _<=_:=Nat.mul_le_mul_right M h2
  | false=>
   have:=Ajx σ M hM hσ l
   simp only [Ch,hv,A2]
   simp only [Bool.false_eq_true,if_false,A2]
   rw [Nat.add_mul]; omega
theorem Ajx (σ:List Ag) (M:Nat) (hM:1<=M) (hσ:∀s∈σ,A2 s<=M):∀l:List Ag,B2 (Kh σ l)<=B2 l*M
 | []=>by simp [Kh,B2]
 | x::xs=>by
  have h1:=Adw σ M hM hσ x
  have h2:=Ajx σ M hM hσ xs
  simp only [Kh,B2]
  rw [Nat.add_mul]; omega
end
theorem Adx (σ:List Ag) (t:Ag):(bif t.Kind==(4:Int) then bif decide (t.Num>=(0:Int)) then some (decide (t.Num<(σ.length:Int))) else some false else some false)=some (isV σ t.Kind t.Num):=by
 unfold isV
 cases t.Kind==4 <;> simp
 by_cases h:0<=t.Num <;> simp [h]
theorem Atk:∀(k:Nat) (t:Ag) (σ:List Ag) (M:Nat),(∀s∈σ,A2 s<=M)->A2 t+M+1<=k->k<1099511627776->Ls k t σ=some (Ch σ t):=by
 intro k
 induction k with
 | zero=>intro t σ M _ h; omega
 | succ k ih=>
  intro t σ M c h hk
  have g:=Fw t
  have f:=Hb t.Args
  rw [Ls]
  rw [show (show Option Bool from bif t.Kind==(4:Int) then bif decide (t.Num>=(0:Int)) then some (decide (t.Num<(σ.length:Int))) else some false else some false)=some (isV σ t.Kind t.Num) from Adx σ t,Ad]
  cases b:isV σ t.Kind t.Num with
  | true=>
   obtain ⟨s,h1,h2,h3⟩:=Vj b
   have:=c s h3
   simp only [cond_true,h2,Ad,Sc b h1,ih s [] 0 (by simp) (by omega) (by omega),Ajv]
  | false=>
   rw [Vk b]
   simp only [cond_false]
   refine E2 t.Args (fun j=>((j:Int),(t.Args.take j).map (Ch σ))) rfl (by omega) ?_ ?_
   .intro j x hj hx h1 h2 h3
    have:=F1 (Bi hx)
    simp only [h1,h2,h3,cond_true,Ad,ih x σ M c (by omega) (by omega)]
    rw [C4 (by simp; omega),Ad,Cw hx]; simp
   .intro h1
    exact ⟨t.Args.map (Ch σ),by simp,rfl⟩
theorem Atl:∀(k:Nat) (t:Ag),A2 t<=k->k<1099511627776->Ul k t=some t:=by
 intro k
 induction k with
 | zero=>intro t h; have:=Kg t; omega
 | succ k ih=>
  intro t h hk
  have c:=Fw t
  have b:=Hb t.Args
  rw [Ul]
  refine E2 t.Args (fun j=>((j:Int),(t.Args.take j))) rfl (by omega) ?_ ?_
  .intro j x hj hx h1 h2 h3
   have:=F1 (Bi hx)
   simp only [h1,h2,h3,cond_true,Ad,ih x (by omega) (by omega)]
   rw [C4 (by simp; omega),Ad,Cw hx]
  .intro h1
   exact ⟨t.Args,by simp,by cases t; rfl⟩
theorem Atm:∀(k:Nat) (t:Ag) (σ:List Ag) (M:Nat),(∀s∈σ,A2 s<=M)->M<=4000000->A2 t<=k->k<1099511627776->Oy k t σ=some (Ch σ t):=by
 intro k
 induction k with
 | zero=>intro t σ M _ _ h; have:=Kg t; omega
 | succ k ih=>
  intro t σ M c i h hk
  have g:=Fw t
  have f:=Hb t.Args
  rw [Oy]
  rw [show (show Option Bool from bif t.Kind==(4:Int) then bif decide (t.Num>=(0:Int)) then some (decide (t.Num<(σ.length:Int))) else some false else some false)=some (isV σ t.Kind t.Num) from Adx σ t,Ad]
  cases b:isV σ t.Kind t.Num with
  | true=>
   obtain ⟨s,h1,h2,h3⟩:=Vj b
   have:=c s h3
   simp only [cond_true,h2,Ad,Sc b h1,Atl 4000000 s (by omega) (by omega)]
  | false=>
   rw [Vk b]
   simp only [cond_false]
   refine E2 t.Args (fun j=>((j:Int),(t.Args.take j).map (Ch σ))) rfl (by omega) ?_ ?_
   .intro j x hj hx h1 h2 h3
    have:=F1 (Bi hx)
    simp only [h1,h2,h3,cond_true,Ad,ih x σ M c i (by omega) (by omega)]
    rw [C4 (by simp; omega),Ad,Cw hx]; simp
   .intro h1
    exact ⟨t.Args.map (Ch σ),by simp,rfl⟩
theorem Atn:∀(k:Nat) (t:Ag),A2 t<=k->A2 t<1099511627776->M6 k t=some (A2 t:Int):=by
 intro k
 induction k with
 | zero=>intro t h; have:=Kg t; omega
 | succ k ih=>
  intro t h ht
  have b:=Fw t
  have c:=Hb t.Args
  rw [M6]
  refine E2 t.Args (fun j=>(1+(B2 (t.Args.take j):Int),(j:Int))) rfl (by omega) ?_ ?_
  .intro j x hj hx h1 h2 h3
   have g:=F1 (Bi hx)
   have f:=Vc t.Args (j+1)
   have e:B2 (t.Args.take (j+1))=B2 (t.Args.take j)+A2 x:=by rw [Cw hx,Y3]; simp [B2]
   simp only [h1,h2,h3,cond_true,Ad,ih x (by omega) (by omega)]
   rw [show Ac (1+(B2 (t.Args.take j):Int)+(A2 x:Int))=1+(B2 (t.Args.take (j+1)):Int) by rw [e,Ac,Bp] <;> omega]
  .intro h1
   exact ⟨1+(B2 t.Args:Int),by simp,by rw [b]; simp⟩
theorem Ato (σ:List Ag) (M:Nat) (E:1<=M) (u:M<=1048576) (A:∀s∈σ,A2 s<=M):∀(k:Nat) (t:Ag),A2 t<=k->A2 t<=1048576 ->
  ∃v:Nat,M7 k t (σ.map fun s=>(A2 s:Int))=some (v:Int)/\v<=A2 (Ch σ t)/\((v=A2 (Ch σ t))\/200<v):=by
 intro k
 induction k with
 | zero=>intro t h; have:=Kg t; omega
 | succ k ih=>
  intro t h ht
  have B:=Fw t
  have z:=Hb t.Args
  have l:∀x,A2 x<=1048576->A2 (Ch σ x)<=1099511627776:=fun x hx=>by
   have:=Adw σ M E A x
   have:A2 x*M<=1048576*1048576:=Nat.mul_le_mul hx u
   omega
  rw [M7]
  rw [show (show Option Bool from bif t.Kind==(4:Int) then bif decide (t.Num>=(0:Int)) then some (decide (t.Num<((σ.map fun s=>(A2 s:Int)).length:Int))) else some false else some false)=some (isV σ t.Kind t.Num) by rw [List.length_map]; exact Adx σ t,Ad]
  cases f:isV σ t.Kind t.Num with
  | true=>
   obtain ⟨s,h1,h2,h3⟩:=Vj f
   have hi:Ae (σ.map fun s=>(A2 s:Int)) t.Num=some (A2 s:Int):=by
    have:=De h2
    rw [Bn (n:=t.Num.toNat) (by omega)]
    simp [h1]
   simp only [cond_true,hi,Ad,Sc f h1]
   exact ⟨A2 s,rfl,Nat.le_refl _,.inl rfl⟩
  | false=>
   have y:=l t ht
   rw [Vk f] at y ⊢
   simp only [cond_false]
   have g:A2 ⟨t.Kind,t.Num,t.Args.map (Ch σ)⟩=1+B2 (t.Args.map (Ch σ)):=by simp only [A2]
   rw [g] at y ⊢
   refine Ac2 (fun v:Nat=>(v:Int)) (D3 (fun (n,i)=>∃j:Nat,i=j/\j<=t.Args.length/\n=1+(B2 ((t.Args.map (Ch σ)).take j):Int)) (fun (_,i)=>t.Args.length-i.toNat)
    (fun n=>∃v:Nat,n=v/\v<=1+B2 (t.Args.map (Ch σ))/\(v=1+B2 (t.Args.map (Ch σ))\/200<v)) ⟨0,rfl,by omega,by simp [B2]⟩ ?_ ?_)
   .rintro ⟨n,i⟩ ⟨j,rfl,hj,q⟩
    have q:n=_:=q
    subst q
    rcases Nat.lt_or_ge j t.Args.length with h' | h'
    .have hx:t.Args[j]? = some t.Args[j]:=Bj h'
     generalize t.Args[j]=x at hx
     have I:=F1 (Bi hx)
     obtain ⟨v,b,v2,v3⟩:=ih x (by omega) (by omega)
     have c:(t.Args.map (Ch σ))[j]? = some (Ch σ x):=by simp [hx]
     have e:B2 ((t.Args.map (Ch σ)).take (j+1))=B2 ((t.Args.map (Ch σ)).take j)+A2 (Ch σ x):=by rw [Cw c,Y3]; simp [B2]
     have D:=Vc (t.Args.map (Ch σ)) (j+1)
     have G:Ac (1+(B2 ((t.Args.map (Ch σ)).take j):Int)+(v:Int))=((1+B2 ((t.Args.map (Ch σ)).take j)+v:Nat):Int):=by rw [Ac,Bp] <;> omega
     simp only [Aj (by omega:(j:Int)<(t.Args.length:Int)),cond_true,Bn rfl hx,Ad,b,C5 h' (by omega),G]
     by_cases hb:1+B2 ((t.Args.map (Ch σ)).take j)+v>200
     .rw [Aj (by omega)]
      exact .inr ⟨_,rfl,_,rfl,by omega,.inr hb⟩
     .rw [Am (by omega)]
      refine .inl ⟨_,rfl,⟨j+1,rfl,by omega,?_⟩,by simp; omega⟩
      have:v=A2 (Ch σ x):=by omega
      subst this
      rw [e]; omega
    .have:j=t.Args.length:=by omega
     subst this
     refine .inr ⟨_,by simp; rfl,1+B2 (t.Args.map (Ch σ)),?_,by omega,.inl rfl⟩
     rw [List.take_of_length_le (by simp)]; omega
   .rintro n ⟨v,rfl,b,v2⟩
    exact ⟨_,rfl,v,rfl,b,v2⟩
def Fx (data:List Al) (t:Ag) (c:Int):Option (List Ag) :=
 if t.Kind=5 then
  match Ae data t.Num with
  | none=>none
  | some x=>if (t.Args.length:Int)=x.Vars then
    match Ae x.Cons c with
    | none=>none
    | some y=>if (y.Args.map (Ch t.Args)).all (fun a=>decide (A2 a<=200)) then some (y.Args.map (Ch t.Args)) else none
   else none
 else none
def okL (o:Option (List Ag)):List Ag×Bool:=match o with | none=>([],false) | some l=>(l,true)
theorem Atp {R:Type} (data:List Al) (t:Ag) (c:Int) (F:Al->I1->Option R) (z:R) (X:Option R)
  (b:X=(match Ae data t.Num with
   | none=>some z
   | some x=>match Ae x.Cons c with
    | none=>some z
    | some y=>if t.Kind=5/\(t.Args.length:Int)=x.Vars then F x y else some z)):X=if t.Kind=5 then
  match Ae data t.Num with
  | none=>some z
  | some x=>if (t.Args.length:Int)=x.Vars then
    match Ae x.Cons c with
    | none=>some z
    | some y=>F x y
   else some z
 else some z:=by
 subst b
 by_cases h:t.Kind=5
 .rw [if_pos h]
  cases Ae data t.Num with
  | none=>rfl
  | some x=>
   simp only
   by_cases h':(t.Args.length:Int)=x.Vars
   .rw [if_pos h']
    cases Ae x.Cons c with
    | none=>rfl
    | some y=>simp [h,h']
   .rw [if_neg h']
    cases Ae x.Cons c with
    | none=>rfl
    | some y=>simp [h']
 .rw [if_neg h]
  cases Ae data t.Num with
  | none=>rfl
  | some x=>
   simp only
   cases Ae x.Cons c with
   | none=>rfl
   | some y=>simp [h]
def Szv (data:List Al):Prop:=∀x∈data,∀y∈x.Cons,y.Args.length<=6/\∀a∈y.Args,A2 a<=200
theorem F3.szv {data:List Al} (h:F3 data):Szv data:=by
 intro x hx y hy
 obtain ⟨d,hd⟩:=List.getElem?_of_mem hx
 have h1:=h.2.1 d x hd
 obtain ⟨_,c,b⟩:=h1.2.2.2.2.2 y hy
 refine ⟨c,fun a ha=>?_⟩
 have:=List.all_eq_true.1 b a ha
 unfold Hk at this
 rw [Bool.or_eq_true] at this
 rcases this with h' | h'
 .exact (Adq hd h1.2.1 h').2
 .simp only [Ce,decide_eq_true_eq] at h'; exact h'.2
theorem Atq {t a:Ag} (ht:A2 t<=200) (ha:A2 a<=200):A2 (Ch t.Args a)<=40000:=by
 have h1:=Adw t.Args 200 (by omega) (fun s b=>by have:=F1 b; have:=Fw t; omega) a
 have:A2 a*200<=200*200:=Nat.mul_le_mul_right 200 ha
 omega
theorem Ady {data:List Al} (D:Szv data) (t:Ag) (ht:A2 t<=200) (c:Int):U1 data t c=some (okL (Fx data t c)):=by
 have I:U1 data t c=_:=Atp data t c (fun x y=>(Ak (S:=(Int×(List Ag))) (E:=(((List Ag)×Bool)⊕(List Ag))) (fun (f,i)=>
   bif (decide (f<(y.Args.length:Int))) then (
   (Ae y.Args f).bind fun v24=>
   (Oy (4000000) v24 t.Args).bind fun g=>
   (M2 (4000000) g).bind fun v28=>
   bif (decide (v28>(200:Int))) then some (.inr (.inl ([],false)))
   else (
   (Bl 40 i [g]).bind fun B=>
   some (.inl ((Ac (f+1)),B))))
   else some (.inr (.inr i))) (0,[])).bind fun z=>
   match z with
   | .inl (u,q)=>some (u,q)
   | .inr A=>some (A,true)) ([],false) _ (by
  unfold U1
  by_cases hk:t.Kind=5
  .simp only [B4 hk,cond_false]
   cases hx:Ae data t.Num with
   | none=>
    rcases Lw hx with h | h
    .simp only [Aj h,cond_true,Ad]
    .by_cases h':t.Num<0
     .simp only [Aj h',cond_true,Ad]
     .simp only [Am h',Aj (show t.Num>=(data.length:Int) from h),cond_true,cond_false,Ad]
   | some x=>
    obtain ⟨a1,a2,_,_⟩:=De hx
    simp only [Am (by omega:¬t.Num<0),Am (by omega:¬t.Num>=(data.length:Int)),cond_false,Ad]
    by_cases b:(t.Args.length:Int)=x.Vars
    .simp only [B4 b,cond_false]
     cases hy:Ae x.Cons c with
     | none=>
      rcases Lw hy with h | h
      .simp only [Aj h,cond_true,Ad]
      .by_cases h':c<0
       .simp only [Aj h',cond_true,Ad]
       .simp only [Am h',Aj (show c>=(x.Cons.length:Int) from h),cond_true,cond_false,Ad]
     | some y=>
      obtain ⟨b1,b2,_,_⟩:=De hy
      simp only [Am (by omega:¬c<0),Am (by omega:¬c>=(x.Cons.length:Int)),cond_false,Ad,hk,b,and_self,if_true]
      rfl
    .simp only [Ca b,cond_true,Ad]
     cases hy:Ae x.Cons c with
     | none=>rfl
     | some y=>simp [b]
  .simp only [Ca hk,cond_true,Ad]
   cases hx:Ae data t.Num with
   | none=>rfl
   | some x=>
    simp only
    cases hy:Ae x.Cons c with
    | none=>rfl
    | some y=>simp [hk])
 rw [I]
 unfold Fx
 by_cases hk:t.Kind=5
 .rw [if_pos hk,if_pos hk]
  cases hx:Ae data t.Num with
  | none=>rfl
  | some x=>
   simp only
   by_cases b:(t.Args.length:Int)=x.Vars
   .rw [if_pos b,if_pos b]
    cases hy:Ae x.Cons c with
    | none=>rfl
    | some y=>
     simp only
     obtain ⟨J,l⟩:=D x (De hx).2.2.2 y (De hy).2.2.2
     refine (Jq (rt:=(y.Args.map (Ch t.Args),true)) (rf:=([],false)) y.Args (fun a=>decide (A2 (Ch t.Args a)<=200)) (fun j=>((j:Int),(y.Args.take j).map (Ch t.Args))) rfl (by omega) ?_ ?_).trans ?_
     .intro j a ha h1 h2 h3
      have hj:=Dh ha
      have s1:=l a (Bi ha)
      have s2:=Atq ht s1
      simp only [h1,h2,h3,cond_true,Ad,Atm 4000000 a t.Args 200 (fun s G=>by have:=F1 G; have:=Fw t; omega) (by omega) (by omega) (by omega),Ajh 4000000 (Ch t.Args a) (by omega) (by omega)]
      by_cases hb:A2 (Ch t.Args a)<=200
      .rw [Aj hb,Am (by omega)]
       refine ⟨fun _=>?_,fun h=>by cases h⟩
       rw [C4 (by simp; omega)]
       simp only [cond_false,Ad]
       rw [Cw ha]; simp
      .rw [Am hb,Aj (by omega)]
       exact ⟨(fun h=>by cases h),fun _=>⟨_,rfl,rfl⟩⟩
     .intro h1
      exact ⟨.inr (y.Args.map (Ch t.Args)),by simp,rfl⟩
     .rw [List.all_map]
      cases k:y.Args.all ((fun a=>decide (A2 a<=200)) ∘ Ch t.Args) with
      | true=>rw [if_pos rfl]; rw [show (y.Args.all fun a=>decide (A2 (Ch t.Args a)<=200))=true from k]; rfl
      | false=>rw [show (y.Args.all fun a=>decide (A2 (Ch t.Args a)<=200))=false from k]; rfl
   .rw [if_neg b,if_neg b]; rfl
 .rw [if_neg hk,if_neg hk]; rfl
end Go.Ab
namespace Go.Ab
open Go
theorem Y7 {data:List Al} (A:Szv data) (t:Ag) (ht:A2 t<=200) (c:Int):Ru data t c=some (okL (Fx data t c)):=by
 have B:=Fw t
 have u:=Hb t.Args
 unfold Ru Fx
 by_cases hk:t.Kind=5
 .simp only [B4 hk,cond_false,if_pos hk]
  cases hx:Ae data t.Num with
  | none=>
   rcases Lw hx with h | h
   .simp only [Aj h,cond_true,Ad,okL]
   .by_cases h':t.Num<0
    .simp only [Aj h',cond_true,Ad,okL]
    .simp only [Am h',Aj (show t.Num>=(data.length:Int) from h),cond_true,cond_false,Ad,okL]
  | some x=>
   obtain ⟨a1,a2,_,hxm⟩:=De hx
   simp only [Am (by omega:¬t.Num<0),Am (by omega:¬t.Num>=(data.length:Int)),cond_false,Ad]
   by_cases g:(t.Args.length:Int)=x.Vars
   .simp only [B4 g,cond_false,if_pos g]
    cases hy:Ae x.Cons c with
    | none=>
     rcases Lw hy with h | h
     .simp only [Aj h,cond_true,Ad,okL]
     .by_cases h':c<0
      .simp only [Aj h',cond_true,Ad,okL]
      .simp only [Am h',Aj (show c>=(x.Cons.length:Int) from h),cond_true,cond_false,Ad,okL]
    | some y=>
     obtain ⟨b1,b2,_,k⟩:=De hy
     obtain ⟨G,b⟩:=A x hxm y k
     simp only [Am (by omega:¬c<0),Am (by omega:¬c>=(x.Cons.length:Int)),cond_false,Ad]
     rw [Jm (n:=t.Args.length) (c:=t.Args.length) rfl rfl (by omega) (by omega) (by omega),Ad]
     refine E2 t.Args (fun j=>((j:Int),((t.Args.take j).map fun s=>(A2 s:Int))++List.replicate (t.Args.length-j) 0)) rfl (by omega) ?_ ?_
     .intro j s hj i h1 h2 h3
      have:=F1 (Bi i)
      obtain ⟨m,D⟩:∃m,t.Args.length-j=m+1:=⟨t.Args.length-j-1,by omega⟩
      have E:t.Args.length-(j+1)=m:=by omega
      have l:j=((t.Args.take j).map fun s=>(A2 s:Int)).length:=by simp; omega
      simp only [h1,h2,h3,cond_true,Ad,Atn 4000000 s (by omega) (by omega),D,E,List.replicate_succ,Ve _ _ _ (j:Int) j rfl l,Vd _ _ _ _ (j:Int) j rfl l,Cw i]
      simp
     .intro h1
      refine ⟨t.Args.map fun s=>(A2 s:Int),by simp,?_⟩
      have q:∀s∈t.Args,A2 s<=200:=fun s i=>by have:=F1 i; omega
      refine (Jq (rt:=(y.Args.map (Ch t.Args),true)) (rf:=([],false)) y.Args (fun a=>decide (A2 (Ch t.Args a)<=200)) (fun j=>(j:Int)) rfl (by omega) ?_ ?_).trans ?_
      .intro j a ha h1 h2 h3
       have s1:=b a (Bi ha)
       obtain ⟨v,z,v2,v3⟩:=Ato t.Args 200 (by omega) (by omega) q 4000000 a (by omega) (by omega)
       simp only [h1,h2,h3,cond_true,Ad,z]
       by_cases hb:A2 (Ch t.Args a)<=200
       .rw [Aj hb,Am (by omega)]
        exact ⟨fun _=>rfl,fun h=>by cases h⟩
       .rw [Am hb,Aj (by omega)]
        exact ⟨(fun h=>by cases h),fun _=>⟨_,rfl,rfl⟩⟩
      .intro h1
       refine ⟨.inr (),by simp,?_⟩
       simp only
       refine E2 y.Args (fun j=>((j:Int),(y.Args.take j).map (Ch t.Args))) rfl (by omega) ?_ ?_
       .intro j a hj ha h1 h2 h3
        have s1:=b a (Bi ha)
        simp only [h1,h2,h3,cond_true,Ad,Atk 4000000 a t.Args 200 q (by omega) (by omega)]
        rw [C4 (by simp; omega),Ad,Cw ha]; simp
       .intro h1
        exact ⟨y.Args.map (Ch t.Args),by simp,rfl⟩
      .rw [List.all_map]
       cases f:y.Args.all ((fun a=>decide (A2 a<=200)) ∘ Ch t.Args) with
       | true=>rw [if_pos rfl]; rw [show (y.Args.all fun a=>decide (A2 (Ch t.Args a)<=200))=true from f]; rfl
       | false=>rw [show (y.Args.all fun a=>decide (A2 (Ch t.Args a)<=200))=false from f]; rfl
   .simp only [Ca g,cond_true,Ad,if_neg g,okL]
 .simp only [Ca hk,cond_true,Ad,if_neg hk,okL]
theorem Atr {data:List Al} (b:Szv data) (t:Ag) (ht:A2 t<=200) (c:Int):Xs data t c=some (okL (Fx data t c)):=Y7 b t ht c
theorem Ats {data:List Al} (b:Szv data) (t:Ag) (ht:A2 t<=200) (c:Int):Ab7 data t c=some (okL (Fx data t c)):=Ady b t ht c
theorem Lb {data:List Al} {t:Ag} {c:Int} {l:List Ag} (h:Fx data t c=some l) :
  ∃x y,t.Kind=5/\Ae data t.Num=some x/\(t.Args.length:Int)=x.Vars/\Ae x.Cons c=some y/\l=y.Args.map (Ch t.Args)/\∀a∈l,A2 a<=200:=by
 unfold Fx at h
 by_cases hk:t.Kind=5
 .rw [if_pos hk] at h
  cases hx:Ae data t.Num with
  | none=>rw [hx] at h; cases h
  | some x=>
   rw [hx] at h
   simp only at h
   by_cases f:(t.Args.length:Int)=x.Vars
   .rw [if_pos f] at h
    cases hy:Ae x.Cons c with
    | none=>rw [hy] at h; cases h
    | some y=>
     rw [hy] at h
     simp only at h
     by_cases b:(y.Args.map (Ch t.Args)).all (fun a=>decide (A2 a<=200))=true
     .rw [if_pos b] at h
      cases h
      refine ⟨x,y,hk,rfl,f,hy,rfl,fun a ha=>?_⟩
      have:=List.all_eq_true.1 b a ha
      simpa using this
     .rw [if_neg b] at h; cases h
   .rw [if_neg f] at h; cases h
 .rw [if_neg hk] at h; cases h
def Dz (l:List Ag) (r:List Bool):List Ag:=((l.zip r).filter fun p=>!p.2).map (·.1)
def Fo (data:List Al) (t:Ag) (c:Int):Option (List Ag):=(Fx data t c).map fun l=>Dz l (C8 data t.Num c)
theorem Pl {data:List Al} {t:Ag} {c:Int} {l:List Ag} (h:Fx data t c=some l):(C8 data t.Num c).length=l.length:=by
 obtain ⟨x,y,_,hx,_,hy,rfl,_⟩:=Lb h
 unfold C8
 simp only [hx,hy,List.length_map]
theorem Y8 {l:List Ag} {r:List Bool} {j:Nat} {a:Ag} {b:Bool} (h1:l[j]? = some a) (h2:r[j]? = some b):Dz (l.take (j+1)) (r.take (j+1))=Dz (l.take j) (r.take j)++bif b then [] else [a]:=by
 unfold Dz
 have f:=Dh h1
 have c:=Dh h2
 rw [Cw h1,Cw h2,List.zip_append (by simp; omega)]
 cases b <;> simp
theorem Vl (l:List Ag) (r:List Bool):(Dz l r).length<=l.length:=by
 unfold Dz
 rw [List.length_map]
 refine Nat.le_trans (List.length_filter_le _ _) ?_
 rw [List.length_zip]; omega
theorem Y9 {data:List Al} (f:Szv data) (h:G1 data) (t:Ag) (ht:A2 t<=200) (c:Int):Rj data t c=some (okL (Fo data t c)):=by
 unfold Rj Fo
 rw [Y7 f t ht c,Ad]
 cases hf:Fx data t c with
 | none=>rfl
 | some l=>
  have i:=Pl hf
  obtain ⟨x,y,_,hx,_,hy,q,_⟩:=Lb hf
  obtain ⟨g,_⟩:=f x (De hx).2.2.2 y (De hy).2.2.2
  have k:l.length<=6:=by rw [q]; simpa using g
  simp only [okL,Cu,cond_false,Vf data t.Num c h,Ad,Option.map_some]
  refine E2 (C8 data t.Num c) (fun j=>((j:Int),Dz (l.take j) ((C8 data t.Num c).take j))) (by simp [Dz]) (by omega) ?_ ?_
  .intro j b hj hb h1 h2 h3
   have ha:l[j]? = some l[j]:=Bj (by omega)
   generalize l[j]=a at ha
   have s:=Vl (l.take j) ((C8 data t.Num c).take j)
   have:(l.take j).length<=6:=by simp; omega
   simp only [h1,h2,h3,cond_true,Ad,Bn rfl ha,Y8 ha hb]
   rw [C4 (by simp; omega)]
   cases b <;> simp
  .intro h1
   refine ⟨Dz l (C8 data t.Num c),?_,rfl⟩
   simp only [h1]
   rw [List.take_of_length_le (by omega),List.take_of_length_le (Nat.le_refl _)]; rfl
def Fe (r:List Bool):List Int:=(r.zipIdx.filter fun p=>!p.1).map fun p=>(p.2:Int)
def Pm (r:List Bool):List Int:=(r.zipIdx.filter fun p=>p.1).map fun p=>(p.2:Int)
theorem Za {r:List Bool} {j:Nat} {b:Bool} (h:r[j]? = some b):(r.take (j+1)).zipIdx=(r.take j).zipIdx++[(b,j)]:=by
 have:=Dh h
 rw [Cw h,List.zipIdx_append]; simp; omega
theorem Att {data:List Al} (g:Szv data) (i:G1 data) (t:Ag) (ht:A2 t<=200) (c:Int) {l:List Ag} (f:Fx data t c=some l):X4 data t c=some (Fe (C8 data t.Num c),Pm (C8 data t.Num c),true):=by
 unfold X4
 have k:=Pl f
 obtain ⟨x,y,_,hx,_,hy,s,_⟩:=Lb f
 obtain ⟨h,_⟩:=g x (De hx).2.2.2 y (De hy).2.2.2
 have q:l.length<=6:=by rw [s]; simpa using h
 rw [Ady g t ht c,f,Ad]
 simp only [okL,Cu,cond_false,Asq data t.Num c i,Ad]
 generalize C8 data t.Num c=r at *
 refine E2 r (fun j=>((j:Int),Fe (r.take j),Pm (r.take j))) (by simp [Fe,Pm]) (by omega) ?_ ?_
 .intro j b hj hb h1 h2 h3
  have z:(Fe (r.take j)).length<=6:=by
   unfold Fe; rw [List.length_map]; refine Nat.le_trans (List.length_filter_le _ _) ?_; simp; omega
  have u:(Pm (r.take j)).length<=6:=by
   unfold Pm; rw [List.length_map]; refine Nat.le_trans (List.length_filter_le _ _) ?_; simp; omega
  simp only [h1,h2,h3,cond_true,Ad]
  rw [C4 (by simp; omega),C4 (by simp; omega)]
  unfold Fe Pm
  rw [Za hb]
  cases b <;> simp
 .intro h1
  exact ⟨(Fe r,Pm r),by simp,rfl⟩
theorem Atu {l:List Ag} {r:List Bool} (h:r.length=l.length):∀(j:Nat) (a:Int),(Fe r)[j]? = some a->∃x,Ae l a=some x/\(Dz l r)[j]? = some x:=by
 intro j a ha
 have e:Dz l r=(r.zipIdx.filter fun p=>!p.1).map fun p=>(l[p.2]?).getD ⟨0,0,[]⟩:=by
  unfold Dz
  have key:∀n,n<=r.length->(((l.take n).zip (r.take n)).filter fun p=>!p.2).map (·.1)=((r.take n).zipIdx.filter fun p=>!p.1).map fun p=>(l[p.2]?).getD ⟨0,0,[]⟩:=by
   intro n
   induction n with
   | zero=>intro _; simp
   | succ n ih=>
    intro g
    have h1:l[n]? = some l[n]:=Bj (by omega)
    have h2:r[n]? = some r[n]:=Bj (by omega)
    have:=Y8 h1 h2
    unfold Dz at this
    rw [this,ih (by omega),Za h2]
    cases r[n] <;> simp [h1]
  have:=key r.length (Nat.le_refl _)
  rw [List.take_of_length_le (by omega),List.take_of_length_le (Nat.le_refl _)] at this
  exact this
 unfold Fe at ha
 rw [List.getElem?_map] at ha
 cases hp:(r.zipIdx.filter fun p=>!p.1)[j]? with
 | none=>rw [hp] at ha; cases ha
 | some p=>
  rw [hp] at ha
  cases ha
  have c:=Bi hp
  rw [List.mem_filter] at c
  have b:r[p.2]? = some p.1:=List.mk_mem_zipIdx_iff_getElem?.1 c.1
  have f:=Dh b
  have hx:l[p.2]? = some l[p.2]:=Bj (by omega)
  refine ⟨l[p.2],Bn rfl hx,?_⟩
  rw [e,List.getElem?_map,hp]
  simp [hx]
theorem Atv {l:List Ag} {r:List Bool} (h:r.length=l.length):(Fe r).length=(Dz l r).length:=by
 unfold Fe Dz
 simp only [List.length_map]
 have key:∀n,n<=r.length->(((l.take n).zip (r.take n)).filter fun p=>!p.2).length=((r.take n).zipIdx.filter fun p=>!p.1).length:=by
  intro n
  induction n with
  | zero=>intro _; simp
  | succ n ih=>
   intro b
   have h1:l[n]? = some l[n]:=Bj (by omega)
   have h2:r[n]? = some r[n]:=Bj (by omega)
   rw [Za h2,Cw h1,Cw h2,List.zip_append (by simp; omega),List.filter_append,List.length_append,ih (by omega),List.filter_append,List.length_append]
   cases r[n] <;> simp
 have:=key r.length (Nat.le_refl _)
 rw [List.take_of_length_le (by omega),List.take_of_length_le (Nat.le_refl _)] at this
 exact this.symm
theorem Zb {data:List Al} (g:Szv data) (i:G1 data) (t:Ag) (ht:A2 t<=200) (c:Int):Uc data t c=some (okL (Fo data t c)):=by
 unfold Uc Fo
 rw [Ady g t ht c,Ad]
 cases hf:Fx data t c with
 | none=>rfl
 | some l=>
  have f:=Pl hf
  obtain ⟨x,y,_,hx,_,hy,s,_⟩:=Lb hf
  obtain ⟨h,_⟩:=g x (De hx).2.2.2 y (De hy).2.2.2
  have q:l.length<=6:=by rw [s]; simpa using h
  simp only [okL,Cu,cond_false,Att g i t ht c hf,Ad,Option.map_some]
  generalize C8 data t.Num c=r at *
  have k:=Atv f
  have u:=Vl l r
  refine E2 (Fe r) (fun j=>((j:Int),(Dz l r).take j)) (by simp) (by omega) ?_ ?_
  .intro j b hj hb h1 h2 h3
   obtain ⟨a,a1,a2⟩:=Atu f j b hb
   simp only [h1,h2,h3,cond_true,Ad,a1]
   rw [C4 (by simp; omega),Ad,Cw a2]
  .intro h1
   refine ⟨Dz l r,?_,rfl⟩
   simp only [h1]
   rw [List.take_of_length_le (by omega)]; rfl
theorem Vm {data:List Al} {t:Ag} {c:Int} {l:List Ag} (h:Fo data t c=some l):(∀a∈l,A2 a<=200)/\∃x,Ae data t.Num=some x/\0<=c/\c<x.Cons.length:=by
 unfold Fo at h
 cases hf:Fx data t c with
 | none=>rw [hf] at h; cases h
 | some m=>
  rw [hf] at h
  cases h
  obtain ⟨x,y,_,hx,_,hy,_,f⟩:=Lb hf
  refine ⟨fun a ha=>?_,x,hx,(De hy).1,(De hy).2.1⟩
  unfold Dz at ha
  obtain ⟨p,b,rfl⟩:=List.mem_map.1 ha
  exact f _ (List.of_mem_zip (List.mem_filter.1 b).1).1
end Go.Ab
namespace Go.Ab
open Go
mutual
def Cn:A0->Nat
 | ⟨_,l⟩=>1+El l
def El:List A0->Nat
 | []=>0
 | x::xs=>Cn x+El xs
end
theorem Eh (t:A0):Cn t=1+El t.Kids:=by cases t; simp only [Cn]
theorem Hm {l:List A0} {a:A0} (h:a∈l):Cn a<=El l:=by
 induction l with
 | nil=>cases h
 | cons x xs ih=>
  simp only [El]
  rcases List.mem_cons.1 h with rfl | h
  .omega
  .have:=ih h; omega
theorem Js (l:List A0):l.length<=El l:=by
 induction l with
 | nil=>simp
 | cons x xs ih=>simp only [El,List.length_cons]; have:=Eh x; omega
mutual
def Eb (data:List Al):A0->Ag->Option Nat
 | ⟨n,kids⟩,t=>
  if t.Kind=6 then (if n=0 then C6 data kids t.Args else none)
  else if t.Kind=7 then (if 0<=n/\n<=6/\kids.length=0 then some n.toNat else none)
  else if t.Kind=5 then (if n=0 then E9 data kids t else none)
  else if n=0/\kids.length=0 then some 0 else none
def C6 (data:List Al):List A0->List Ag->Option Nat
 | [],[]=>some 0
 | i::is,t::ts=>(Eb data i t).bind fun a=>(C6 data is ts).map (a + ·)
 | [],_::_=>none
 | _::_,[]=>none
def E9 (data:List Al):List A0->Ag->Option Nat
 | [],_=>some 0
 | ⟨n,kids⟩::es,t=>(Fo data t n).bind fun ts=>(C6 data kids ts).bind fun a=>(E9 data es t).map (1+a + ·)
end
theorem Sd (data:List Al) (i:A0) (t:Ag):Eb data i t=if t.Kind=6 then (if i.Num=0 then C6 data i.Kids t.Args else none)
  else if t.Kind=7 then (if 0<=i.Num/\i.Num<=6/\i.Kids.length=0 then some i.Num.toNat else none)
  else if t.Kind=5 then (if i.Num=0 then E9 data i.Kids t else none)
  else if i.Num=0/\i.Kids.length=0 then some 0 else none:=by cases i; simp only [Eb]
theorem Se (data:List Al) (e:A0) (es:List A0) (t:Ag):E9 data (e::es) t=(Fo data t e.Num).bind fun b=>(C6 data e.Kids b).bind fun a=>(E9 data es t).map (1+a + ·):=by cases e; simp only [E9]
theorem Sf (data:List Al) (i:A0) (c:List A0) (t:Ag) (b:List Ag):C6 data (i::c) (t::b)=(Eb data i t).bind fun a=>(C6 data c b).map (a + ·):=by simp only [C6]
theorem Zc (data:List Al):∀(c:List A0) (b:List Ag),b.length≠c.length->C6 data c b=none
 | [],[],h=>absurd rfl h
 | i::c,t::b,h=>by rw [Sf,Zc data c b (by simpa using h)]; cases Eb data i t <;> rfl
 | [],_::_,_=>by simp only [C6]
 | _::_,[],_=>by simp only [C6]
theorem Zd (data:List Al):∀(es:List A0) (t:Ag) (d:Nat),E9 data es t=some d->es.length<=d
 | [],_,_,_=>by simp
 | e::es,t,d,h=>by
  rw [Se] at h
  cases h1:Fo data t e.Num with
  | none=>rw [h1] at h; cases h
  | some c=>
   rw [h1,Ad] at h
   cases h2:C6 data e.Kids c with
   | none=>rw [h2] at h; cases h
   | some a=>
    rw [h2,Ad] at h
    cases h3:E9 data es t with
    | none=>rw [h3] at h; cases h
    | some b=>
     rw [h3] at h
     cases h
     have:=Zd data es t b h3
     simp only [List.length_cons]; omega
def Ff (o:Option Nat):Int:=match o with | some d=>if d<=6 then (d:Int) else -1 | none => -1
theorem Sg {d:Nat} (h:d<=6):Ff (some d)=d:=by simp [Ff,h]
theorem Adz {d:Nat} (h:6<d):Ff (some d) = -1:=by simp only [Ff]; rw [if_neg (by omega)]
theorem Ze (o:Option Nat):(Ff o = -1/\∀d,o=some d->6<d)\/∃d,o=some d/\d<=6/\Ff o=d:=by
 cases o with
 | none=>exact .inl ⟨rfl,fun d h=>by cases h⟩
 | some d=>
  rcases Nat.lt_or_ge 6 d with h | h
  .exact .inl ⟨Adz h,fun e b=>by cases b; exact h⟩
  .exact .inr ⟨d,rfl,h,Sg h⟩
theorem Pn {o:Option Nat} (h:∀d,o=some d->6<d):Ff o = -1:=by
 cases o with
 | none=>rfl
 | some d=>exact Adz (h d rfl)
def Pr (p:Int×Bool) (o:Option Nat):Prop:=(p.2=true/\∃d:Nat,o=some d/\d<=6/\p.1=d)\/(p.2=false/\∀d,o=some d->6<d)
theorem Ki {α:Type} {l:List α} {j:Nat} {x:α} (h:l[j]? = some x):l.drop j=x::l.drop (j+1):=by
 have hj:=Dh h
 rw [List.drop_eq_getElem_cons hj]
 rw [Bj hj] at h
 rw [Option.some.inj h]
theorem Atw {data:List Al} (N:Szv data) (R:G1 data):∀k:Nat,
  (∀(i:A0) (t:Ag),2*Cn i<=k->Cn i<=1048576->A2 t<=200->∃p,M3 k data t i=some p/\Pr p (Eb data i t)) /\
  (∀(f:List A0) (c:List Ag),2*El f+1<=k->El f<=1048576->(∀t∈c,A2 t<=200)->∃p,M8 k data c f=some p/\Pr p (C6 data f c)):=by
 intro k
 induction k with
 | zero=>exact ⟨fun i t h=>by have:=Eh i; omega,fun f c h=>by omega⟩
 | succ k ih=>
  obtain ⟨a6,L⟩:=ih
  constructor
  .intro i t hk hi ht
   have aa:=Eh i
   have a7:=Js i.Kids
   rw [M3,Sd]
   by_cases V:t.Kind=6
   .simp only [B0 V,cond_true,if_pos V]
    by_cases h0:i.Num=0
    .simp only [B4 h0,cond_false,if_pos h0]
     obtain ⟨p,p1,p2⟩:=L i.Kids t.Args (by omega) (by omega) (fun a ha=>by have:=F1 ha; have:=Fw t; omega)
     rw [p1]
     exact ⟨p,rfl,p2⟩
    .simp only [Ca h0,cond_true,if_neg h0]
     exact ⟨_,rfl,.inr ⟨rfl,fun d h=>by cases h⟩⟩
   .simp only [Bg V,cond_false,if_neg V]
    by_cases U:t.Kind=7
    .simp only [B0 U,cond_true,if_pos U]
     by_cases a1:0<=i.Num
     .by_cases a2:i.Num<=6
      .by_cases a3:i.Kids.length=0
       .rw [Aj (show i.Num>=0 from a1),Aj a2,if_pos ⟨a1,a2,a3⟩]
        exact ⟨_,rfl,.inl ⟨by simp [a3],i.Num.toNat,rfl,by omega,by simp; omega⟩⟩
       .rw [Aj (show i.Num>=0 from a1),Aj a2,if_neg (fun h=>a3 h.2.2)]
        exact ⟨_,rfl,.inr ⟨Bg (by omega),fun d h=>by cases h⟩⟩
      .rw [Aj (show i.Num>=0 from a1),Am a2,if_neg (fun h=>a2 h.2.1)]
       exact ⟨_,rfl,.inr ⟨rfl,fun d h=>by cases h⟩⟩
     .rw [Am (show ¬i.Num>=0 from a1),if_neg (fun h=>a1 h.1)]
      exact ⟨_,rfl,.inr ⟨rfl,fun d h=>by cases h⟩⟩
    .simp only [Bg U,cond_false,if_neg U]
     by_cases X:t.Kind=5
     .simp only [B0 X,cond_true,if_pos X]
      by_cases h0:i.Num=0
      .simp only [B4 h0,cond_false,if_pos h0]
       have key:∀(m j acc:Nat),j+m=i.Kids.length->acc<=6->∃z,Ak (S:=(Int×Int)) (E:=((Int×Bool)⊕Int)) (fun (v8,v9)=>
         bif (decide (v9<(i.Kids.length:Int))) then (
         (Ae i.Kids v9).bind fun y=>
         (Rj data t y.Num).bind fun v12=>
         bif (!v12.2) then some (.inr (.inl (0,false)))
         else (
         (M8 k data v12.1 y.Kids).bind fun G=>
         bif (!G.2) then some (.inr (.inl (0,false)))
         else (
         bif (decide ((Ac (v8+(Ac (1+G.1))))>(6:Int))) then some (.inr (.inl (0,false)))
         else some (.inl ((Ac (v8+(Ac (1+G.1)))),(Ac (v9+1)))))))
         else some (.inr (.inr v8))) ((acc:Int),(j:Int))=some z/\(match z with | .inl p=>p=(0,false)/\∀d,(E9 data (i.Kids.drop j) t).map (acc + ·)=some d->6<d | .inr v=>∃d:Nat,(E9 data (i.Kids.drop j) t).map (acc + ·)=some d/\d<=6/\v=d):=by
        intro m
        induction m with
        | zero=>
         intro j acc hj l
         have:j=i.Kids.length:=by omega
         subst this
         exact ⟨.inr (acc:Int),D9 (by simp),acc,by simp [E9],l,rfl⟩
        | succ m A=>
         intro j acc hj l
         have g:i.Kids[j]? = some i.Kids[j]:=Bj (by omega)
         generalize i.Kids[j]=e at g
         have a8:=Hm (Bi g)
         have ab:=Eh e
         rw [Ki g,Se]
         cases hp:Fo data t e.Num with
         | none=>
          refine ⟨.inl (0,false),D9 ?_,rfl,fun d h=>by simp at h⟩
          simp only [Aj (by omega:(j:Int)<(i.Kids.length:Int)),cond_true,Bn rfl g,Ad,Y9 N R t ht e.Num,hp,okL,Bool.not_false]
         | some c=>
          obtain ⟨q,J,s⟩:=L e.Kids c (by omega) (by omega) (Vm hp).1
          rcases s with ⟨s,a,B,q4,Z⟩ | ⟨s,B⟩
          .have Y:Ac ((acc:Int)+Ac (1+q.1))=((acc+(1+a):Nat):Int):=by
            rw [Z,show Ac (1+(a:Int))=((1+a:Nat):Int) by rw [Ac,Bp] <;> omega,Ac,Bp] <;> omega
           by_cases hb:acc+(1+a)<=6
           .obtain ⟨z,x,z2⟩:=A (j+1) (acc+(1+a)) (by omega) hb
            refine ⟨z,?_,?_⟩
            .rw [Hv (s':=(((acc+(1+a):Nat):Int),((j+1:Nat):Int)))]
             .exact x
             .simp only [Aj (by omega:(j:Int)<(i.Kids.length:Int)),cond_true,Bn rfl g,Ad,Y9 N R t ht e.Num,hp,okL,Cu,cond_false,J,s,Y,Am (by omega:¬((acc+(1+a):Nat):Int)>6),C5 (show j<i.Kids.length by omega) (by omega)]
            .have I:∀o:Option Nat,(((some a:Option Nat).bind fun a=>o.map (1+a + ·)).map (acc + ·))=o.map (acc+(1+a) + ·):=by
              intro o; cases o <;> simp [Nat.add_assoc]
             rw [Ad,B,I]
             exact z2
           .refine ⟨.inl (0,false),D9 ?_,rfl,fun d h=>?_⟩
            .simp only [Aj (by omega:(j:Int)<(i.Kids.length:Int)),cond_true,Bn rfl g,Ad,Y9 N R t ht e.Num,hp,okL,Cu,cond_false,J,s,Y,Aj (by omega:((acc+(1+a):Nat):Int)>6)]
            .rw [Ad,B,Ad] at h
             cases D:E9 data (i.Kids.drop (j+1)) t with
             | none=>rw [D] at h; cases h
             | some b=>rw [D] at h; simp at h; omega
          .refine ⟨.inl (0,false),D9 ?_,rfl,fun d h=>?_⟩
           .simp only [Aj (by omega:(j:Int)<(i.Kids.length:Int)),cond_true,Bn rfl g,Ad,Y9 N R t ht e.Num,hp,okL,Cu,cond_false,J,s,Bool.not_false]
           .rw [Ad] at h
            cases ha:C6 data e.Kids c with
            | none=>rw [ha] at h; cases h
            | some a=>
             rw [ha,Ad] at h
             have:=B a ha
             cases D:E9 data (i.Kids.drop (j+1)) t with
             | none=>rw [D] at h; cases h
             | some b=>rw [D] at h; simp at h; omega
       obtain ⟨z,x,z2⟩:=key i.Kids.length 0 0 (by omega) (by omega)
       have x:Ak _ ((0:Int),(0:Int))=some z:=x
       rw [x,Ad]
       have I:∀o:Option Nat,o.map (0 + ·)=o:=by intro o; cases o <;> simp
       rw [List.drop_zero,I] at z2
       match z,z2 with
       | .inl p,z2=>exact ⟨_,rfl,.inr ⟨by rw [z2.1],z2.2⟩⟩
       | .inr v,z2=>
        obtain ⟨d,d1,d2,d3⟩:=z2
        exact ⟨_,rfl,.inl ⟨rfl,d,d1,d2,d3⟩⟩
      .simp only [Ca h0,cond_true,if_neg h0]
       exact ⟨_,rfl,.inr ⟨rfl,fun d h=>by cases h⟩⟩
     .simp only [Bg X,cond_false,if_neg X]
      by_cases h0:i.Num=0
      .simp only [B0 h0,cond_true]
       by_cases a3:i.Kids.length=0
       .rw [if_pos ⟨h0,a3⟩]
        exact ⟨_,rfl,.inl ⟨by simp [a3],0,rfl,by omega,rfl⟩⟩
       .rw [if_neg (fun h=>a3 h.2)]
        exact ⟨_,rfl,.inr ⟨Bg (by omega),fun d h=>by cases h⟩⟩
      .simp only [Bg h0,cond_false]
       rw [if_neg (fun h=>h0 h.1)]
       exact ⟨_,rfl,.inr ⟨rfl,fun d h=>by cases h⟩⟩
  .intro f c hk hi ht
   have a7:=Js f
   rw [M8]
   by_cases hl:c.length=f.length
   .rw [B4 (by omega)]
    simp only [cond_false]
    have key:∀(m j acc:Nat),j+m=f.length->acc<=6*j->∃z,Ak (S:=(Int×Int)) (E:=((Int×Bool)⊕Int)) (fun (v5,M)=>
      bif (decide (M<(c.length:Int))) then (
      (Ae c M).bind fun v7=>
      (Ae f M).bind fun v9=>
      (M3 k data v7 v9).bind fun y=>
      bif (!y.2) then some (.inr (.inl (0,false)))
      else some (.inl ((Ac (v5+y.1)),(Ac (M+1)))))
      else some (.inr (.inr v5))) ((acc:Int),(j:Int))=some z/\(match z with | .inl p=>p=(0,false)/\∀d,(C6 data (f.drop j) (c.drop j)).map (acc + ·)=some d->6<d | .inr v=>∃d:Nat,(C6 data (f.drop j) (c.drop j)).map (acc + ·)=some d/\v=d):=by
     intro m
     induction m with
     | zero=>
      intro j acc hj l
      have:j=c.length:=by omega
      subst this
      refine ⟨.inr (acc:Int),D9 (by simp),acc,?_,rfl⟩
      rw [List.drop_of_length_le (by omega),List.drop_of_length_le (by omega)]
      simp [C6]
     | succ m A=>
      intro j acc hj l
      have g:f[j]? = some f[j]:=Bj (by omega)
      generalize f[j]=e at g
      have hu:c[j]? = some c[j]:=Bj (by omega)
      generalize c[j]=u at hu
      have a8:=Hm (Bi g)
      rw [Ki g,Ki hu,Sf]
      obtain ⟨q,J,s⟩:=a6 e u (by omega) (by omega) (ht u (Bi hu))
      rcases s with ⟨s,a,B,q4,Z⟩ | ⟨s,B⟩
      .have Y:Ac ((acc:Int)+q.1)=((acc+a:Nat):Int):=by
        rw [Z,Ac,Bp] <;> omega
       obtain ⟨z,x,z2⟩:=A (j+1) (acc+a) (by omega) (by omega)
       refine ⟨z,?_,?_⟩
       .rw [Hv (s':=(((acc+a:Nat):Int),((j+1:Nat):Int)))]
        .exact x
        .simp only [Aj (by omega:(j:Int)<(c.length:Int)),cond_true,Bn rfl g,Bn rfl hu,Ad,Cu,cond_false,J,s,Y,C5 (show j<f.length by omega) (by omega)]
       .have I:∀o:Option Nat,(((some a:Option Nat).bind fun a=>o.map (a + ·)).map (acc + ·))=o.map (acc+a + ·):=by
         intro o; cases o <;> simp [Nat.add_assoc]
        rw [B,I]
        exact z2
      .refine ⟨.inl (0,false),D9 ?_,rfl,fun d h=>?_⟩
       .simp only [Aj (by omega:(j:Int)<(c.length:Int)),cond_true,Bn rfl g,Bn rfl hu,Ad,J,s,Bool.not_false]
       .cases ha:Eb data e u with
        | none=>rw [ha] at h; cases h
        | some a=>
         rw [ha,Ad] at h
         have:=B a ha
         cases D:C6 data (f.drop (j+1)) (c.drop (j+1)) with
         | none=>rw [D] at h; cases h
         | some b=>rw [D] at h; simp at h; omega
    obtain ⟨z,x,z2⟩:=key f.length 0 0 (by omega) (by omega)
    have x:Ak _ ((0:Int),(0:Int))=some z:=x
    rw [x,Ad]
    have I:∀o:Option Nat,o.map (0 + ·)=o:=by intro o; cases o <;> simp
    rw [List.drop_zero,List.drop_zero,I] at z2
    match z,z2 with
    | .inl p,z2=>exact ⟨_,rfl,.inr ⟨by rw [z2.1],z2.2⟩⟩
    | .inr v,z2=>
     obtain ⟨d,d1,d3⟩:=z2
     by_cases hd:d<=6
     .exact ⟨_,rfl,.inl ⟨Aj (by omega),d,d1,hd,d3⟩⟩
     .exact ⟨_,rfl,.inr ⟨Am (by omega),fun e g=>by rw [d1] at g; cases g; omega⟩⟩
   .rw [Ca (by omega),Zc data f c hl]
    exact ⟨_,rfl,.inr ⟨rfl,fun d h=>by cases h⟩⟩
end Go.Ab
namespace Go.Ab
open Go
theorem Ajy {data:List Al} (V:Szv data) (X:G1 data) (h8:∀x∈data,x.Cons.length<=8):∀k:Nat,
  (∀(i:A0) (t:Ag),2*Cn i<=k->Cn i<=1048576->A2 t<=200->Ox k data t i=some (Ff (Eb data i t))) /\
  (∀(f:List A0) (c:List Ag),2*El f+1<=k->El f<=1048576->(∀t∈c,A2 t<=200)->Rk k data c f=some (Ff (C6 data f c))):=by
 intro k
 induction k with
 | zero=>exact ⟨fun i t h=>by have:=Eh i; omega,fun f c h=>by omega⟩
 | succ k ih=>
  obtain ⟨a8,M⟩:=ih
  have J:∀o:Option Nat,o.map (0 + ·)=o:=by intro o; cases o <;> simp
  constructor
  .intro i t hk hi ht
   have ag:=Eh i
   have aa:=Js i.Kids
   rw [Ox,Sd]
   by_cases Z:t.Kind=6
   .simp only [B0 Z,cond_true,if_pos Z]
    by_cases h0:i.Num=0
    .simp only [B4 h0,cond_false,if_pos h0]
     rw [M i.Kids t.Args (by omega) (by omega) (fun a ha=>by have:=F1 ha; have:=Fw t; omega)]
     rfl
    .simp only [Ca h0,cond_true,if_neg h0]; rfl
   .simp only [Bg Z,cond_false,if_neg Z]
    by_cases Y:t.Kind=7
    .simp only [B0 Y,cond_true,if_pos Y]
     by_cases a1:0<=i.Num
     .by_cases a2:i.Num<=6
      .by_cases a3:i.Kids.length=0
       .rw [Am (by omega),Am (by omega),Am (by omega),if_pos ⟨a1,a2,a3⟩,Sg (by omega)]
        simp; omega
       .rw [Am (by omega),Am (by omega),Aj (by omega),if_neg (fun h=>a3 h.2.2)]; rfl
      .rw [Am (by omega),Aj (by omega),if_neg (fun h=>a2 h.2.1)]; rfl
     .rw [Aj (by omega),if_neg (fun h=>a1 h.1)]; rfl
    .simp only [Bg Y,cond_false,if_neg Y]
     by_cases h5:t.Kind=5
     .simp only [B0 h5,cond_true,if_pos h5]
      by_cases h0:i.Num=0
      .simp only [B4 h0,cond_false,if_pos h0,Ad]
       by_cases N:(i.Kids.length:Int)>6
       .rw [Aj N]
        refine congrArg some (Pn fun d hd=>?_).symm
        have:=Zd data _ _ _ hd
        omega
       rw [Am N]
       simp only [cond_false]
       have key:∀(m j acc:Nat),j+m=i.Kids.length->acc<=6->∃z,Ak (S:=(Int×Int)) (E:=(Int⊕Int)) (fun (G,v11)=>
         bif (decide (v11<(i.Kids.length:Int))) then (
         (Ae i.Kids v11).bind fun v12=>
         (show Option Bool from
         bif (decide (v12.Num<(0:Int))) then some true
         else some (decide (v12.Num>=(8:Int)))).bind fun a6=>
         bif a6 then some (.inr (.inl (-1)))
         else (
         (Uc data t v12.Num).bind fun L=>
         bif (!L.2) then some (.inr (.inl (-1)))
         else (
         (Rk k data L.1 v12.Kids).bind fun D=>
         bif (decide (D<(0:Int))) then some (.inr (.inl (-1)))
         else (
         bif (decide ((Ac ((Ac (G+1))+D))>(6:Int))) then some (.inr (.inl (-1)))
         else some (.inl ((Ac (G+(Ac (1+D)))),(Ac (v11+1))))))))
         else some (.inr (.inr G))) ((acc:Int),(j:Int))=some z/\(match z with | .inl v=>v | .inr v=>v)=Ff ((E9 data (i.Kids.drop j) t).map (acc + ·)):=by
        intro m
        induction m with
        | zero=>
         intro j acc hj g
         have:j=i.Kids.length:=by omega
         subst this
         refine ⟨.inr (acc:Int),D9 (by simp),?_⟩
         simp [E9,Ff,g]
        | succ m y=>
         intro j acc hj g
         have l:i.Kids[j]? = some i.Kids[j]:=Bj (by omega)
         generalize i.Kids[j]=e at l
         have ab:=Hm (Bi l)
         have ah:=Eh e
         rw [Ki l,Se]
         have hb:(bif decide (e.Num<(0:Int)) then some true else some (decide (e.Num>=(8:Int))))=some (decide (e.Num<0\/8<=e.Num)):=by
          by_cases g1:e.Num<0 <;> by_cases g2:8<=e.Num <;> simp [g1,g2]
         cases hp:Fo data t e.Num with
         | none=>
          refine ⟨.inl (-1),D9 ?_,by simp [Ff]⟩
          simp only [Aj (by omega:(j:Int)<(i.Kids.length:Int)),cond_true,Bn rfl l,Ad,Zb V X t ht e.Num,hp,okL,Bool.not_false,hb]
          cases decide (e.Num<0\/8<=e.Num) <;> rfl
         | some c=>
          obtain ⟨pz,x,a7,ae,ad⟩:=Vm hp
          have af:=h8 x (De a7).2.2.2
          have s:=M e.Kids c (by omega) (by omega) pz
          have hb':decide (e.Num<0\/8<=e.Num)=false:=Am (by omega)
          rcases Ze (C6 data e.Kids c) with ⟨B,U⟩ | ⟨a,B,U,c3⟩
          .rw [B] at s
           refine ⟨.inl (-1),D9 ?_,?_⟩
           .simp only [Aj (by omega:(j:Int)<(i.Kids.length:Int)),cond_true,Bn rfl l,Ad,Zb V X t ht e.Num,hp,okL,Cu,cond_false,hb,hb',s]; rfl
           .refine (Pn fun d h=>?_).symm
            rw [Ad] at h
            cases ha:C6 data e.Kids c with
            | none=>rw [ha] at h; cases h
            | some a=>
             rw [ha,Ad] at h
             have:=U a ha
             cases A:E9 data (i.Kids.drop (j+1)) t with
             | none=>rw [A] at h; cases h
             | some b=>rw [A] at h; simp at h; omega
          .rw [c3] at s
           have R:Ac (Ac ((acc:Int)+1)+(a:Int))=((acc+(1+a):Nat):Int):=by
            rw [show Ac ((acc:Int)+1)=((acc+1:Nat):Int) by rw [Ac,Bp] <;> omega,Ac,Bp] <;> omega
           have ac:Ac ((acc:Int)+Ac (1+(a:Int)))=((acc+(1+a):Nat):Int):=by
            rw [show Ac (1+(a:Int))=((1+a:Nat):Int) by rw [Ac,Bp] <;> omega,Ac,Bp] <;> omega
           by_cases I:acc+(1+a)<=6
           .obtain ⟨z,q,z2⟩:=y (j+1) (acc+(1+a)) (by omega) I
            refine ⟨z,?_,?_⟩
            .rw [Hv (s':=(((acc+(1+a):Nat):Int),((j+1:Nat):Int)))]
             .exact q
             .simp only [Aj (by omega:(j:Int)<(i.Kids.length:Int)),cond_true,Bn rfl l,Ad,Zb V X t ht e.Num,hp,okL,Cu,cond_false,hb,hb',s,R,ac,Am (by omega:¬(a:Int)<0),Am (by omega:¬((acc+(1+a):Nat):Int)>6),C5 (show j<i.Kids.length by omega) (by omega)]
            .have J:∀o:Option Nat,(((some a:Option Nat).bind fun a=>o.map (1+a + ·)).map (acc + ·))=o.map (acc+(1+a) + ·):=by
              intro o; cases o <;> simp [Nat.add_assoc]
             rw [Ad,B,J]
             exact z2
           .refine ⟨.inl (-1),D9 ?_,?_⟩
            .simp only [Aj (by omega:(j:Int)<(i.Kids.length:Int)),cond_true,Bn rfl l,Ad,Zb V X t ht e.Num,hp,okL,Cu,cond_false,hb,hb',s,R,Am (by omega:¬(a:Int)<0),Aj (by omega:((acc+(1+a):Nat):Int)>6)]
            .refine (Pn fun d h=>?_).symm
             rw [Ad,B,Ad] at h
             cases A:E9 data (i.Kids.drop (j+1)) t with
             | none=>rw [A] at h; cases h
             | some b=>rw [A] at h; simp at h; omega
       obtain ⟨z,q,z2⟩:=key i.Kids.length 0 0 (by omega) (by omega)
       have q:Ak _ ((0:Int),(0:Int))=some z:=q
       erw [q,Ad]
       rw [List.drop_zero,J] at z2
       rw [<-z2]
       cases z <;> rfl
      .simp only [Ca h0,cond_true,if_neg h0]; rfl
     .simp only [Bg h5,cond_false,if_neg h5]
      by_cases h0:i.Num=0
      .simp only [B4 h0,cond_false]
       by_cases a3:i.Kids.length=0
       .rw [if_pos ⟨h0,a3⟩,Am (by omega)]; rfl
       .rw [if_neg (fun h=>a3 h.2),Aj (by omega)]; rfl
      .simp only [Ca h0,cond_true]
       rw [if_neg (fun h=>h0 h.1)]; rfl
  .intro f c hk hi ht
   have aa:=Js f
   rw [Rk]
   by_cases hl:c.length=f.length
   .rw [B4 (by omega)]
    simp only [cond_false]
    have key:∀(m j acc:Nat),j+m=f.length->acc<=6->∃z,Ak (S:=(Int×Int)) (E:=(Int⊕Int)) (fun (v4,v5)=>
      bif (decide (v5<(c.length:Int))) then (
      (Ae c v5).bind fun v6=>
      (Ae f v5).bind fun v7=>
      (Ox k data v6 v7).bind fun v8=>
      bif (decide (v8<(0:Int))) then some (.inr (.inl (-1)))
      else (
      bif (decide ((Ac (v4+v8))>(6:Int))) then some (.inr (.inl (-1)))
      else some (.inl ((Ac (v4+v8)),(Ac (v5+1))))))
      else some (.inr (.inr v4))) ((acc:Int),(j:Int))=some z/\(match z with | .inl v=>v | .inr v=>v)=Ff ((C6 data (f.drop j) (c.drop j)).map (acc + ·)):=by
     intro m
     induction m with
     | zero=>
      intro j acc hj g
      have:j=c.length:=by omega
      subst this
      refine ⟨.inr (acc:Int),D9 (by simp),?_⟩
      rw [List.drop_of_length_le (by omega),List.drop_of_length_le (by omega)]
      simp [C6,Ff,g]
     | succ m y=>
      intro j acc hj g
      have l:f[j]? = some f[j]:=Bj (by omega)
      generalize f[j]=e at l
      have hu:c[j]? = some c[j]:=Bj (by omega)
      generalize c[j]=u at hu
      have ab:=Hm (Bi l)
      rw [Ki l,Ki hu,Sf]
      have s:=a8 e u (by omega) (by omega) (ht u (Bi hu))
      rcases Ze (Eb data e u) with ⟨B,U⟩ | ⟨a,B,U,c3⟩
      .rw [B] at s
       refine ⟨.inl (-1),D9 ?_,?_⟩
       .simp only [Aj (by omega:(j:Int)<(c.length:Int)),cond_true,Bn rfl l,Bn rfl hu,Ad,s]; rfl
       .refine (Pn fun d h=>?_).symm
        cases ha:Eb data e u with
        | none=>rw [ha] at h; cases h
        | some a=>
         rw [ha,Ad] at h
         have:=U a ha
         cases A:C6 data (f.drop (j+1)) (c.drop (j+1)) with
         | none=>rw [A] at h; cases h
         | some b=>rw [A] at h; simp at h; omega
      .rw [c3] at s
       have R:Ac ((acc:Int)+(a:Int))=((acc+a:Nat):Int):=by rw [Ac,Bp] <;> omega
       by_cases I:acc+a<=6
       .obtain ⟨z,q,z2⟩:=y (j+1) (acc+a) (by omega) I
        refine ⟨z,?_,?_⟩
        .rw [Hv (s':=(((acc+a:Nat):Int),((j+1:Nat):Int)))]
         .exact q
         .simp only [Aj (by omega:(j:Int)<(c.length:Int)),cond_true,Bn rfl l,Bn rfl hu,Ad,cond_false,s,R,Am (by omega:¬(a:Int)<0),Am (by omega:¬((acc+a:Nat):Int)>6),C5 (show j<f.length by omega) (by omega)]
        .have J:∀o:Option Nat,(((some a:Option Nat).bind fun a=>o.map (a + ·)).map (acc + ·))=o.map (acc+a + ·):=by
          intro o; cases o <;> simp [Nat.add_assoc]
         rw [B,J]
         exact z2
       .refine ⟨.inl (-1),D9 ?_,?_⟩
        .simp only [Aj (by omega:(j:Int)<(c.length:Int)),cond_true,Bn rfl l,Bn rfl hu,Ad,cond_false,s,R,Am (by omega:¬(a:Int)<0),Aj (by omega:((acc+a:Nat):Int)>6)]
        .refine (Pn fun d h=>?_).symm
         rw [B,Ad] at h
         cases A:C6 data (f.drop (j+1)) (c.drop (j+1)) with
         | none=>rw [A] at h; cases h
         | some b=>rw [A] at h; simp at h; omega
    obtain ⟨z,q,z2⟩:=key f.length 0 0 (by omega) (by omega)
    have q:Ak _ ((0:Int),(0:Int))=some z:=q
    rw [q,Ad]
    rw [List.drop_zero,List.drop_zero,J] at z2
    rw [<-z2]
    cases z <;> rfl
   .rw [Ca (by omega),Zc data f c hl]; rfl
theorem F3.cons8 {data:List Al} (h:F3 data):∀x∈data,x.Cons.length<=8:=by
 intro x hx
 obtain ⟨d,hd⟩:=List.getElem?_of_mem hx
 exact (h.2.1 d x hd).2.2.2.1
theorem Atx {data:List Al} (b:F3 data) (c:G1 data) (t:Ag) (i:A0) (ht:A2 t<=200) (hi:Cn i<=1048576):Tz data t i=some (Ff (Eb data i t)):=by
 unfold Tz
 rw [(Ajy b.szv c b.cons8 4000000).1 i t (by omega) hi ht]; rfl
end Go.Ab
namespace Go.Ab
open Go
def I64 (n:Int):Prop:= -9223372036854775808<=n/\n<=9223372036854775807
def ti (n:Int):List Int:=(Lib.itoa n).map fun c=>(c.toNat:Int)
def Ly (c:Int):Bool:=c==45||(decide (48<=c)&&decide (c<=57))
theorem Sh {d:Nat} (h:d<10):(UInt8.ofNat (48+d)).toNat=48+d:=by
 rw [UInt8.toNat_ofNat']; omega
theorem Zf:∀(n u:Nat),u<=n->∀c∈Lib.decDigits u,48<=c.toNat/\c.toNat<=57:=by
 intro n
 induction n with
 | zero=>
  intro u hu c hc
  rw [Lib.decDigits,dif_pos (by omega)] at hc
  simp only [List.mem_singleton] at hc
  subst hc; rw [Sh (by omega)]; omega
 | succ n ih=>
  intro u hu c hc
  rw [Lib.decDigits] at hc
  split at hc
  .simp only [List.mem_singleton] at hc
   subst hc; rw [Sh (by omega)]; omega
  .rcases List.mem_append.1 hc with h | h
   .exact ih (u / 10) (by omega) c h
   .simp only [List.mem_singleton] at h
    subst h; rw [Sh (by omega)]; omega
def Zg (l:List UInt8):Nat:=l.foldl (fun a c=>10*a+(c.toNat-48)) 0
theorem Ajz:∀(n u:Nat),u<=n->Zg (Lib.decDigits u)=u:=by
 intro n
 induction n with
 | zero=>
  intro u hu
  rw [Lib.decDigits,dif_pos (by omega)]
  simp only [Zg,List.foldl_cons,List.foldl_nil]
  rw [Sh (by omega)]; omega
 | succ n ih=>
  intro u hu
  rw [Lib.decDigits]
  split
  .simp only [Zg,List.foldl_cons,List.foldl_nil]
   rw [Sh (by omega)]; omega
  .have:=ih (u / 10) (by omega)
   unfold Zg at *
   rw [List.foldl_append,this]
   simp only [List.foldl_cons,List.foldl_nil]
   rw [Sh (by omega)]; omega
theorem Aj0 {u v:Nat} (h:Lib.decDigits u=Lib.decDigits v):u=v:=by
 rw [<-Ajz u u (Nat.le_refl _),h,Ajz v v (Nat.le_refl _)]
theorem Aty (u:Nat):Lib.decDigits u≠[]:=by
 rw [Lib.decDigits]; split <;> simp
theorem Atz {m n:Int} (h:Lib.itoa m=Lib.itoa n):m=n:=by
 have b:∀u v:Nat,45::Lib.decDigits u≠Lib.decDigits v:=by
  intro u v e
  have:=Zf v v (Nat.le_refl _) 45 (by rw [<-e]; simp)
  exact absurd this (by decide)
 unfold Lib.itoa at h
 split at h <;> split at h
 .have:=Aj0 (List.cons.inj h).2; omega
 .exact absurd h (b _ _)
 .exact absurd h.symm (b _ _)
 .have:=Aj0 h; omega
theorem Lz (n:Int):∀c∈ti n,Ly c=true:=by
 intro c hc
 unfold ti at hc
 obtain ⟨b,hb,rfl⟩:=List.mem_map.1 hc
 have key:b=45\/(48<=b.toNat/\b.toNat<=57):=by
  unfold Lib.itoa at hb
  split at hb
  .rcases List.mem_cons.1 hb with h | h
   .exact .inl h
   .exact .inr (Zf _ _ (Nat.le_refl _) b h)
  .exact .inr (Zf _ _ (Nat.le_refl _) b hb)
 unfold Ly
 rcases key with rfl | ⟨h1,h2⟩
 .decide
 .rw [Bool.or_eq_true,Ce,decide_eq_true_eq,decide_eq_true_eq]; right; omega
theorem Ad0 (n:Int):ti n≠[]:=by
 unfold ti Lib.itoa
 split
 .simp
 .simpa using Aty _
theorem Aj1 {m n:Int} (h:ti m=ti n):m=n:=by
 unfold ti at h
 have:∀l m:List UInt8,l.map (fun c=>(c.toNat:Int))=m.map (fun c=>(c.toNat:Int))->l=m:=by
  intro l
  induction l with
  | nil=>intro m h; cases m with | nil=>rfl | cons=>simp at h
  | cons x xs ih=>
   intro m h
   cases m with
   | nil=>simp at h
   | cons y ys=>
    simp only [List.map_cons,List.cons.injEq] at h
    rw [ih ys h.2,UInt8.toNat.inj (by omega:x.toNat=y.toNat)]
 exact Atz (this _ _ h)
theorem Ad1 {n:Int} (h:I64 n):(ti n).length<=21:=by
 unfold ti; rw [List.length_map]; exact Lib.itoa_length_le n h.1 h.2
def Po (X:List Int):Prop:=∀c m,X=c::m->Ly c=false/\c≠40
def Zh (X:List Int):Prop:=∀c m,X=c::m->Ly c=false
theorem Ad2:∀(a b X Y:List Int),(∀c∈a,Ly c=true)->(∀c∈b,Ly c=true)->Zh X->Zh Y->a++X=b++Y->a=b/\X=Y
 | [],[],_,_,_,_,_,_,h=>⟨rfl,h⟩
 | [],y::b,X,Y,_,hb,g,_,h=>by
  have:=g y (b++Y) h
  rw [hb y (by simp)] at this; cases this
 | x::a,[],X,Y,ha,_,_,f,h=>by
  have:=f x (a++X) h.symm
  rw [ha x (by simp)] at this; cases this
 | x::a,y::b,X,Y,ha,hb,g,f,h=>by
  simp only [List.cons_append,List.cons.injEq] at h
  obtain ⟨j,i⟩:=Ad2 a b X Y (fun c hc=>ha c (by simp [hc])) (fun c hc=>hb c (by simp [hc])) g f h.2
  exact ⟨by rw [h.1,j],i⟩
mutual
def wx:A0->List Int
 | ⟨n,kids⟩=>ti n++(if kids.length=0 then [] else 40::(wxs kids++[41]))
def wxs:List A0->List Int
 | []=>[]
 | x::xs=>wx x++44::wxs xs
end
theorem Ad3 (i:A0):wx i=ti i.Num++(if i.Kids.length=0 then [] else 40::(wxs i.Kids++[41])):=by cases i; simp only [wx]
theorem Aj2 (l m:List A0):wxs (l++m)=wxs l++wxs m:=by
 induction l with
 | nil=>simp [wxs]
 | cons x xs ih=>simp only [List.cons_append,wxs,ih,List.append_assoc]
theorem Aj3 (b:List A0) (X:List Int) (f:Po X):Zh ((if b.length=0 then [] else 40::(wxs b++[41]))++X):=by
 intro c m h
 by_cases hk:b.length=0
 .rw [if_pos hk,List.nil_append] at h
  exact (f c m h).1
 .rw [if_neg hk,List.cons_append] at h
  cases h; decide
theorem Aj4 (X:List Int):Po (44::X):=by intro c m h; cases h; exact ⟨by decide,by decide⟩
theorem Aj5:Po []:=by intro c m h; cases h
mutual
theorem Aj6:∀(i j:A0) (X Y:List Int),Po X->Po Y->wx i++X=wx j++Y->i=j/\X=Y
 | ⟨n,k⟩,⟨n',k'⟩,X,Y,hX,hY,h=>by
  simp only [wx,List.append_assoc] at h
  obtain ⟨e1,e2⟩:=Ad2 _ _ _ _ (Lz n) (Lz n') (Aj3 k X hX) (Aj3 k' Y hY) h
  have e1:=Aj1 e1
  subst e1
  by_cases hk:k.length=0
  .by_cases hk':k'.length=0
   .rw [if_pos hk,if_pos hk'] at e2
    rw [List.length_eq_zero_iff.1 hk,List.length_eq_zero_iff.1 hk']
    exact ⟨rfl,e2⟩
   .rw [if_pos hk,if_neg hk',List.nil_append,List.cons_append] at e2
    exact absurd rfl (hX _ _ e2).2
  .by_cases hk':k'.length=0
   .rw [if_neg hk,if_pos hk',List.nil_append,List.cons_append] at e2
    exact absurd rfl (hY _ _ e2.symm).2
   .rw [if_neg hk,if_neg hk',List.cons_append,List.cons_append,List.append_assoc,List.append_assoc] at e2
    obtain ⟨e3,e4⟩:=Aj7 k k' X Y hX hY (List.cons.inj e2).2
    rw [e3]; exact ⟨rfl,e4⟩
theorem Aj7:∀(l m:List A0) (X Y:List Int),Po X->Po Y->wxs l++([41]++X)=wxs m++([41]++Y)->l=m/\X=Y
 | [],[],X,Y,_,_,h=>by
  simp only [wxs,List.nil_append,List.cons_append,List.cons.injEq,true_and] at h
  exact ⟨rfl,h⟩
 | [],y::ys,X,Y,_,_,h=>by
  exfalso
  cases ht:ti y.Num with
  | nil=>exact Ad0 _ ht
  | cons c r=>
   have hc:=Lz y.Num c (by rw [ht]; simp)
   simp only [wxs,Ad3 y,ht,List.nil_append,List.cons_append,List.cons.injEq] at h
   rw [<-h.1] at hc; exact absurd hc (by decide)
 | x::xs,[],X,Y,_,_,h=>by
  exfalso
  cases ht:ti x.Num with
  | nil=>exact Ad0 _ ht
  | cons c r=>
   have hc:=Lz x.Num c (by rw [ht]; simp)
   simp only [wxs,Ad3 x,ht,List.nil_append,List.cons_append,List.cons.injEq] at h
   rw [h.1] at hc; exact absurd hc (by decide)
 | x::xs,y::ys,X,Y,hX,hY,h=>by
  simp only [wxs,List.append_assoc,List.cons_append] at h
  obtain ⟨e1,e2⟩:=Aj6 x y _ _ (Aj4 _) (Aj4 _) h
  obtain ⟨e3,e4⟩:=Aj7 xs ys X Y hX hY (by simpa using e2)
  exact ⟨by rw [e1,e3],e4⟩
end
mutual
def iR:A0->Prop
 | ⟨n,l⟩=>I64 n/\iRs l
def iRs:List A0->Prop
 | []=>True
 | x::xs=>iR x/\iRs xs
end
theorem At0 (i:A0):iR i↔I64 i.Num/\iRs i.Kids:=by cases i; simp only [iR]
theorem At1 {l:List A0} (h:iRs l) {a:A0} (ha:a∈l):iR a:=by
 induction l with
 | nil=>cases ha
 | cons x xs ih=>
  simp only [iRs] at h
  rcases List.mem_cons.1 ha with rfl | ha
  .exact h.1
  .exact ih h.2 ha
mutual
theorem Aj8:∀i:A0,iR i->(wx i).length+1<=24*Cn i
 | ⟨n,l⟩,h=>by
  simp only [iR] at h
  have h1:=Zi l h.2
  have h2:=Ad1 h.1
  simp only [wx,Cn,List.length_append]
  by_cases hl:l.length=0
  .rw [if_pos hl]; simp; omega
  .rw [if_neg hl]; simp; omega
theorem Zi:∀l:List A0,iRs l->(wxs l).length<=24*El l
 | [],_=>by simp [wxs,El]
 | x::xs,h=>by
  simp only [iRs] at h
  have h1:=Aj8 x h.1
  have h2:=Zi xs h.2
  have h3:=Eh x
  simp only [wxs,El,List.length_append,List.length_cons]; omega
end
theorem Aj9 (l m:List A0):El (l++m)=El l+El m:=by
 induction l with
 | nil=>simp [El]
 | cons x xs ih=>simp only [List.cons_append,El,ih]; omega
theorem At2 (l m:List A0):iRs (l++m)↔iRs l/\iRs m:=by
 induction l with
 | nil=>simp [iRs]
 | cons x xs ih=>simp only [List.cons_append,iRs,ih,and_assoc]
theorem Aka {n:Int} (h:I64 n):S7 n=some ⟨(Lib.itoa n).toArray⟩:=by unfold S7; rw [if_pos (show _/\_ from h)]
theorem At3 (n:Int):Lk ⟨(Lib.itoa n).toArray⟩=ti n:=by unfold Lk ti; simp
theorem At4:∀(k:Nat) (i:A0) (b:List Int),Cn i<=k->iR i->b.length+24*Cn i<=1099511627776->O3 k i b=some (b++wx i):=by
 intro k
 induction k with
 | zero=>intro i b h; have:=Eh i; omega
 | succ k ih=>
  intro i b h c hb
  have hi:=Eh i
  have z:=Js i.Kids
  have c:=(At0 i).1 c
  have B:=Ad1 c.1
  rw [O3,Ad3]
  simp only [Re,Aka c.1,Ad,Acu,Uy,At3]
  rw [C4 (by omega)]
  simp only [Ad]
  by_cases h0:i.Kids.length=0
  .rw [Am (by omega),if_pos h0]; simp
  .rw [Aj (by omega),if_neg h0]
   simp only [cond_true,Rq,Uy,Ad]
   rw [C4 (by simp; omega),Ad]
   have g:=Zi i.Kids c.2
   have l:∀j,(wxs (i.Kids.take j)).length<=24*El i.Kids:=fun j=>by
    have:=Aj2 (i.Kids.take j) (i.Kids.drop j)
    rw [List.take_append_drop] at this
    rw [this,List.length_append] at g; omega
   refine E2 i.Kids (fun j=>((j:Int),b++ti i.Num++[40]++wxs (i.Kids.take j))) (by simp [wxs]) (by omega) ?_ ?_
   .intro j x hj hx h1 h2 h3
    have A:=Hm (Bi hx)
    have f:=At1 c.2 (Bi hx)
    have y:=Aj8 x f
    have hh:=l (j+1)
    have e:wxs (i.Kids.take (j+1))=wxs (i.Kids.take j)++(wx x++[44]):=by rw [Cw hx,Aj2]; simp [wxs]
    rw [e] at hh
    simp only [List.length_append,List.length_cons,List.length_nil] at hh
    simp only [h1,h2,h3,cond_true,Ad]
    have u:El (i.Kids.take j)+Cn x<=El i.Kids:=by
     have q:=Aj9 (i.Kids.take (j+1)) (i.Kids.drop (j+1))
     rw [List.take_append_drop,Cw hx,Aj9] at q
     simp only [El] at q; omega
    have s:(wxs (i.Kids.take j)).length<=24*El (i.Kids.take j):=Zi _ (by
     have:=(At2 (i.Kids.take j) (i.Kids.drop j)).1 (by rw [List.take_append_drop]; exact c.2)
     exact this.1)
    rw [ih x _ (by omega) f (by simp; omega)]
    simp only [Ad]
    rw [C4 (by simp; omega),e]
    simp
   .intro h1
    refine ⟨b++ti i.Num++[40]++wxs i.Kids,by simp,?_⟩
    rw [C4 (by simp; omega)]
    simp
def Kj (v:Int) (i:A0):List Int:=118::(ti v++58::wx i)
def Lc (v:Int) (i:A0):ByteArray:=⟨(Ga (Kj v i)).toArray⟩
mutual
theorem Akb:∀i:A0,∀c∈wx i,0<=c/\c<256
 | ⟨n,l⟩,c,h=>by
  simp only [wx,List.mem_append] at h
  rcases h with h | h
  .have:=Lz n c h
   simp only [Ly,Bool.or_eq_true,Ce,beq_iff_eq,decide_eq_true_eq] at this
   omega
  .by_cases hl:l.length=0
   .rw [if_pos hl] at h; cases h
   .rw [if_neg hl] at h
    simp only [List.mem_cons,List.mem_append,List.not_mem_nil,or_false] at h
    rcases h with h | h | h
    .omega
    .exact Akc l c h
    .omega
theorem Akc:∀l:List A0,∀c∈wxs l,0<=c/\c<256
 | [],c,h=>by simp [wxs] at h
 | x::xs,c,h=>by
  simp only [wxs,List.mem_append,List.mem_cons] at h
  rcases h with h | h | h
  .exact Akb x c h
  .omega
  .exact Akc xs c h
end
theorem Zj (v:Int) (i:A0):∀c∈Kj v i,0<=c/\c<256:=by
 intro c h
 simp only [Kj,List.mem_cons,List.mem_append] at h
 rcases h with h | h | h | h
 .omega
 .have:=Lz v c h
  simp only [Ly,Bool.or_eq_true,Ce,beq_iff_eq,decide_eq_true_eq] at this
  omega
 .omega
 .exact Akb i c h
theorem Akd:∀l m:List Int,(∀c∈l,0<=c/\c<256)->(∀c∈m,0<=c/\c<256)->Ga l=Ga m->l=m
 | [],[],_,_,_=>rfl
 | [],_::_,_,_,h=>by simp [Ga] at h
 | _::_,[],_,_,h=>by simp [Ga] at h
 | x::xs,y::ys,h1,h2,h=>by
  simp only [Ga,List.map_cons,List.cons.injEq] at h
  have hx:=h1 x (by simp)
  have hy:=h2 y (by simp)
  have e:x.toNat=y.toNat:=by
   have:=congrArg UInt8.toNat h.1
   rw [UInt8.toNat_ofNat',UInt8.toNat_ofNat'] at this
   omega
  rw [Akd xs ys (fun c hc=>h1 c (by simp [hc])) (fun c hc=>h2 c (by simp [hc])) h.2,show x=y by omega]
theorem At5 {v w:Int} {i j:A0} (h:Lc v i=Lc w j):v=w/\i=j:=by
 unfold Lc at h
 have h1:(Ga (Kj v i)).toArray=(Ga (Kj w j)).toArray:=by injection h
 have h2:Ga (Kj v i)=Ga (Kj w j):=by simpa using congrArg Array.toList h1
 have h3:=Akd _ _ (Zj v i) (Zj w j) h2
 simp only [Kj,List.cons.injEq,true_and] at h3
 have b:∀X:List Int,Zh (58::X):=fun X c m e=>by cases e; decide
 obtain ⟨k,g⟩:=Ad2 _ _ _ _ (Lz v) (Lz w) (b _) (b _) h3
 obtain ⟨f,_⟩:=Aj6 i j [] [] Aj5 Aj5 (by simpa using (List.cons.inj g).2)
 exact ⟨Aj1 k,f⟩
theorem At6 (l:List UInt8):Lk ⟨l.toArray⟩=l.map fun b=>(b.toNat:Int):=by unfold Lk; simp
theorem At7 (v:Int) (i:A0) (c:I64 v) (g:iR i) (hi:Cn i<=1048576):T5 v i=some (Lc v i):=by
 have l:=Ad1 c
 have f:(Lib.itoa v).length=(ti v).length:=by unfold ti; simp
 unfold T5
 have k:Mo (ByteArray.mk #[118]) ⟨(Lib.itoa v).toArray⟩=some ⟨(118::Lib.itoa v).toArray⟩:=by
  unfold Mo
  rw [if_pos]
  .congr 1
  .show 1+(Lib.itoa v).toArray.size<=9223372036854775807
   rw [List.size_toArray]; omega
 have j:Mo ⟨(118::Lib.itoa v).toArray⟩ (ByteArray.mk #[58])=some ⟨(118::(Lib.itoa v++[58])).toArray⟩:=by
  unfold Mo
  rw [if_pos]
  .congr 1
  .show (118::Lib.itoa v).toArray.size+1<=9223372036854775807
   rw [List.size_toArray,List.length_cons]; omega
 simp only [Re,Aka c,Ad,k,j,Xx,X0,At6]
 rw [C4 (by simp; omega)]
 simp only [Ad]
 rw [At4 4000000 i _ (by omega) g (by simp; omega)]
 simp only [Ad,Xy]
 have h:([]++(118::(Lib.itoa v++[58])).map fun b=>(b.toNat:Int))++wx i=Kj v i:=by
  unfold Kj ti; simp
 rw [h]
 unfold W3 Lc
 rw [if_pos (Zj v i)]; rfl
end Go.Ab
namespace Go.Ab
open Go
mutual
theorem Ake (data:List Al):∀(i:A0) (t:Ag) (d:Nat),Eb data i t=some d->d<=6*Cn i
 | ⟨n,kids⟩,t,d,h=>by
  rw [Sd] at h
  simp only [Cn]
  simp only at h
  split at h
  .split at h
   .have:=Vn data kids _ d h; omega
   .cases h
  .split at h
   .split at h
    .cases h; omega
    .cases h
   .split at h
    .split at h
     .have:=Akf data kids _ d h; omega
     .cases h
    .split at h
     .cases h; omega
     .cases h
theorem Vn (data:List Al):∀(is:List A0) (ts:List Ag) (d:Nat),C6 data is ts=some d->d<=6*El is
 | [],[],d,h=>by simp only [C6] at h; cases h; omega
 | i::is,t::ts,d,h=>by
  rw [Sf] at h
  cases h1:Eb data i t with
  | none=>rw [h1] at h; cases h
  | some a=>
   rw [h1,Ad] at h
   cases h2:C6 data is ts with
   | none=>rw [h2] at h; cases h
   | some b=>
    rw [h2] at h
    cases h
    have:=Ake data i t a h1
    have:=Vn data is ts b h2
    simp only [El]; omega
 | [],_::_,d,h=>by simp only [C6] at h; cases h
 | _::_,[],d,h=>by simp only [C6] at h; cases h
theorem Akf (data:List Al):∀(es:List A0) (t:Ag) (d:Nat),E9 data es t=some d->d<=6*El es
 | [],t,d,h=>by simp only [E9] at h; cases h; omega
 | ⟨n,kids⟩::es,t,d,h=>by
  rw [Se] at h
  simp only at h
  cases h1:Fo data t n with
  | none=>rw [h1] at h; cases h
  | some ts=>
   rw [h1,Ad] at h
   cases h2:C6 data kids ts with
   | none=>rw [h2] at h; cases h
   | some a=>
    rw [h2,Ad] at h
    cases h3:E9 data es t with
    | none=>rw [h3] at h; cases h
    | some b=>
     rw [h3] at h
     cases h
     have:=Vn data kids ts a h2
     have:=Akf data es t b h3
     simp only [El,Cn]; omega
end
def Si (data:List Al) (e:A0) (t:Ag):Option Nat:=(Fo data t e.Num).bind fun b=>(C6 data e.Kids b).map (1 + ·)
theorem At8 (data:List Al) (e:A0) (es:List A0) (t:Ag):E9 data (e::es) t=(Si data e t).bind fun a=>(E9 data es t).map (a + ·):=by
 rw [Se]; unfold Si
 cases Fo data t e.Num with
 | none=>rfl
 | some b=>simp only [Ad]; cases C6 data e.Kids b <;> rfl
theorem At9 (data:List Al) (e:A0) (t:Ag) (d:Nat) (h:Si data e t=some d):d<=6*Cn e:=by
 unfold Si at h
 cases h1:Fo data t e.Num with
 | none=>rw [h1] at h; cases h
 | some b=>
  rw [h1,Ad] at h
  cases h2:C6 data e.Kids b with
  | none=>rw [h2] at h; cases h
  | some a=>
   rw [h2] at h
   cases h
   have:=Vn data _ b a h2
   have:=Eh e
   show 1+a<=_
   omega
def Dg (v:Int) (o:Option Nat):Prop:=(v = -1/\∀d,o=some d->6<d)\/∃d:Nat,o=some d/\v=d
theorem Dg.clip {v:Int} {o:Option Nat} (h:Dg v o):(if v>6 then -1 else v)=Ff o:=by
 rcases h with ⟨rfl,h⟩ | ⟨d,rfl,rfl⟩
 .rw [if_neg (by omega),Pn h]
 .by_cases hd:6<d
  .rw [if_pos (by omega),Adz hd]
  .rw [if_neg (by omega),Sg (by omega)]
theorem Zk {o p:Option Nat} {acc:Nat} {d:Nat} (h:(o.bind fun a=>p.map (a + ·)).map (acc + ·)=some d):∃a b,o=some a/\p=some b/\d=acc+(a+b):=by
 cases o with
 | none=>cases h
 | some a=>
  cases p with
  | none=>cases h
  | some b=>exact ⟨a,b,rfl,rfl,by simp at h; omega⟩
theorem Aua {data:List Al} (hz:Szv data) (hs:G1 data) (b1:List (ByteArray×Int)) (b2:List (ByteArray×List Dy)) (vars:List Ag) (N M:Int) (L:List Ag):∀k:Nat,
  (∀(i:A0) (t:Ag),3*Cn i<=k->Cn i<=1048576->A2 t<=200->∃v,Na k t i b1 b2 data vars N M L=some v/\Dg v (Eb data i t)) /\
  (∀(g:List A0) (f:List Ag),3*El g+1<=k->El g<=1048576->(∀t∈f,A2 t<=200)->∃v,O7 k f g b1 b2 data vars N M L=some v/\Dg v (C6 data g f)) /\
  (∀(e:A0) (t:Ag),3*Cn e<=k->Cn e<=1048576->A2 t<=200->∃v,O8 k t e b1 b2 data vars N M L=some v/\Dg v (Si data e t)):=by
 intro k
 induction k with
 | zero=>exact ⟨fun i t h=>by have:=Eh i; omega,fun g f h=>by omega,fun i t h=>by have:=Eh i; omega⟩
 | succ k ih=>
  obtain ⟨a6,R,a7⟩:=ih
  have G:∀o:Option Nat,o.map (0 + ·)=o:=by intro o; cases o <;> simp
  have c:∀d:Nat,(none:Option Nat)=some d->6<d:=fun d h=>by cases h
  refine ⟨?_,?_,?_⟩
  .intro i t hk hi ht
   have af:=Eh i
   have U:=Js i.Kids
   rw [Na,Sd]
   by_cases Z:t.Kind=6
   .simp only [B0 Z,cond_true,if_pos Z]
    by_cases h0:i.Num=0
    .simp only [B0 h0,cond_true,if_pos h0]
     obtain ⟨p,p1,p2⟩:=R i.Kids t.Args (by omega) (by omega) (fun a ha=>by have:=F1 ha; have:=Fw t; omega)
     rw [p1]
     exact ⟨p,rfl,p2⟩
    .simp only [Bg h0,cond_false,if_neg h0]
     exact ⟨_,rfl,.inl ⟨rfl,c⟩⟩
   .simp only [Bg Z,cond_false,if_neg Z]
    by_cases Y:t.Kind=7
    .simp only [B0 Y,cond_true,if_pos Y]
     by_cases a1:0<=i.Num
     .by_cases a2:i.Num<=6
      .by_cases a3:i.Kids.length=0
       .rw [Aj (show i.Num>=0 from a1),Aj a2,if_pos ⟨a1,a2,a3⟩,B0 (by omega)]
        exact ⟨_,rfl,.inr ⟨i.Num.toNat,rfl,by omega⟩⟩
       .rw [Aj (show i.Num>=0 from a1),Aj a2,if_neg (fun h=>a3 h.2.2),Bg (by omega)]
        exact ⟨_,rfl,.inl ⟨rfl,c⟩⟩
      .rw [Aj (show i.Num>=0 from a1),Am a2,if_neg (fun h=>a2 h.2.1)]
       exact ⟨_,rfl,.inl ⟨rfl,c⟩⟩
     .rw [Am (show ¬i.Num>=0 from a1),if_neg (fun h=>a1 h.1)]
      exact ⟨_,rfl,.inl ⟨rfl,c⟩⟩
    .simp only [Bg Y,cond_false,if_neg Y]
     by_cases h5:t.Kind=5
     .simp only [B0 h5,cond_true,if_pos h5]
      by_cases h0:i.Num=0
      .simp only [B4 h0,cond_false,if_pos h0]
       have key:∀(m j acc:Nat),j+m=i.Kids.length->acc<=10000000->∃z,Ak (S:=(Int×Int)) (E:=(Int⊕Int)) (fun (I,v8)=>
         bif (decide (v8<(i.Kids.length:Int))) then (
         (Ae i.Kids v8).bind fun v9=>
         (O8 k t v9 b1 b2 data vars N M L).bind fun v11=>
         bif (decide (v11<(0:Int))) then some (.inr (.inl (-1)))
         else (
         bif (decide (I>(6:Int))) then some (.inr (.inl (-1)))
         else some (.inl ((Ac (I+v11)),(Ac (v8+1))))))
         else some (.inr (.inr I))) ((acc:Int),(j:Int))=some z/\Dg (match z with | .inl v=>v | .inr v=>v) ((E9 data (i.Kids.drop j) t).map (acc + ·)):=by
        intro m
        induction m with
        | zero=>
         intro j acc hj B
         have:j=i.Kids.length:=by omega
         subst this
         exact ⟨.inr (acc:Int),D9 (by simp),.inr ⟨acc,by simp [E9],rfl⟩⟩
        | succ m A=>
         intro j acc hj B
         have q:i.Kids[j]? = some i.Kids[j]:=Bj (by omega)
         generalize i.Kids[j]=e at q
         have ac:=Hm (Bi q)
         rw [Ki q,At8]
         obtain ⟨v,D,v2⟩:=a7 e t (by omega) (by omega) ht
         rcases v2 with ⟨rfl,v2⟩ | ⟨a,a1,rfl⟩
         .refine ⟨.inl (-1),D9 ?_,.inl ⟨rfl,fun d h=>?_⟩⟩
          .simp only [Aj (by omega:(j:Int)<(i.Kids.length:Int)),cond_true,Bn rfl q,Ad,D]; rfl
          .obtain ⟨a,b,ha,hb,rfl⟩:=Zk h
           have:=v2 a ha; omega
         .have V:=At9 data e t a a1
          by_cases hb:acc>6
          .refine ⟨.inl (-1),D9 ?_,.inl ⟨rfl,fun d h=>?_⟩⟩
           .simp only [Aj (by omega:(j:Int)<(i.Kids.length:Int)),cond_true,Bn rfl q,Ad,D,Am (by omega:¬(a:Int)<0),Aj (by omega:(acc:Int)>6),cond_false]
           .obtain ⟨a,b,ha,hb,rfl⟩:=Zk h
            omega
          .have ew:Ac ((acc:Int)+(a:Int))=((acc+a:Nat):Int):=by rw [Ac,Bp] <;> omega
           obtain ⟨z,s,z2⟩:=A (j+1) (acc+a) (by omega) (by omega)
           refine ⟨z,?_,?_⟩
           .rw [Hv (s':=(((acc+a:Nat):Int),((j+1:Nat):Int)))]
            .exact s
            .simp only [Aj (by omega:(j:Int)<(i.Kids.length:Int)),cond_true,Bn rfl q,Ad,D,Am (by omega:¬(a:Int)<0),Am (by omega:¬(acc:Int)>6),cond_false,ew,C5 (show j<i.Kids.length by omega) (by omega)]
           .have G:∀o:Option Nat,(((some a:Option Nat).bind fun a=>o.map (a + ·)).map (acc + ·))=o.map (acc+a + ·):=by
             intro o; cases o <;> simp [Nat.add_assoc]
            rw [a1,G]
            exact z2
       obtain ⟨z,s,z2⟩:=key i.Kids.length 0 0 (by omega) (by omega)
       have s:Ak _ ((0:Int),(0:Int))=some z:=s
       rw [s,Ad]
       rw [List.drop_zero,G] at z2
       cases z with
       | inl v=>exact ⟨v,rfl,z2⟩
       | inr v=>exact ⟨v,rfl,z2⟩
      .simp only [Ca h0,cond_true,if_neg h0]
       exact ⟨_,rfl,.inl ⟨rfl,c⟩⟩
     .simp only [Bg h5,cond_false,if_neg h5]
      by_cases h0:i.Num=0
      .simp only [B0 h0,cond_true]
       by_cases a3:i.Kids.length=0
       .rw [if_pos ⟨h0,a3⟩,B0 (by omega)]
        exact ⟨_,rfl,.inr ⟨0,rfl,rfl⟩⟩
       .rw [if_neg (fun h=>a3 h.2),Bg (by omega)]
        exact ⟨_,rfl,.inl ⟨rfl,c⟩⟩
      .simp only [Bg h0,cond_false]
       rw [if_neg (fun h=>h0 h.1)]
       exact ⟨_,rfl,.inl ⟨rfl,c⟩⟩
  .intro g f hk hi ht
   have U:=Js g
   rw [O7]
   by_cases hl:f.length=g.length
   .rw [B4 (by omega)]
    simp only [cond_false]
    have key:∀(m j acc:Nat),j+m=g.length->acc<=10000000->∃z,Ak (S:=(Int×Int)) (E:=(Int⊕Int)) (fun (v5,X)=>
      bif (decide (X<(f.length:Int))) then (
      (Ae f X).bind fun I=>
      (Ae g X).bind fun v9=>
      (Na k I v9 b1 b2 data vars N M L).bind fun J=>
      bif (decide (J<(0:Int))) then some (.inr (.inl (-1)))
      else (
      bif (decide (v5>(6:Int))) then some (.inr (.inl (-1)))
      else some (.inl ((Ac (v5+J)),(Ac (X+1))))))
      else some (.inr (.inr v5))) ((acc:Int),(j:Int))=some z/\Dg (match z with | .inl v=>v | .inr v=>v) ((C6 data (g.drop j) (f.drop j)).map (acc + ·)):=by
     intro m
     induction m with
     | zero=>
      intro j acc hj B
      have:j=f.length:=by omega
      subst this
      refine ⟨.inr (acc:Int),D9 (by simp),.inr ⟨acc,?_,rfl⟩⟩
      rw [List.drop_of_length_le (by omega),List.drop_of_length_le (by omega)]
      simp [C6]
     | succ m A=>
      intro j acc hj B
      have q:g[j]? = some g[j]:=Bj (by omega)
      generalize g[j]=e at q
      have hu:f[j]? = some f[j]:=Bj (by omega)
      generalize f[j]=u at hu
      have ac:=Hm (Bi q)
      rw [Ki q,Ki hu,Sf]
      obtain ⟨v,D,v2⟩:=a6 e u (by omega) (by omega) (ht u (Bi hu))
      rcases v2 with ⟨rfl,v2⟩ | ⟨a,a1,rfl⟩
      .refine ⟨.inl (-1),D9 ?_,.inl ⟨rfl,fun d h=>?_⟩⟩
       .simp only [Aj (by omega:(j:Int)<(f.length:Int)),cond_true,Bn rfl q,Bn rfl hu,Ad,D]; rfl
       .obtain ⟨a,b,ha,hb,rfl⟩:=Zk h
        have:=v2 a ha; omega
      .have V:=Ake data e u a a1
       by_cases hb:acc>6
       .refine ⟨.inl (-1),D9 ?_,.inl ⟨rfl,fun d h=>?_⟩⟩
        .simp only [Aj (by omega:(j:Int)<(f.length:Int)),cond_true,Bn rfl q,Bn rfl hu,Ad,D,Am (by omega:¬(a:Int)<0),Aj (by omega:(acc:Int)>6),cond_false]
        .obtain ⟨a,b,ha,hb,rfl⟩:=Zk h
         omega
       .have ew:Ac ((acc:Int)+(a:Int))=((acc+a:Nat):Int):=by rw [Ac,Bp] <;> omega
        obtain ⟨z,s,z2⟩:=A (j+1) (acc+a) (by omega) (by omega)
        refine ⟨z,?_,?_⟩
        .rw [Hv (s':=(((acc+a:Nat):Int),((j+1:Nat):Int)))]
         .exact s
         .simp only [Aj (by omega:(j:Int)<(f.length:Int)),cond_true,Bn rfl q,Bn rfl hu,Ad,D,Am (by omega:¬(a:Int)<0),Am (by omega:¬(acc:Int)>6),cond_false,ew,C5 (show j<g.length by omega) (by omega)]
        .have G:∀o:Option Nat,(((some a:Option Nat).bind fun a=>o.map (a + ·)).map (acc + ·))=o.map (acc+a + ·):=by
          intro o; cases o <;> simp [Nat.add_assoc]
         rw [a1,G]
         exact z2
    obtain ⟨z,s,z2⟩:=key g.length 0 0 (by omega) (by omega)
    have s:Ak _ ((0:Int),(0:Int))=some z:=s
    rw [s,Ad]
    rw [List.drop_zero,List.drop_zero,G] at z2
    cases z with
    | inl v=>exact ⟨v,rfl,z2⟩
    | inr v=>exact ⟨v,rfl,z2⟩
   .rw [Ca (by omega),Zc data g f hl]
    exact ⟨_,rfl,.inl ⟨rfl,c⟩⟩
  .intro e t hk q ht
   have ag:=Eh e
   rw [O8]
   unfold Si Fo
   rw [Y7 hz t ht e.Num,Ad]
   cases hf:Fx data t e.Num with
   | none=>exact ⟨-1,rfl,.inl ⟨rfl,c⟩⟩
   | some l=>
    have ad:=Pl hf
    obtain ⟨x,y,_,hx,_,hy,hl,ab⟩:=Lb hf
    obtain ⟨y6,_⟩:=hz x (De hx).2.2.2 y (De hy).2.2.2
    have ae:l.length<=6:=by rw [hl]; simpa using y6
    have aa:∀a∈Dz l (C8 data t.Num e.Num),A2 a<=200:=(Vm (show Fo data t e.Num=some _ by unfold Fo; rw [hf]; rfl)).1
    obtain ⟨v,D,v2⟩:=R e.Kids (Dz l (C8 data t.Num e.Num)) (by omega) (by omega) aa
    have hd:Dg (if v<0 then -1 else 1+v) (((some l).map fun l=>Dz l (C8 data t.Num e.Num)).bind fun f=>(C6 data e.Kids f).map (1 + ·)):=by
     rw [Option.map_some,Ad]
     rcases v2 with ⟨rfl,v2⟩ | ⟨a,a1,rfl⟩
     .refine .inl ⟨rfl,fun d h=>?_⟩
      cases ha:C6 data e.Kids (Dz l (C8 data t.Num e.Num)) with
      | none=>rw [ha] at h; cases h
      | some a=>rw [ha] at h; have:=v2 a ha; simp at h; omega
     .rw [a1,if_neg (by omega)]
      exact .inr ⟨1+a,rfl,by omega⟩
    have a8:v = -1\/(0<=v/\v<=10000000):=by
     rcases v2 with ⟨rfl,v2⟩ | ⟨a,a1,rfl⟩
     .exact .inl rfl
     .have:=Vn data _ _ a a1; right; omega
    refine ⟨_,?_,hd⟩
    simp only [okL,Cu,cond_false,Vf data t.Num e.Num hs,Ad]
    refine E2 (C8 data t.Num e.Num) (fun j=>((j:Int),Dz (l.take j) ((C8 data t.Num e.Num).take j))) (by simp [Dz]) (by omega) ?_ ?_
    .intro j b hj hb h1 h2 h3
     have ha:l[j]? = some l[j]:=Bj (by omega)
     generalize l[j]=a at ha
     have U:=Vl (l.take j) ((C8 data t.Num e.Num).take j)
     have:(l.take j).length<=6:=by simp; omega
     simp only [h1,h2,h3,cond_true,Ad,Bn rfl ha,Y8 ha hb]
     rw [C4 (by simp; omega)]
     cases b <;> simp
    .intro h1
     refine ⟨Dz l (C8 data t.Num e.Num),?_,?_⟩
     .simp only [h1]
      rw [List.take_of_length_le (by omega),List.take_of_length_le (Nat.le_refl _)]; rfl
     .rw [D,Ad]
      rcases a8 with h | h
      .subst h; rfl
      .rw [Am (by omega),if_neg (by omega)]
       simp only [cond_false]
       rw [Ac,Bp] <;> omega
def Ct (vars:List Ag) (res:Ag) (v:Int):Option Ag:=if v = -1 then some res else Ae vars v
def Fg (data:List Al) (vars:List Ag) (res:Ag) (o:List (ByteArray×Int)):Prop:=∀p∈o,∀v i t,p.1=Lc v i->Ct vars res v=some t->p.2=Ff (Eb data i t)
theorem Akg {α:Type}:∀(o:List (ByteArray×α)) (s:ByteArray) (v:α),∀p∈Fc o s v,p∈o\/p=(s,v)
 | [],s,v,p,h=>by simp only [Fc,List.mem_singleton] at h; exact .inr h
 | q::o,s,v,p,h=>by
  unfold Fc at h
  cases hq:(s==q.1) with
  | true=>
   rw [hq] at h
   simp only [cond_true,List.mem_cons] at h
   rcases h with h | h
   .exact .inr h
   .exact .inl (by simp [h])
  | false=>
   rw [hq] at h
   simp only [cond_false,List.mem_cons] at h
   rcases h with h | h
   .exact .inl (by simp [h])
   .rcases Akg o s v p h with h | h
    .exact .inl (by simp [h])
    .exact .inr h
theorem Aub {data:List Al} (D:Szv data) (G:G1 data) (b1:List (ByteArray×Int)) (b2:List (ByteArray×List Dy)) (vars:List Ag) (res:Ag) (f:Fg data vars res b1)
  (v:Int) (i:A0) (t:Ag) (ht:Ct vars res v=some t) (b:A2 t<=200) (E:I64 v) (I:iR i) (hi:Cn i<=1048576) :
  ∃l,K5 v i b1 b2 data vars res.Kind res.Num res.Args=some (Ff (Eb data i t),l)/\Fg data vars res l:=by
 unfold K5
 rw [At7 v i E I hi,Ad]
 cases hh:Fb b1 (Lc v i) with
 | true=>
  refine ⟨b1,?_,f⟩
  have:H9 b1 (Lc v i) 0=Ff (Eb data i t):=by
   unfold H9
   unfold Fb at hh
   rw [List.any_eq_true] at hh
   obtain ⟨p,A,z⟩:=hh
   cases hf:b1.find? (fun p=>Lc v i==p.1) with
   | none=>exact absurd z (by have:=List.find?_eq_none.1 hf p A; simpa using this)
   | some q=>
    have hq:=List.find?_some hf
    exact f q (List.mem_of_find?_eq_some hf) v i t ((Adt _ _).1 hq).symm ht
  simp only [cond_true,Ad,Cu,cond_false,this]
 | false=>
  obtain ⟨w,u,s⟩:=(Aua D G b1 b2 vars res.Kind res.Num res.Args 4000000).1 i t (by omega) hi b
  have c:Kc v b1 b2 data vars res.Kind res.Num res.Args=some t:=by
   unfold Kc
   unfold Ct at ht
   by_cases h:v = -1
   .rw [if_pos h] at ht; cases ht
    have J:(Ag.mk res.Kind res.Num res.Args)=res:=by cases res; rfl
    rw [B0 h,J]; rfl
   .rw [if_neg h] at ht
    rw [Bg h,ht]; rfl
  have g:(bif decide (w>6) then some (-1) else some w:Option Int)=some (Ff (Eb data i t)):=by
   rw [<-s.clip]
   by_cases h:w>6
   .rw [Aj h,if_pos h]; rfl
   .rw [Am h,if_neg h]; rfl
  refine ⟨Fc b1 (Lc v i) (Ff (Eb data i t)),?_,?_⟩
  .simp only [cond_false,Ad,Bool.not_false,cond_true,c,u,g]
  .intro p hp x B y k j
   rcases Akg _ _ _ p hp with h | h
   .exact f p h x B y k j
   .subst h
    obtain ⟨rfl,rfl⟩:=At5 k
    rw [ht] at j; cases j; rfl
end Go.Ab
namespace Go.Ab
open Go
def Di (a b:Int):Int:=if a<b then -1 else if a>b then 1 else 0
def C9 (a b:Int):Int:=if a=0 then b else a
theorem E3 {a b:Int}:Di a b=0↔a=b:=by unfold Di; split <;> (try split) <;> omega
theorem L0 (a b:Int):Ji a b=some (Di a b):=by
 unfold Ji O1 Di
 simp only [Ad,bne_self_eq_false,cond_false]
 by_cases h:a<b
 .rw [Aj h,if_pos h]; rfl
 .rw [Am h,if_neg h]
  by_cases h':a>b
  .rw [Aj h',if_pos h']; rfl
  .rw [Am h',if_neg h']; rfl
theorem Akh (a b:Int):Uf a b=some (Di a b):=L0 a b
theorem Sj (a b:Int):K2 [a,b]=some (C9 a b):=by
 unfold K2 C9
 by_cases ha:a=0
 .rw [if_pos ha]
  by_cases hb:b=0
  .refine Lt 2 (fun j=>(j:Int)) rfl ?_ ⟨.inr (),rfl,by rw [hb]⟩
   intro j hj
   match j,hj with
   | 0,_=>subst ha; rfl
   | 1,_=>subst hb; rfl
  .refine Lt 1 (fun j=>(j:Int)) rfl ?_ ⟨.inl b,?_,rfl⟩
   .intro j hj
    match j,hj with
    | 0,_=>subst ha; rfl
   .show (bif (b != 0) then _ else _)=_
    rw [Ca hb]; rfl
 .rw [if_neg ha]
  refine Lt 0 (fun j=>(j:Int)) rfl (fun j hj=>by omega) ⟨.inl a,?_,rfl⟩
  show (bif (a != 0) then _ else _)=_
  rw [Ca ha]; rfl
theorem Zl (a b:Int) (h:a≠b):T6 (decide (a<b))=some (Di a b):=by
 unfold T6 Di
 by_cases h':a<b
 .rw [Aj h',if_pos h']; rfl
 .rw [Am h',if_neg h',if_pos (by omega)]; rfl
theorem Zm (a b:Int) (h:a≠b):Rf (decide (a<b))=some (Di a b):=Zl a b h
theorem Zn (a b:Int) (h:a≠b):Qy (decide (a<b))=some (Di a b):=Zl a b h
def Du {α:Type} (g:α->α->Int):List α->List α->Int
 | x::xs,y::ys=>C9 (g x y) (Du g xs ys)
 | _,_=>0
theorem Vo {α:Type} (g:α->α->Int) (l m:List α) {step:Int->Option (Int⊕(Int⊕Unit))} (k:l.length=m.length) (hb:l.length<4611686018427387904)
  (f:∀(j:Nat) (x y:α),l[j]? = some x->m[j]? = some y->decide ((j:Int)<(l.length:Int))=true->Ae l (j:Int)=some x->Ae m (j:Int)=some y->decide ((j:Int)>=(m.length:Int))=false->Ac ((j:Int)+1)=((j+1:Nat):Int) ->
   step (j:Int)=if g x y=0 then some (.inl ((j+1:Nat):Int)) else some (.inr (.inl (g x y))))
  (i:decide ((l.length:Int)<(l.length:Int))=false->step (l.length:Int)=some (.inr (.inr ()))) :
  ∃z,Ak step 0=some z/\(match z with | .inl r=>r=Du g l m/\r≠0 | .inr _=>Du g l m=0):=by
 have key:∀(n j:Nat),j+n=l.length->∃z,Ak step (j:Int)=some z/\(match z with | .inl r=>r=Du g (l.drop j) (m.drop j)/\r≠0 | .inr _=>Du g (l.drop j) (m.drop j)=0):=by
  intro n
  induction n with
  | zero=>
   intro j hj
   have:j=l.length:=by omega
   subst this
   refine ⟨.inr (),D9 (i (by simp)),?_⟩
   rw [List.drop_of_length_le (by omega)]; simp [Du]
  | succ n ih=>
   intro j hj
   have hx:l[j]? = some l[j]:=Bj (by omega)
   have hy:m[j]? = some m[j]:=Bj (by omega)
   generalize l[j]=x at hx
   generalize m[j]=y at hy
   have h:=f j x y hx hy (Aj (by omega)) (Bn rfl hx) (Bn rfl hy) (Am (by omega)) (C5 (show j<l.length by omega) hb)
   rw [Ki hx,Ki hy]
   by_cases b:g x y=0
   .rw [if_pos b] at h
    obtain ⟨z,c,z2⟩:=ih (j+1) (by omega)
    refine ⟨z,by rw [Hv h]; exact c,?_⟩
    have e:Du g (x::l.drop (j+1)) (y::m.drop (j+1))=Du g (l.drop (j+1)) (m.drop (j+1)):=by simp only [Du,C9,b,if_true]
    cases z with
    | inl r=>simp only [e]; exact z2
    | inr u=>simp only [e]; exact z2
   .rw [if_neg b] at h
    refine ⟨.inl (g x y),D9 h,?_,b⟩
    simp only [Du,C9,b,if_false]
 exact key l.length 0 (by omega)
theorem Zo {α:Type} (f:α->α->Option Int) (g:α->α->Int) (l m:List α) (s:l.length=m.length) (hb:l.length<4611686018427387904) (A:∀(j:Nat) (x y:α),l[j]? = some x->m[j]? = some y->f x y=some (g x y)) :
  ((Ak (S:=Int) (E:=(Int⊕Unit)) (fun b=>
   bif (decide (b<(l.length:Int))) then (
   (Ae l b).bind fun q=>
   bif (decide (b>=(m.length:Int))) then some (.inr (.inl 1))
   else (
   (Ae m b).bind fun v9=>
   (f q v9).bind fun v11=>
   bif (v11 != (0:Int)) then some (.inr (.inl v11))
   else some (.inl (Ac (b+1)))))
   else some (.inr (.inr ()))) 0).bind fun z=>
   match z with
   | .inl i=>some i
   | .inr _=>bif (decide ((l.length:Int)<(m.length:Int))) then some (-1) else some 0)=some (Du g l m):=by
 refine U4 (Vo g l m s hb ?_ (fun h=>by simp only [h]; rfl)) ?_
 .intro j x y hx hy h1 h2 h3 D B
  simp only [h1,h2,h3,D,B,cond_true,cond_false,Ad,A j x y hx hy]
  by_cases c:g x y=0
  .rw [B4 c,if_pos c]; rfl
  .rw [Ca c,if_neg c]; rfl
 .rintro (r | u) k
  .rw [k.1]
  .simp only
   rw [Am (by omega),show Du g l m=0 from k]; rfl
def Jt (x y:Es):Int:=C9 (Di x.Var y.Var) (Di x.Coef y.Coef)
def Ju (a b:Ey):Int:=if a.Terms.length=b.Terms.length then C9 (Du Jt a.Terms b.Terms) (Di a.Const b.Const) else Di a.Terms.length b.Terms.length
theorem Aki (a b:Ey) (ha:a.Terms.length<1099511627776):M5 a b=some (Ju a b):=by
 unfold M5 Ju
 rw [L0,Ad]
 by_cases h:a.Terms.length=b.Terms.length
 .rw [B4 (E3.2 (by omega)),if_pos h]
  simp only [cond_false]
  have:=Zo Ue Jt a.Terms b.Terms h (by omega) (fun j x y _ _=>by
   unfold Ue Jt
   rw [L0,Akh]; simp only [Ad,Sj])
  rw [show Xz a.Terms b.Terms=_ from this,Ad,Akh]
  simp only [Ad,Sj]
 .rw [Ca (fun e=>h (by have:=E3.1 e; omega)),if_neg h]; rfl
theorem Akj (a b:Ey) (ha:a.Terms.length<1099511627776):Mz a b=some (Ju a b):=by
 unfold Mz Ju
 by_cases h:a.Terms.length=b.Terms.length
 .rw [B4 (by omega),if_pos h]
  simp only [cond_false]
  refine U4 (Vo Jt a.Terms b.Terms h (by omega) ?_ (fun h=>by simp only [h]; rfl)) ?_
  .intro j x y hx hy h1 h2 h3 i g
   simp only [h1,h2,h3,g,cond_true,Ad]
   by_cases c:x.Var=y.Var
   .rw [B4 c]
    by_cases hc:x.Coef=y.Coef
    .rw [B4 hc]
     rw [if_pos (by unfold Jt; rw [E3.2 c,E3.2 hc]; rfl)]; rfl
    .rw [Ca hc,Zm _ _ hc]
     have e:Jt x y=Di x.Coef y.Coef:=by unfold Jt; rw [E3.2 c]; rfl
     rw [e,if_neg (fun e=>hc (E3.1 e))]; rfl
   .rw [Ca c,Zm _ _ c]
    have e:Jt x y=Di x.Var y.Var:=by unfold Jt C9; rw [if_neg (fun e=>c (E3.1 e))]
    rw [e,if_neg (fun e=>c (E3.1 e))]; rfl
  .rintro (r | u) f
   .obtain ⟨rfl,h0⟩:=f
    unfold C9; rw [if_neg h0]
   .have f:Du Jt a.Terms b.Terms=0:=f
    rw [f]
    simp only [C9,if_true]
    by_cases hc:a.Const=b.Const
    .rw [B4 hc,E3.2 hc]; rfl
    .rw [Ca hc,Zm _ _ hc]; rfl
 .rw [Ca (by omega),if_neg h,Zm _ _ (by omega)]; rfl
mutual
def Hc:A0->A0->Int
 | ⟨n,k⟩,j=>if n=j.Num then (if k.length=j.Kids.length then Pp k j.Kids else Di k.length j.Kids.length) else Di n j.Num
def Pp:List A0->List A0->Int
 | x::xs,y::ys=>C9 (Hc x y) (Pp xs ys)
 | [],_=>0
 | _::_,[]=>0
end
theorem Ad4 (i j:A0):Hc i j=if i.Num=j.Num then (if i.Kids.length=j.Kids.length then Pp i.Kids j.Kids else Di i.Kids.length j.Kids.length) else Di i.Num j.Num:=by cases i; simp only [Hc]
theorem Zp:∀l m:List A0,Pp l m=Du Hc l m
 | x::xs,y::ys=>by simp only [Pp,Du,Zp xs ys]
 | [],_=>by simp [Pp,Du]
 | _::_,[]=>by simp [Pp,Du]
theorem Auc:∀(n k:Nat) (i j:A0),Cn i<=n->2*n<=k->n<1099511627776->M4 k i j=some (Hc i j):=by
 intro n
 induction n with
 | zero=>intro k i j h; have:=Eh i; omega
 | succ n ih=>
  intro k i j h hk c
  obtain ⟨k,rfl⟩:∃b,k=b+2:=⟨k-2,by omega⟩
  have hi:=Eh i
  have f:=Js i.Kids
  rw [M4,Ad4,L0,L0]
  simp only [Ad,Sj]
  by_cases h1:i.Num=j.Num
  .rw [if_pos h1]
   by_cases h2:i.Kids.length=j.Kids.length
   .rw [if_pos h2,B4 (by unfold C9; rw [E3.2 h1,E3.2 (by omega)]; rfl),Zp]
    simp only [cond_false]
    have:=Zo (M4 k) Hc i.Kids j.Kids h2 (by omega) (fun q x y hx hy=>ih k x y (by have:=Hm (Bi hx); omega) (by omega) (by omega))
    rw [Ud]
    refine Eq.trans (congrArg (fun q=>Option.bind q _) this) rfl
   .have e:C9 (Di i.Num j.Num) (Di (i.Kids.length:Int) (j.Kids.length:Int))=Di i.Kids.length j.Kids.length:=by unfold C9; rw [E3.2 h1]; rfl
    rw [if_neg h2,e,Ca (fun e=>h2 (by have:=E3.1 e; omega))]; rfl
  .have e:C9 (Di i.Num j.Num) (Di (i.Kids.length:Int) (j.Kids.length:Int))=Di i.Num j.Num:=by unfold C9; rw [if_neg (fun e=>h1 (E3.1 e))]
   rw [if_neg h1,e,Ca (fun e=>h1 (E3.1 e))]; rfl
theorem Aud:∀(n k:Nat) (i j:A0),Cn i<=n->2*n<=k->n<1099511627776->Qz k i j=some (Hc i j):=by
 intro n
 induction n with
 | zero=>intro k i j h; have:=Eh i; omega
 | succ n ih=>
  intro k i j h hk A
  obtain ⟨k,rfl⟩:∃l,k=l+2:=⟨k-2,by omega⟩
  have hi:=Eh i
  have B:=Js i.Kids
  rw [Qz,Ad4]
  by_cases h1:i.Num=j.Num
  .rw [if_pos h1,B4 h1]
   simp only [cond_false]
   rw [Acg]
   by_cases h2:i.Kids.length=j.Kids.length
   .rw [if_pos h2,B4 (by omega),Zp]
    simp only [cond_false]
    have:=Vo Hc i.Kids j.Kids h2 (by omega) (step:=fun v5=>bif (decide (v5<(i.Kids.length:Int))) then ((Ae i.Kids v5).bind fun g=>(Ae j.Kids v5).bind fun f=>(Qz k g f).bind fun v8=>bif (v8 != (0:Int)) then some (.inr (.inl v8)) else some (.inl (Ac (v5+1)))) else some (.inr (.inr ()))) (fun q x y hx hy h1 h2 h3 D s=>by
     simp only [h1,h2,h3,s,cond_true,Ad,ih k x y (by have:=Hm (Bi hx); omega) (by omega) (by omega)]
     by_cases b:Hc x y=0
     .rw [B4 b,if_pos b]; rfl
     .rw [Ca b,if_neg b]; rfl) (fun h=>by simp only [h]; rfl)
    obtain ⟨z,c,z2⟩:=this
    rw [c,Ad]
    cases z with
    | inl r=>rw [z2.1]; rfl
    | inr u=>rw [show Du Hc i.Kids j.Kids=0 from z2]; rfl
   .rw [if_neg h2,Ca (by omega),Zl _ _ (by omega)]; rfl
  .rw [if_neg h1,Ca h1,Zl _ _ h1]; rfl
def Jv (x y:Cr):Int:=C9 (Di x.Var y.Var) (Hc x.Index y.Index)
def Kk (x y:Eg):Int:=C9 (Ju x.Lin y.Lin) (Di x.Deg y.Deg)
def D0 (a b:Cb):Int :=
 if a.Factors.length=b.Factors.length then
  C9 (Du Jv a.Factors b.Factors) (if a.Atoms.length=b.Atoms.length then Du Kk a.Atoms b.Atoms else Di a.Atoms.length b.Atoms.length)
 else Di a.Factors.length b.Factors.length
structure MSz (m:Cb):Prop where
 nf:m.Factors.length<=1048576
 na:m.Atoms.length<=1048576
 fi:∀f∈m.Factors,Cn f.Index<=1048576
 fr:∀f∈m.Factors,iR f.Index/\I64 f.Var
 al:∀a∈m.Atoms,a.Lin.Terms.length<=1048576
theorem Aue (a b:Cb) (ha:MSz a):Lp a b=some (D0 a b):=by
 have h1:=ha.nf
 have h2:=ha.na
 unfold Lp D0
 rw [L0,Ad]
 by_cases h:a.Factors.length=b.Factors.length
 .rw [B4 (E3.2 (by omega)),if_pos h]
  simp only [cond_false]
  have:=Zo T0 Jv a.Factors b.Factors h (by omega) (fun j x y hx hy=>by
   unfold T0 Jv
   rw [L0,Auc 1048576 4000000 x.Index y.Index (ha.fi x (Bi hx)) (by omega) (by omega)]; simp only [Ad,Sj])
  rw [show Xv a.Factors b.Factors=_ from this,Ad,L0]
  simp only [Ad,Sj]
  by_cases h0:Du Jv a.Factors b.Factors=0
  .simp only [h0,C9,if_true]
   by_cases h':a.Atoms.length=b.Atoms.length
   .rw [B4 (E3.2 (by omega)),if_pos h']
    simp only [cond_false]
    have:=Zo T1 Kk a.Atoms b.Atoms h' (by omega) (fun j x y hx hy=>by
     unfold T1 Kk
     rw [L0,Aki x.Lin y.Lin (by have:=ha.al x (Bi hx); omega)]; simp only [Ad,Sj])
    rw [show Xw a.Atoms b.Atoms=_ from this]; rfl
   .rw [Ca (fun e=>h' (by have:=E3.1 e; omega)),if_neg h']; rfl
  .simp only [C9,if_neg h0]
   rw [Ca h0]; rfl
 .rw [Ca (fun e=>h (by have:=E3.1 e; omega)),if_neg h]; rfl
theorem Auf (a b:Cb) (ha:MSz a):Tj a b=some (D0 a b):=by
 have h1:=ha.nf
 have h2:=ha.na
 unfold Tj D0
 by_cases h:a.Factors.length=b.Factors.length
 .rw [B4 (by omega),if_pos h]
  simp only [cond_false]
  refine U4 (Vo Jv a.Factors b.Factors h (by omega) ?_ (fun h=>by simp only [h]; rfl)) ?_
  .intro j x y hx hy h1 h2 h3 i g
   simp only [h1,h2,h3,g,cond_true,Ad,Aud 1048576 4000000 x.Index y.Index (ha.fi x (Bi hx)) (by omega) (by omega)]
   by_cases c:x.Var=y.Var
   .rw [B4 c]
    have e:Jv x y=Hc x.Index y.Index:=by unfold Jv C9; rw [if_pos (E3.2 c)]
    rw [e]
    by_cases hc:Hc x.Index y.Index=0
    .rw [B4 hc,if_pos hc]; rfl
    .rw [Ca hc,if_neg hc]; rfl
   .rw [Ca c,Zn _ _ c]
    have e:Jv x y=Di x.Var y.Var:=by unfold Jv C9; rw [if_neg (fun e=>c (E3.1 e))]
    rw [e,if_neg (fun e=>c (E3.1 e))]; rfl
  .rintro (r | u) f
   .obtain ⟨rfl,h0⟩:=f
    unfold C9; rw [if_neg h0]
   .have f:Du Jv a.Factors b.Factors=0:=f
    rw [f]
    simp only [C9,if_true]
    by_cases h':a.Atoms.length=b.Atoms.length
    .rw [B4 (by omega),if_pos h']
     simp only [cond_false]
     refine U4 (Vo Kk a.Atoms b.Atoms h' (by omega) ?_ (fun h=>by simp only [h]; rfl)) ?_
     .intro j x y hx hy h1 h2 h3 i g
      simp only [h1,h2,h3,g,cond_true,Ad,Akj x.Lin y.Lin (by have:=ha.al x (Bi hx); omega)]
      by_cases c:Ju x.Lin y.Lin=0
      .rw [B4 c]
       have e:Kk x y=Di x.Deg y.Deg:=by unfold Kk C9; rw [if_pos c]
       rw [e]
       by_cases hc:x.Deg=y.Deg
       .rw [B4 hc,if_pos (E3.2 hc)]; rfl
       .rw [Ca hc,Zn _ _ hc,if_neg (fun e=>hc (E3.1 e))]; rfl
      .have e:Kk x y=Ju x.Lin y.Lin:=by unfold Kk C9; rw [if_neg c]
       rw [Ca c,e,if_neg c]; rfl
     .rintro (r | u) f
      .rw [f.1]
      .rw [show Du Kk a.Atoms b.Atoms=0 from f]
    .rw [Ca (by omega),if_neg h',Zn _ _ (by omega)]; rfl
 .rw [Ca (by omega),if_neg h,Zn _ _ (by omega)]; rfl
def Kl {α:Type} (f:α->Int) (l:List α) (x:α) (j:Nat):Bool:=j==0||(match l[j-1]? with | some y=>decide (f y<f x) | none=>false)
def Vp (l:List Es) (x:Es) (j:Nat):Bool:=decide (-1<=x.Var/\x.Var<3000/\x.Coef≠0/\-1048576<=x.Coef/\x.Coef<=1048576)&&Kl (·.Var) l x j
def Nq (a:Ey):Bool:=decide (-1048576<=a.Const/\a.Const<=1048576/\a.Terms.length<=16)&&a.Terms.zipIdx.all (fun q=>Vp a.Terms q.1 q.2)
theorem Akk (n:Int):Rp n=some (decide (-1048576<=n/\n<=1048576)):=by
 unfold Rp
 by_cases h:(-1048576:Int)<=n <;> simp [h]
theorem Aug (n:Int):Un n=some (decide (-1<=n/\n<3000)):=by
 unfold Un
 by_cases h:(-1:Int)<=n <;> simp [h]
theorem Ad5 {α S E:Type} (f:α->Int) (l:List α) {x:α} {j:Nat} (hx:l[j]? = some x) (i:l.length<4611686018427387904) (c b:Option (S⊕E)) :
  (bif decide ((j:Int)>0) then ((Ae l (Ac ((j:Int)-1))).bind fun g=>bif decide (f g>=f x) then c else b) else b)=bif Kl f l x j then b else c:=by
 have hj:=Dh hx
 unfold Kl
 by_cases h:j=0
 .subst h; rfl
 .rw [Aj (by omega)]
  have e:Ac ((j:Int)-1)=((j-1:Nat):Int):=by rw [Ac,Bp] <;> omega
  have hy:l[j-1]? = some l[j-1]:=Bj (by omega)
  rw [e,Bn rfl hy,hy]
  have h0:(j==0)=false:=by simpa using h
  simp only [cond_true,Ad,h0,Bool.false_or]
  by_cases hc:f l[j-1]<f x
  .rw [Am (by omega),Aj hc]; rfl
  .rw [Aj (by omega),Am hc]; rfl
theorem Auh (a:Ey):Rl a=some (Nq a):=by
 unfold Rl Nq
 rw [Akk]
 simp only [Ad]
 by_cases h1 : -1048576<=a.Const/\a.Const<=1048576
 .rw [Aj h1]
  by_cases h2:a.Terms.length<=16
  .rw [Am (by omega:¬(a.Terms.length:Int)>16),Aj ⟨h1.1,h1.2,h2⟩]
   simp only [Cu,cond_false,Ad,Bool.true_and]
   refine (K8 a.Terms (fun q=>Vp a.Terms q.1 q.2) (fun j=>(j:Int)) rfl (by omega) (rt:=true) (rf:=false) ?_ ?_).trans (by rw [Jr])
   .intro j x hx _ h1 h2 h3
    simp only [h1,h2,h3,cond_true,Ad,Aug,Akk,Ad5 (·.Var) a.Terms hx (by omega),Vp]
    by_cases g1 : -1<=x.Var/\x.Var<3000
    .by_cases g2:x.Coef=0
     .rw [Aj g1,B0 g2,Am (fun h=>h.2.2.1 g2)]
      exact ⟨(fun h=>by cases h),fun _=>⟨.inl false,rfl,rfl⟩⟩
     .by_cases g3 : -1048576<=x.Coef/\x.Coef<=1048576
      .rw [Aj g1,Bg g2,Aj g3,Aj ⟨g1.1,g1.2,g2,g3.1,g3.2⟩]
       cases Kl (·.Var) a.Terms x j with
       | true=>exact ⟨fun _=>rfl,fun h=>by cases h⟩
       | false=>exact ⟨(fun h=>by cases h),fun _=>⟨.inl false,rfl,rfl⟩⟩
      .rw [Aj g1,Bg g2,Am g3,Am (fun h=>g3 h.2.2.2)]
       exact ⟨(fun h=>by cases h),fun _=>⟨.inl false,rfl,rfl⟩⟩
    .rw [Am g1,Am (fun h=>g1 ⟨h.1,h.2.1⟩)]
     exact ⟨(fun h=>by cases h),fun _=>⟨.inl false,rfl,rfl⟩⟩
   .intro h _
    exact ⟨.inr (),by simp only [h]; rfl,rfl⟩
  .rw [Aj (by omega:(a.Terms.length:Int)>16),Am (fun h=>h2 h.2.2)]; rfl
 .rw [Am h1,Am (fun h : -1048576<=a.Const/\a.Const<=1048576/\a.Terms.length<=16=>h1 ⟨h.1,h.2.1⟩)]; rfl
theorem Aui (a:Ey):Ra a=some (Nq a):=by
 unfold Ra Nq
 by_cases h2:a.Terms.length<=16
 .rw [Am (by omega:¬(a.Terms.length:Int)>16)]
  by_cases h1 : -1048576<=a.Const
  .rw [Am (by omega:¬a.Const < -1048576)]
   by_cases h3:a.Const<=1048576
   .rw [Am (by omega:¬a.Const>1048576),Aj ⟨h1,h3,h2⟩]
    simp only [cond_false,Ad,Bool.true_and]
    refine (K8 a.Terms (fun q=>Vp a.Terms q.1 q.2) (fun j=>(j:Int)) rfl (by omega) (rt:=true) (rf:=false) ?_ ?_).trans (by rw [Jr])
    .intro j x hx _ h1 h2 h3
     simp only [h1,h2,h3,cond_true,Ad,Ad5 (·.Var) a.Terms hx (by omega),Vp]
     by_cases g1:x.Var < -1
     .rw [Aj g1,Am (fun h=>by omega)]
      exact ⟨(fun h=>by cases h),fun _=>⟨.inl false,rfl,rfl⟩⟩
     by_cases g2:x.Var>=3000
     .rw [Am g1,Aj g2,Am (fun h=>by omega)]
      exact ⟨(fun h=>by cases h),fun _=>⟨.inl false,rfl,rfl⟩⟩
     by_cases g3:x.Coef=0
     .rw [Am g1,Am g2,B0 g3,Am (fun h=>by omega)]
      exact ⟨(fun h=>by cases h),fun _=>⟨.inl false,rfl,rfl⟩⟩
     by_cases g4:x.Coef < -1048576
     .rw [Am g1,Am g2,Bg g3,Aj g4,Am (fun h=>by omega)]
      exact ⟨(fun h=>by cases h),fun _=>⟨.inl false,rfl,rfl⟩⟩
     by_cases g5:x.Coef>1048576
     .rw [Am g1,Am g2,Bg g3,Am g4,Aj g5,Am (fun h=>by omega)]
      exact ⟨(fun h=>by cases h),fun _=>⟨.inl false,rfl,rfl⟩⟩
     rw [Am g1,Am g2,Bg g3,Am g4,Am g5,Aj (by omega)]
     cases Kl (·.Var) a.Terms x j with
     | true=>exact ⟨fun _=>rfl,fun h=>by cases h⟩
     | false=>exact ⟨(fun h=>by cases h),fun _=>⟨.inl false,rfl,rfl⟩⟩
    .intro h _
     exact ⟨.inr (),by simp only [h]; rfl,rfl⟩
   .rw [Aj (by omega:a.Const>1048576),Am (fun h : -1048576<=a.Const/\a.Const<=1048576/\a.Terms.length<=16=>by omega)]; rfl
  .rw [Aj (by omega:a.Const < -1048576),Am (fun h : -1048576<=a.Const/\a.Const<=1048576/\a.Terms.length<=16=>by omega)]; rfl
 .rw [Aj (by omega:(a.Terms.length:Int)>16),Am (fun h : -1048576<=a.Const/\a.Const<=1048576/\a.Terms.length<=16=>by omega)]; rfl
end Go.Ab
