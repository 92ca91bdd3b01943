/- Plain laws: what the plain functions answer. -/
import Derived.Test.YtbobikfnkmhgnaaGreatDoorPbPl1
import Derived.Lib.ItoaLen
namespace Go.Ab
open Go
theorem Aw6 {l:List ByteArray} {j:Nat} {x:ByteArray} (h:l[j]? = some x) (b:l.Nodup):∀i y,i<j->l[i]? = some y->y≠x:=by
 intro i y hi hy e
 subst e
 have h1:=Dn h
 have h2:i<l.length:=by omega
 rw [Bu h1] at h
 rw [Bu h2] at hy
 have:=(List.nodup_iff_pairwise_ne.1 b)
 rw [List.pairwise_iff_getElem] at this
 exact this i j h2 h1 hi (by rw [Option.some.inj h,Option.some.inj hy])
theorem Amf (l:List ByteArray) (N:l.length<1099511627776):∃b,Ti l=some b/\(b=false↔l.Nodup):=by
 unfold Ti
 refine D9 (fun v=>∃i:Nat,v=i/\i<=l.length/\(l.take i).Nodup) (fun v=>l.length-v.toNat) (fun z=>match z with | .inl r=>r=true/\¬l.Nodup | .inr _=>l.Nodup) ⟨0,rfl,by omega,by simp⟩ ?_ ?_
 .rintro v ⟨i,rfl,hi,A⟩
  rcases Nat.lt_or_ge i l.length with h | h
  .have hx:l[i]? = some l[i]:=Bu h
   generalize l[i]=x at hx
   have G:(l.take i).length=i:=by simp; omega
   have D:∃z,Al (S:=Int) (E:=(Bool⊕Int)) (fun v4=>bif (decide (v4<(i:Int))) then ((Af l (i:Int)).bind fun v5=>(Af l v4).bind fun L=>bif (v5.toList==L.toList) then some (.inr (.inl true)) else some (.inl (Ac (v4+1)))) else some (.inr (.inr v4))) 0=some z/\(match z with | .inl r=>r=true/\x∈l.take i | .inr _=>x ∉ l.take i):=by
    refine Jy (fun v4:Int=>∃j:Nat,v4=j/\j<=i/\∀k y,k<j->l[k]? = some y->y≠x) (fun v4=>i-v4.toNat) _ ?_ _ ⟨0,rfl,by omega,fun k y hk=>by omega⟩
    rintro v4 ⟨j,rfl,hj,g⟩
    rcases Nat.lt_or_ge j i with h' | h'
    .have hy:l[j]? = some l[j]:=Bu (by omega)
     generalize l[j]=y at hy
     simp only [Ak (by omega:(j:Int)<(i:Int)),cond_true,B6 rfl hx,B6 rfl hy,Ad,Aa3]
     by_cases c:x=y
     .rw [Ak c]
      refine .inr ⟨.inl true,rfl,rfl,?_⟩
      subst c
      exact B4 (i:=j) (by rw [List.getElem?_take_of_lt h']; exact hy)
     .rw [Ap c]
      refine .inl ⟨((j+1:Nat):Int),by simp only [cond_false]; rw [Cz h' (by omega)],⟨j+1,rfl,by omega,?_⟩,by simp; omega⟩
      intro k J hk f
      rcases Nat.lt_or_ge k j with h'' | h''
      .exact g k J h'' f
      .have:k=j:=by omega
       subst this
       rw [hy] at f; cases f
       exact fun e=>c e.symm
    .have:j=i:=by omega
     subst this
     refine .inr ⟨.inr (j:Int),by simp,?_⟩
     intro q
     obtain ⟨k,hk⟩:=List.getElem?_of_mem q
     have B:=Dn hk
     rw [List.getElem?_take_of_lt (by omega)] at hk
     exact g k x (by omega) hk rfl
   obtain ⟨z,I,z2⟩:=D
   simp only [Ak (by omega:(i:Int)<(l.length:Int)),cond_true]
   rw [I,Ad]
   match z,z2 with
   | .inl r,z2=>
    obtain ⟨rfl,z2⟩:=z2
    refine .inr ⟨.inl true,rfl,rfl,fun M=>?_⟩
    obtain ⟨k,hk⟩:=List.getElem?_of_mem z2
    have B:=Dn hk
    rw [List.getElem?_take_of_lt (by omega)] at hk
    exact Aw6 hx M k x (by omega) hk rfl
   | .inr v8,z2=>
    refine .inl ⟨((i+1:Nat):Int),by simp only [Cz h (by omega)],⟨i+1,rfl,by omega,?_⟩,by simp; omega⟩
    rw [C6 hx]
    exact Afm A z2
  .have:i=l.length:=by omega
   subst this
   rw [List.take_length] at A
   exact .inr ⟨.inr (),by simp,A⟩
 .rintro (r | u) s
  .obtain ⟨rfl,s⟩:=s
   exact ⟨true,rfl,by simp [s]⟩
  .exact ⟨false,rfl,by simpa using s⟩
theorem SzD.args {data:List Az} (h:SzD data) {x:Az} (hx:x∈data) {y:Lp} (hy:y∈x.Cons) {t:Ah} (ht:t∈y.Args):Bg t<=1048576/\t.Args.length<=1048576/\y.Args.length<=1048576:=by
 have h1:=(h x hx).2 y hy
 have h3:=G4 ht
 have f:=Gx t
 have c:=Ib t.Args
 have b:=Ib y.Args
 omega
theorem Aw7 {data:List Az} (l:DSz data) {d:Nat} {x:Az} {y:Lp} (hx:data[d]? = some x) (hy:y∈x.Cons) :
  ∃z,Al (S:=Int) (E:=(Bool⊕Int)) (fun b=>
    bif (decide (b<(y.Args.length:Int))) then (
    (Af y.Args b).bind fun f=>
    (Oj f d x.Vars).bind fun i=>
    bif i then some (.inl (Ac (b+1)))
    else (
    (E7 data 0 d).bind fun v218=>
    (M1 v218 f x.Vars).bind fun g=>
    bif (!g) then some (.inr (.inl false))
    else some (.inl (Ac (b+1)))))
    else some (.inr (.inr b))) 0=some z/\(match z with | .inl r=>r=false/\y.Args.all (I2 data d x.Vars)=false | .inr _=>y.Args.all (I2 data d x.Vars)=true):=by
 have hxm:=B4 hx
 have B:=Dn hx
 have s:=l.len
 have D:y.Args.length<=1048576:=by have:=(l.sz x hxm).2 y hy; have:=Ib y.Args; omega
 refine Jy (fun v:Int=>∃j:Nat,v=j/\j<=y.Args.length/\(y.Args.take j).all (I2 data d x.Vars)=true) (fun v=>y.Args.length-v.toNat) _ ?_ _ ⟨0,rfl,by omega,by simp⟩
 rintro v ⟨j,rfl,hj,c⟩
 rcases Nat.lt_or_ge j y.Args.length with h | h
 .have ht:y.Args[j]? = some y.Args[j]:=Bu h
  generalize y.Args[j]=t at ht
  have k:=B4 ht
  obtain ⟨J,I,G⟩:=l.sz.args hxm hy k
  simp only [Ak (by omega:(j:Int)<(y.Args.length:Int)),cond_true,B6 rfl ht,Ad,Al3 t d x.Vars (by omega),Xb rfl (show d<=data.length by omega),Afh (data.take d) t x.Vars (by omega),Cz h (by omega)]
  have good:I2 data d x.Vars t=true->(y.Args.take (j+1)).all (I2 data d x.Vars)=true:=fun A=>by
   rw [C6 ht,List.all_append,c]; simp [A]
  cases q:Hw t d x.Vars with
  | true=>exact .inl ⟨_,rfl,⟨j+1,rfl,by omega,good (by unfold I2; rw [q]; rfl)⟩,by simp; omega⟩
  | false=>
   simp only [cond_false]
   cases u:(Fj (data.take d) x.Vars t&&decide (Bg t<=200)) with
   | true=>exact .inl ⟨_,rfl,⟨j+1,rfl,by omega,good (by unfold I2; rw [u,q]; rfl)⟩,by simp; omega⟩
   | false=>
    refine .inr ⟨.inl false,rfl,rfl,?_⟩
    rw [List.all_eq_false]
    exact ⟨t,k,by unfold I2; rw [u,q]; simp⟩
 .have:j=y.Args.length:=by omega
  subst this
  rw [List.take_length] at c
  exact .inr ⟨.inr (y.Args.length:Int),by simp,c⟩
theorem Aw8 {data:List Az} (M:DSz data) {d:Nat} {x:Az} (hx:data[d]? = some x) (Y:x.Cons.length<=8) (L:List ByteArray) (X:L.length<=1048576) :
  ∃z,Al (S:=(Int×(List ByteArray))) (E:=(Bool⊕(Int×(List ByteArray)))) (fun (f,k)=>
   bif (decide (f<(x.Cons.length:Int))) then (
   (show Option Bool from
   (Af x.Cons f).bind fun A=>
   (Qq A.Name).bind fun v203=>
   bif (!v203) then some true
   else (
   (Af x.Cons f).bind fun u=>
   some (decide ((u.Args.length:Int)>(6:Int))))
   ).bind fun s=>
   bif s then some (.inr (.inl false))
   else (
   (Af x.Cons f).bind fun v206=>
   (B3 16 k [v206.Name]).bind fun D=>
   (Af x.Cons f).bind fun v208=>
   (Al (S:=Int) (E:=(Bool⊕Int)) (fun g=>
   bif (decide (g<(v208.Args.length:Int))) then (
   (Af v208.Args g).bind fun j=>
   (Oj j d x.Vars).bind fun q=>
   bif q then some (.inl (Ac (g+1)))
   else (
   (E7 data 0 d).bind fun v218=>
   (M1 v218 j x.Vars).bind fun l=>
   bif (!l) then some (.inr (.inl false))
   else some (.inl (Ac (g+1)))))
   else some (.inr (.inr g))) 0).bind fun z=>
   match z with
   | .inl B=>some (.inr (.inl B))
   | .inr J=>some (.inl ((Ac (f+1)),D))))
   else some (.inr (.inr (f,k)))) (0,L)=some z /\
   (match z with | .inl r=>r=false/\¬(∀y∈x.Cons,Rn data d x.Vars y) | .inr (_,o)=>(∀y∈x.Cons,Rn data d x.Vars y)/\o=L++Fr x):=by
 have hxm:=B4 hx
 refine Jy (fun (v,o)=>∃c:Nat,v=c/\c<=x.Cons.length/\(∀y∈x.Cons.take c,Rn data d x.Vars y)/\o=L++(x.Cons.take c).map (·.Name)) (fun (v,_)=>x.Cons.length-v.toNat) _ ?_ _ ⟨0,rfl,by omega,by simp,by simp⟩
 rintro ⟨v,o⟩ ⟨c,rfl,hc,h1,V⟩
 subst V
 rcases Nat.lt_or_ge c x.Cons.length with h | h
 .have hy:x.Cons[c]? = some x.Cons[c]:=Bu h
  generalize x.Cons[c]=y at hy
  have i:=B4 hy
  obtain ⟨b,b1,b2⟩:=Amd y.Name (by have:=M.cn x hxm y i; omega)
  obtain ⟨z,R,z2⟩:=Aw7 M hx i
  simp only [Ak (by omega:(c:Int)<(x.Cons.length:Int)),cond_true,B6 rfl hy,Ad,b1,Cz h (by omega)]
  rw [Cy (by simp; omega)]
  cases b with
  | false=>
   refine .inr ⟨.inl false,rfl,rfl,fun I=>?_⟩
   have:=b2.2 (I y i).1; cases this
  | true=>
   simp only [Dm,cond_false,Ad]
   by_cases N:(y.Args.length:Int)>6
   .rw [Ak N]
    refine .inr ⟨.inl false,rfl,rfl,fun I=>?_⟩
    have:=(I y i).2.1; omega
   .rw [Ap N]
    simp only [cond_false]
    rw [R,Ad]
    match z,z2 with
    | .inl r,z2=>
     obtain ⟨rfl,z2⟩:=z2
     refine .inr ⟨.inl false,rfl,rfl,fun I=>?_⟩
     have:=(I y i).2.2
     rw [z2] at this; cases this
    | .inr w,z2=>
     refine .inl ⟨_,rfl,⟨c+1,rfl,by omega,?_,?_⟩,by simp; omega⟩
     .intro U G
      rw [C6 hy] at G
      rcases List.mem_append.1 G with h' | h'
      .exact h1 U h'
      .simp at h'; subst h'; exact ⟨b2.1 rfl,by omega,z2⟩
     .rw [C6 hy]; simp
 .have:c=x.Cons.length:=by omega
  subst this
  rw [List.take_length] at h1
  exact .inr ⟨.inr ((x.Cons.length:Int),L++Fr x),by simp [Fr],h1,rfl⟩
theorem Aw9 {data:List Az} (D:DSz data):∃b,Vt data=some b/\(b=true↔Il data):=by
 have J:=D.len
 unfold Vt
 rcases Nat.lt_or_ge 12 data.length with h12 | h12
 .rw [Ak (by omega)]
  exact ⟨false,rfl,by simp; intro h; have:=h.1; omega⟩
 rw [Ap (by omega)]
 simp only [cond_false]
 have l:∀d,d<=data.length->(∀f x,f<d->data[f]? = some x->O9 data f x)->((data.take d).flatMap Fr).length<=8*d:=by
  intro d
  induction d with
  | zero=>intro _ _; simp
  | succ d ih=>
   intro hd h1
   have hx:data[d]? = some data[d]:=Bu (by omega)
   have:=ih (by omega) (fun f x E=>h1 f x (by omega))
   have V:=(h1 d _ (by omega) hx).2.2.2.1
   rw [C6 hx,List.flatMap_append,List.length_append]
   simp only [List.flatMap_cons,List.flatMap_nil,List.append_nil,Fr,List.length_map]
   omega
 refine D9 (fun (v,k,j)=>∃d:Nat,v=d/\d<=data.length/\(∀f x,f<d->data[f]? = some x->O9 data f x)/\k=(data.take d).map (·.Name)/\j=(data.take d).flatMap Fr)
  (fun (v,_,_)=>data.length-v.toNat) (fun z=>match z with | .inl r=>r=false/\¬Il data | .inr (k,j)=>(∀d x,data[d]? = some x->O9 data d x)/\k=data.map (·.Name)/\j=data.flatMap Fr) ⟨0,rfl,by omega,by intro f x h; omega,by simp,by simp⟩ ?_ ?_
 .rintro ⟨v,k,j⟩ ⟨d,rfl,hd,h1,h2,h3⟩
  rcases Nat.lt_or_ge d data.length with h | h
  .have hx:data[d]? = some data[d]:=Bu h
   generalize data[d]=x at hx
   have hxm:=B4 hx
   obtain ⟨b,b1,b2⟩:=Amd x.Name (by have:=D.nm x hxm; omega)
   simp only [Ak (by omega:(d:Int)<(data.length:Int)),cond_true,B6 rfl hx,Ad,b1]
   have bad:∀(u:¬O9 data d x),∃e:Bool⊕((List ByteArray)×(List ByteArray)),(some (Sum.inr (Sum.inl false)):Option ((Int×(List ByteArray)×(List ByteArray))⊕(Bool⊕((List ByteArray)×(List ByteArray)))))=some (.inr e)/\(match e with | .inl r=>r=false/\¬Il data | .inr (k,j)=>(∀d x,data[d]? = some x->O9 data d x)/\k=data.map (·.Name)/\j=data.flatMap Fr) :=
    fun u=>⟨.inl false,rfl,rfl,fun c=>u (c.2.1 d x hx)⟩
   by_cases g:x.Vars<0
   .simp only [Ak g,cond_true,Ad]
    exact .inr (bad fun c=>by have:=c.1; omega)
   by_cases i:x.Vars>6
   .simp only [Ap g,Ak i,cond_true,cond_false,Ad]
    exact .inr (bad fun c=>by have:=c.2.1; omega)
   by_cases s:(x.Cons.length:Int)<1
   .simp only [Ap g,Ap i,Ak s,cond_false,cond_true,Ad]
    exact .inr (bad fun c=>by have:=c.2.2.1; omega)
   by_cases A:(x.Cons.length:Int)>8
   .simp only [Ap g,Ap i,Ap s,Ak A,cond_true,cond_false,Ad]
    exact .inr (bad fun c=>by have:=c.2.2.2.1; omega)
   simp only [Ap g,Ap i,Ap s,Ap A,cond_false,Ad]
   cases b with
   | false=>exact .inr (bad fun c=>by have:=b2.2 c.2.2.2.2.1; cases this)
   | true=>
    have y:=l d hd h1
    rw [h2,h3]
    simp only [Dm,cond_false]
    rw [Cy (by simp; omega),Ad]
    obtain ⟨z,L,z2⟩:=Aw8 D hx (by omega) ((data.take d).flatMap Fr) (by omega)
    erw [L,Ad]
    match z,z2 with
    | .inl r,z2=>
     obtain ⟨rfl,z2⟩:=z2
     exact .inr (bad fun c=>z2 c.2.2.2.2.2)
    | .inr (v60,S),z2=>
     obtain ⟨N,M⟩:=z2
     subst M
     have ht:=C6 hx
     refine .inl ⟨(((d+1:Nat):Int),(data.take d).map (·.Name)++[x.Name],(data.take d).flatMap Fr++Fr x),by simp only [Cz h (by omega)],⟨d+1,rfl,by omega,?_,?_,?_⟩,by simp; omega⟩
     .intro f R E q
      rcases Nat.lt_or_ge f d with h' | h'
      .exact h1 f R h' q
      .have:f=d:=by omega
       subst this
       rw [hx] at q; cases q
       exact ⟨by omega,by omega,by omega,by omega,b2.1 rfl,N⟩
     .rw [ht]; simp
     .rw [ht]; simp [List.flatMap_append]
  .have:d=data.length:=by omega
   subst this
   rw [List.take_length] at h2 h3
   exact .inr ⟨.inr (k,j),by simp,fun d x hx=>h1 d x (Dn hx) hx,h2,h3⟩
 .rintro (r | ⟨k,j⟩) hp
  .obtain ⟨rfl,hp⟩:=hp
   exact ⟨false,rfl,by simp [hp]⟩
  .obtain ⟨I,rfl,rfl⟩:=hp
   have y:=l data.length (by omega) (fun d x _=>I d x)
   rw [List.take_length] at y
   obtain ⟨b,b1,b2⟩:=Amf (data.map (·.Name)) (by simp; omega)
   obtain ⟨U,G,B⟩:=Amf (data.flatMap Fr) (by omega)
   simp only [b1,Ad,G]
   cases b with
   | true=>exact ⟨false,rfl,by simp; intro c; have:=b2.2 c.2.2.1; cases this⟩
   | false=>
    cases U with
    | true=>exact ⟨false,rfl,by simp; intro c; have:=B.2 c.2.2.2; cases this⟩
    | false=>exact ⟨true,rfl,by simp; exact ⟨h12,I,b2.1 rfl,B.1 rfl⟩⟩
end Go.Ab
namespace Go.Ab
open Go
def isV (σ:List Ah) (k n:Int):Bool:=k==4&&decide (0<=n)&&decide (n<(σ.length:Int))
mutual
def C3 (σ:List Ah):Ah->Ah
 | ⟨k,n,l⟩=>match (if isV σ k n then σ[n.toNat]? else none) with
  | some s=>s
  | none=>⟨k,n,Nd σ l⟩
def Nd (σ:List Ah):List Ah->List Ah
 | []=>[]
 | x::xs=>C3 σ x::Nd σ xs
end
theorem Axa (σ l:List Ah):Nd σ l=l.map (C3 σ):=by
 induction l with
 | nil=>rfl
 | cons x xs ih=>simp only [Nd,ih,List.map_cons]
theorem Aa4 {σ:List Ah} {k n:Int} (h:isV σ k n=true):∃s,σ[n.toNat]? = some s/\Af σ n=some s/\s∈σ:=by
 simp only [isV,Dx,decide_eq_true_eq] at h
 have b:n.toNat < σ.length:=by omega
 refine ⟨σ[n.toNat],Bu b,?_,List.getElem_mem b⟩
 unfold Af
 rw [if_pos (by omega),Bu b]
theorem Aa5 {σ:List Ah} {t s:Ah} (h:isV σ t.Kind t.Num=true) (b:σ[t.Num.toNat]? = some s):C3 σ t=s:=by
 cases t; simp only [C3] at *; simp [h,b]
theorem Afn {σ:List Ah} {t:Ah} (h:isV σ t.Kind t.Num=false):C3 σ t=⟨t.Kind,t.Num,t.Args.map (C3 σ)⟩:=by
 cases t; simp only [C3] at *; simp [h,Axa]
mutual
theorem Amg:∀t:Ah,C3 [] t=t
 | ⟨k,n,l⟩=>by
  have hv:isV [] k n=false:=by
   unfold isV
   by_cases h:0<=n
   .rw [Ap (by simp; omega:¬n<(([]:List Ah).length:Int))]; simp
   .rw [Ap h]; simp
  simp only [C3,hv,Amh l]; rfl
theorem Amh:∀l:List Ah,Nd [] l=l
 | []=>rfl
 | x::xs=>by simp only [Nd,Amg x,Amh xs]
end
mutual
theorem Afo (σ:List Ah) (M:Nat) (hM:1<=M) (hσ:∀s∈σ,Bg s<=M):∀t:Ah,Bg (C3 σ t)<=Bg t*M
 | ⟨k,n,l⟩=>by
  cases hv:isV σ k n with
  | true=>
   obtain ⟨s,h1,_,h3⟩:=Aa4 hv
   rw [Aa5 (t:=⟨k,n,l⟩) hv h1]
   have:=hσ s h3
   have h2:=Mi ⟨k,n,l⟩
   calc Bg s<=1*M:=by omega
    _<=_:=Nat.mul_le_mul_right M h2
  | false=>
   have:=Ami σ M hM hσ l
   simp only [C3,hv,Bg]
   simp only [Bool.false_eq_true,if_false,Bg]
   rw [Nat.add_mul]; omega
theorem Ami (σ:List Ah) (M:Nat) (hM:1<=M) (hσ:∀s∈σ,Bg s<=M):∀l:List Ah,Cp (Nd σ l)<=Cp l*M
 | []=>by simp [Nd,Cp]
 | x::xs=>by
  have h1:=Afo σ M hM hσ x
  have h2:=Ami σ M hM hσ xs
  simp only [Nd,Cp]
  rw [Nat.add_mul]; omega
end
theorem Afp (σ:List Ah) (t:Ah):(bif t.Kind==(4:Int) then bif decide (t.Num>=(0:Int)) then some (decide (t.Num<(σ.length:Int))) else some false else some false)=some (isV σ t.Kind t.Num):=by
 unfold isV
 cases t.Kind==4 <;> simp
 by_cases h:0<=t.Num <;> simp [h]
theorem Axb:∀(k:Nat) (t:Ah) (σ:List Ah) (M:Nat),(∀s∈σ,Bg s<=M)->Bg t+M+1<=k->k<1099511627776->Ot k t σ=some (C3 σ t):=by
 intro k
 induction k with
 | zero=>intro t σ M _ h; omega
 | succ k ih=>
  intro t σ M c h hk
  have g:=Gx t
  have f:=Ib t.Args
  rw [Ot]
  rw [show (show Option Bool from bif t.Kind==(4:Int) then bif decide (t.Num>=(0:Int)) then some (decide (t.Num<(σ.length:Int))) else some false else some false)=some (isV σ t.Kind t.Num) from Afp σ t,Ad]
  cases b:isV σ t.Kind t.Num with
  | true=>
   obtain ⟨s,h1,h2,h3⟩:=Aa4 b
   have:=c s h3
   simp only [cond_true,h2,Ad,Aa5 b h1,ih s [] 0 (by simp) (by omega) (by omega),Amg]
  | false=>
   rw [Afn b]
   simp only [cond_false]
   refine Fi t.Args (fun j=>((j:Int),(t.Args.take j).map (C3 σ))) rfl (by omega) ?_ ?_
   .intro j x hj hx h1 h2 h3
    have:=G4 (B4 hx)
    simp only [h1,h2,h3,cond_true,Ad,ih x σ M c (by omega) (by omega)]
    rw [Cy (by simp; omega),Ad,C6 hx]; simp
   .intro h1
    exact ⟨t.Args.map (C3 σ),by simp,rfl⟩
theorem Axc:∀(k:Nat) (t:Ah),Bg t<=k->k<1099511627776->Q7 k t=some t:=by
 intro k
 induction k with
 | zero=>intro t h; have:=Mi t; omega
 | succ k ih=>
  intro t h hk
  have c:=Gx t
  have b:=Ib t.Args
  rw [Q7]
  refine Fi t.Args (fun j=>((j:Int),(t.Args.take j))) rfl (by omega) ?_ ?_
  .intro j x hj hx h1 h2 h3
   have:=G4 (B4 hx)
   simp only [h1,h2,h3,cond_true,Ad,ih x (by omega) (by omega)]
   rw [Cy (by simp; omega),Ad,C6 hx]
  .intro h1
   exact ⟨t.Args,by simp,by cases t; rfl⟩
theorem Axd:∀(k:Nat) (t:Ah) (σ:List Ah) (M:Nat),(∀s∈σ,Bg s<=M)->M<=4000000->Bg t<=k->k<1099511627776->Ou k t σ=some (C3 σ t):=by
 intro k
 induction k with
 | zero=>intro t σ M _ _ h; have:=Mi t; omega
 | succ k ih=>
  intro t σ M c i h hk
  have g:=Gx t
  have f:=Ib t.Args
  rw [Ou]
  rw [show (show Option Bool from bif t.Kind==(4:Int) then bif decide (t.Num>=(0:Int)) then some (decide (t.Num<(σ.length:Int))) else some false else some false)=some (isV σ t.Kind t.Num) from Afp σ t,Ad]
  cases b:isV σ t.Kind t.Num with
  | true=>
   obtain ⟨s,h1,h2,h3⟩:=Aa4 b
   have:=c s h3
   simp only [cond_true,h2,Ad,Aa5 b h1,Axc 4000000 s (by omega) (by omega)]
  | false=>
   rw [Afn b]
   simp only [cond_false]
   refine Fi t.Args (fun j=>((j:Int),(t.Args.take j).map (C3 σ))) rfl (by omega) ?_ ?_
   .intro j x hj hx h1 h2 h3
    have:=G4 (B4 hx)
    simp only [h1,h2,h3,cond_true,Ad,ih x σ M c i (by omega) (by omega)]
    rw [Cy (by simp; omega),Ad,C6 hx]; simp
   .intro h1
    exact ⟨t.Args.map (C3 σ),by simp,rfl⟩
theorem Axe:∀(k:Nat) (t:Ah),Bg t<=k->Bg t<1099511627776->Q2 k t=some (Bg t:Int):=by
 intro k
 induction k with
 | zero=>intro t h; have:=Mi t; omega
 | succ k ih=>
  intro t h ht
  have b:=Gx t
  have c:=Ib t.Args
  rw [Q2]
  refine Fi t.Args (fun j=>(1+(Cp (t.Args.take j):Int),(j:Int))) rfl (by omega) ?_ ?_
  .intro j x hj hx h1 h2 h3
   have hm:=G4 (B4 hx)
   have f:=Xj t.Args (j+1)
   have e:Cp (t.Args.take (j+1))=Cp (t.Args.take j)+Bg x:=by rw [C6 hx,Aa0]; simp [Cp]
   simp only [h1,h2,h3,cond_true,Ad,ih x (by omega) (by omega)]
   rw [show Ac (1+(Cp (t.Args.take j):Int)+(Bg x:Int))=1+(Cp (t.Args.take (j+1)):Int) by rw [e,Ac,Bp] <;> omega]
  .intro h1
   exact ⟨1+(Cp t.Args:Int),by simp,by rw [b]; simp⟩
theorem Axf (σ:List Ah) (M:Nat) (E:1<=M) (u:M<=1048576) (A:∀s∈σ,Bg s<=M):∀(k:Nat) (t:Ah),Bg t<=k->Bg t<=1048576 ->
  ∃v:Nat,Q3 k t (σ.map fun s=>(Bg s:Int))=some (v:Int)/\v<=Bg (C3 σ t)/\((v=Bg (C3 σ t))\/200<v):=by
 intro k
 induction k with
 | zero=>intro t h; have:=Mi t; omega
 | succ k ih=>
  intro t h ht
  have B:=Gx t
  have z:=Ib t.Args
  have l:∀x,Bg x<=1048576->Bg (C3 σ x)<=1099511627776:=fun x hx=>by
   have:=Afo σ M E A x
   have:Bg x*M<=1048576*1048576:=Nat.mul_le_mul hx u
   omega
  rw [Q3]
  rw [show (show Option Bool from bif t.Kind==(4:Int) then bif decide (t.Num>=(0:Int)) then some (decide (t.Num<((σ.map fun s=>(Bg s:Int)).length:Int))) else some false else some false)=some (isV σ t.Kind t.Num) by rw [List.length_map]; exact Afp σ t,Ad]
  cases f:isV σ t.Kind t.Num with
  | true=>
   obtain ⟨s,h1,h2,h3⟩:=Aa4 f
   have hi:Af (σ.map fun s=>(Bg s:Int)) t.Num=some (Bg s:Int):=by
    have:=F4 h2
    rw [B6 (n:=t.Num.toNat) (by omega)]
    simp [h1]
   simp only [cond_true,hi,Ad,Aa5 f h1]
   exact ⟨Bg s,rfl,Nat.le_refl _,.inl rfl⟩
  | false=>
   have y:=l t ht
   rw [Afn f] at y ⊢
   simp only [cond_false]
   have g:Bg ⟨t.Kind,t.Num,t.Args.map (C3 σ)⟩=1+Cp (t.Args.map (C3 σ)):=by simp only [Bg]
   rw [g] at y ⊢
   refine Aaj (fun v:Nat=>(v:Int)) (D9 (fun (n,i)=>∃j:Nat,i=j/\j<=t.Args.length/\n=1+(Cp ((t.Args.map (C3 σ)).take j):Int)) (fun (_,i)=>t.Args.length-i.toNat)
    (fun n=>∃v:Nat,n=v/\v<=1+Cp (t.Args.map (C3 σ))/\(v=1+Cp (t.Args.map (C3 σ))\/200<v)) ⟨0,rfl,by omega,by simp [Cp]⟩ ?_ ?_)
   .rintro ⟨n,i⟩ ⟨j,rfl,hj,q⟩
    have q:n=_:=q
    subst q
    rcases Nat.lt_or_ge j t.Args.length with h' | h'
    .have hx:t.Args[j]? = some t.Args[j]:=Bu h'
     generalize t.Args[j]=x at hx
     have hm:=G4 (B4 hx)
     obtain ⟨v,b,v2,v3⟩:=ih x (by omega) (by omega)
     have c:(t.Args.map (C3 σ))[j]? = some (C3 σ x):=by simp [hx]
     have e:Cp ((t.Args.map (C3 σ)).take (j+1))=Cp ((t.Args.map (C3 σ)).take j)+Bg (C3 σ x):=by rw [C6 c,Aa0]; simp [Cp]
     have D:=Xj (t.Args.map (C3 σ)) (j+1)
     have G:Ac (1+(Cp ((t.Args.map (C3 σ)).take j):Int)+(v:Int))=((1+Cp ((t.Args.map (C3 σ)).take j)+v:Nat):Int):=by rw [Ac,Bp] <;> omega
     simp only [Ak (by omega:(j:Int)<(t.Args.length:Int)),cond_true,B6 rfl hx,Ad,b,Cz h' (by omega),G]
     by_cases hb:1+Cp ((t.Args.map (C3 σ)).take j)+v>200
     .rw [Ak (by omega)]
      exact .inr ⟨_,rfl,_,rfl,by omega,.inr hb⟩
     .rw [Ap (by omega)]
      refine .inl ⟨_,rfl,⟨j+1,rfl,by omega,?_⟩,by simp; omega⟩
      have:v=Bg (C3 σ x):=by omega
      subst this
      rw [e]; omega
    .have:j=t.Args.length:=by omega
     subst this
     refine .inr ⟨_,by simp; rfl,1+Cp (t.Args.map (C3 σ)),?_,by omega,.inl rfl⟩
     rw [List.take_of_length_le (by simp)]; omega
   .rintro n ⟨v,rfl,b,v2⟩
    exact ⟨_,rfl,v,rfl,b,v2⟩
def Ko (data:List Az) (t:Ah) (c:Int):Option (List Ah) :=
 if t.Kind=5 then
  match Af data t.Num with
  | none=>none
  | some x=>if (t.Args.length:Int)=x.Vars then
    match Af x.Cons c with
    | none=>none
    | some y=>if (y.Args.map (C3 t.Args)).all (fun a=>decide (Bg a<=200)) then some (y.Args.map (C3 t.Args)) else none
   else none
 else none
def okL (o:Option (List Ah)):List Ah×Bool:=match o with | none=>([],false) | some l=>(l,true)
theorem Axg {R:Type} (data:List Az) (t:Ah) (c:Int) (F:Az->Lp->Option R) (z:R) (X:Option R)
  (b:X=(match Af data t.Num with
   | none=>some z
   | some x=>match Af x.Cons c with
    | none=>some z
    | some y=>if t.Kind=5/\(t.Args.length:Int)=x.Vars then F x y else some z)):X=if t.Kind=5 then
  match Af data t.Num with
  | none=>some z
  | some x=>if (t.Args.length:Int)=x.Vars then
    match Af x.Cons c with
    | none=>some z
    | some y=>F x y
   else some z
 else some z:=by
 subst b
 by_cases h:t.Kind=5
 .rw [if_pos h]
  cases Af data t.Num with
  | none=>rfl
  | some x=>
   simp only
   by_cases h':(t.Args.length:Int)=x.Vars
   .rw [if_pos h']
    cases Af x.Cons c with
    | none=>rfl
    | some y=>simp [h,h']
   .rw [if_neg h']
    cases Af x.Cons c with
    | none=>rfl
    | some y=>simp [h']
 .rw [if_neg h]
  cases Af data t.Num with
  | none=>rfl
  | some x=>
   simp only
   cases Af x.Cons c with
   | none=>rfl
   | some y=>simp [h]
def Szv (data:List Az):Prop:=∀x∈data,∀y∈x.Cons,y.Args.length<=6/\∀a∈y.Args,Bg a<=200
theorem Il.szv {data:List Az} (h:Il data):Szv data:=by
 intro x hx y hy
 obtain ⟨d,hd⟩:=List.getElem?_of_mem hx
 have h1:=h.2.1 d x hd
 obtain ⟨_,c,b⟩:=h1.2.2.2.2.2 y hy
 refine ⟨c,fun a ha=>?_⟩
 have:=List.all_eq_true.1 b a ha
 unfold I2 at this
 rw [Bool.or_eq_true] at this
 rcases this with h' | h'
 .exact (Al9 hd h1.2.1 h').2
 .simp only [Dx,decide_eq_true_eq] at h'; exact h'.2
theorem Axh {t a:Ah} (ht:Bg t<=200) (ha:Bg a<=200):Bg (C3 t.Args a)<=40000:=by
 have h1:=Afo t.Args 200 (by omega) (fun s b=>by have:=G4 b; have:=Gx t; omega) a
 have:Bg a*200<=200*200:=Nat.mul_le_mul_right 200 ha
 omega
theorem Amj {data:List Az} (B:Szv data) (t:Ah) (ht:Bg t<=200) (c:Int):Qu data t c=some (okL (Ko data t c)):=by
 have G:Qu data t c=_:=Axg data t c (fun x y=>(Al (S:=(Int×(List Ah))) (E:=(((List Ah)×Bool)⊕(List Ah))) (fun (v22,f)=>
   bif (decide (v22<(y.Args.length:Int))) then (
   (Af y.Args v22).bind fun v24=>
   (Ou (4000000) v24 t.Args).bind fun v26=>
   (M6 (4000000) v26).bind fun v28=>
   bif (decide (v28>(200:Int))) then some (.inr (.inl ([],false)))
   else (
   (B3 40 f [v26]).bind fun u=>
   some (.inl ((Ac (v22+1)),u))))
   else some (.inr (.inr f))) (0,[])).bind fun z=>
   match z with
   | .inl (l,k)=>some (l,k)
   | .inr q=>some (q,true)) ([],false) _ (by
  unfold Qu
  by_cases hk:t.Kind=5
  .simp only [Dj hk,cond_false]
   cases hx:Af data t.Num with
   | none=>
    rcases O8 hx with h | h
    .simp only [Ak h,cond_true,Ad]
    .by_cases h':t.Num<0
     .simp only [Ak h',cond_true,Ad]
     .simp only [Ap h',Ak (show t.Num>=(data.length:Int) from h),cond_true,cond_false,Ad]
   | some x=>
    obtain ⟨a1,a2,_,_⟩:=F4 hx
    simp only [Ap (by omega:¬t.Num<0),Ap (by omega:¬t.Num>=(data.length:Int)),cond_false,Ad]
    by_cases b:(t.Args.length:Int)=x.Vars
    .simp only [Dj b,cond_false]
     cases hy:Af x.Cons c with
     | none=>
      rcases O8 hy with h | h
      .simp only [Ak h,cond_true,Ad]
      .by_cases h':c<0
       .simp only [Ak h',cond_true,Ad]
       .simp only [Ap h',Ak (show c>=(x.Cons.length:Int) from h),cond_true,cond_false,Ad]
     | some y=>
      obtain ⟨b1,b2,_,_⟩:=F4 hy
      simp only [Ap (by omega:¬c<0),Ap (by omega:¬c>=(x.Cons.length:Int)),cond_false,Ad,hk,b,and_self,if_true]
      rfl
    .simp only [Di b,cond_true,Ad]
     cases hy:Af x.Cons c with
     | none=>rfl
     | some y=>simp [b]
  .simp only [Di hk,cond_true,Ad]
   cases hx:Af data t.Num with
   | none=>rfl
   | some x=>
    simp only
    cases hy:Af x.Cons c with
    | none=>rfl
    | some y=>simp [hk])
 rw [G]
 unfold Ko
 by_cases hk:t.Kind=5
 .rw [if_pos hk,if_pos hk]
  cases hx:Af data t.Num with
  | none=>rfl
  | some x=>
   simp only
   by_cases b:(t.Args.length:Int)=x.Vars
   .rw [if_pos b,if_pos b]
    cases hy:Af x.Cons c with
    | none=>rfl
    | some y=>
     simp only
     obtain ⟨I,i⟩:=B x (F4 hx).2.2.2 y (F4 hy).2.2.2
     refine (O1 (rt:=(y.Args.map (C3 t.Args),true)) (rf:=([],false)) y.Args (fun a=>decide (Bg (C3 t.Args a)<=200)) (fun j=>((j:Int),(y.Args.take j).map (C3 t.Args))) rfl (by omega) ?_ ?_).trans ?_
     .intro j a ha h1 h2 h3
      have hj:=Dn ha
      have A:=i a (B4 ha)
      have J:=Axh ht A
      simp only [h1,h2,h3,cond_true,Ad,Axd 4000000 a t.Args 200 (fun s D=>by have:=G4 D; have:=Gx t; omega) (by omega) (by omega) (by omega),Al1 4000000 (C3 t.Args a) (by omega) (by omega)]
      by_cases hb:Bg (C3 t.Args a)<=200
      .rw [Ak hb,Ap (by omega)]
       refine ⟨fun _=>?_,fun h=>by cases h⟩
       rw [Cy (by simp; omega)]
       simp only [cond_false,Ad]
       rw [C6 ha]; simp
      .rw [Ap hb,Ak (by omega)]
       exact ⟨(fun h=>by cases h),fun _=>⟨_,rfl,rfl⟩⟩
     .intro h1
      exact ⟨.inr (y.Args.map (C3 t.Args)),by simp,rfl⟩
     .rw [List.all_map]
      cases g:y.Args.all ((fun a=>decide (Bg a<=200)) ∘ C3 t.Args) with
      | true=>rw [if_pos rfl]; rw [show (y.Args.all fun a=>decide (Bg (C3 t.Args a)<=200))=true from g]; rfl
      | false=>rw [show (y.Args.all fun a=>decide (Bg (C3 t.Args a)<=200))=false from g]; rfl
   .rw [if_neg b,if_neg b]; rfl
 .rw [if_neg hk,if_neg hk]; rfl
end Go.Ab
namespace Go.Ab
open Go
theorem Axi {data:List Az} (B:Szv data) (t:Ah) (ht:Bg t<=200) (c:Int):Wl data t c=some (okL (Ko data t c)):=by
 have D:=Gx t
 have u:=Ib t.Args
 unfold Wl Ko
 by_cases hk:t.Kind=5
 .simp only [Dj hk,cond_false,if_pos hk]
  cases hx:Af data t.Num with
  | none=>
   rcases O8 hx with h | h
   .simp only [Ak h,cond_true,Ad,okL]
   .by_cases h':t.Num<0
    .simp only [Ak h',cond_true,Ad,okL]
    .simp only [Ap h',Ak (show t.Num>=(data.length:Int) from h),cond_true,cond_false,Ad,okL]
  | some x=>
   obtain ⟨a1,a2,_,hxm⟩:=F4 hx
   simp only [Ap (by omega:¬t.Num<0),Ap (by omega:¬t.Num>=(data.length:Int)),cond_false,Ad]
   by_cases g:(t.Args.length:Int)=x.Vars
   .simp only [Dj g,cond_false,if_pos g]
    cases hy:Af x.Cons c with
    | none=>
     rcases O8 hy with h | h
     .simp only [Ak h,cond_true,Ad,okL]
     .by_cases h':c<0
      .simp only [Ak h',cond_true,Ad,okL]
      .simp only [Ap h',Ak (show c>=(x.Cons.length:Int) from h),cond_true,cond_false,Ad,okL]
    | some y=>
     obtain ⟨b1,b2,_,k⟩:=F4 hy
     obtain ⟨G,b⟩:=B x hxm y k
     simp only [Ap (by omega:¬c<0),Ap (by omega:¬c>=(x.Cons.length:Int)),cond_false,Ad]
     rw [Iz (n:=t.Args.length) (c:=t.Args.length) rfl rfl (by omega) (by omega) (by omega),Ad]
     refine Fi t.Args (fun j=>((j:Int),((t.Args.take j).map fun s=>(Bg s:Int))++List.replicate (t.Args.length-j) 0)) rfl (by omega) ?_ ?_
     .intro j s hj i h1 h2 h3
      have:=G4 (B4 i)
      obtain ⟨m,hm⟩:∃m,t.Args.length-j=m+1:=⟨t.Args.length-j-1,by omega⟩
      have E:t.Args.length-(j+1)=m:=by omega
      have l:j=((t.Args.take j).map fun s=>(Bg s:Int)).length:=by simp; omega
      simp only [h1,h2,h3,cond_true,Ad,Axe 4000000 s (by omega) (by omega),hm,E,List.replicate_succ,Afj _ _ _ (j:Int) j rfl l,Afi _ _ _ _ (j:Int) j rfl l,C6 i]
      simp
     .intro h1
      refine ⟨t.Args.map fun s=>(Bg s:Int),by simp,?_⟩
      have q:∀s∈t.Args,Bg s<=200:=fun s i=>by have:=G4 i; omega
      refine (O1 (rt:=(y.Args.map (C3 t.Args),true)) (rf:=([],false)) y.Args (fun a=>decide (Bg (C3 t.Args a)<=200)) (fun j=>(j:Int)) rfl (by omega) ?_ ?_).trans ?_
      .intro j a ha h1 h2 h3
       have A:=b a (B4 ha)
       obtain ⟨v,z,v2,v3⟩:=Axf t.Args 200 (by omega) (by omega) q 4000000 a (by omega) (by omega)
       simp only [h1,h2,h3,cond_true,Ad,z]
       by_cases hb:Bg (C3 t.Args a)<=200
       .rw [Ak hb,Ap (by omega)]
        exact ⟨fun _=>rfl,fun h=>by cases h⟩
       .rw [Ap hb,Ak (by omega)]
        exact ⟨(fun h=>by cases h),fun _=>⟨_,rfl,rfl⟩⟩
      .intro h1
       refine ⟨.inr (),by simp,?_⟩
       simp only
       refine Fi y.Args (fun j=>((j:Int),(y.Args.take j).map (C3 t.Args))) rfl (by omega) ?_ ?_
       .intro j a hj ha h1 h2 h3
        have A:=b a (B4 ha)
        simp only [h1,h2,h3,cond_true,Ad,Axb 4000000 a t.Args 200 q (by omega) (by omega)]
        rw [Cy (by simp; omega),Ad,C6 ha]; simp
       .intro h1
        exact ⟨y.Args.map (C3 t.Args),by simp,rfl⟩
      .rw [List.all_map]
       cases f:y.Args.all ((fun a=>decide (Bg a<=200)) ∘ C3 t.Args) with
       | true=>rw [if_pos rfl]; rw [show (y.Args.all fun a=>decide (Bg (C3 t.Args a)<=200))=true from f]; rfl
       | false=>rw [show (y.Args.all fun a=>decide (Bg (C3 t.Args a)<=200))=false from f]; rfl
   .simp only [Di g,cond_true,Ad,if_neg g,okL]
 .simp only [Di hk,cond_true,Ad,if_neg hk,okL]
theorem Xm {data:List Az} {t:Ah} {c:Int} {l:List Ah} (h:Ko data t c=some l) :
  ∃x y,t.Kind=5/\Af data t.Num=some x/\(t.Args.length:Int)=x.Vars/\Af x.Cons c=some y/\l=y.Args.map (C3 t.Args)/\∀a∈l,Bg a<=200:=by
 unfold Ko at h
 by_cases hk:t.Kind=5
 .rw [if_pos hk] at h
  cases hx:Af data t.Num with
  | none=>rw [hx] at h; cases h
  | some x=>
   rw [hx] at h
   simp only at h
   by_cases f:(t.Args.length:Int)=x.Vars
   .rw [if_pos f] at h
    cases hy:Af x.Cons c with
    | none=>rw [hy] at h; cases h
    | some y=>
     rw [hy] at h
     simp only at h
     by_cases b:(y.Args.map (C3 t.Args)).all (fun a=>decide (Bg a<=200))=true
     .rw [if_pos b] at h
      cases h
      refine ⟨x,y,hk,rfl,f,hy,rfl,fun a ha=>?_⟩
      have:=List.all_eq_true.1 b a ha
      simpa using this
     .rw [if_neg b] at h; cases h
   .rw [if_neg f] at h; cases h
 .rw [if_neg hk] at h; cases h
def Gm (l:List Ah) (r:List Bool):List Ah:=((l.zip r).filter fun p=>!p.2).map (·.1)
def I3 (data:List Az) (t:Ah) (c:Int):Option (List Ah):=(Ko data t c).map fun l=>Gm l (Gl data t.Num c)
theorem Afq {data:List Az} {t:Ah} {c:Int} {l:List Ah} (h:Ko data t c=some l):(Gl data t.Num c).length=l.length:=by
 obtain ⟨x,y,_,hx,_,hy,rfl,_⟩:=Xm h
 unfold Gl
 simp only [hx,hy,List.length_map]
theorem Amk {l:List Ah} {r:List Bool} {j:Nat} {a:Ah} {b:Bool} (h1:l[j]? = some a) (h2:r[j]? = some b):Gm (l.take (j+1)) (r.take (j+1))=Gm (l.take j) (r.take j)++bif b then [] else [a]:=by
 unfold Gm
 have f:=Dn h1
 have c:=Dn h2
 rw [C6 h1,C6 h2,List.zip_append (by simp; omega)]
 cases b <;> simp
theorem Aml (l:List Ah) (r:List Bool):(Gm l r).length<=l.length:=by
 unfold Gm
 rw [List.length_map]
 refine Nat.le_trans (List.length_filter_le _ _) ?_
 rw [List.length_zip]; omega
def Kp (r:List Bool):List Int:=(r.zipIdx.filter fun p=>!p.1).map fun p=>(p.2:Int)
def Ro (r:List Bool):List Int:=(r.zipIdx.filter fun p=>p.1).map fun p=>(p.2:Int)
theorem Afr {r:List Bool} {j:Nat} {b:Bool} (h:r[j]? = some b):(r.take (j+1)).zipIdx=(r.take j).zipIdx++[(b,j)]:=by
 have:=Dn h
 rw [C6 h,List.zipIdx_append]; simp; omega
theorem Axj {data:List Az} (g:Szv data) (i:Lu data) (t:Ah) (ht:Bg t<=200) (c:Int) {l:List Ah} (f:Ko data t c=some l):Wp data t c=some (Kp (Gl data t.Num c),Ro (Gl data t.Num c),true):=by
 unfold Wp
 have k:=Afq f
 obtain ⟨x,y,_,hx,_,hy,s,_⟩:=Xm f
 obtain ⟨h,_⟩:=g x (F4 hx).2.2.2 y (F4 hy).2.2.2
 have q:l.length<=6:=by rw [s]; simpa using h
 rw [Amj g t ht c,f,Ad]
 simp only [okL,Dm,cond_false,Awd data t.Num c i,Ad]
 generalize Gl data t.Num c=r at *
 refine Fi r (fun j=>((j:Int),Kp (r.take j),Ro (r.take j))) (by simp [Kp,Ro]) (by omega) ?_ ?_
 .intro j b hj hb h1 h2 h3
  have z:(Kp (r.take j)).length<=6:=by
   unfold Kp; rw [List.length_map]; refine Nat.le_trans (List.length_filter_le _ _) ?_; simp; omega
  have u:(Ro (r.take j)).length<=6:=by
   unfold Ro; rw [List.length_map]; refine Nat.le_trans (List.length_filter_le _ _) ?_; simp; omega
  simp only [h1,h2,h3,cond_true,Ad]
  rw [Cy (by simp; omega),Cy (by simp; omega)]
  unfold Kp Ro
  rw [Afr hb]
  cases b <;> simp
 .intro h1
  exact ⟨(Kp r,Ro r),by simp,rfl⟩
theorem Axk {l:List Ah} {r:List Bool} (h:r.length=l.length):∀(j:Nat) (a:Int),(Kp r)[j]? = some a->∃x,Af l a=some x/\(Gm l r)[j]? = some x:=by
 intro j a ha
 have e:Gm l r=(r.zipIdx.filter fun p=>!p.1).map fun p=>(l[p.2]?).getD ⟨0,0,[]⟩:=by
  unfold Gm
  have key:∀n,n<=r.length->(((l.take n).zip (r.take n)).filter fun p=>!p.2).map (·.1)=((r.take n).zipIdx.filter fun p=>!p.1).map fun p=>(l[p.2]?).getD ⟨0,0,[]⟩:=by
   intro n
   induction n with
   | zero=>intro _; simp
   | succ n ih=>
    intro f
    have h1:l[n]? = some l[n]:=Bu (by omega)
    have h2:r[n]? = some r[n]:=Bu (by omega)
    have:=Amk h1 h2
    unfold Gm at this
    rw [this,ih (by omega),Afr h2]
    cases r[n] <;> simp [h1]
  have:=key r.length (Nat.le_refl _)
  rw [List.take_of_length_le (by omega),List.take_of_length_le (Nat.le_refl _)] at this
  exact this
 unfold Kp at ha
 rw [List.getElem?_map] at ha
 cases hp:(r.zipIdx.filter fun p=>!p.1)[j]? with
 | none=>rw [hp] at ha; cases ha
 | some p=>
  rw [hp] at ha
  cases ha
  have hm:=B4 hp
  rw [List.mem_filter] at hm
  have b:r[p.2]? = some p.1:=List.mk_mem_zipIdx_iff_getElem?.1 hm.1
  have c:=Dn b
  have hx:l[p.2]? = some l[p.2]:=Bu (by omega)
  refine ⟨l[p.2],B6 rfl hx,?_⟩
  rw [e,List.getElem?_map,hp]
  simp [hx]
theorem Axl {l:List Ah} {r:List Bool} (h:r.length=l.length):(Kp r).length=(Gm l r).length:=by
 unfold Kp Gm
 simp only [List.length_map]
 have key:∀n,n<=r.length->(((l.take n).zip (r.take n)).filter fun p=>!p.2).length=((r.take n).zipIdx.filter fun p=>!p.1).length:=by
  intro n
  induction n with
  | zero=>intro _; simp
  | succ n ih=>
   intro b
   have h1:l[n]? = some l[n]:=Bu (by omega)
   have h2:r[n]? = some r[n]:=Bu (by omega)
   rw [Afr h2,C6 h1,C6 h2,List.zip_append (by simp; omega),List.filter_append,List.length_append,ih (by omega),List.filter_append,List.length_append]
   cases r[n] <;> simp
 have:=key r.length (Nat.le_refl _)
 rw [List.take_of_length_le (by omega),List.take_of_length_le (Nat.le_refl _)] at this
 exact this.symm
theorem Aa6 {data:List Az} (g:Szv data) (i:Lu data) (t:Ah) (ht:Bg t<=200) (c:Int):Tj data t c=some (okL (I3 data t c)):=by
 unfold Tj I3
 rw [Amj g t ht c,Ad]
 cases hf:Ko data t c with
 | none=>rfl
 | some l=>
  have f:=Afq hf
  obtain ⟨x,y,_,hx,_,hy,s,_⟩:=Xm hf
  obtain ⟨h,_⟩:=g x (F4 hx).2.2.2 y (F4 hy).2.2.2
  have q:l.length<=6:=by rw [s]; simpa using h
  simp only [okL,Dm,cond_false,Axj g i t ht c hf,Ad,Option.map_some]
  generalize Gl data t.Num c=r at *
  have k:=Axl f
  have u:=Aml l r
  refine Fi (Kp r) (fun j=>((j:Int),(Gm l r).take j)) (by simp) (by omega) ?_ ?_
  .intro j b hj hb h1 h2 h3
   obtain ⟨a,a1,a2⟩:=Axk f j b hb
   simp only [h1,h2,h3,cond_true,Ad,a1]
   rw [Cy (by simp; omega),Ad,C6 a2]
  .intro h1
   refine ⟨Gm l r,?_,rfl⟩
   simp only [h1]
   rw [List.take_of_length_le (by omega)]; rfl
theorem Amm {data:List Az} {t:Ah} {c:Int} {l:List Ah} (h:I3 data t c=some l):(∀a∈l,Bg a<=200)/\∃x,Af data t.Num=some x/\0<=c/\c<x.Cons.length:=by
 unfold I3 at h
 cases hf:Ko data t c with
 | none=>rw [hf] at h; cases h
 | some m=>
  rw [hf] at h
  cases h
  obtain ⟨x,y,_,hx,_,hy,_,f⟩:=Xm hf
  refine ⟨fun a ha=>?_,x,hx,(F4 hy).1,(F4 hy).2.1⟩
  unfold Gm at ha
  obtain ⟨p,b,rfl⟩:=List.mem_map.1 ha
  exact f _ (List.of_mem_zip (List.mem_filter.1 b).1).1
end Go.Ab
namespace Go.Ab
open Go
mutual
def C4:A9->Nat
 | ⟨_,l⟩=>1+Fd l
def Fd:List A9->Nat
 | []=>0
 | x::xs=>C4 x+Fd xs
end
theorem Fs (t:A9):C4 t=1+Fd t.Kids:=by cases t; simp only [C4]
theorem Kq {l:List A9} {a:A9} (h:a∈l):C4 a<=Fd l:=by
 induction l with
 | nil=>cases h
 | cons x xs ih=>
  simp only [Fd]
  rcases List.mem_cons.1 h with rfl | h
  .omega
  .have:=ih h; omega
theorem Lv (l:List A9):l.length<=Fd l:=by
 induction l with
 | nil=>simp
 | cons x xs ih=>simp only [Fd,List.length_cons]; have:=Fs x; omega
mutual
def Gy (data:List Az):A9->Ah->Option Nat
 | ⟨n,kids⟩,t=>
  if t.Kind=6 then (if n=0 then E4 data kids t.Args else none)
  else if t.Kind=7 then (if 0<=n/\n<=6/\kids.length=0 then some n.toNat else none)
  else if t.Kind=5 then (if n=0 then Hf data kids t else none)
  else if n=0/\kids.length=0 then some 0 else none
def E4 (data:List Az):List A9->List Ah->Option Nat
 | [],[]=>some 0
 | i::is,t::ts=>(Gy data i t).bind fun a=>(E4 data is ts).map (a + ·)
 | [],_::_=>none
 | _::_,[]=>none
def Hf (data:List Az):List A9->Ah->Option Nat
 | [],_=>some 0
 | ⟨n,kids⟩::es,t=>(I3 data t n).bind fun ts=>(E4 data kids ts).bind fun a=>(Hf data es t).map (1+a + ·)
end
theorem Afs (data:List Az) (i:A9) (t:Ah):Gy data i t=if t.Kind=6 then (if i.Num=0 then E4 data i.Kids t.Args else none)
  else if t.Kind=7 then (if 0<=i.Num/\i.Num<=6/\i.Kids.length=0 then some i.Num.toNat else none)
  else if t.Kind=5 then (if i.Num=0 then Hf data i.Kids t else none)
  else if i.Num=0/\i.Kids.length=0 then some 0 else none:=by cases i; simp only [Gy]
theorem Aa7 (data:List Az) (e:A9) (es:List A9) (t:Ah):Hf data (e::es) t=(I3 data t e.Num).bind fun ts=>(E4 data e.Kids ts).bind fun a=>(Hf data es t).map (1+a + ·):=by cases e; simp only [Hf]
theorem Aa8 (data:List Az) (i:A9) (b:List A9) (t:Ah) (ts:List Ah):E4 data (i::b) (t::ts)=(Gy data i t).bind fun a=>(E4 data b ts).map (a + ·):=by simp only [E4]
theorem Aft (data:List Az):∀(b:List A9) (ts:List Ah),ts.length≠b.length->E4 data b ts=none
 | [],[],h=>absurd rfl h
 | i::b,t::ts,h=>by rw [Aa8,Aft data b ts (by simpa using h)]; cases Gy data i t <;> rfl
 | [],_::_,_=>by simp only [E4]
 | _::_,[],_=>by simp only [E4]
theorem Amn (data:List Az):∀(es:List A9) (t:Ah) (d:Nat),Hf data es t=some d->es.length<=d
 | [],_,_,_=>by simp
 | e::es,t,d,h=>by
  rw [Aa7] at h
  cases h1:I3 data t e.Num with
  | none=>rw [h1] at h; cases h
  | some ts=>
   rw [h1,Ad] at h
   cases h2:E4 data e.Kids ts with
   | none=>rw [h2] at h; cases h
   | some a=>
    rw [h2,Ad] at h
    cases h3:Hf data es t with
    | none=>rw [h3] at h; cases h
    | some b=>
     rw [h3] at h
     cases h
     have:=Amn data es t b h3
     simp only [List.length_cons]; omega
def Gb (o:Option Nat):Int:=match o with | some d=>if d<=6 then (d:Int) else -1 | none => -1
theorem Afu {d:Nat} (h:d<=6):Gb (some d)=d:=by simp [Gb,h]
theorem Afv {d:Nat} (h:6<d):Gb (some d) = -1:=by simp only [Gb]; rw [if_neg (by omega)]
theorem Afw (o:Option Nat):(Gb o = -1/\∀d,o=some d->6<d)\/∃d,o=some d/\d<=6/\Gb o=d:=by
 cases o with
 | none=>exact .inl ⟨rfl,fun d h=>by cases h⟩
 | some d=>
  rcases Nat.lt_or_ge 6 d with h | h
  .exact .inl ⟨Afv h,fun e b=>by cases b; exact h⟩
  .exact .inr ⟨d,rfl,h,Afu h⟩
theorem Ug {o:Option Nat} (h:∀d,o=some d->6<d):Gb o = -1:=by
 cases o with
 | none=>rfl
 | some d=>exact Afv (h d rfl)
theorem Kr {α:Type} {l:List α} {j:Nat} {x:α} (h:l[j]? = some x):l.drop j=x::l.drop (j+1):=by
 have hj:=Dn h
 rw [List.drop_eq_getElem_cons hj]
 rw [Bu hj] at h
 rw [Option.some.inj h]
end Go.Ab
namespace Go.Ab
open Go
theorem Axm {data:List Az} (V:Szv data) (X:Lu data) (h8:∀x∈data,x.Cons.length<=8):∀k:Nat,
  (∀(i:A9) (t:Ah),2*C4 i<=k->C4 i<=1048576->Bg t<=200->Od k data t i=some (Gb (Gy data i t))) /\
  (∀(c:List A9) (ts:List Ah),2*Fd c+1<=k->Fd c<=1048576->(∀t∈ts,Bg t<=200)->Ol k data ts c=some (Gb (E4 data c ts))):=by
 intro k
 induction k with
 | zero=>exact ⟨fun i t h=>by have:=Fs i; omega,fun c ts h=>by omega⟩
 | succ k ih=>
  obtain ⟨a8,M⟩:=ih
  have J:∀o:Option Nat,o.map (0 + ·)=o:=by intro o; cases o <;> simp
  constructor
  .intro i t hk hi ht
   have ag:=Fs i
   have aa:=Lv i.Kids
   rw [Od,Afs]
   by_cases Z:t.Kind=6
   .simp only [Ea Z,cond_true,if_pos Z]
    by_cases h0:i.Num=0
    .simp only [Dj h0,cond_false,if_pos h0]
     rw [M i.Kids t.Args (by omega) (by omega) (fun a ha=>by have:=G4 ha; have:=Gx t; omega)]
     rfl
    .simp only [Di h0,cond_true,if_neg h0]; rfl
   .simp only [Cm Z,cond_false,if_neg Z]
    by_cases Y:t.Kind=7
    .simp only [Ea Y,cond_true,if_pos Y]
     by_cases a1:0<=i.Num
     .by_cases a2:i.Num<=6
      .by_cases a3:i.Kids.length=0
       .rw [Ap (by omega),Ap (by omega),Ap (by omega),if_pos ⟨a1,a2,a3⟩,Afu (by omega)]
        simp; omega
       .rw [Ap (by omega),Ap (by omega),Ak (by omega),if_neg (fun h=>a3 h.2.2)]; rfl
      .rw [Ap (by omega),Ak (by omega),if_neg (fun h=>a2 h.2.1)]; rfl
     .rw [Ak (by omega),if_neg (fun h=>a1 h.1)]; rfl
    .simp only [Cm Y,cond_false,if_neg Y]
     by_cases h5:t.Kind=5
     .simp only [Ea h5,cond_true,if_pos h5]
      by_cases h0:i.Num=0
      .simp only [Dj h0,cond_false,if_pos h0,Ad]
       by_cases N:(i.Kids.length:Int)>6
       .rw [Ak N]
        refine congrArg some (Ug fun d hd=>?_).symm
        have:=Amn data _ _ _ hd
        omega
       rw [Ap N]
       simp only [cond_false]
       have key:∀(m j acc:Nat),j+m=i.Kids.length->acc<=6->∃z,Al (S:=(Int×Int)) (E:=(Int⊕Int)) (fun (G,D)=>
         bif (decide (D<(i.Kids.length:Int))) then (
         (Af i.Kids D).bind fun v12=>
         (show Option Bool from
         bif (decide (v12.Num<(0:Int))) then some true
         else some (decide (v12.Num>=(8:Int)))).bind fun a6=>
         bif a6 then some (.inr (.inl (-1)))
         else (
         (Tj data t v12.Num).bind fun L=>
         bif (!L.2) then some (.inr (.inl (-1)))
         else (
         (Ol k data L.1 v12.Kids).bind fun B=>
         bif (decide (B<(0:Int))) then some (.inr (.inl (-1)))
         else (
         bif (decide ((Ac ((Ac (G+1))+B))>(6:Int))) then some (.inr (.inl (-1)))
         else some (.inl ((Ac (G+(Ac (1+B)))),(Ac (D+1))))))))
         else some (.inr (.inr G))) ((acc:Int),(j:Int))=some z/\(match z with | .inl v=>v | .inr v=>v)=Gb ((Hf data (i.Kids.drop j) t).map (acc + ·)):=by
        intro m
        induction m with
        | zero=>
         intro j acc hj f
         have:j=i.Kids.length:=by omega
         subst this
         refine ⟨.inr (acc:Int),Ds (by simp),?_⟩
         simp [Hf,Gb,f]
        | succ m s=>
         intro j acc hj f
         have g:i.Kids[j]? = some i.Kids[j]:=Bu (by omega)
         generalize i.Kids[j]=e at g
         have ab:=Kq (B4 g)
         have ah:=Fs e
         rw [Kr g,Aa7]
         have hb:(bif decide (e.Num<(0:Int)) then some true else some (decide (e.Num>=(8:Int))))=some (decide (e.Num<0\/8<=e.Num)):=by
          by_cases g1:e.Num<0 <;> by_cases g2:8<=e.Num <;> simp [g1,g2]
         cases hp:I3 data t e.Num with
         | none=>
          refine ⟨.inl (-1),Ds ?_,by simp [Gb]⟩
          simp only [Ak (by omega:(j:Int)<(i.Kids.length:Int)),cond_true,B6 rfl g,Ad,Aa6 V X t ht e.Num,hp,okL,Bool.not_false,hb]
          cases decide (e.Num<0\/8<=e.Num) <;> rfl
         | some ts=>
          obtain ⟨pz,x,a7,ae,ad⟩:=Amm hp
          have af:=h8 x (F4 a7).2.2.2
          have q:=M e.Kids ts (by omega) (by omega) pz
          have hb':decide (e.Num<0\/8<=e.Num)=false:=Ap (by omega)
          rcases Afw (E4 data e.Kids ts) with ⟨A,U⟩ | ⟨a,A,U,c3⟩
          .rw [A] at q
           refine ⟨.inl (-1),Ds ?_,?_⟩
           .simp only [Ak (by omega:(j:Int)<(i.Kids.length:Int)),cond_true,B6 rfl g,Ad,Aa6 V X t ht e.Num,hp,okL,Dm,cond_false,hb,hb',q]; rfl
           .refine (Ug fun d h=>?_).symm
            rw [Ad] at h
            cases ha:E4 data e.Kids ts with
            | none=>rw [ha] at h; cases h
            | some a=>
             rw [ha,Ad] at h
             have:=U a ha
             cases y:Hf data (i.Kids.drop (j+1)) t with
             | none=>rw [y] at h; cases h
             | some b=>rw [y] at h; simp at h; omega
          .rw [c3] at q
           have R:Ac (Ac ((acc:Int)+1)+(a:Int))=((acc+(1+a):Nat):Int):=by
            rw [show Ac ((acc:Int)+1)=((acc+1:Nat):Int) by rw [Ac,Bp] <;> omega,Ac,Bp] <;> omega
           have ac:Ac ((acc:Int)+Ac (1+(a:Int)))=((acc+(1+a):Nat):Int):=by
            rw [show Ac (1+(a:Int))=((1+a:Nat):Int) by rw [Ac,Bp] <;> omega,Ac,Bp] <;> omega
           by_cases I:acc+(1+a)<=6
           .obtain ⟨z,l,z2⟩:=s (j+1) (acc+(1+a)) (by omega) I
            refine ⟨z,?_,?_⟩
            .rw [Hm (s':=(((acc+(1+a):Nat):Int),((j+1:Nat):Int)))]
             .exact l
             .simp only [Ak (by omega:(j:Int)<(i.Kids.length:Int)),cond_true,B6 rfl g,Ad,Aa6 V X t ht e.Num,hp,okL,Dm,cond_false,hb,hb',q,R,ac,Ap (by omega:¬(a:Int)<0),Ap (by omega:¬((acc+(1+a):Nat):Int)>6),Cz (show j<i.Kids.length by omega) (by omega)]
            .have J:∀o:Option Nat,(((some a:Option Nat).bind fun a=>o.map (1+a + ·)).map (acc + ·))=o.map (acc+(1+a) + ·):=by
              intro o; cases o <;> simp [Nat.add_assoc]
             rw [Ad,A,J]
             exact z2
           .refine ⟨.inl (-1),Ds ?_,?_⟩
            .simp only [Ak (by omega:(j:Int)<(i.Kids.length:Int)),cond_true,B6 rfl g,Ad,Aa6 V X t ht e.Num,hp,okL,Dm,cond_false,hb,hb',q,R,Ap (by omega:¬(a:Int)<0),Ak (by omega:((acc+(1+a):Nat):Int)>6)]
            .refine (Ug fun d h=>?_).symm
             rw [Ad,A,Ad] at h
             cases y:Hf data (i.Kids.drop (j+1)) t with
             | none=>rw [y] at h; cases h
             | some b=>rw [y] at h; simp at h; omega
       obtain ⟨z,l,z2⟩:=key i.Kids.length 0 0 (by omega) (by omega)
       have l:Al _ ((0:Int),(0:Int))=some z:=l
       erw [l,Ad]
       rw [List.drop_zero,J] at z2
       rw [<-z2]
       cases z <;> rfl
      .simp only [Di h0,cond_true,if_neg h0]; rfl
     .simp only [Cm h5,cond_false,if_neg h5]
      by_cases h0:i.Num=0
      .simp only [Dj h0,cond_false]
       by_cases a3:i.Kids.length=0
       .rw [if_pos ⟨h0,a3⟩,Ap (by omega)]; rfl
       .rw [if_neg (fun h=>a3 h.2),Ak (by omega)]; rfl
      .simp only [Di h0,cond_true]
       rw [if_neg (fun h=>h0 h.1)]; rfl
  .intro c ts hk hi ht
   have aa:=Lv c
   rw [Ol]
   by_cases hl:ts.length=c.length
   .rw [Dj (by omega)]
    simp only [cond_false]
    have key:∀(m j acc:Nat),j+m=c.length->acc<=6->∃z,Al (S:=(Int×Int)) (E:=(Int⊕Int)) (fun (v4,v5)=>
      bif (decide (v5<(ts.length:Int))) then (
      (Af ts v5).bind fun v6=>
      (Af c v5).bind fun v7=>
      (Od k data v6 v7).bind fun v8=>
      bif (decide (v8<(0:Int))) then some (.inr (.inl (-1)))
      else (
      bif (decide ((Ac (v4+v8))>(6:Int))) then some (.inr (.inl (-1)))
      else some (.inl ((Ac (v4+v8)),(Ac (v5+1))))))
      else some (.inr (.inr v4))) ((acc:Int),(j:Int))=some z/\(match z with | .inl v=>v | .inr v=>v)=Gb ((E4 data (c.drop j) (ts.drop j)).map (acc + ·)):=by
     intro m
     induction m with
     | zero=>
      intro j acc hj f
      have:j=ts.length:=by omega
      subst this
      refine ⟨.inr (acc:Int),Ds (by simp),?_⟩
      rw [List.drop_of_length_le (by omega),List.drop_of_length_le (by omega)]
      simp [E4,Gb,f]
     | succ m s=>
      intro j acc hj f
      have g:c[j]? = some c[j]:=Bu (by omega)
      generalize c[j]=e at g
      have hu:ts[j]? = some ts[j]:=Bu (by omega)
      generalize ts[j]=u at hu
      have ab:=Kq (B4 g)
      rw [Kr g,Kr hu,Aa8]
      have q:=a8 e u (by omega) (by omega) (ht u (B4 hu))
      rcases Afw (Gy data e u) with ⟨A,U⟩ | ⟨a,A,U,c3⟩
      .rw [A] at q
       refine ⟨.inl (-1),Ds ?_,?_⟩
       .simp only [Ak (by omega:(j:Int)<(ts.length:Int)),cond_true,B6 rfl g,B6 rfl hu,Ad,q]; rfl
       .refine (Ug fun d h=>?_).symm
        cases ha:Gy data e u with
        | none=>rw [ha] at h; cases h
        | some a=>
         rw [ha,Ad] at h
         have:=U a ha
         cases y:E4 data (c.drop (j+1)) (ts.drop (j+1)) with
         | none=>rw [y] at h; cases h
         | some b=>rw [y] at h; simp at h; omega
      .rw [c3] at q
       have R:Ac ((acc:Int)+(a:Int))=((acc+a:Nat):Int):=by rw [Ac,Bp] <;> omega
       by_cases I:acc+a<=6
       .obtain ⟨z,l,z2⟩:=s (j+1) (acc+a) (by omega) I
        refine ⟨z,?_,?_⟩
        .rw [Hm (s':=(((acc+a:Nat):Int),((j+1:Nat):Int)))]
         .exact l
         .simp only [Ak (by omega:(j:Int)<(ts.length:Int)),cond_true,B6 rfl g,B6 rfl hu,Ad,cond_false,q,R,Ap (by omega:¬(a:Int)<0),Ap (by omega:¬((acc+a:Nat):Int)>6),Cz (show j<c.length by omega) (by omega)]
        .have J:∀o:Option Nat,(((some a:Option Nat).bind fun a=>o.map (a + ·)).map (acc + ·))=o.map (acc+a + ·):=by
          intro o; cases o <;> simp [Nat.add_assoc]
         rw [A,J]
         exact z2
       .refine ⟨.inl (-1),Ds ?_,?_⟩
        .simp only [Ak (by omega:(j:Int)<(ts.length:Int)),cond_true,B6 rfl g,B6 rfl hu,Ad,cond_false,q,R,Ap (by omega:¬(a:Int)<0),Ak (by omega:((acc+a:Nat):Int)>6)]
        .refine (Ug fun d h=>?_).symm
         rw [A,Ad] at h
         cases y:E4 data (c.drop (j+1)) (ts.drop (j+1)) with
         | none=>rw [y] at h; cases h
         | some b=>rw [y] at h; simp at h; omega
    obtain ⟨z,l,z2⟩:=key c.length 0 0 (by omega) (by omega)
    have l:Al _ ((0:Int),(0:Int))=some z:=l
    rw [l,Ad]
    rw [List.drop_zero,List.drop_zero,J] at z2
    rw [<-z2]
    cases z <;> rfl
   .rw [Di (by omega),Aft data c ts hl]; rfl
theorem Il.cons8 {data:List Az} (h:Il data):∀x∈data,x.Cons.length<=8:=by
 intro x hx
 obtain ⟨d,hd⟩:=List.getElem?_of_mem hx
 exact (h.2.1 d x hd).2.2.2.1
theorem Amo {data:List Az} (b:Il data) (c:Lu data) (t:Ah) (i:A9) (ht:Bg t<=200) (hi:C4 i<=1048576):P8 data t i=some (Gb (Gy data i t)):=by
 unfold P8
 rw [(Axm b.szv c b.cons8 4000000).1 i t (by omega) hi ht]; rfl
end Go.Ab
namespace Go.Ab
open Go
def I64 (n:Int):Prop:= -9223372036854775808<=n/\n<=9223372036854775807
def ti (n:Int):List Int:=(Lib.itoa n).map fun c=>(c.toNat:Int)
def Nf (c:Int):Bool:=c==45||(decide (48<=c)&&decide (c<=57))
theorem Uh {d:Nat} (h:d<10):(UInt8.ofNat (48+d)).toNat=48+d:=by
 rw [UInt8.toNat_ofNat']; omega
theorem Aa9:∀(n u:Nat),u<=n->∀c∈Lib.decDigits u,48<=c.toNat/\c.toNat<=57:=by
 intro n
 induction n with
 | zero=>
  intro u hu c hc
  rw [Lib.decDigits,dif_pos (by omega)] at hc
  simp only [List.mem_singleton] at hc
  subst hc; rw [Uh (by omega)]; omega
 | succ n ih=>
  intro u hu c hc
  rw [Lib.decDigits] at hc
  split at hc
  .simp only [List.mem_singleton] at hc
   subst hc; rw [Uh (by omega)]; omega
  .rcases List.mem_append.1 hc with h | h
   .exact ih (u / 10) (by omega) c h
   .simp only [List.mem_singleton] at h
    subst h; rw [Uh (by omega)]; omega
def Aba (l:List UInt8):Nat:=l.foldl (fun a c=>10*a+(c.toNat-48)) 0
theorem Amp:∀(n u:Nat),u<=n->Aba (Lib.decDigits u)=u:=by
 intro n
 induction n with
 | zero=>
  intro u hu
  rw [Lib.decDigits,dif_pos (by omega)]
  simp only [Aba,List.foldl_cons,List.foldl_nil]
  rw [Uh (by omega)]; omega
 | succ n ih=>
  intro u hu
  rw [Lib.decDigits]
  split
  .simp only [Aba,List.foldl_cons,List.foldl_nil]
   rw [Uh (by omega)]; omega
  .have:=ih (u / 10) (by omega)
   unfold Aba at *
   rw [List.foldl_append,this]
   simp only [List.foldl_cons,List.foldl_nil]
   rw [Uh (by omega)]; omega
theorem Amq {u v:Nat} (h:Lib.decDigits u=Lib.decDigits v):u=v:=by
 rw [<-Amp u u (Nat.le_refl _),h,Amp v v (Nat.le_refl _)]
theorem Axn (u:Nat):Lib.decDigits u≠[]:=by
 rw [Lib.decDigits]; split <;> simp
theorem Axo {m n:Int} (h:Lib.itoa m=Lib.itoa n):m=n:=by
 have b:∀u v:Nat,45::Lib.decDigits u≠Lib.decDigits v:=by
  intro u v e
  have:=Aa9 v v (Nat.le_refl _) 45 (by rw [<-e]; simp)
  exact absurd this (by decide)
 unfold Lib.itoa at h
 split at h <;> split at h
 .have:=Amq (List.cons.inj h).2; omega
 .exact absurd h (b _ _)
 .exact absurd h.symm (b _ _)
 .have:=Amq h; omega
theorem Gz (n:Int):∀c∈ti n,Nf c=true:=by
 intro c hc
 unfold ti at hc
 obtain ⟨b,hb,rfl⟩:=List.mem_map.1 hc
 have key:b=45\/(48<=b.toNat/\b.toNat<=57):=by
  unfold Lib.itoa at hb
  split at hb
  .rcases List.mem_cons.1 hb with h | h
   .exact .inl h
   .exact .inr (Aa9 _ _ (Nat.le_refl _) b h)
  .exact .inr (Aa9 _ _ (Nat.le_refl _) b hb)
 unfold Nf
 rcases key with rfl | ⟨h1,h2⟩
 .decide
 .rw [Bool.or_eq_true,Dx,decide_eq_true_eq,decide_eq_true_eq]; right; omega
theorem Afx (n:Int):ti n≠[]:=by
 unfold ti Lib.itoa
 split
 .simp
 .simpa using Axn _
theorem Rp {m n:Int} (h:ti m=ti n):m=n:=by
 unfold ti at h
 have:∀l m:List UInt8,l.map (fun c=>(c.toNat:Int))=m.map (fun c=>(c.toNat:Int))->l=m:=by
  intro l
  induction l with
  | nil=>intro m h; cases m with | nil=>rfl | cons=>simp at h
  | cons x xs ih=>
   intro m h
   cases m with
   | nil=>simp at h
   | cons y ys=>
    simp only [List.map_cons,List.cons.injEq] at h
    rw [ih ys h.2,UInt8.toNat.inj (by omega:x.toNat=y.toNat)]
 exact Axo (this _ _ h)
theorem Lw {n:Int} (h:I64 n):(ti n).length<=21:=by
 unfold ti; rw [List.length_map]; exact Lib.itoa_length_le n h.1 h.2
def Pb (X:List Int):Prop:=∀c m,X=c::m->Nf c=false/\c≠40
def J9 (X:List Int):Prop:=∀c m,X=c::m->Nf c=false
theorem Ng:∀(a b X Y:List Int),(∀c∈a,Nf c=true)->(∀c∈b,Nf c=true)->J9 X->J9 Y->a++X=b++Y->a=b/\X=Y
 | [],[],_,_,_,_,_,_,h=>⟨rfl,h⟩
 | [],y::b,X,Y,_,hb,g,_,h=>by
  have:=g y (b++Y) h
  rw [hb y (by simp)] at this; cases this
 | x::a,[],X,Y,ha,_,_,f,h=>by
  have:=f x (a++X) h.symm
  rw [ha x (by simp)] at this; cases this
 | x::a,y::b,X,Y,ha,hb,g,f,h=>by
  simp only [List.cons_append,List.cons.injEq] at h
  obtain ⟨j,i⟩:=Ng a b X Y (fun c hc=>ha c (by simp [hc])) (fun c hc=>hb c (by simp [hc])) g f h.2
  exact ⟨by rw [h.1,j],i⟩
mutual
def wx:A9->List Int
 | ⟨n,kids⟩=>ti n++(if kids.length=0 then [] else 40::(wxs kids++[41]))
def wxs:List A9->List Int
 | []=>[]
 | x::xs=>wx x++44::wxs xs
end
theorem Afy (i:A9):wx i=ti i.Num++(if i.Kids.length=0 then [] else 40::(wxs i.Kids++[41])):=by cases i; simp only [wx]
theorem Amr (l m:List A9):wxs (l++m)=wxs l++wxs m:=by
 induction l with
 | nil=>simp [wxs]
 | cons x xs ih=>simp only [List.cons_append,wxs,ih,List.append_assoc]
theorem Ams (b:List A9) (X:List Int) (f:Pb X):J9 ((if b.length=0 then [] else 40::(wxs b++[41]))++X):=by
 intro c m h
 by_cases hk:b.length=0
 .rw [if_pos hk,List.nil_append] at h
  exact (f c m h).1
 .rw [if_neg hk,List.cons_append] at h
  cases h; decide
theorem Amt (X:List Int):Pb (44::X):=by intro c m h; cases h; exact ⟨by decide,by decide⟩
theorem Amu:Pb []:=by intro c m h; cases h
mutual
theorem Afz:∀(i j:A9) (X Y:List Int),Pb X->Pb Y->wx i++X=wx j++Y->i=j/\X=Y
 | ⟨n,k⟩,⟨n',k'⟩,X,Y,hX,hY,h=>by
  simp only [wx,List.append_assoc] at h
  obtain ⟨e1,e2⟩:=Ng _ _ _ _ (Gz n) (Gz n') (Ams k X hX) (Ams k' Y hY) h
  have e1:=Rp e1
  subst e1
  by_cases hk:k.length=0
  .by_cases hk':k'.length=0
   .rw [if_pos hk,if_pos hk'] at e2
    rw [List.length_eq_zero_iff.1 hk,List.length_eq_zero_iff.1 hk']
    exact ⟨rfl,e2⟩
   .rw [if_pos hk,if_neg hk',List.nil_append,List.cons_append] at e2
    exact absurd rfl (hX _ _ e2).2
  .by_cases hk':k'.length=0
   .rw [if_neg hk,if_pos hk',List.nil_append,List.cons_append] at e2
    exact absurd rfl (hY _ _ e2.symm).2
   .rw [if_neg hk,if_neg hk',List.cons_append,List.cons_append,List.append_assoc,List.append_assoc] at e2
    obtain ⟨e3,e4⟩:=Amv k k' X Y hX hY (List.cons.inj e2).2
    rw [e3]; exact ⟨rfl,e4⟩
theorem Amv:∀(l m:List A9) (X Y:List Int),Pb X->Pb Y->wxs l++([41]++X)=wxs m++([41]++Y)->l=m/\X=Y
 | [],[],X,Y,_,_,h=>by
  simp only [wxs,List.nil_append,List.cons_append,List.cons.injEq,true_and] at h
  exact ⟨rfl,h⟩
 | [],y::ys,X,Y,_,_,h=>by
  exfalso
  cases ht:ti y.Num with
  | nil=>exact Afx _ ht
  | cons c r=>
   have hc:=Gz y.Num c (by rw [ht]; simp)
   simp only [wxs,Afy y,ht,List.nil_append,List.cons_append,List.cons.injEq] at h
   rw [<-h.1] at hc; exact absurd hc (by decide)
 | x::xs,[],X,Y,_,_,h=>by
  exfalso
  cases ht:ti x.Num with
  | nil=>exact Afx _ ht
  | cons c r=>
   have hc:=Gz x.Num c (by rw [ht]; simp)
   simp only [wxs,Afy x,ht,List.nil_append,List.cons_append,List.cons.injEq] at h
   rw [h.1] at hc; exact absurd hc (by decide)
 | x::xs,y::ys,X,Y,hX,hY,h=>by
  simp only [wxs,List.append_assoc,List.cons_append] at h
  obtain ⟨e1,e2⟩:=Afz x y _ _ (Amt _) (Amt _) h
  obtain ⟨e3,e4⟩:=Amv xs ys X Y hX hY (by simpa using e2)
  exact ⟨by rw [e1,e3],e4⟩
end
mutual
def iR:A9->Prop
 | ⟨n,l⟩=>I64 n/\iRs l
def iRs:List A9->Prop
 | []=>True
 | x::xs=>iR x/\iRs xs
end
theorem Axp (i:A9):iR i↔I64 i.Num/\iRs i.Kids:=by cases i; simp only [iR]
theorem Axq {l:List A9} (h:iRs l) {a:A9} (ha:a∈l):iR a:=by
 induction l with
 | nil=>cases ha
 | cons x xs ih=>
  simp only [iRs] at h
  rcases List.mem_cons.1 ha with rfl | ha
  .exact h.1
  .exact ih h.2 ha
mutual
theorem Af0:∀i:A9,iR i->(wx i).length+1<=24*C4 i
 | ⟨n,l⟩,h=>by
  simp only [iR] at h
  have h1:=Abb l h.2
  have h2:=Lw h.1
  simp only [wx,C4,List.length_append]
  by_cases hl:l.length=0
  .rw [if_pos hl]; simp; omega
  .rw [if_neg hl]; simp; omega
theorem Abb:∀l:List A9,iRs l->(wxs l).length<=24*Fd l
 | [],_=>by simp [wxs,Fd]
 | x::xs,h=>by
  simp only [iRs] at h
  have h1:=Af0 x h.1
  have h2:=Abb xs h.2
  have h3:=Fs x
  simp only [wxs,Fd,List.length_append,List.length_cons]; omega
end
theorem Amw (l m:List A9):Fd (l++m)=Fd l+Fd m:=by
 induction l with
 | nil=>simp [Fd]
 | cons x xs ih=>simp only [List.cons_append,Fd,ih]; omega
theorem Axr (l m:List A9):iRs (l++m)↔iRs l/\iRs m:=by
 induction l with
 | nil=>simp [iRs]
 | cons x xs ih=>simp only [List.cons_append,iRs,ih,and_assoc]
theorem Af1 {n:Int} (h:I64 n):Mt n=some ⟨(Lib.itoa n).toArray⟩:=by unfold Mt; rw [if_pos (show _/\_ from h)]
theorem Axs (n:Int):Lf ⟨(Lib.itoa n).toArray⟩=ti n:=by unfold Lf ti; simp
theorem Axt:∀(k:Nat) (i:A9) (b:List Int),C4 i<=k->iR i->b.length+24*C4 i<=1099511627776->Qj k i b=some (b++wx i):=by
 intro k
 induction k with
 | zero=>intro i b h; have:=Fs i; omega
 | succ k ih=>
  intro i b h c hb
  have hi:=Fs i
  have A:=Lv i.Kids
  have c:=(Axp i).1 c
  have B:=Lw c.1
  rw [Qj,Afy]
  simp only [Hc,Af1 c.1,Ad,Fx,T3,Axs]
  rw [Cy (by omega)]
  simp only [Ad]
  by_cases h0:i.Kids.length=0
  .rw [Ap (by omega),if_pos h0]; simp
  .rw [Ak (by omega),if_neg h0]
   simp only [cond_true,To,T3,Ad]
   rw [Cy (by simp; omega),Ad]
   have g:=Abb i.Kids c.2
   have l:∀j,(wxs (i.Kids.take j)).length<=24*Fd i.Kids:=fun j=>by
    have:=Amr (i.Kids.take j) (i.Kids.drop j)
    rw [List.take_append_drop] at this
    rw [this,List.length_append] at g; omega
   refine Fi i.Kids (fun j=>((j:Int),b++ti i.Num++[40]++wxs (i.Kids.take j))) (by simp [wxs]) (by omega) ?_ ?_
   .intro j x hj hx h1 h2 h3
    have hm:=Kq (B4 hx)
    have f:=Axq c.2 (B4 hx)
    have z:=Af0 x f
    have q:=l (j+1)
    have e:wxs (i.Kids.take (j+1))=wxs (i.Kids.take j)++(wx x++[44]):=by rw [C6 hx,Amr]; simp [wxs]
    rw [e] at q
    simp only [List.length_append,List.length_cons,List.length_nil] at q
    simp only [h1,h2,h3,cond_true,Ad]
    have y:Fd (i.Kids.take j)+C4 x<=Fd i.Kids:=by
     have s:=Amw (i.Kids.take (j+1)) (i.Kids.drop (j+1))
     rw [List.take_append_drop,C6 hx,Amw] at s
     simp only [Fd] at s; omega
    have u:(wxs (i.Kids.take j)).length<=24*Fd (i.Kids.take j):=Abb _ (by
     have:=(Axr (i.Kids.take j) (i.Kids.drop j)).1 (by rw [List.take_append_drop]; exact c.2)
     exact this.1)
    rw [ih x _ (by omega) f (by simp; omega)]
    simp only [Ad]
    rw [Cy (by simp; omega),e]
    simp
   .intro h1
    refine ⟨b++ti i.Num++[40]++wxs i.Kids,by simp,?_⟩
    rw [Cy (by simp; omega)]
    simp
def Ic (v:Int) (i:A9):List Int:=118::(ti v++58::wx i)
def G0 (v:Int) (i:A9):ByteArray:=⟨(D6 (Ic v i)).toArray⟩
mutual
theorem Amx:∀i:A9,∀c∈wx i,0<=c/\c<256
 | ⟨n,l⟩,c,h=>by
  simp only [wx,List.mem_append] at h
  rcases h with h | h
  .have:=Gz n c h
   simp only [Nf,Bool.or_eq_true,Dx,beq_iff_eq,decide_eq_true_eq] at this
   omega
  .by_cases hl:l.length=0
   .rw [if_pos hl] at h; cases h
   .rw [if_neg hl] at h
    simp only [List.mem_cons,List.mem_append,List.not_mem_nil,or_false] at h
    rcases h with h | h | h
    .omega
    .exact Amy l c h
    .omega
theorem Amy:∀l:List A9,∀c∈wxs l,0<=c/\c<256
 | [],c,h=>by simp [wxs] at h
 | x::xs,c,h=>by
  simp only [wxs,List.mem_append,List.mem_cons] at h
  rcases h with h | h | h
  .exact Amx x c h
  .omega
  .exact Amy xs c h
end
theorem Abc (v:Int) (i:A9):∀c∈Ic v i,0<=c/\c<256:=by
 intro c h
 simp only [Ic,List.mem_cons,List.mem_append] at h
 rcases h with h | h | h | h
 .omega
 .have:=Gz v c h
  simp only [Nf,Bool.or_eq_true,Dx,beq_iff_eq,decide_eq_true_eq] at this
  omega
 .omega
 .exact Amx i c h
theorem Af2:∀l m:List Int,(∀c∈l,0<=c/\c<256)->(∀c∈m,0<=c/\c<256)->D6 l=D6 m->l=m
 | [],[],_,_,_=>rfl
 | [],_::_,_,_,h=>by simp [D6] at h
 | _::_,[],_,_,h=>by simp [D6] at h
 | x::xs,y::ys,h1,h2,h=>by
  simp only [D6,List.map_cons,List.cons.injEq] at h
  have hx:=h1 x (by simp)
  have hy:=h2 y (by simp)
  have e:x.toNat=y.toNat:=by
   have:=congrArg UInt8.toNat h.1
   rw [UInt8.toNat_ofNat',UInt8.toNat_ofNat'] at this
   omega
  rw [Af2 xs ys (fun c hc=>h1 c (by simp [hc])) (fun c hc=>h2 c (by simp [hc])) h.2,show x=y by omega]
theorem Amz {v w:Int} {i j:A9} (h:G0 v i=G0 w j):v=w/\i=j:=by
 unfold G0 at h
 have h1:(D6 (Ic v i)).toArray=(D6 (Ic w j)).toArray:=by injection h
 have h2:D6 (Ic v i)=D6 (Ic w j):=by simpa using congrArg Array.toList h1
 have h3:=Af2 _ _ (Abc v i) (Abc w j) h2
 simp only [Ic,List.cons.injEq,true_and] at h3
 have b:∀X:List Int,J9 (58::X):=fun X c m e=>by cases e; decide
 obtain ⟨k,g⟩:=Ng _ _ _ _ (Gz v) (Gz w) (b _) (b _) h3
 obtain ⟨f,_⟩:=Afz i j [] [] Amu Amu (by simpa using (List.cons.inj g).2)
 exact ⟨Rp k,f⟩
theorem Axu (l:List UInt8):Lf ⟨l.toArray⟩=l.map fun b=>(b.toNat:Int):=by unfold Lf; simp
theorem Af3 (v:Int) (i:A9) (c:I64 v) (g:iR i) (hi:C4 i<=1048576):J2 v i=some (G0 v i):=by
 have l:=Lw c
 have f:(Lib.itoa v).length=(ti v).length:=by unfold ti; simp
 unfold J2
 have k:Ew (ByteArray.mk #[118]) ⟨(Lib.itoa v).toArray⟩=some ⟨(118::Lib.itoa v).toArray⟩:=by
  unfold Ew
  rw [if_pos]
  .congr 1
  .show 1+(Lib.itoa v).toArray.size<=9223372036854775807
   rw [List.size_toArray]; omega
 have j:Ew ⟨(118::Lib.itoa v).toArray⟩ (ByteArray.mk #[58])=some ⟨(118::(Lib.itoa v++[58])).toArray⟩:=by
  unfold Ew
  rw [if_pos]
  .congr 1
  .show (118::Lib.itoa v).toArray.size+1<=9223372036854775807
   rw [List.size_toArray,List.length_cons]; omega
 simp only [Hc,Af1 c,Ad,k,j,Hq,Wk,Axu]
 rw [Cy (by simp; omega)]
 simp only [Ad]
 rw [Axt 4000000 i _ (by omega) g (by simp; omega)]
 simp only [Ad,J3]
 have h:([]++(118::(Lib.itoa v++[58])).map fun b=>(b.toNat:Int))++wx i=Ic v i:=by
  unfold Ic ti; simp
 rw [h]
 unfold Vc G0
 rw [if_pos (Abc v i)]; rfl
end Go.Ab
namespace Go.Ab
open Go
mutual
theorem Am0 (data:List Az):∀(i:A9) (t:Ah) (d:Nat),Gy data i t=some d->d<=6*C4 i
 | ⟨n,kids⟩,t,d,h=>by
  rw [Afs] at h
  simp only [C4]
  simp only at h
  split at h
  .split at h
   .have:=Xn data kids _ d h; omega
   .cases h
  .split at h
   .split at h
    .cases h; omega
    .cases h
   .split at h
    .split at h
     .have:=Am1 data kids _ d h; omega
     .cases h
    .split at h
     .cases h; omega
     .cases h
theorem Xn (data:List Az):∀(is:List A9) (ts:List Ah) (d:Nat),E4 data is ts=some d->d<=6*Fd is
 | [],[],d,h=>by simp only [E4] at h; cases h; omega
 | i::is,t::ts,d,h=>by
  rw [Aa8] at h
  cases h1:Gy data i t with
  | none=>rw [h1] at h; cases h
  | some a=>
   rw [h1,Ad] at h
   cases h2:E4 data is ts with
   | none=>rw [h2] at h; cases h
   | some b=>
    rw [h2] at h
    cases h
    have:=Am0 data i t a h1
    have:=Xn data is ts b h2
    simp only [Fd]; omega
 | [],_::_,d,h=>by simp only [E4] at h; cases h
 | _::_,[],d,h=>by simp only [E4] at h; cases h
theorem Am1 (data:List Az):∀(es:List A9) (t:Ah) (d:Nat),Hf data es t=some d->d<=6*Fd es
 | [],t,d,h=>by simp only [Hf] at h; cases h; omega
 | ⟨n,kids⟩::es,t,d,h=>by
  rw [Aa7] at h
  simp only at h
  cases h1:I3 data t n with
  | none=>rw [h1] at h; cases h
  | some ts=>
   rw [h1,Ad] at h
   cases h2:E4 data kids ts with
   | none=>rw [h2] at h; cases h
   | some a=>
    rw [h2,Ad] at h
    cases h3:Hf data es t with
    | none=>rw [h3] at h; cases h
    | some b=>
     rw [h3] at h
     cases h
     have:=Xn data kids ts a h2
     have:=Am1 data es t b h3
     simp only [Fd,C4]; omega
end
def Ui (data:List Az) (e:A9) (t:Ah):Option Nat:=(I3 data t e.Num).bind fun ts=>(E4 data e.Kids ts).map (1 + ·)
theorem Axv (data:List Az) (e:A9) (es:List A9) (t:Ah):Hf data (e::es) t=(Ui data e t).bind fun a=>(Hf data es t).map (a + ·):=by
 rw [Aa7]; unfold Ui
 cases I3 data t e.Num with
 | none=>rfl
 | some ts=>simp only [Ad]; cases E4 data e.Kids ts <;> rfl
theorem Axw (data:List Az) (e:A9) (t:Ah) (d:Nat) (h:Ui data e t=some d):d<=6*C4 e:=by
 unfold Ui at h
 cases h1:I3 data t e.Num with
 | none=>rw [h1] at h; cases h
 | some ts=>
  rw [h1,Ad] at h
  cases h2:E4 data e.Kids ts with
  | none=>rw [h2] at h; cases h
  | some a=>
   rw [h2] at h
   cases h
   have:=Xn data _ ts a h2
   have:=Fs e
   show 1+a<=_
   omega
def Dg (v:Int) (o:Option Nat):Prop:=(v = -1/\∀d,o=some d->6<d)\/∃d:Nat,o=some d/\v=d
theorem Dg.clip {v:Int} {o:Option Nat} (h:Dg v o):(if v>6 then -1 else v)=Gb o:=by
 rcases h with ⟨rfl,h⟩ | ⟨d,rfl,rfl⟩
 .rw [if_neg (by omega),Ug h]
 .by_cases hd:6<d
  .rw [if_pos (by omega),Afv hd]
  .rw [if_neg (by omega),Afu (by omega)]
theorem Abd {o p:Option Nat} {acc:Nat} {d:Nat} (h:(o.bind fun a=>p.map (a + ·)).map (acc + ·)=some d):∃a b,o=some a/\p=some b/\d=acc+(a+b):=by
 cases o with
 | none=>cases h
 | some a=>
  cases p with
  | none=>cases h
  | some b=>exact ⟨a,b,rfl,rfl,by simp at h; omega⟩
theorem Axx {data:List Az} (hz:Szv data) (hs:Lu data) (b1:List (ByteArray×Int)) (b2:List (ByteArray×List Co)) (vars:List Ah) (N M:Int) (L:List Ah):∀k:Nat,
  (∀(i:A9) (t:Ah),3*C4 i<=k->C4 i<=1048576->Bg t<=200->∃v,Oc k t i b1 b2 data vars N M L=some v/\Dg v (Gy data i t)) /\
  (∀(f:List A9) (ts:List Ah),3*Fd f+1<=k->Fd f<=1048576->(∀t∈ts,Bg t<=200)->∃v,Qk k ts f b1 b2 data vars N M L=some v/\Dg v (E4 data f ts)) /\
  (∀(e:A9) (t:Ah),3*C4 e<=k->C4 e<=1048576->Bg t<=200->∃v,Ql k t e b1 b2 data vars N M L=some v/\Dg v (Ui data e t)):=by
 intro k
 induction k with
 | zero=>exact ⟨fun i t h=>by have:=Fs i; omega,fun f ts h=>by omega,fun i t h=>by have:=Fs i; omega⟩
 | succ k ih=>
  obtain ⟨a6,R,a7⟩:=ih
  have D:∀o:Option Nat,o.map (0 + ·)=o:=by intro o; cases o <;> simp
  have c:∀d:Nat,(none:Option Nat)=some d->6<d:=fun d h=>by cases h
  refine ⟨?_,?_,?_⟩
  .intro i t hk hi ht
   have af:=Fs i
   have U:=Lv i.Kids
   rw [Oc,Afs]
   by_cases Z:t.Kind=6
   .simp only [Ea Z,cond_true,if_pos Z]
    by_cases h0:i.Num=0
    .simp only [Ea h0,cond_true,if_pos h0]
     obtain ⟨p,p1,p2⟩:=R i.Kids t.Args (by omega) (by omega) (fun a ha=>by have:=G4 ha; have:=Gx t; omega)
     rw [p1]
     exact ⟨p,rfl,p2⟩
    .simp only [Cm h0,cond_false,if_neg h0]
     exact ⟨_,rfl,.inl ⟨rfl,c⟩⟩
   .simp only [Cm Z,cond_false,if_neg Z]
    by_cases Y:t.Kind=7
    .simp only [Ea Y,cond_true,if_pos Y]
     by_cases a1:0<=i.Num
     .by_cases a2:i.Num<=6
      .by_cases a3:i.Kids.length=0
       .rw [Ak (show i.Num>=0 from a1),Ak a2,if_pos ⟨a1,a2,a3⟩,Ea (by omega)]
        exact ⟨_,rfl,.inr ⟨i.Num.toNat,rfl,by omega⟩⟩
       .rw [Ak (show i.Num>=0 from a1),Ak a2,if_neg (fun h=>a3 h.2.2),Cm (by omega)]
        exact ⟨_,rfl,.inl ⟨rfl,c⟩⟩
      .rw [Ak (show i.Num>=0 from a1),Ap a2,if_neg (fun h=>a2 h.2.1)]
       exact ⟨_,rfl,.inl ⟨rfl,c⟩⟩
     .rw [Ap (show ¬i.Num>=0 from a1),if_neg (fun h=>a1 h.1)]
      exact ⟨_,rfl,.inl ⟨rfl,c⟩⟩
    .simp only [Cm Y,cond_false,if_neg Y]
     by_cases h5:t.Kind=5
     .simp only [Ea h5,cond_true,if_pos h5]
      by_cases h0:i.Num=0
      .simp only [Dj h0,cond_false,if_pos h0]
       have key:∀(m j acc:Nat),j+m=i.Kids.length->acc<=10000000->∃z,Al (S:=(Int×Int)) (E:=(Int⊕Int)) (fun (G,v8)=>
         bif (decide (v8<(i.Kids.length:Int))) then (
         (Af i.Kids v8).bind fun v9=>
         (Ql k t v9 b1 b2 data vars N M L).bind fun I=>
         bif (decide (I<(0:Int))) then some (.inr (.inl (-1)))
         else (
         bif (decide (G>(6:Int))) then some (.inr (.inl (-1)))
         else some (.inl ((Ac (G+I)),(Ac (v8+1))))))
         else some (.inr (.inr G))) ((acc:Int),(j:Int))=some z/\Dg (match z with | .inl v=>v | .inr v=>v) ((Hf data (i.Kids.drop j) t).map (acc + ·)):=by
        intro m
        induction m with
        | zero=>
         intro j acc hj A
         have:j=i.Kids.length:=by omega
         subst this
         exact ⟨.inr (acc:Int),Ds (by simp),.inr ⟨acc,by simp [Hf],rfl⟩⟩
        | succ m s=>
         intro j acc hj A
         have g:i.Kids[j]? = some i.Kids[j]:=Bu (by omega)
         generalize i.Kids[j]=e at g
         have ac:=Kq (B4 g)
         rw [Kr g,Axv]
         obtain ⟨v,B,v2⟩:=a7 e t (by omega) (by omega) ht
         rcases v2 with ⟨rfl,v2⟩ | ⟨a,a1,rfl⟩
         .refine ⟨.inl (-1),Ds ?_,.inl ⟨rfl,fun d h=>?_⟩⟩
          .simp only [Ak (by omega:(j:Int)<(i.Kids.length:Int)),cond_true,B6 rfl g,Ad,B]; rfl
          .obtain ⟨a,b,ha,hb,rfl⟩:=Abd h
           have:=v2 a ha; omega
         .have V:=Axw data e t a a1
          by_cases hb:acc>6
          .refine ⟨.inl (-1),Ds ?_,.inl ⟨rfl,fun d h=>?_⟩⟩
           .simp only [Ak (by omega:(j:Int)<(i.Kids.length:Int)),cond_true,B6 rfl g,Ad,B,Ap (by omega:¬(a:Int)<0),Ak (by omega:(acc:Int)>6),cond_false]
           .obtain ⟨a,b,ha,hb,rfl⟩:=Abd h
            omega
          .have ew:Ac ((acc:Int)+(a:Int))=((acc+a:Nat):Int):=by rw [Ac,Bp] <;> omega
           obtain ⟨z,q,z2⟩:=s (j+1) (acc+a) (by omega) (by omega)
           refine ⟨z,?_,?_⟩
           .rw [Hm (s':=(((acc+a:Nat):Int),((j+1:Nat):Int)))]
            .exact q
            .simp only [Ak (by omega:(j:Int)<(i.Kids.length:Int)),cond_true,B6 rfl g,Ad,B,Ap (by omega:¬(a:Int)<0),Ap (by omega:¬(acc:Int)>6),cond_false,ew,Cz (show j<i.Kids.length by omega) (by omega)]
           .have D:∀o:Option Nat,(((some a:Option Nat).bind fun a=>o.map (a + ·)).map (acc + ·))=o.map (acc+a + ·):=by
             intro o; cases o <;> simp [Nat.add_assoc]
            rw [a1,D]
            exact z2
       obtain ⟨z,q,z2⟩:=key i.Kids.length 0 0 (by omega) (by omega)
       have q:Al _ ((0:Int),(0:Int))=some z:=q
       rw [q,Ad]
       rw [List.drop_zero,D] at z2
       cases z with
       | inl v=>exact ⟨v,rfl,z2⟩
       | inr v=>exact ⟨v,rfl,z2⟩
      .simp only [Di h0,cond_true,if_neg h0]
       exact ⟨_,rfl,.inl ⟨rfl,c⟩⟩
     .simp only [Cm h5,cond_false,if_neg h5]
      by_cases h0:i.Num=0
      .simp only [Ea h0,cond_true]
       by_cases a3:i.Kids.length=0
       .rw [if_pos ⟨h0,a3⟩,Ea (by omega)]
        exact ⟨_,rfl,.inr ⟨0,rfl,rfl⟩⟩
       .rw [if_neg (fun h=>a3 h.2),Cm (by omega)]
        exact ⟨_,rfl,.inl ⟨rfl,c⟩⟩
      .simp only [Cm h0,cond_false]
       rw [if_neg (fun h=>h0 h.1)]
       exact ⟨_,rfl,.inl ⟨rfl,c⟩⟩
  .intro f ts hk hi ht
   have U:=Lv f
   rw [Qk]
   by_cases hl:ts.length=f.length
   .rw [Dj (by omega)]
    simp only [cond_false]
    have key:∀(m j acc:Nat),j+m=f.length->acc<=10000000->∃z,Al (S:=(Int×Int)) (E:=(Int⊕Int)) (fun (v5,X)=>
      bif (decide (X<(ts.length:Int))) then (
      (Af ts X).bind fun G=>
      (Af f X).bind fun v9=>
      (Oc k G v9 b1 b2 data vars N M L).bind fun J=>
      bif (decide (J<(0:Int))) then some (.inr (.inl (-1)))
      else (
      bif (decide (v5>(6:Int))) then some (.inr (.inl (-1)))
      else some (.inl ((Ac (v5+J)),(Ac (X+1))))))
      else some (.inr (.inr v5))) ((acc:Int),(j:Int))=some z/\Dg (match z with | .inl v=>v | .inr v=>v) ((E4 data (f.drop j) (ts.drop j)).map (acc + ·)):=by
     intro m
     induction m with
     | zero=>
      intro j acc hj A
      have:j=ts.length:=by omega
      subst this
      refine ⟨.inr (acc:Int),Ds (by simp),.inr ⟨acc,?_,rfl⟩⟩
      rw [List.drop_of_length_le (by omega),List.drop_of_length_le (by omega)]
      simp [E4]
     | succ m s=>
      intro j acc hj A
      have g:f[j]? = some f[j]:=Bu (by omega)
      generalize f[j]=e at g
      have hu:ts[j]? = some ts[j]:=Bu (by omega)
      generalize ts[j]=u at hu
      have ac:=Kq (B4 g)
      rw [Kr g,Kr hu,Aa8]
      obtain ⟨v,B,v2⟩:=a6 e u (by omega) (by omega) (ht u (B4 hu))
      rcases v2 with ⟨rfl,v2⟩ | ⟨a,a1,rfl⟩
      .refine ⟨.inl (-1),Ds ?_,.inl ⟨rfl,fun d h=>?_⟩⟩
       .simp only [Ak (by omega:(j:Int)<(ts.length:Int)),cond_true,B6 rfl g,B6 rfl hu,Ad,B]; rfl
       .obtain ⟨a,b,ha,hb,rfl⟩:=Abd h
        have:=v2 a ha; omega
      .have V:=Am0 data e u a a1
       by_cases hb:acc>6
       .refine ⟨.inl (-1),Ds ?_,.inl ⟨rfl,fun d h=>?_⟩⟩
        .simp only [Ak (by omega:(j:Int)<(ts.length:Int)),cond_true,B6 rfl g,B6 rfl hu,Ad,B,Ap (by omega:¬(a:Int)<0),Ak (by omega:(acc:Int)>6),cond_false]
        .obtain ⟨a,b,ha,hb,rfl⟩:=Abd h
         omega
       .have ew:Ac ((acc:Int)+(a:Int))=((acc+a:Nat):Int):=by rw [Ac,Bp] <;> omega
        obtain ⟨z,q,z2⟩:=s (j+1) (acc+a) (by omega) (by omega)
        refine ⟨z,?_,?_⟩
        .rw [Hm (s':=(((acc+a:Nat):Int),((j+1:Nat):Int)))]
         .exact q
         .simp only [Ak (by omega:(j:Int)<(ts.length:Int)),cond_true,B6 rfl g,B6 rfl hu,Ad,B,Ap (by omega:¬(a:Int)<0),Ap (by omega:¬(acc:Int)>6),cond_false,ew,Cz (show j<f.length by omega) (by omega)]
        .have D:∀o:Option Nat,(((some a:Option Nat).bind fun a=>o.map (a + ·)).map (acc + ·))=o.map (acc+a + ·):=by
          intro o; cases o <;> simp [Nat.add_assoc]
         rw [a1,D]
         exact z2
    obtain ⟨z,q,z2⟩:=key f.length 0 0 (by omega) (by omega)
    have q:Al _ ((0:Int),(0:Int))=some z:=q
    rw [q,Ad]
    rw [List.drop_zero,List.drop_zero,D] at z2
    cases z with
    | inl v=>exact ⟨v,rfl,z2⟩
    | inr v=>exact ⟨v,rfl,z2⟩
   .rw [Di (by omega),Aft data f ts hl]
    exact ⟨_,rfl,.inl ⟨rfl,c⟩⟩
  .intro e t hk g ht
   have ag:=Fs e
   rw [Ql]
   unfold Ui I3
   rw [Axi hz t ht e.Num,Ad]
   cases hf:Ko data t e.Num with
   | none=>exact ⟨-1,rfl,.inl ⟨rfl,c⟩⟩
   | some l=>
    have ad:=Afq hf
    obtain ⟨x,y,_,hx,_,hy,hl,ab⟩:=Xm hf
    obtain ⟨y6,_⟩:=hz x (F4 hx).2.2.2 y (F4 hy).2.2.2
    have ae:l.length<=6:=by rw [hl]; simpa using y6
    have aa:∀a∈Gm l (Gl data t.Num e.Num),Bg a<=200:=(Amm (show I3 data t e.Num=some _ by unfold I3; rw [hf]; rfl)).1
    obtain ⟨v,B,v2⟩:=R e.Kids (Gm l (Gl data t.Num e.Num)) (by omega) (by omega) aa
    have hd:Dg (if v<0 then -1 else 1+v) (((some l).map fun l=>Gm l (Gl data t.Num e.Num)).bind fun ts=>(E4 data e.Kids ts).map (1 + ·)):=by
     rw [Option.map_some,Ad]
     rcases v2 with ⟨rfl,v2⟩ | ⟨a,a1,rfl⟩
     .refine .inl ⟨rfl,fun d h=>?_⟩
      cases ha:E4 data e.Kids (Gm l (Gl data t.Num e.Num)) with
      | none=>rw [ha] at h; cases h
      | some a=>rw [ha] at h; have:=v2 a ha; simp at h; omega
     .rw [a1,if_neg (by omega)]
      exact .inr ⟨1+a,rfl,by omega⟩
    have a8:v = -1\/(0<=v/\v<=10000000):=by
     rcases v2 with ⟨rfl,v2⟩ | ⟨a,a1,rfl⟩
     .exact .inl rfl
     .have:=Xn data _ _ a a1; right; omega
    refine ⟨_,?_,hd⟩
    simp only [okL,Dm,cond_false,Al5 data t.Num e.Num hs,Ad]
    refine Fi (Gl data t.Num e.Num) (fun j=>((j:Int),Gm (l.take j) ((Gl data t.Num e.Num).take j))) (by simp [Gm]) (by omega) ?_ ?_
    .intro j b hj hb h1 h2 h3
     have ha:l[j]? = some l[j]:=Bu (by omega)
     generalize l[j]=a at ha
     have U:=Aml (l.take j) ((Gl data t.Num e.Num).take j)
     have:(l.take j).length<=6:=by simp; omega
     simp only [h1,h2,h3,cond_true,Ad,B6 rfl ha,Amk ha hb]
     rw [Cy (by simp; omega)]
     cases b <;> simp
    .intro h1
     refine ⟨Gm l (Gl data t.Num e.Num),?_,?_⟩
     .simp only [h1]
      rw [List.take_of_length_le (by omega),List.take_of_length_le (Nat.le_refl _)]; rfl
     .rw [B,Ad]
      rcases a8 with h | h
      .subst h; rfl
      .rw [Ap (by omega),if_neg (by omega)]
       simp only [cond_false]
       rw [Ac,Bp] <;> omega
def tyX (vars:List Ah) (res:Ah) (v:Int):Option Ah:=if v = -1 then some res else Af vars v
def Ft (data:List Az) (vars:List Ah) (res:Ah) (o:List (ByteArray×Int)):Prop:=∀p∈o,∀v i t,p.1=G0 v i->tyX vars res v=some t->p.2=Gb (Gy data i t)
theorem Af4 {α:Type}:∀(o:List (ByteArray×α)) (s:ByteArray) (v:α),∀p∈E3 o s v,p∈o\/p=(s,v)
 | [],s,v,p,h=>by simp only [E3,List.mem_singleton] at h; exact .inr h
 | q::o,s,v,p,h=>by
  unfold E3 at h
  cases hq:(s==q.1) with
  | true=>
   rw [hq] at h
   simp only [cond_true,List.mem_cons] at h
   rcases h with h | h
   .exact .inr h
   .exact .inl (by simp [h])
  | false=>
   rw [hq] at h
   simp only [cond_false,List.mem_cons] at h
   rcases h with h | h
   .exact .inl (by simp [h])
   .rcases Af4 o s v p h with h | h
    .exact .inl (by simp [h])
    .exact .inr h
theorem Axy {data:List Az} (D:Szv data) (G:Lu data) (b1:List (ByteArray×Int)) (b2:List (ByteArray×List Co)) (vars:List Ah) (res:Ah) (hm:Ft data vars res b1)
  (v:Int) (i:A9) (t:Ah) (ht:tyX vars res v=some t) (b:Bg t<=200) (E:I64 v) (I:iR i) (hi:C4 i<=1048576) :
  ∃l,J1 v i b1 b2 data vars res.Kind res.Num res.Args=some (Gb (Gy data i t),l)/\Ft data vars res l:=by
 unfold J1
 rw [Af3 v i E I hi,Ad]
 cases f:El b1 (G0 v i) with
 | true=>
  refine ⟨b1,?_,hm⟩
  have:Gv b1 (G0 v i) 0=Gb (Gy data i t):=by
   unfold Gv
   unfold El at f
   rw [List.any_eq_true] at f
   obtain ⟨p,A,z⟩:=f
   cases hf:b1.find? (fun p=>G0 v i==p.1) with
   | none=>exact absurd z (by have:=List.find?_eq_none.1 hf p A; simpa using this)
   | some q=>
    have hq:=List.find?_some hf
    exact hm q (List.mem_of_find?_eq_some hf) v i t ((Pa _ _).1 hq).symm ht
  simp only [cond_true,Ad,Dm,cond_false,this]
 | false=>
  obtain ⟨w,u,s⟩:=(Axx D G b1 b2 vars res.Kind res.Num res.Args 4000000).1 i t (by omega) hi b
  have c:Lk v b1 b2 data vars res.Kind res.Num res.Args=some t:=by
   unfold Lk
   unfold tyX at ht
   by_cases h:v = -1
   .rw [if_pos h] at ht; cases ht
    have J:(Ah.mk res.Kind res.Num res.Args)=res:=by cases res; rfl
    rw [Ea h,J]; rfl
   .rw [if_neg h] at ht
    rw [Cm h,ht]; rfl
  have g:(bif decide (w>6) then some (-1) else some w:Option Int)=some (Gb (Gy data i t)):=by
   rw [<-s.clip]
   by_cases h:w>6
   .rw [Ak h,if_pos h]; rfl
   .rw [Ap h,if_neg h]; rfl
  refine ⟨E3 b1 (G0 v i) (Gb (Gy data i t)),?_,?_⟩
  .simp only [cond_false,Ad,Bool.not_false,cond_true,c,u,g]
  .intro p hp x B y k j
   rcases Af4 _ _ _ p hp with h | h
   .exact hm p h x B y k j
   .subst h
    obtain ⟨rfl,rfl⟩:=Amz k
    rw [ht] at j; cases j; rfl
end Go.Ab
namespace Go.Ab
open Go
def D3 (a b:Int):Int:=if a<b then -1 else if a>b then 1 else 0
def Dp (a b:Int):Int:=if a=0 then b else a
theorem Fk {a b:Int}:D3 a b=0↔a=b:=by unfold D3; split <;> (try split) <;> omega
theorem Nh (a b:Int):Ki a b=some (D3 a b):=by
 unfold Ki Wd D3
 simp only [Ad,bne_self_eq_false,cond_false]
 by_cases h:a<b
 .rw [Ak h,if_pos h]; rfl
 .rw [Ap h,if_neg h]
  by_cases h':a>b
  .rw [Ak h',if_pos h']; rfl
  .rw [Ap h',if_neg h']; rfl
theorem Am2 (a b:Int):Wg a b=some (D3 a b):=Nh a b
theorem Uj (a b:Int):L9 [a,b]=some (Dp a b):=by
 unfold L9 Dp
 by_cases ha:a=0
 .rw [if_pos ha]
  by_cases hb:b=0
  .refine J7 2 (fun j=>(j:Int)) rfl ?_ ⟨.inr (),rfl,by rw [hb]⟩
   intro j hj
   match j,hj with
   | 0,_=>subst ha; rfl
   | 1,_=>subst hb; rfl
  .refine J7 1 (fun j=>(j:Int)) rfl ?_ ⟨.inl b,?_,rfl⟩
   .intro j hj
    match j,hj with
    | 0,_=>subst ha; rfl
   .show (bif (b != 0) then _ else _)=_
    rw [Di hb]; rfl
 .rw [if_neg ha]
  refine J7 0 (fun j=>(j:Int)) rfl (fun j hj=>by omega) ⟨.inl a,?_,rfl⟩
  show (bif (a != 0) then _ else _)=_
  rw [Di ha]; rfl
theorem Abe (a b:Int) (h:a≠b):Te (decide (a<b))=some (D3 a b):=by
 unfold Te D3
 by_cases h':a<b
 .rw [Ak h',if_pos h']; rfl
 .rw [Ap h',if_neg h',if_pos (by omega)]; rfl
theorem Abf (a b:Int) (h:a≠b):Qi (decide (a<b))=some (D3 a b):=Abe a b h
theorem Abg (a b:Int) (h:a≠b):Qc (decide (a<b))=some (D3 a b):=Abe a b h
def Ei {α:Type} (g:α->α->Int):List α->List α->Int
 | x::xs,y::ys=>Dp (g x y) (Ei g xs ys)
 | _,_=>0
theorem Xo {α:Type} (g:α->α->Int) (l m:List α) {step:Int->Option (Int⊕(Int⊕Unit))} (k:l.length=m.length) (hb:l.length<4611686018427387904)
  (f:∀(j:Nat) (x y:α),l[j]? = some x->m[j]? = some y->decide ((j:Int)<(l.length:Int))=true->Af l (j:Int)=some x->Af m (j:Int)=some y->decide ((j:Int)>=(m.length:Int))=false->Ac ((j:Int)+1)=((j+1:Nat):Int) ->
   step (j:Int)=if g x y=0 then some (.inl ((j+1:Nat):Int)) else some (.inr (.inl (g x y))))
  (i:decide ((l.length:Int)<(l.length:Int))=false->step (l.length:Int)=some (.inr (.inr ()))) :
  ∃z,Al step 0=some z/\(match z with | .inl r=>r=Ei g l m/\r≠0 | .inr _=>Ei g l m=0):=by
 have key:∀(n j:Nat),j+n=l.length->∃z,Al step (j:Int)=some z/\(match z with | .inl r=>r=Ei g (l.drop j) (m.drop j)/\r≠0 | .inr _=>Ei g (l.drop j) (m.drop j)=0):=by
  intro n
  induction n with
  | zero=>
   intro j hj
   have:j=l.length:=by omega
   subst this
   refine ⟨.inr (),Ds (i (by simp)),?_⟩
   rw [List.drop_of_length_le (by omega)]; simp [Ei]
  | succ n ih=>
   intro j hj
   have hx:l[j]? = some l[j]:=Bu (by omega)
   have hy:m[j]? = some m[j]:=Bu (by omega)
   generalize l[j]=x at hx
   generalize m[j]=y at hy
   have h:=f j x y hx hy (Ak (by omega)) (B6 rfl hx) (B6 rfl hy) (Ap (by omega)) (Cz (show j<l.length by omega) hb)
   rw [Kr hx,Kr hy]
   by_cases b:g x y=0
   .rw [if_pos b] at h
    obtain ⟨z,c,z2⟩:=ih (j+1) (by omega)
    refine ⟨z,by rw [Hm h]; exact c,?_⟩
    have e:Ei g (x::l.drop (j+1)) (y::m.drop (j+1))=Ei g (l.drop (j+1)) (m.drop (j+1)):=by simp only [Ei,Dp,b,if_true]
    cases z with
    | inl r=>simp only [e]; exact z2
    | inr u=>simp only [e]; exact z2
   .rw [if_neg b] at h
    refine ⟨.inl (g x y),Ds h,?_,b⟩
    simp only [Ei,Dp,b,if_false]
 exact key l.length 0 (by omega)
theorem Abh {α:Type} (f:α->α->Option Int) (g:α->α->Int) (l m:List α) (A:l.length=m.length) (hb:l.length<4611686018427387904) (B:∀(j:Nat) (x y:α),l[j]? = some x->m[j]? = some y->f x y=some (g x y)) :
  ((Al (S:=Int) (E:=(Int⊕Unit)) (fun b=>
   bif (decide (b<(l.length:Int))) then (
   (Af l b).bind fun s=>
   bif (decide (b>=(m.length:Int))) then some (.inr (.inl 1))
   else (
   (Af m b).bind fun v9=>
   (f s v9).bind fun c=>
   bif (c != (0:Int)) then some (.inr (.inl c))
   else some (.inl (Ac (b+1)))))
   else some (.inr (.inr ()))) 0).bind fun z=>
   match z with
   | .inl k=>some k
   | .inr _=>bif (decide ((l.length:Int)<(m.length:Int))) then some (-1) else some 0)=some (Ei g l m):=by
 refine Xc (Xo g l m A hb ?_ (fun h=>by simp only [h]; rfl)) ?_
 .intro j x y hx hy h1 h2 h3 G D
  simp only [h1,h2,h3,G,D,cond_true,cond_false,Ad,B j x y hx hy]
  by_cases i:g x y=0
  .rw [Dj i,if_pos i]; rfl
  .rw [Di i,if_neg i]; rfl
 .rintro (r | u) q
  .rw [q.1]
  .simp only
   rw [Ap (by omega),show Ei g l m=0 from q]; rfl
def Ks (x y:Dk):Int:=Dp (D3 x.Var y.Var) (D3 x.Coef y.Coef)
def Fg (a b:Ca):Int:=if a.Terms.length=b.Terms.length then Dp (Ei Ks a.Terms b.Terms) (D3 a.Const b.Const) else D3 a.Terms.length b.Terms.length
theorem Abi (a b:Ca) (ha:a.Terms.length<1099511627776):Kj a b=some (Fg a b):=by
 unfold Kj Fg
 rw [Nh,Ad]
 by_cases h:a.Terms.length=b.Terms.length
 .rw [Dj (Fk.2 (by omega)),if_pos h]
  simp only [cond_false]
  have:=Abh Wf Ks a.Terms b.Terms h (by omega) (fun j x y _ _=>by
   unfold Wf Ks
   rw [Nh,Am2]; simp only [Ad,Uj])
  rw [show Zt a.Terms b.Terms=_ from this,Ad,Am2]
  simp only [Ad,Uj]
 .rw [Di (fun e=>h (by have:=Fk.1 e; omega)),if_neg h]; rfl
theorem Am3 (a b:Ca) (ha:a.Terms.length<1099511627776):M0 a b=some (Fg a b):=by
 unfold M0 Fg
 by_cases h:a.Terms.length=b.Terms.length
 .rw [Dj (by omega),if_pos h]
  simp only [cond_false]
  refine Xc (Xo Ks a.Terms b.Terms h (by omega) ?_ (fun h=>by simp only [h]; rfl)) ?_
  .intro j x y hx hy h1 h2 h3 i g
   simp only [h1,h2,h3,g,cond_true,Ad]
   by_cases c:x.Var=y.Var
   .rw [Dj c]
    by_cases hc:x.Coef=y.Coef
    .rw [Dj hc]
     rw [if_pos (by unfold Ks; rw [Fk.2 c,Fk.2 hc]; rfl)]; rfl
    .rw [Di hc,Abf _ _ hc]
     have e:Ks x y=D3 x.Coef y.Coef:=by unfold Ks; rw [Fk.2 c]; rfl
     rw [e,if_neg (fun e=>hc (Fk.1 e))]; rfl
   .rw [Di c,Abf _ _ c]
    have e:Ks x y=D3 x.Var y.Var:=by unfold Ks Dp; rw [if_neg (fun e=>c (Fk.1 e))]
    rw [e,if_neg (fun e=>c (Fk.1 e))]; rfl
  .rintro (r | u) f
   .obtain ⟨rfl,h0⟩:=f
    unfold Dp; rw [if_neg h0]
   .have f:Ei Ks a.Terms b.Terms=0:=f
    rw [f]
    simp only [Dp,if_true]
    by_cases hc:a.Const=b.Const
    .rw [Dj hc,Fk.2 hc]; rfl
    .rw [Di hc,Abf _ _ hc]; rfl
 .rw [Di (by omega),if_neg h,Abf _ _ (by omega)]; rfl
mutual
def Ie:A9->A9->Int
 | ⟨n,k⟩,j=>if n=j.Num then (if k.length=j.Kids.length then Rq k j.Kids else D3 k.length j.Kids.length) else D3 n j.Num
def Rq:List A9->List A9->Int
 | x::xs,y::ys=>Dp (Ie x y) (Rq xs ys)
 | [],_=>0
 | _::_,[]=>0
end
theorem Af5 (i j:A9):Ie i j=if i.Num=j.Num then (if i.Kids.length=j.Kids.length then Rq i.Kids j.Kids else D3 i.Kids.length j.Kids.length) else D3 i.Num j.Num:=by cases i; simp only [Ie]
theorem Abj:∀l m:List A9,Rq l m=Ei Ie l m
 | x::xs,y::ys=>by simp only [Rq,Ei,Abj xs ys]
 | [],_=>by simp [Rq,Ei]
 | _::_,[]=>by simp [Rq,Ei]
theorem Axz:∀(n k:Nat) (i j:A9),C4 i<=n->2*n<=k->n<1099511627776->Of k i j=some (Ie i j):=by
 intro n
 induction n with
 | zero=>intro k i j h; have:=Fs i; omega
 | succ n ih=>
  intro k i j h hk c
  obtain ⟨k,rfl⟩:∃b,k=b+2:=⟨k-2,by omega⟩
  have hi:=Fs i
  have f:=Lv i.Kids
  rw [Of,Af5,Nh,Nh]
  simp only [Ad,Uj]
  by_cases h1:i.Num=j.Num
  .rw [if_pos h1]
   by_cases h2:i.Kids.length=j.Kids.length
   .rw [if_pos h2,Dj (by unfold Dp; rw [Fk.2 h1,Fk.2 (by omega)]; rfl),Abj]
    simp only [cond_false]
    have:=Abh (Of k) Ie i.Kids j.Kids h2 (by omega) (fun q x y hx hy=>ih k x y (by have:=Kq (B4 hx); omega) (by omega) (by omega))
    rw [We]
    refine Eq.trans (congrArg (fun q=>Option.bind q _) this) rfl
   .have e:Dp (D3 i.Num j.Num) (D3 (i.Kids.length:Int) (j.Kids.length:Int))=D3 i.Kids.length j.Kids.length:=by unfold Dp; rw [Fk.2 h1]; rfl
    rw [if_neg h2,e,Di (fun e=>h2 (by have:=Fk.1 e; omega))]; rfl
  .have e:Dp (D3 i.Num j.Num) (D3 (i.Kids.length:Int) (j.Kids.length:Int))=D3 i.Num j.Num:=by unfold Dp; rw [if_neg (fun e=>h1 (Fk.1 e))]
   rw [if_neg h1,e,Di (fun e=>h1 (Fk.1 e))]; rfl
theorem Ax0:∀(n k:Nat) (i j:A9),C4 i<=n->2*n<=k->n<1099511627776->Oa k i j=some (Ie i j):=by
 intro n
 induction n with
 | zero=>intro k i j h; have:=Fs i; omega
 | succ n ih=>
  intro k i j h hk A
  obtain ⟨k,rfl⟩:∃l,k=l+2:=⟨k-2,by omega⟩
  have hi:=Fs i
  have B:=Lv i.Kids
  rw [Oa,Af5]
  by_cases h1:i.Num=j.Num
  .rw [if_pos h1,Dj h1]
   simp only [cond_false]
   rw [V3]
   by_cases h2:i.Kids.length=j.Kids.length
   .rw [if_pos h2,Dj (by omega),Abj]
    simp only [cond_false]
    have:=Xo Ie i.Kids j.Kids h2 (by omega) (step:=fun v5=>bif (decide (v5<(i.Kids.length:Int))) then ((Af i.Kids v5).bind fun g=>(Af j.Kids v5).bind fun f=>(Oa k g f).bind fun v8=>bif (v8 != (0:Int)) then some (.inr (.inl v8)) else some (.inl (Ac (v5+1)))) else some (.inr (.inr ()))) (fun q x y hx hy h1 h2 h3 D s=>by
     simp only [h1,h2,h3,s,cond_true,Ad,ih k x y (by have:=Kq (B4 hx); omega) (by omega) (by omega)]
     by_cases b:Ie x y=0
     .rw [Dj b,if_pos b]; rfl
     .rw [Di b,if_neg b]; rfl) (fun h=>by simp only [h]; rfl)
    obtain ⟨z,c,z2⟩:=this
    rw [c,Ad]
    cases z with
    | inl r=>rw [z2.1]; rfl
    | inr u=>rw [show Ei Ie i.Kids j.Kids=0 from z2]; rfl
   .rw [if_neg h2,Di (by omega),Abe _ _ (by omega)]; rfl
  .rw [if_neg h1,Di h1,Abe _ _ h1]; rfl
def Kt (x y:Bh):Int:=Dp (D3 x.Var y.Var) (Ie x.Index y.Index)
def Lx (x y:Ba):Int:=Dp (Fg x.Lin y.Lin) (D3 x.Deg y.Deg)
def Cr (a b:A8):Int :=
 if a.Factors.length=b.Factors.length then
  Dp (Ei Kt a.Factors b.Factors) (if a.Atoms.length=b.Atoms.length then Ei Lx a.Atoms b.Atoms else D3 a.Atoms.length b.Atoms.length)
 else D3 a.Factors.length b.Factors.length
structure MSz (m:A8):Prop where
 nf:m.Factors.length<=1048576
 na:m.Atoms.length<=1048576
 fi:∀f∈m.Factors,C4 f.Index<=1048576
 fr:∀f∈m.Factors,iR f.Index/\I64 f.Var
 al:∀a∈m.Atoms,a.Lin.Terms.length<=1048576
theorem Am4 (a b:A8) (ha:MSz a):N9 a b=some (Cr a b):=by
 have h1:=ha.nf
 have h2:=ha.na
 unfold N9 Cr
 rw [Nh,Ad]
 by_cases h:a.Factors.length=b.Factors.length
 .rw [Dj (Fk.2 (by omega)),if_pos h]
  simp only [cond_false]
  have:=Abh V1 Kt a.Factors b.Factors h (by omega) (fun j x y hx hy=>by
   unfold V1 Kt
   rw [Nh,Axz 1048576 4000000 x.Index y.Index (ha.fi x (B4 hx)) (by omega) (by omega)]; simp only [Ad,Uj])
  rw [show Zn a.Factors b.Factors=_ from this,Ad,Nh]
  simp only [Ad,Uj]
  by_cases h0:Ei Kt a.Factors b.Factors=0
  .simp only [h0,Dp,if_true]
   by_cases h':a.Atoms.length=b.Atoms.length
   .rw [Dj (Fk.2 (by omega)),if_pos h']
    simp only [cond_false]
    have:=Abh V2 Lx a.Atoms b.Atoms h' (by omega) (fun j x y hx hy=>by
     unfold V2 Lx
     rw [Nh,Abi x.Lin y.Lin (by have:=ha.al x (B4 hx); omega)]; simp only [Ad,Uj])
    rw [show Zo a.Atoms b.Atoms=_ from this]; rfl
   .rw [Di (fun e=>h' (by have:=Fk.1 e; omega)),if_neg h']; rfl
  .simp only [Dp,if_neg h0]
   rw [Di h0]; rfl
 .rw [Di (fun e=>h (by have:=Fk.1 e; omega)),if_neg h]; rfl
theorem Af6 (a b:A8) (ha:MSz a):Mv a b=some (Cr a b):=by
 have h1:=ha.nf
 have h2:=ha.na
 unfold Mv Cr
 by_cases h:a.Factors.length=b.Factors.length
 .rw [Dj (by omega),if_pos h]
  simp only [cond_false]
  refine Xc (Xo Kt a.Factors b.Factors h (by omega) ?_ (fun h=>by simp only [h]; rfl)) ?_
  .intro j x y hx hy h1 h2 h3 i g
   simp only [h1,h2,h3,g,cond_true,Ad,Ax0 1048576 4000000 x.Index y.Index (ha.fi x (B4 hx)) (by omega) (by omega)]
   by_cases c:x.Var=y.Var
   .rw [Dj c]
    have e:Kt x y=Ie x.Index y.Index:=by unfold Kt Dp; rw [if_pos (Fk.2 c)]
    rw [e]
    by_cases hc:Ie x.Index y.Index=0
    .rw [Dj hc,if_pos hc]; rfl
    .rw [Di hc,if_neg hc]; rfl
   .rw [Di c,Abg _ _ c]
    have e:Kt x y=D3 x.Var y.Var:=by unfold Kt Dp; rw [if_neg (fun e=>c (Fk.1 e))]
    rw [e,if_neg (fun e=>c (Fk.1 e))]; rfl
  .rintro (r | u) f
   .obtain ⟨rfl,h0⟩:=f
    unfold Dp; rw [if_neg h0]
   .have f:Ei Kt a.Factors b.Factors=0:=f
    rw [f]
    simp only [Dp,if_true]
    by_cases h':a.Atoms.length=b.Atoms.length
    .rw [Dj (by omega),if_pos h']
     simp only [cond_false]
     refine Xc (Xo Lx a.Atoms b.Atoms h' (by omega) ?_ (fun h=>by simp only [h]; rfl)) ?_
     .intro j x y hx hy h1 h2 h3 i g
      simp only [h1,h2,h3,g,cond_true,Ad,Am3 x.Lin y.Lin (by have:=ha.al x (B4 hx); omega)]
      by_cases c:Fg x.Lin y.Lin=0
      .rw [Dj c]
       have e:Lx x y=D3 x.Deg y.Deg:=by unfold Lx Dp; rw [if_pos c]
       rw [e]
       by_cases hc:x.Deg=y.Deg
       .rw [Dj hc,if_pos (Fk.2 hc)]; rfl
       .rw [Di hc,Abg _ _ hc,if_neg (fun e=>hc (Fk.1 e))]; rfl
      .have e:Lx x y=Fg x.Lin y.Lin:=by unfold Lx Dp; rw [if_neg c]
       rw [Di c,e,if_neg c]; rfl
     .rintro (r | u) f
      .rw [f.1]
      .rw [show Ei Lx a.Atoms b.Atoms=0 from f]
    .rw [Di (by omega),if_neg h',Abg _ _ (by omega)]; rfl
 .rw [Di (by omega),if_neg h,Abg _ _ (by omega)]; rfl
def Ku {α:Type} (f:α->Int) (l:List α) (x:α) (j:Nat):Bool:=j==0||(match l[j-1]? with | some y=>decide (f y<f x) | none=>false)
def Uk (l:List Dk) (x:Dk) (j:Nat):Bool:=decide (-1<=x.Var/\x.Var<3000/\x.Coef≠0/\-1048576<=x.Coef/\x.Coef<=1048576)&&Ku (·.Var) l x j
def Fm (a:Ca):Bool:=decide (-1048576<=a.Const/\a.Const<=1048576/\a.Terms.length<=16)&&a.Terms.zipIdx.all (fun q=>Uk a.Terms q.1 q.2)
theorem Am5 (n:Int):S7 n=some (decide (-1048576<=n/\n<=1048576)):=by
 unfold S7
 by_cases h:(-1048576:Int)<=n <;> simp [h]
theorem Ax1 (n:Int):Vu n=some (decide (-1<=n/\n<3000)):=by
 unfold Vu
 by_cases h:(-1:Int)<=n <;> simp [h]
theorem Af7 {α S E:Type} (f:α->Int) (l:List α) {x:α} {j:Nat} (hx:l[j]? = some x) (i:l.length<4611686018427387904) (c b:Option (S⊕E)) :
  (bif decide ((j:Int)>0) then ((Af l (Ac ((j:Int)-1))).bind fun g=>bif decide (f g>=f x) then c else b) else b)=bif Ku f l x j then b else c:=by
 have hj:=Dn hx
 unfold Ku
 by_cases h:j=0
 .subst h; rfl
 .rw [Ak (by omega)]
  have e:Ac ((j:Int)-1)=((j-1:Nat):Int):=by rw [Ac,Bp] <;> omega
  have hy:l[j-1]? = some l[j-1]:=Bu (by omega)
  rw [e,B6 rfl hy,hy]
  have h0:(j==0)=false:=by simpa using h
  simp only [cond_true,Ad,h0,Bool.false_or]
  by_cases hc:f l[j-1]<f x
  .rw [Ap (by omega),Ak hc]; rfl
  .rw [Ak (by omega),Ap hc]; rfl
theorem Xp (a:Ca):Mx a=some (Fm a):=by
 unfold Mx Fm
 rw [Am5]
 simp only [Ad]
 by_cases h1 : -1048576<=a.Const/\a.Const<=1048576
 .rw [Ak h1]
  by_cases h2:a.Terms.length<=16
  .rw [Ap (by omega:¬(a.Terms.length:Int)>16),Ak ⟨h1.1,h1.2,h2⟩]
   simp only [Dm,cond_false,Ad,Bool.true_and]
   refine (T7 a.Terms (fun q=>Uk a.Terms q.1 q.2) (fun j=>(j:Int)) rfl (by omega) (rt:=true) (rf:=false) ?_ ?_).trans (by rw [Re])
   .intro j x hx _ h1 h2 h3
    simp only [h1,h2,h3,cond_true,Ad,Ax1,Am5,Af7 (·.Var) a.Terms hx (by omega),Uk]
    by_cases g1 : -1<=x.Var/\x.Var<3000
    .by_cases g2:x.Coef=0
     .rw [Ak g1,Ea g2,Ap (fun h=>h.2.2.1 g2)]
      exact ⟨(fun h=>by cases h),fun _=>⟨.inl false,rfl,rfl⟩⟩
     .by_cases g3 : -1048576<=x.Coef/\x.Coef<=1048576
      .rw [Ak g1,Cm g2,Ak g3,Ak ⟨g1.1,g1.2,g2,g3.1,g3.2⟩]
       cases Ku (·.Var) a.Terms x j with
       | true=>exact ⟨fun _=>rfl,fun h=>by cases h⟩
       | false=>exact ⟨(fun h=>by cases h),fun _=>⟨.inl false,rfl,rfl⟩⟩
      .rw [Ak g1,Cm g2,Ap g3,Ap (fun h=>g3 h.2.2.2)]
       exact ⟨(fun h=>by cases h),fun _=>⟨.inl false,rfl,rfl⟩⟩
    .rw [Ap g1,Ap (fun h=>g1 ⟨h.1,h.2.1⟩)]
     exact ⟨(fun h=>by cases h),fun _=>⟨.inl false,rfl,rfl⟩⟩
   .intro h _
    exact ⟨.inr (),by simp only [h]; rfl,rfl⟩
  .rw [Ak (by omega:(a.Terms.length:Int)>16),Ap (fun h=>h2 h.2.2)]; rfl
 .rw [Ap h1,Ap (fun h : -1048576<=a.Const/\a.Const<=1048576/\a.Terms.length<=16=>h1 ⟨h.1,h.2.1⟩)]; rfl
theorem Af8 (a:Ca):Vj a=some (Fm a):=by
 unfold Vj Fm
 by_cases h2:a.Terms.length<=16
 .rw [Ap (by omega:¬(a.Terms.length:Int)>16)]
  by_cases h1 : -1048576<=a.Const
  .rw [Ap (by omega:¬a.Const < -1048576)]
   by_cases h3:a.Const<=1048576
   .rw [Ap (by omega:¬a.Const>1048576),Ak ⟨h1,h3,h2⟩]
    simp only [cond_false,Ad,Bool.true_and]
    refine (T7 a.Terms (fun q=>Uk a.Terms q.1 q.2) (fun j=>(j:Int)) rfl (by omega) (rt:=true) (rf:=false) ?_ ?_).trans (by rw [Re])
    .intro j x hx _ h1 h2 h3
     simp only [h1,h2,h3,cond_true,Ad,Af7 (·.Var) a.Terms hx (by omega),Uk]
     by_cases g1:x.Var < -1
     .rw [Ak g1,Ap (fun h=>by omega)]
      exact ⟨(fun h=>by cases h),fun _=>⟨.inl false,rfl,rfl⟩⟩
     by_cases g2:x.Var>=3000
     .rw [Ap g1,Ak g2,Ap (fun h=>by omega)]
      exact ⟨(fun h=>by cases h),fun _=>⟨.inl false,rfl,rfl⟩⟩
     by_cases g3:x.Coef=0
     .rw [Ap g1,Ap g2,Ea g3,Ap (fun h=>by omega)]
      exact ⟨(fun h=>by cases h),fun _=>⟨.inl false,rfl,rfl⟩⟩
     by_cases g4:x.Coef < -1048576
     .rw [Ap g1,Ap g2,Cm g3,Ak g4,Ap (fun h=>by omega)]
      exact ⟨(fun h=>by cases h),fun _=>⟨.inl false,rfl,rfl⟩⟩
     by_cases g5:x.Coef>1048576
     .rw [Ap g1,Ap g2,Cm g3,Ap g4,Ak g5,Ap (fun h=>by omega)]
      exact ⟨(fun h=>by cases h),fun _=>⟨.inl false,rfl,rfl⟩⟩
     rw [Ap g1,Ap g2,Cm g3,Ap g4,Ap g5,Ak (by omega)]
     cases Ku (·.Var) a.Terms x j with
     | true=>exact ⟨fun _=>rfl,fun h=>by cases h⟩
     | false=>exact ⟨(fun h=>by cases h),fun _=>⟨.inl false,rfl,rfl⟩⟩
    .intro h _
     exact ⟨.inr (),by simp only [h]; rfl,rfl⟩
   .rw [Ak (by omega:a.Const>1048576),Ap (fun h : -1048576<=a.Const/\a.Const<=1048576/\a.Terms.length<=16=>by omega)]; rfl
  .rw [Ak (by omega:a.Const < -1048576),Ap (fun h : -1048576<=a.Const/\a.Const<=1048576/\a.Terms.length<=16=>by omega)]; rfl
 .rw [Ak (by omega:(a.Terms.length:Int)>16),Ap (fun h : -1048576<=a.Const/\a.Const<=1048576/\a.Terms.length<=16=>by omega)]; rfl
end Go.Ab
namespace Go.Ab
open Go
structure Ul (data:List Az) (vars:List Ah) (res:Ah):Prop where
 vd:Il data
 sh:Lu data
 sz:∀v t,tyX vars res v=some t->Bg t<=200
 nv:vars.length<=3000
theorem Ax2 (vars:List Ah) (res:Ah) (v:Int):(tyX vars res v).isSome=decide (-1<=v/\v<vars.length):=by
 unfold tyX
 by_cases h:v = -1
 .rw [if_pos h]; subst h; rw [Ak (by omega)]; rfl
 .rw [if_neg h]
  cases hx:Af vars v with
  | none=>rcases O8 hx with h' | h' <;> rw [Ap (by omega)] <;> rfl
  | some t=>have:=F4 hx; rw [Ak (by omega)]; rfl
section
variable (b1:List (ByteArray×Int)) (b2:List (ByteArray×List Co)) (data:List Az) (vars:List Ah) (res:Ah)
theorem Af9 (v:Int) (f c:Int) (b:List Ah):Mw v b1 b2 data vars f c b=some (tyX vars res v).isSome:=by
 rw [Ax2]
 unfold Mw
 by_cases h:v>=-1
 .rw [Ak h]
  by_cases h':v<(vars.length:Int)
  .rw [Ak h',Ak ⟨h,h'⟩]; rfl
  .rw [Ap h',Ap (fun g=>h' g.2)]; rfl
 .rw [Ap h,Ap (fun g : -1<=v/\v<(vars.length:Int)=>h g.1)]; rfl
theorem Am6 {v:Int} {t:Ah} (ht:tyX vars res v=some t):Lk v b1 b2 data vars res.Kind res.Num res.Args=some t:=by
 unfold Lk
 unfold tyX at ht
 by_cases h:v = -1
 .rw [if_pos h] at ht; cases ht
  have b:(Ah.mk res.Kind res.Num res.Args)=res:=by cases res; rfl
  rw [Ea h,b]; rfl
 .rw [if_neg h] at ht
  rw [Cm h,ht]; rfl
def Um (t:Dk):Bool:=match tyX vars res t.Var with | some u=>u.Kind==1 | none=>false
def G5 (l:Ca):Bool:=l.Terms.all (Um vars res)
theorem Aga (l:Ca) (c:l.Terms.length<=1048576):Qa l b1 b2 data vars res.Kind res.Num res.Args=some (G5 vars res l):=by
 unfold Qa Zm Zq
 have key:=Alh l.Terms (fun t=>!Um vars res t) (by omega) (J:=fun z=>match z with | .inl b=>some b | .inr _=>some (-1)) (step:=fun v3=>bif (decide (v3<(l.Terms.length:Int))) then ((Af l.Terms v3).bind fun v4=>(S8 v4 b1 b2 data vars res.Kind res.Num res.Args).bind fun v5=>bif v5 then some (.inr (.inl v3)) else some (.inl (Ac (v3+1)))) else some (.inr (.inr ()))) (by
  intro j x hx h1 h2 h3
  have e:S8 x b1 b2 data vars res.Kind res.Num res.Args=some (!Um vars res x):=by
   unfold S8 Um
   rw [Af9 b1 b2 data vars res,Ad]
   cases ht:tyX vars res x.Var with
   | none=>rfl
   | some t=>rw [Am6 b1 b2 data vars res ht]; rfl
  simp only [h1,h2,h3,cond_true,Ad,e]) (fun h=>by simp only [h]; rfl) (fun _=>rfl) rfl
 obtain ⟨i,i1,i2⟩:=key
 erw [i1]
 simp only [Ad,i2]
 congr 1
 unfold G5
 rw [List.any_eq_not_all_not]; simp
theorem Un (x:Ce) (v:Int):P7 x v=some (match tyX x.Vars x.Res v with | some t=>(t,true) | none=>(⟨0,0,[]⟩,false)):=by
 unfold P7 tyX
 by_cases h:v = -1
 .rw [Ea h,if_pos h]; rfl
 .rw [Cm h,if_neg h]
  cases hx:Af x.Vars v with
  | none=>
   rcases O8 hx with h' | h'
   .simp only [Ak h',cond_true,cond_false,Ad]
   .by_cases h0:v<0
    .simp only [Ak h0,cond_true,cond_false,Ad]
    .simp only [Ap h0,Ak (show v>=(x.Vars.length:Int) from h'),cond_true,cond_false,Ad]
  | some t=>
   obtain ⟨a1,a2,_⟩:=F4 hx
   simp only [Ap (by omega:¬v<0),Ap (by omega:¬v>=(x.Vars.length:Int)),cond_false,Ad]
theorem Am7 (x:Ce) (l:Ca) (b:l.Terms.length<=1048576):Vk x l=some (G5 x.Vars x.Res l):=by
 unfold Vk
 refine (O1 l.Terms (Um x.Vars x.Res) (fun j=>(j:Int)) rfl (by omega) (rt:=true) (rf:=false) ?_ ?_).trans (by rw [Re]; rfl)
 .intro j t ht h1 h2 h3
  simp only [h1,h2,h3,cond_true,Ad,Un]
  unfold Um
  cases hu:tyX x.Vars x.Res t.Var with
  | none=>exact ⟨(fun h=>by cases h),fun _=>⟨.inl false,rfl,rfl⟩⟩
  | some u=>
   simp only [Dm,cond_false]
   by_cases hk:u.Kind=1
   .rw [Ea hk,Dj hk]
    exact ⟨fun _=>rfl,fun h=>by cases h⟩
   .rw [Cm hk,Di hk]
    exact ⟨(fun h=>by cases h),fun _=>⟨.inl false,rfl,rfl⟩⟩
 .intro h; exact ⟨.inr (),by simp only [h]; rfl,rfl⟩
def D4 (f:Bh):Int:=match tyX vars res f.Var with | some t=>Gb (Gy data f.Index t) | none => -1
theorem Am8 (f:Bh) : -1<=D4 data vars res f/\D4 data vars res f<=6:=by
 unfold D4
 cases tyX vars res f.Var with
 | none=>simp
 | some t=>rcases Afw (Gy data f.Index t) with ⟨h,_⟩ | ⟨d,_,h2,h⟩ <;> simp only [h] <;> omega
def Ni (m:A8):Bool:=m.Factors.all (fun f=>decide (0<=D4 data vars res f))&&m.Atoms.all (fun a=>decide (0<=a.Deg)&&G5 vars res a.Lin)
def Fu (l:List Bh):Int:=(l.map (D4 data vars res)).sum
def Dq (l:List Ba):Int:=(l.map (·.Deg)).sum
def Nj (l:List Ba) (x:Ba) (j:Nat):Bool:=j==0||(match l[j-1]? with | some y=>decide (Fg y.Lin x.Lin<0) | none=>false)
def Pc (l:List Bh) (f:Bh) (j:Nat):Bool:=decide (1<=D4 data vars res f)&&Ku (·.Var) l f j
def Ml (l:List Ba) (a:Ba) (j:Nat):Bool:=decide (1<=a.Deg)&&Fm a.Lin && !(a.Lin.Terms.length==0)&&G5 vars res a.Lin&&Nj l a j
def Jn (m:A8):Bool:=m.Factors.zipIdx.all (fun q=>Pc data vars res m.Factors q.1 q.2)&&m.Atoms.zipIdx.all (fun q=>Ml vars res m.Atoms q.1 q.2)&&decide (Fu data vars res m.Factors+Dq m.Atoms<=6)
variable {b1 data vars res}
theorem Xq (hc:Ul data vars res) (hm:Ft data vars res b1) (f:Bh) (g:I64 f.Var) (h:iR f.Index) (hi:C4 f.Index<=1048576) (b:(tyX vars res f.Var).isSome=true) :
  ∃c,J1 f.Var f.Index b1 b2 data vars res.Kind res.Num res.Args=some (D4 data vars res f,c)/\Ft data vars res c:=by
 cases ht:tyX vars res f.Var with
 | none=>rw [ht] at b; cases b
 | some t=>
  obtain ⟨c,h1,h2⟩:=Axy hc.vd.szv hc.sh b1 b2 vars res hm f.Var f.Index t ht (hc.sz _ _ ht) g h hi
  refine ⟨c,?_,h2⟩
  rw [h1]; unfold D4; rw [ht]
theorem Ax3 (hc:Ul data vars res) (hm:Ft data vars res b1) (m:A8) (l:MSz m) :
  ∃s,Wi m b1 b2 data vars res.Kind res.Num res.Args=some (Ni data vars res m,s)/\Ft data vars res s:=by
 have hf:=l.nf
 have ha:=l.na
 unfold Wi
 refine Aaj (fun s=>(Ni data vars res m,s)) ?_
 obtain ⟨r,U,N⟩:=Ae1 (M:=List (ByteArray×Int)) (R:=Bool×List (ByteArray×Int)) m.Factors (fun q=>decide (0<=D4 data vars res q.1)) (fun j o=>((j:Int),o)) (Ft data vars res)
  (fun r=>Ft data vars res r.2/\r.1=m.Atoms.all (fun a=>decide (0<=a.Deg)&&G5 vars res a.Lin)) (fun r=>Ft data vars res r.2/\r.1=false) b1
  (s0:=((0:Int),b1))
  (step:=(fun (A,x)=>
   bif (decide (A<(m.Factors.length:Int))) then (
   (Af m.Factors A).bind fun v8=>
   (Mw v8.Var x b2 data vars res.Kind res.Num res.Args).bind fun B=>
   bif (!B) then some (.inr (.inl (false,x)))
   else (
   (J1 v8.Var v8.Index x b2 data vars res.Kind res.Num res.Args).bind fun g=>
   bif (decide (g.1<(0:Int))) then some (.inr (.inl (false,g.2)))
   else some (.inl ((Ac (A+1)),g.2))))
   else some (.inr (.inr x)):Int×List (ByteArray×Int)->Option ((Int×List (ByteArray×Int))⊕((Bool×List (ByteArray×Int))⊕List (ByteArray×Int)))))
  (J:=(fun z=>match z with
   | .inl (L,I)=>some (L,I)
   | .inr b=>(Al (S:=Int) (E:=((Bool×(List (ByteArray×Int)))⊕Unit)) (fun c=>
     bif (decide (c<(m.Atoms.length:Int))) then (
     (Af m.Atoms c).bind fun u=>
     bif (decide (u.Deg<(0:Int))) then some (.inr (.inl (false,b)))
     else (
     (Qa u.Lin b b2 data vars res.Kind res.Num res.Args).bind fun v21=>
     bif (!v21) then some (.inr (.inl (false,b)))
     else some (.inl (Ac (c+1)))))
     else some (.inr (.inr ()))) 0).bind fun z=>match z with
      | .inl (G,D)=>some (G,D)
      | .inr _=>some (true,b)))
  rfl hm (by omega) (by
   intro j f o y hx _ h1 h2 h3
   have k:=B4 hx
   simp only [h1,h2,h3,cond_true,Ad,Af9 o b2 data vars res]
   cases i:(tyX vars res f.Var).isSome with
   | false=>
    have e:D4 data vars res f = -1:=by
     unfold D4
     cases ht:tyX vars res f.Var with
     | none=>rfl
     | some t=>rw [ht] at i; cases i
    rw [e]
    exact ⟨(fun h=>by cases h),fun _=>⟨_,rfl,_,rfl,y,rfl⟩⟩
   | true=>
    obtain ⟨s,d1,d2⟩:=Xq b2 hc y f (l.fr f k).2 (l.fr f k).1 (l.fi f k) i
    simp only [Dm,cond_false,d1,Ad]
    by_cases h0:0<=D4 data vars res f
    .rw [Ak h0,Ap (by omega)]
     exact ⟨fun _=>⟨s,rfl,d2⟩,fun h=>by cases h⟩
    .rw [Ap h0,Ak (by omega)]
     exact ⟨(fun h=>by cases h),fun _=>⟨_,rfl,_,rfl,d2,rfl⟩⟩) (by
   intro o y h1 _
   refine ⟨.inr o,by simp only [h1]; rfl,?_⟩
   refine ⟨(m.Atoms.all (fun a=>decide (0<=a.Deg)&&G5 vars res a.Lin),o),?_,y,rfl⟩
   refine (O1 m.Atoms (fun a=>decide (0<=a.Deg)&&G5 vars res a.Lin) (fun j=>(j:Int)) rfl (by omega) (rt:=(true,o)) (rf:=(false,o)) ?_ ?_).trans (by cases m.Atoms.all (fun a=>decide (0<=a.Deg)&&G5 vars res a.Lin) <;> rfl)
   .intro j a hx h1 h2 h3
    simp only [h1,h2,h3,cond_true,Ad,Aga o b2 data vars res a.Lin (l.al a (B4 hx))]
    by_cases h0:0<=a.Deg
    .rw [Ak h0,Ap (by omega)]
     cases G5 vars res a.Lin with
     | true=>exact ⟨fun _=>rfl,fun h=>by cases h⟩
     | false=>exact ⟨(fun h=>by cases h),fun _=>⟨_,rfl,rfl⟩⟩
    .rw [Ap h0,Ak (by omega)]
     exact ⟨(fun h=>by cases h),fun _=>⟨_,rfl,rfl⟩⟩
   .intro h; exact ⟨.inr (),by simp only [h]; rfl,rfl⟩)
 refine ⟨r,U,r.2,?_,?_⟩
 .unfold Ni
  rw [<-Aan]
  rcases N with ⟨h1,h2,h3⟩ | ⟨h1,h2,h3⟩
  .rw [h1,Bool.true_and,<-h3]
  .rw [h1,Bool.false_and,<-h3]
 .rcases N with ⟨h1,h2,h3⟩ | ⟨h1,h2,h3⟩ <;> exact h2
theorem Ax4 (g:Bh->Int) {l:List Bh} {j:Nat} {x:Bh} (h:l[j]? = some x):((l.take (j+1)).map g).sum=((l.take j).map g).sum+g x:=by
 rw [C6 h]; simp
theorem Ax5 {l:List Ba} {j:Nat} {x:Ba} (h:l[j]? = some x):Dq (l.take (j+1))=Dq (l.take j)+x.Deg:=by
 unfold Dq; rw [C6 h]; simp
theorem Ax6 (hc:Ul data vars res) (hm:Ft data vars res b1) (m:A8) (k:MSz m) (hp:Ni data vars res m=true) :
  ∃p:Int×List (ByteArray×Int),Wj m b1 b2 data vars res.Kind res.Num res.Args=some p/\(decide (p.1>6) = !decide (Fu data vars res m.Factors+Dq m.Atoms<=6))/\Ft data vars res p.2:=by
 have hf:=k.nf
 have ha:=k.na
 unfold Ni at hp
 rw [Dx,List.all_eq_true,List.all_eq_true] at hp
 unfold Wj
 refine D9 (fun (v5,u,g)=>∃j:Nat,u=j/\j<=m.Factors.length/\Ft data vars res g/\0<=v5/\v5<=12/\(v5=Fu data vars res (m.Factors.take j)\/(6<v5/\6<Fu data vars res (m.Factors.take j)))) (fun (_,u,_)=>m.Factors.length-u.toNat)
  (fun (v5,g)=>Ft data vars res g/\0<=v5/\v5<=12/\(v5=Fu data vars res m.Factors\/(6<v5/\6<Fu data vars res m.Factors))) ⟨0,rfl,by omega,hm,by omega,by omega,.inl (by simp [Fu])⟩ ?_ ?_
 .rintro ⟨v5,u,g⟩ ⟨j,rfl,hj,q,h0,h12,l⟩
  rcases Nat.lt_or_ge j m.Factors.length with h | h
  .have hx:m.Factors[j]? = some m.Factors[j]:=Bu h
   generalize m.Factors[j]=f at hx
   have c:=B4 hx
   have hd:=hp.1 f c
   rw [decide_eq_true_eq] at hd
   have A:=(Am8 data vars res f).2
   have es:Fu data vars res (m.Factors.take (j+1))=Fu data vars res (m.Factors.take j)+D4 data vars res f:=Ax4 _ hx
   simp only [Ak (by omega:(j:Int)<(m.Factors.length:Int)),cond_true,B6 rfl hx,Ad,Cz h (by omega)]
   by_cases s:v5<=6
   .have x:(tyX vars res f.Var).isSome=true:=by
     unfold D4 at hd
     cases ht:tyX vars res f.Var with
     | none=>rw [ht] at hd; have hd:(0:Int)<=-1:=hd; omega
     | some t=>rfl
    obtain ⟨B,d1,d2⟩:=Xq b2 hc q f (k.fr f c).2 (k.fr f c).1 (k.fi f c) x
    rw [Ak s]
    simp only [cond_true,d1,Ad]
    have b:Ac (v5+D4 data vars res f)=v5+D4 data vars res f:=by rw [Ac,Bp] <;> omega
    exact .inl ⟨_,rfl,⟨j+1,rfl,by omega,d2,by simp only [b]; omega,by simp only [b]; omega,by simp only [b,es]; omega⟩,by simp; omega⟩
   .rw [Ap s]
    exact .inl ⟨_,rfl,⟨j+1,rfl,by omega,q,h0,h12,by simp only [es]; omega⟩,by simp; omega⟩
  .have:j=m.Factors.length:=by omega
   subst this
   rw [List.take_length] at l
   exact .inr ⟨(v5,g),by simp,q,h0,h12,l⟩
 .rintro ⟨v5,g⟩ ⟨q,h0,h12,l⟩
  simp only
  refine D9 (fun (v,i)=>∃j:Nat,i=j/\j<=m.Atoms.length/\0<=v/\v<=13/\(v=Fu data vars res m.Factors+Dq (m.Atoms.take j)\/(6<v/\6<Fu data vars res m.Factors+Dq (m.Atoms.take j)))) (fun (_,i)=>m.Atoms.length-i.toNat)
   (fun v=>(v=Fu data vars res m.Factors+Dq m.Atoms\/(6<v/\6<Fu data vars res m.Factors+Dq m.Atoms))) ⟨0,rfl,by omega,h0,by omega,by simpa [Dq] using l⟩ ?_ ?_
  .rintro ⟨v,i⟩ ⟨j,rfl,hj,g0,g13,z⟩
   rcases Nat.lt_or_ge j m.Atoms.length with h | h
   .have hx:m.Atoms[j]? = some m.Atoms[j]:=Bu h
    generalize m.Atoms[j]=a at hx
    have hd:=hp.2 a (B4 hx)
    rw [Dx,decide_eq_true_eq] at hd
    have es:=Ax5 hx
    simp only [Ak (by omega:(j:Int)<(m.Atoms.length:Int)),cond_true,B6 rfl hx,Ad,Cz h (by omega)]
    by_cases s:v<=6
    .rw [Ak s]
     simp only [cond_true]
     by_cases y:7<a.Deg
     .rw [if_pos y]
      have b:Ac (v+7)=v+7:=by rw [Ac,Bp] <;> omega
      exact .inl ⟨_,rfl,⟨j+1,rfl,by omega,by simp only [b]; omega,by simp only [b]; omega,by simp only [b,es]; omega⟩,by simp; omega⟩
     .rw [if_neg y]
      have b:Ac (v+a.Deg)=v+a.Deg:=by rw [Ac,Bp] <;> omega
      exact .inl ⟨_,rfl,⟨j+1,rfl,by omega,by simp only [b]; omega,by simp only [b]; omega,by simp only [b,es]; omega⟩,by simp; omega⟩
    .rw [Ap s]
     exact .inl ⟨_,rfl,⟨j+1,rfl,by omega,g0,g13,by simp only [es]; omega⟩,by simp; omega⟩
   .have:j=m.Atoms.length:=by omega
    subst this
    rw [List.take_length] at z
    exact .inr ⟨v,by simp,z⟩
  .intro v l
   refine ⟨(v,g),rfl,?_,q⟩
   by_cases h:Fu data vars res m.Factors+Dq m.Atoms<=6
   .rw [Ak h,Ap (by simp only; omega)]; rfl
   .rw [Ap h,Ak (by simp only; omega)]; rfl
end
end Go.Ab
namespace Go.Ab
open Go
theorem Ax7 {S E:Type} (F:Ca->Ca->Option Int) (l:List Ba) (g:∀y∈l,∀x,F y.Lin x=some (Fg y.Lin x)) {x:Ba} {j:Nat} (hx:l[j]? = some x) (i:l.length<4611686018427387904) (c b:Option (S⊕E)) :
  (bif decide ((j:Int)>0) then ((Af l (Ac ((j:Int)-1))).bind fun f=>(F f.Lin x.Lin).bind fun v28=>bif decide (v28>=0) then c else b) else b)=bif Nj l x j then b else c:=by
 have hj:=Dn hx
 unfold Nj
 by_cases h:j=0
 .subst h; rfl
 .rw [Ak (by omega)]
  have e:Ac ((j:Int)-1)=((j-1:Nat):Int):=by rw [Ac,Bp] <;> omega
  have hy:l[j-1]? = some l[j-1]:=Bu (by omega)
  rw [e,B6 rfl hy,hy]
  have h0:(j==0)=false:=by simpa using h
  simp only [cond_true,Ad,h0,Bool.false_or,g _ (List.getElem_mem (by omega:j-1<l.length))]
  by_cases hc:Fg l[j-1].Lin x.Lin<0
  .rw [Ap (by omega),Ak hc]; rfl
  .rw [Ak (by omega),Ap hc]; rfl
section
variable {b1:List (ByteArray×Int)} (b2:List (ByteArray×List Co)) {data:List Az} {vars:List Ah} {res:Ah}
def Xr (data:List Az) (vars:List Ah) (res:Ah) (l:List Bh) (f:Bh) (j:Nat):Bool:=!(D4 data vars res f==0)&&Ku (·.Var) l f j
def Pd (l:List Ba) (a:Ba) (j:Nat):Bool:=!(a.Deg==0)&&Fm a.Lin && !(a.Lin.Terms.length==0)&&Nj l a j
theorem Ax8 (m:A8):Jn data vars res m=(Ni data vars res m&&decide (Fu data vars res m.Factors+Dq m.Atoms<=6)&&m.Factors.zipIdx.all (fun q=>Xr data vars res m.Factors q.1 q.2)&&m.Atoms.zipIdx.all (fun q=>Pd m.Atoms q.1 q.2)):=by
 rw [Bool.eq_iff_iff]
 unfold Jn Ni
 rw [<-Aan m.Factors (fun f=>decide (0<=D4 data vars res f)),<-Aan m.Atoms (fun a=>decide (0<=a.Deg)&&G5 vars res a.Lin)]
 simp only [Dx,List.all_eq_true,Pc,Ml,Xr,Pd,decide_eq_true_eq,Bool.not_eq_true',beq_eq_false_iff_ne,ne_eq]
 constructor
 .rintro ⟨⟨h1,h2⟩,h3⟩
  refine ⟨⟨⟨⟨fun q hq=>?_,fun q hq=>?_⟩,h3⟩,fun q hq=>?_⟩,fun q hq=>?_⟩
  .have:=(h1 q hq).1; omega
  .have:=h2 q hq; exact ⟨by omega,this.1.2⟩
  .have:=h1 q hq; exact ⟨by omega,this.2⟩
  .have:=h2 q hq; exact ⟨⟨⟨by omega,this.1.1.1.2⟩,this.1.1.2⟩,this.2⟩
 .rintro ⟨⟨⟨⟨h1,h2⟩,h3⟩,c⟩,b⟩
  refine ⟨⟨fun q hq=>?_,fun q hq=>?_⟩,h3⟩
  .have:=h1 q hq; have g:=c q hq; exact ⟨by omega,g.2⟩
  .have:=h2 q hq; have g:=b q hq; exact ⟨⟨⟨⟨by omega,g.1.1.2⟩,g.1.2⟩,this.2⟩,g.2⟩
theorem Ax9 (hc:Ul data vars res) (hm:Ft data vars res b1) (m:A8) (i:MSz m) :
  ∃A,Tf m b1 b2 data vars res.Kind res.Num res.Args=some (Jn data vars res m,A)/\Ft data vars res A:=by
 have hf:=i.nf
 have ha:=i.na
 rw [Ax8]
 unfold Tf
 obtain ⟨b,p1,Z⟩:=Ax3 b2 hc hm m i
 rw [p1]
 cases hp:Ni data vars res m with
 | false=>exact ⟨b,rfl,Z⟩
 | true=>
  obtain ⟨q,q1,q2,Y⟩:=Ax6 b2 hc Z m i hp
  simp only [Ad,Dm,cond_false,q1,q2]
  cases hs:decide (Fu data vars res m.Factors+Dq m.Atoms<=6) with
  | false=>exact ⟨q.2,rfl,Y⟩
  | true=>
   simp only [Dm,cond_false,Bool.true_and]
   have U:∀f∈m.Factors,(tyX vars res f.Var).isSome=true:=by
    intro f c
    unfold Ni at hp
    rw [Dx,List.all_eq_true] at hp
    have hd:=hp.1 f c
    rw [decide_eq_true_eq] at hd
    unfold D4 at hd
    cases ht:tyX vars res f.Var with
    | none=>rw [ht] at hd; have hd:(0:Int)<=-1:=hd; omega
    | some t=>rfl
   obtain ⟨r,r1,X⟩:=Ae1 (M:=List (ByteArray×Int)) (R:=Bool×List (ByteArray×Int)) m.Factors (fun q=>Xr data vars res m.Factors q.1 q.2) (fun j o=>((j:Int),o)) (Ft data vars res)
    (fun r=>Ft data vars res r.2/\r.1=m.Atoms.zipIdx.all (fun q=>Pd m.Atoms q.1 q.2)) (fun r=>Ft data vars res r.2/\r.1=false) q.2
    (s0:=((0:Int),q.2))
    (step:=(fun (v9,s)=>
     bif (decide (v9<(m.Factors.length:Int))) then (
     (Af m.Factors v9).bind fun k=>
     (J1 k.Var k.Index s b2 data vars res.Kind res.Num res.Args).bind fun g=>
     bif (g.1==(0:Int)) then some (.inr (.inl (false,g.2)))
     else (
     bif (decide (v9>(0:Int))) then (
     (Af m.Factors (Ac (v9-1))).bind fun D=>
     bif (decide (D.Var>=k.Var)) then some (.inr (.inl (false,g.2)))
     else some (.inl ((Ac (v9+1)),g.2)))
     else some (.inl ((Ac (v9+1)),g.2))))
     else some (.inr (.inr s)):Int×List (ByteArray×Int)->Option ((Int×List (ByteArray×Int))⊕((Bool×List (ByteArray×Int))⊕List (ByteArray×Int)))))
    (J:=(fun z=>match z with
     | .inl (N,L)=>some (N,L)
     | .inr l=>(Al (S:=Int) (E:=((Bool×(List (ByteArray×Int)))⊕Unit)) (fun v22=>
       bif (decide (v22<(m.Atoms.length:Int))) then (
       (Af m.Atoms v22).bind fun v23=>
       (show Option Bool from
       bif (v23.Deg==(0:Int)) then some true
       else (
       (Mx v23.Lin).bind fun v25=>
       bif (!v25) then some true
       else some ((v23.Lin.Terms.length:Int)==(0:Int)))).bind fun v26=>
       bif v26 then some (.inr (.inl (false,l)))
       else (
       bif (decide (v22>(0:Int))) then (
       (Af m.Atoms (Ac (v22-1))).bind fun B=>
       (Kj B.Lin v23.Lin).bind fun v28=>
       bif (decide (v28>=(0:Int))) then some (.inr (.inl (false,l)))
       else some (.inl (Ac (v22+1))))
       else some (.inl (Ac (v22+1)))))
       else some (.inr (.inr ()))) 0).bind fun z=>match z with
        | .inl (I,G)=>some (I,G)
        | .inr _=>some (true,l)))
    rfl Y (by omega) (by
     intro j f o V hx _ h1 h2 h3
     have c:=B4 hx
     obtain ⟨A,d1,d2⟩:=Xq b2 hc V f (i.fr f c).2 (i.fr f c).1 (i.fi f c) (U f c)
     simp only [h1,h2,h3,cond_true,Ad,d1,Af7 (·.Var) m.Factors hx (by omega),Xr]
     cases (D4 data vars res f==0) with
     | true=>exact ⟨(fun h=>by cases h),fun _=>⟨_,rfl,_,rfl,d2,rfl⟩⟩
     | false=>
      cases Ku (·.Var) m.Factors f j with
      | true=>exact ⟨fun _=>⟨A,rfl,d2⟩,fun h=>by cases h⟩
      | false=>exact ⟨(fun h=>by cases h),fun _=>⟨_,rfl,_,rfl,d2,rfl⟩⟩) (by
     intro o V h1 _
     refine ⟨.inr o,by simp only [h1]; rfl,?_⟩
     refine ⟨(m.Atoms.zipIdx.all (fun q=>Pd m.Atoms q.1 q.2),o),?_,V,rfl⟩
     refine (T7 m.Atoms (fun q=>Pd m.Atoms q.1 q.2) (fun j=>(j:Int)) rfl (by omega) (rt:=(true,o)) (rf:=(false,o)) ?_ ?_).trans (by cases m.Atoms.zipIdx.all (fun q=>Pd m.Atoms q.1 q.2) <;> rfl)
     .intro j a hx _ h1 h2 h3
      have u:((a.Lin.Terms.length:Int)==(0:Int))=(a.Lin.Terms.length==0):=Av6 a.Lin.Terms 0
      simp only [h1,h2,h3,cond_true,Ad,Xp,Ax7 Kj m.Atoms (fun y hy x=>Abi y.Lin x (by have:=i.al y hy; omega)) hx (by omega),Pd,u]
      cases (a.Deg==0) with
      | true=>exact ⟨(fun h=>by cases h),fun _=>⟨_,rfl,rfl⟩⟩
      | false=>
       cases Fm a.Lin with
       | false=>exact ⟨(fun h=>by cases h),fun _=>⟨_,rfl,rfl⟩⟩
       | true=>
        cases (a.Lin.Terms.length==0) with
        | true=>exact ⟨(fun h=>by cases h),fun _=>⟨_,rfl,rfl⟩⟩
        | false=>
         cases Nj m.Atoms a j with
         | true=>exact ⟨fun _=>rfl,fun h=>by cases h⟩
         | false=>exact ⟨(fun h=>by cases h),fun _=>⟨_,rfl,rfl⟩⟩
     .intro h _; exact ⟨.inr (),by simp only [h]; rfl,rfl⟩)
   refine ⟨r.2,?_,?_⟩
   .have e:some r=some (m.Factors.zipIdx.all (fun q=>Xr data vars res m.Factors q.1 q.2)&&m.Atoms.zipIdx.all (fun q=>Pd m.Atoms q.1 q.2),r.2):=by
     rcases X with ⟨h1,h2,h3⟩ | ⟨h1,h2,h3⟩
     .rw [h1,Bool.true_and,<-h3]
     .rw [h1,Bool.false_and,<-h3]
    rw [<-e]
    exact r1
   .rcases X with ⟨h1,h2,h3⟩ | ⟨h1,h2,h3⟩ <;> exact h2
theorem Aya (l:List Bh) (h:∀f∈l,0<=D4 data vars res f):0<=Fu data vars res l:=by
 induction l with
 | nil=>simp [Fu]
 | cons x xs ih=>
  have h1:=h x (by simp)
  have h2:=ih (fun f hf=>h f (by simp [hf]))
  unfold Fu at *
  simp only [List.map_cons,List.sum_cons]
  omega
theorem Am9 (l:List Ba) (h:∀a∈l,0<=a.Deg):0<=Dq l/\((∀a∈l,a.Deg<=6)->Dq l<=6*l.length)/\∀a∈l,a.Deg<=Dq l:=by
 induction l with
 | nil=>simp [Dq]
 | cons x xs ih=>
  have h1:=h x (by simp)
  obtain ⟨i1,i2,i3⟩:=ih (fun f hf=>h f (by simp [hf]))
  unfold Dq at *
  simp only [List.map_cons,List.sum_cons,List.length_cons]
  refine ⟨by omega,fun g=>?_,fun a ha=>?_⟩
  .have:=g x (by simp)
   have:=i2 (fun a ha=>g a (by simp [ha]))
   omega
  .rcases List.mem_cons.1 ha with rfl | ha
   .omega
   .have:=i3 a ha; omega
end
end Go.Ab
