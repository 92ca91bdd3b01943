/- Plain laws: what the plain functions answer. -/
import Derived.Test.YtjjkmepjaemceaaGreatDoorBcPl1
import Derived.Lib.ItoaLen
namespace Go.Ab
open Go
theorem At4 {l:List ByteArray} {j:Nat} {x:ByteArray} (h:l[j]? = some x) (b:l.Nodup):∀i y,i<j->l[i]? = some y->y≠x:=by
 intro i y hi hy e
 subst e
 have h1:=Em h
 have h2:i<l.length:=by omega
 rw [Cv h1] at h
 rw [Cv h2] at hy
 have:=(List.nodup_iff_pairwise_ne.1 b)
 rw [List.pairwise_iff_getElem] at this
 exact this i j h2 h1 hi (by rw [Option.some.inj h,Option.some.inj hy])
theorem Aix (l:List ByteArray) (N:l.length<1099511627776):∃b,P1 l=some b/\(b=false↔l.Nodup):=by
 unfold P1
 refine E3 (fun v=>∃i:Nat,v=i/\i<=l.length/\(l.take i).Nodup) (fun v=>l.length-v.toNat) (fun z=>match z with | .inl r=>r=true/\¬l.Nodup | .inr _=>l.Nodup) ⟨0,rfl,by omega,by simp⟩ ?_ ?_
 .rintro v ⟨i,rfl,hi,A⟩
  rcases Nat.lt_or_ge i l.length with h | h
  .have hx:l[i]? = some l[i]:=Cv h
   generalize l[i]=x at hx
   have G:(l.take i).length=i:=by simp; omega
   have D:∃z,Bc (S:=Int) (E:=(Bool⊕Int)) (fun v4=>bif (decide (v4<(i:Int))) then ((Au l (i:Int)).bind fun v5=>(Au l v4).bind fun L=>bif (v5.toList==L.toList) then some (.inr (.inl true)) else some (.inl (Al (v4+1)))) else some (.inr (.inr v4))) 0=some z/\(match z with | .inl r=>r=true/\x∈l.take i | .inr _=>x ∉ l.take i):=by
    refine Rt (fun v4:Int=>∃j:Nat,v4=j/\j<=i/\∀k y,k<j->l[k]? = some y->y≠x) (fun v4=>i-v4.toNat) _ ?_ _ ⟨0,rfl,by omega,fun k y hk=>by omega⟩
    rintro v4 ⟨j,rfl,hj,g⟩
    rcases Nat.lt_or_ge j i with h' | h'
    .have hy:l[j]? = some l[j]:=Cv (by omega)
     generalize l[j]=y at hy
     simp only [A4 (by omega:(j:Int)<(i:Int)),cond_true,Cs rfl hx,Cs rfl hy,Ap,Ym]
     by_cases c:x=y
     .rw [A4 c]
      refine .inr ⟨.inl true,rfl,rfl,?_⟩
      subst c
      exact Cq (i:=j) (by rw [List.getElem?_take_of_lt h']; exact hy)
     .rw [A8 c]
      refine .inl ⟨((j+1:Nat):Int),by simp only [cond_false]; rw [D3 h' (by omega)],⟨j+1,rfl,by omega,?_⟩,by simp; omega⟩
      intro k J hk f
      rcases Nat.lt_or_ge k j with h'' | h''
      .exact g k J h'' f
      .have:k=j:=by omega
       subst this
       rw [hy] at f; cases f
       exact fun e=>c e.symm
    .have:j=i:=by omega
     subst this
     refine .inr ⟨.inr (j:Int),by simp,?_⟩
     intro q
     obtain ⟨k,hk⟩:=List.getElem?_of_mem q
     have B:=Em hk
     rw [List.getElem?_take_of_lt (by omega)] at hk
     exact g k x (by omega) hk rfl
   obtain ⟨z,I,z2⟩:=D
   simp only [A4 (by omega:(i:Int)<(l.length:Int)),cond_true]
   rw [I,Ap]
   match z,z2 with
   | .inl r,z2=>
    obtain ⟨rfl,z2⟩:=z2
    refine .inr ⟨.inl true,rfl,rfl,fun M=>?_⟩
    obtain ⟨k,hk⟩:=List.getElem?_of_mem z2
    have B:=Em hk
    rw [List.getElem?_take_of_lt (by omega)] at hk
    exact At4 hx M k x (by omega) hk rfl
   | .inr v8,z2=>
    refine .inl ⟨((i+1:Nat):Int),by simp only [D3 h (by omega)],⟨i+1,rfl,by omega,?_⟩,by simp; omega⟩
    rw [D7 hx]
    exact Aci A z2
  .have:i=l.length:=by omega
   subst this
   rw [List.take_length] at A
   exact .inr ⟨.inr (),by simp,A⟩
 .rintro (r | u) s
  .obtain ⟨rfl,s⟩:=s
   exact ⟨true,rfl,by simp [s]⟩
  .exact ⟨false,rfl,by simpa using s⟩
theorem SzD.args {data:List A5} (h:SzD data) {x:A5} (hx:x∈data) {y:Jc} (hy:y∈x.Cons) {t:Ao} (b:t∈y.Args):Br t<=1048576/\t.Args.length<=1048576/\y.Args.length<=1048576:=by
 have h1:=(h x hx).2 y hy
 have h3:=Gg b
 have g:=Gd t
 have f:=Hq t.Args
 have c:=Hq y.Args
 omega
theorem At5 {data:List A5} (s:DSz data) {d:Nat} {x:A5} {y:Jc} (hx:data[d]? = some x) (hy:y∈x.Cons) :
  ∃z,Bc (S:=Int) (E:=(Bool⊕Int)) (fun b=>
    bif (decide (b<(y.Args.length:Int))) then (
    (Au y.Args b).bind fun f=>
    (Lv f d x.Vars).bind fun k=>
    bif k then some (.inl (Al (b+1)))
    else (
    (Gw data 0 d).bind fun v218=>
    (Jo v218 f x.Vars).bind fun i=>
    bif (!i) then some (.inr (.inl false))
    else some (.inl (Al (b+1)))))
    else some (.inr (.inr b))) 0=some z/\(match z with | .inl r=>r=false/\y.Args.all (Ht data d x.Vars)=false | .inr _=>y.Args.all (Ht data d x.Vars)=true):=by
 have hxm:=Cq hx
 have G:=Em hx
 have A:=s.len
 have I:y.Args.length<=1048576:=by have:=(s.sz x hxm).2 y hy; have:=Hq y.Args; omega
 refine Rt (fun v:Int=>∃j:Nat,v=j/\j<=y.Args.length/\(y.Args.take j).all (Ht data d x.Vars)=true) (fun v=>y.Args.length-v.toNat) _ ?_ _ ⟨0,rfl,by omega,by simp⟩
 rintro v ⟨j,rfl,hj,c⟩
 rcases Nat.lt_or_ge j y.Args.length with h | h
 .have q:y.Args[j]? = some y.Args[j]:=Cv h
  generalize y.Args[j]=t at q
  have l:=Cq q
  obtain ⟨s1,s2,J⟩:=s.sz.args hxm hy l
  simp only [A4 (by omega:(j:Int)<(y.Args.length:Int)),cond_true,Cs rfl q,Ap,Aim t d x.Vars (by omega),Vf rfl (show d<=data.length by omega),Tp (data.take d) t x.Vars (by omega),D3 h (by omega)]
  have g:Ht data d x.Vars t=true->(y.Args.take (j+1)).all (Ht data d x.Vars)=true:=fun D=>by
   rw [D7 q,List.all_append,c]; simp [D]
  cases u:Gn t d x.Vars with
  | true=>exact .inl ⟨_,rfl,⟨j+1,rfl,by omega,g (by unfold Ht; rw [u]; rfl)⟩,by simp; omega⟩
  | false=>
   simp only [cond_false]
   cases B:(Di (data.take d) x.Vars t&&decide (Br t<=200)) with
   | true=>exact .inl ⟨_,rfl,⟨j+1,rfl,by omega,g (by unfold Ht; rw [B,u]; rfl)⟩,by simp; omega⟩
   | false=>
    refine .inr ⟨.inl false,rfl,rfl,?_⟩
    rw [List.all_eq_false]
    exact ⟨t,l,by unfold Ht; rw [B,u]; simp⟩
 .have:j=y.Args.length:=by omega
  subst this
  rw [List.take_length] at c
  exact .inr ⟨.inr (y.Args.length:Int),by simp,c⟩
theorem At6 {data:List A5} (M:DSz data) {d:Nat} {x:A5} (hx:data[d]? = some x) (Y:x.Cons.length<=8) (L:List ByteArray) (X:L.length<=1048576) :
  ∃z,Bc (S:=(Int×(List ByteArray))) (E:=(Bool⊕(Int×(List ByteArray)))) (fun (f,k)=>
   bif (decide (f<(x.Cons.length:Int))) then (
   (show Option Bool from
   (Au x.Cons f).bind fun A=>
   (Nw A.Name).bind fun v203=>
   bif (!v203) then some true
   else (
   (Au x.Cons f).bind fun u=>
   some (decide ((u.Args.length:Int)>(6:Int))))
   ).bind fun s=>
   bif s then some (.inr (.inl false))
   else (
   (Au x.Cons f).bind fun v206=>
   (Cr 16 k [v206.Name]).bind fun D=>
   (Au x.Cons f).bind fun v208=>
   (Bc (S:=Int) (E:=(Bool⊕Int)) (fun g=>
   bif (decide (g<(v208.Args.length:Int))) then (
   (Au v208.Args g).bind fun j=>
   (Lv j d x.Vars).bind fun q=>
   bif q then some (.inl (Al (g+1)))
   else (
   (Gw data 0 d).bind fun v218=>
   (Jo v218 j x.Vars).bind fun l=>
   bif (!l) then some (.inr (.inl false))
   else some (.inl (Al (g+1)))))
   else some (.inr (.inr g))) 0).bind fun z=>
   match z with
   | .inl B=>some (.inr (.inl B))
   | .inr J=>some (.inl ((Al (f+1)),D))))
   else some (.inr (.inr (f,k)))) (0,L)=some z /\
   (match z with | .inl r=>r=false/\¬(∀y∈x.Cons,Q9 data d x.Vars y) | .inr (_,o)=>(∀y∈x.Cons,Q9 data d x.Vars y)/\o=L++Fk x):=by
 have hxm:=Cq hx
 refine Rt (fun (v,o)=>∃c:Nat,v=c/\c<=x.Cons.length/\(∀y∈x.Cons.take c,Q9 data d x.Vars y)/\o=L++(x.Cons.take c).map (·.Name)) (fun (v,_)=>x.Cons.length-v.toNat) _ ?_ _ ⟨0,rfl,by omega,by simp,by simp⟩
 rintro ⟨v,o⟩ ⟨c,rfl,hc,h1,V⟩
 subst V
 rcases Nat.lt_or_ge c x.Cons.length with h | h
 .have hy:x.Cons[c]? = some x.Cons[c]:=Cv h
  generalize x.Cons[c]=y at hy
  have i:=Cq hy
  obtain ⟨b,b1,b2⟩:=Aiv y.Name (by have:=M.cn x hxm y i; omega)
  obtain ⟨z,R,z2⟩:=At5 M hx i
  simp only [A4 (by omega:(c:Int)<(x.Cons.length:Int)),cond_true,Cs rfl hy,Ap,b1,D3 h (by omega)]
  rw [Dw (by simp; omega)]
  cases b with
  | false=>
   refine .inr ⟨.inl false,rfl,rfl,fun I=>?_⟩
   have:=b2.2 (I y i).1; cases this
  | true=>
   simp only [Dr,cond_false,Ap]
   by_cases N:(y.Args.length:Int)>6
   .rw [A4 N]
    refine .inr ⟨.inl false,rfl,rfl,fun I=>?_⟩
    have:=(I y i).2.1; omega
   .rw [A8 N]
    simp only [cond_false]
    rw [R,Ap]
    match z,z2 with
    | .inl r,z2=>
     obtain ⟨rfl,z2⟩:=z2
     refine .inr ⟨.inl false,rfl,rfl,fun I=>?_⟩
     have:=(I y i).2.2
     rw [z2] at this; cases this
    | .inr w,z2=>
     refine .inl ⟨_,rfl,⟨c+1,rfl,by omega,?_,?_⟩,by simp; omega⟩
     .intro U G
      rw [D7 hy] at G
      rcases List.mem_append.1 G with h' | h'
      .exact h1 U h'
      .simp at h'; subst h'; exact ⟨b2.1 rfl,by omega,z2⟩
     .rw [D7 hy]; simp
 .have:c=x.Cons.length:=by omega
  subst this
  rw [List.take_length] at h1
  exact .inr ⟨.inr ((x.Cons.length:Int),L++Fk x),by simp [Fk],h1,rfl⟩
theorem Yo {data:List A5} (D:DSz data):∃b,Np data=some b/\(b=true↔Gi data):=by
 have L:=D.len
 unfold Np
 rcases Nat.lt_or_ge 12 data.length with h12 | h12
 .rw [A4 (by omega)]
  exact ⟨false,rfl,by simp; intro h; have:=h.1; omega⟩
 rw [A8 (by omega)]
 simp only [cond_false]
 have l:∀d,d<=data.length->(∀f x,f<d->data[f]? = some x->Ov data f x)->((data.take d).flatMap Fk).length<=8*d:=by
  intro d
  induction d with
  | zero=>intro _ _; simp
  | succ d ih=>
   intro hd h1
   have hx:data[d]? = some data[d]:=Cv (by omega)
   have:=ih (by omega) (fun f x E=>h1 f x (by omega))
   have Y:=(h1 d _ (by omega) hx).2.2.2.1
   rw [D7 hx,List.flatMap_append,List.length_append]
   simp only [List.flatMap_cons,List.flatMap_nil,List.append_nil,Fk,List.length_map]
   omega
 refine E3 (fun (v,k,j)=>∃d:Nat,v=d/\d<=data.length/\(∀f x,f<d->data[f]? = some x->Ov data f x)/\k=(data.take d).map (·.Name)/\j=(data.take d).flatMap Fk)
  (fun (v,_,_)=>data.length-v.toNat) (fun z=>match z with | .inl r=>r=false/\¬Gi data | .inr (k,j)=>(∀d x,data[d]? = some x->Ov data d x)/\k=data.map (·.Name)/\j=data.flatMap Fk) ⟨0,rfl,by omega,by intro f x h; omega,by simp,by simp⟩ ?_ ?_
 .rintro ⟨v,k,j⟩ ⟨d,rfl,hd,h1,h2,h3⟩
  rcases Nat.lt_or_ge d data.length with h | h
  .have hx:data[d]? = some data[d]:=Cv h
   generalize data[d]=x at hx
   have hxm:=Cq hx
   obtain ⟨b,b1,b2⟩:=Aiv x.Name (by have:=D.nm x hxm; omega)
   simp only [A4 (by omega:(d:Int)<(data.length:Int)),cond_true,Cs rfl hx,Ap,b1]
   have bad:∀(u:¬Ov data d x),∃e:Bool⊕((List ByteArray)×(List ByteArray)),(some (Sum.inr (Sum.inl false)):Option ((Int×(List ByteArray)×(List ByteArray))⊕(Bool⊕((List ByteArray)×(List ByteArray)))))=some (.inr e)/\(match e with | .inl r=>r=false/\¬Gi data | .inr (k,j)=>(∀d x,data[d]? = some x->Ov data d x)/\k=data.map (·.Name)/\j=data.flatMap Fk) :=
    fun u=>⟨.inl false,rfl,rfl,fun c=>u (c.2.1 d x hx)⟩
   by_cases g:x.Vars<0
   .simp only [A4 g,cond_true,Ap]
    exact .inr (bad fun c=>by have:=c.1; omega)
   by_cases i:x.Vars>6
   .simp only [A8 g,A4 i,cond_true,cond_false,Ap]
    exact .inr (bad fun c=>by have:=c.2.1; omega)
   by_cases s:(x.Cons.length:Int)<1
   .simp only [A8 g,A8 i,A4 s,cond_false,cond_true,Ap]
    exact .inr (bad fun c=>by have:=c.2.2.1; omega)
   by_cases A:(x.Cons.length:Int)>8
   .simp only [A8 g,A8 i,A8 s,A4 A,cond_true,cond_false,Ap]
    exact .inr (bad fun c=>by have:=c.2.2.2.1; omega)
   simp only [A8 g,A8 i,A8 s,A8 A,cond_false,Ap]
   cases b with
   | false=>exact .inr (bad fun c=>by have:=b2.2 c.2.2.2.2.1; cases this)
   | true=>
    have y:=l d hd h1
    rw [h2,h3]
    simp only [Dr,cond_false]
    rw [Dw (by simp; omega),Ap]
    obtain ⟨z,M,z2⟩:=At6 D hx (by omega) ((data.take d).flatMap Fk) (by omega)
    erw [M,Ap]
    match z,z2 with
    | .inl r,z2=>
     obtain ⟨rfl,z2⟩:=z2
     exact .inr (bad fun c=>z2 c.2.2.2.2.2)
    | .inr (U,V),z2=>
     obtain ⟨R,N⟩:=z2
     subst N
     have J:=D7 hx
     refine .inl ⟨(((d+1:Nat):Int),(data.take d).map (·.Name)++[x.Name],(data.take d).flatMap Fk++Fk x),by simp only [D3 h (by omega)],⟨d+1,rfl,by omega,?_,?_,?_⟩,by simp; omega⟩
     .intro f S E q
      rcases Nat.lt_or_ge f d with h' | h'
      .exact h1 f S h' q
      .have:f=d:=by omega
       subst this
       rw [hx] at q; cases q
       exact ⟨by omega,by omega,by omega,by omega,b2.1 rfl,R⟩
     .rw [J]; simp
     .rw [J]; simp [List.flatMap_append]
  .have:d=data.length:=by omega
   subst this
   rw [List.take_length] at h2 h3
   exact .inr ⟨.inr (k,j),by simp,fun d x hx=>h1 d x (Em hx) hx,h2,h3⟩
 .rintro (r | ⟨k,j⟩) hp
  .obtain ⟨rfl,hp⟩:=hp
   exact ⟨false,rfl,by simp [hp]⟩
  .obtain ⟨I,rfl,rfl⟩:=hp
   have y:=l data.length (by omega) (fun d x _=>I d x)
   rw [List.take_length] at y
   obtain ⟨b,b1,b2⟩:=Aix (data.map (·.Name)) (by simp; omega)
   obtain ⟨X,G,B⟩:=Aix (data.flatMap Fk) (by omega)
   simp only [b1,Ap,G]
   cases b with
   | true=>exact ⟨false,rfl,by simp; intro c; have:=b2.2 c.2.2.1; cases this⟩
   | false=>
    cases X with
    | true=>exact ⟨false,rfl,by simp; intro c; have:=B.2 c.2.2.2; cases this⟩
    | false=>exact ⟨true,rfl,by simp; exact ⟨h12,I,b2.1 rfl,B.1 rfl⟩⟩
end Go.Ab
namespace Go.Ab
open Go
def isV (σ:List Ao) (k n:Int):Bool:=k==4&&decide (0<=n)&&decide (n<(σ.length:Int))
mutual
def C3 (σ:List Ao):Ao->Ao
 | ⟨k,n,l⟩=>match (if isV σ k n then σ[n.toNat]? else none) with
  | some s=>s
  | none=>⟨k,n,Ku σ l⟩
def Ku (σ:List Ao):List Ao->List Ao
 | []=>[]
 | x::xs=>C3 σ x::Ku σ xs
end
theorem Acj (σ l:List Ao):Ku σ l=l.map (C3 σ):=by
 induction l with
 | nil=>rfl
 | cons x xs ih=>simp only [Ku,ih,List.map_cons]
theorem Vs {σ:List Ao} {k n:Int} (h:isV σ k n=true):∃s,σ[n.toNat]? = some s/\Au σ n=some s/\s∈σ:=by
 simp only [isV,Dl,decide_eq_true_eq] at h
 have b:n.toNat < σ.length:=by omega
 refine ⟨σ[n.toNat],Cv b,?_,List.getElem_mem b⟩
 unfold Au
 rw [if_pos (by omega),Cv b]
theorem Ts {σ:List Ao} {t s:Ao} (h:isV σ t.Kind t.Num=true) (b:σ[t.Num.toNat]? = some s):C3 σ t=s:=by
 cases t; simp only [C3] at *; simp [h,b]
theorem Vt {σ:List Ao} {t:Ao} (h:isV σ t.Kind t.Num=false):C3 σ t=⟨t.Kind,t.Num,t.Args.map (C3 σ)⟩:=by
 cases t; simp only [C3] at *; simp [h,Acj]
mutual
theorem Aiy:∀t:Ao,C3 [] t=t
 | ⟨k,n,l⟩=>by
  have hv:isV [] k n=false:=by
   unfold isV
   by_cases h:0<=n
   .rw [A8 (by simp; omega:¬n<(([]:List Ao).length:Int))]; simp
   .rw [A8 h]; simp
  simp only [C3,hv,Aiz l]; rfl
theorem Aiz:∀l:List Ao,Ku [] l=l
 | []=>rfl
 | x::xs=>by simp only [Ku,Aiy x,Aiz xs]
end
mutual
theorem Ack (σ:List Ao) (M:Nat) (hM:1<=M) (hσ:∀s∈σ,Br s<=M):∀t:Ao,Br (C3 σ t)<=Br t*M
 | ⟨k,n,l⟩=>by
  cases hv:isV σ k n with
  | true=>
   obtain ⟨s,h1,_,h3⟩:=Vs hv
   rw [Ts (t:=⟨k,n,l⟩) hv h1]
   have:=hσ s h3
   have h2:=Kt ⟨k,n,l⟩
   calc Br s<=1*M:=by omega
    _<=_:=Nat.mul_le_mul_right M h2
  | false=>
   have:=Ai0 σ M hM hσ l
   simp only [C3,hv,Br]
   simp only [Bool.false_eq_true,if_false,Br]
   rw [Nat.add_mul]; omega
theorem Ai0 (σ:List Ao) (M:Nat) (hM:1<=M) (hσ:∀s∈σ,Br s<=M):∀l:List Ao,Cw (Ku σ l)<=Cw l*M
 | []=>by simp [Ku,Cw]
 | x::xs=>by
  have h1:=Ack σ M hM hσ x
  have h2:=Ai0 σ M hM hσ xs
  simp only [Ku,Cw]
  rw [Nat.add_mul]; omega
end
theorem Acl (σ:List Ao) (t:Ao):(bif t.Kind==(4:Int) then bif decide (t.Num>=(0:Int)) then some (decide (t.Num<(σ.length:Int))) else some false else some false)=some (isV σ t.Kind t.Num):=by
 unfold isV
 cases t.Kind==4 <;> simp
 by_cases h:0<=t.Num <;> simp [h]
theorem At7:∀(k:Nat) (t:Ao) (σ:List Ao) (M:Nat),(∀s∈σ,Br s<=M)->Br t+M+1<=k->k<1099511627776->Jr k t σ=some (C3 σ t):=by
 intro k
 induction k with
 | zero=>intro t σ M _ h; omega
 | succ k ih=>
  intro t σ M c h hk
  have g:=Gd t
  have f:=Hq t.Args
  rw [Jr]
  rw [show (show Option Bool from bif t.Kind==(4:Int) then bif decide (t.Num>=(0:Int)) then some (decide (t.Num<(σ.length:Int))) else some false else some false)=some (isV σ t.Kind t.Num) from Acl σ t,Ap]
  cases b:isV σ t.Kind t.Num with
  | true=>
   obtain ⟨s,h1,h2,h3⟩:=Vs b
   have:=c s h3
   simp only [cond_true,h2,Ap,Ts b h1,ih s [] 0 (by simp) (by omega) (by omega),Aiy]
  | false=>
   rw [Vt b]
   simp only [cond_false]
   refine F6 t.Args (fun j=>((j:Int),(t.Args.take j).map (C3 σ))) rfl (by omega) ?_ ?_
   .intro j x hj hx h1 h2 h3
    have:=Gg (Cq hx)
    simp only [h1,h2,h3,cond_true,Ap,ih x σ M c (by omega) (by omega)]
    rw [Dw (by simp; omega),Ap,D7 hx]; simp
   .intro h1
    exact ⟨t.Args.map (C3 σ),by simp,rfl⟩
theorem At8:∀(k:Nat) (t:Ao),Br t<=k->k<1099511627776->Lz k t=some t:=by
 intro k
 induction k with
 | zero=>intro t h; have:=Kt t; omega
 | succ k ih=>
  intro t h hk
  have c:=Gd t
  have b:=Hq t.Args
  rw [Lz]
  refine F6 t.Args (fun j=>((j:Int),(t.Args.take j))) rfl (by omega) ?_ ?_
  .intro j x hj hx h1 h2 h3
   have:=Gg (Cq hx)
   simp only [h1,h2,h3,cond_true,Ap,ih x (by omega) (by omega)]
   rw [Dw (by simp; omega),Ap,D7 hx]
  .intro h1
   exact ⟨t.Args,by simp,by cases t; rfl⟩
theorem At9:∀(k:Nat) (t:Ao) (σ:List Ao) (M:Nat),(∀s∈σ,Br s<=M)->M<=4000000->Br t<=k->k<1099511627776->Js k t σ=some (C3 σ t):=by
 intro k
 induction k with
 | zero=>intro t σ M _ _ h; have:=Kt t; omega
 | succ k ih=>
  intro t σ M c i h hk
  have g:=Gd t
  have f:=Hq t.Args
  rw [Js]
  rw [show (show Option Bool from bif t.Kind==(4:Int) then bif decide (t.Num>=(0:Int)) then some (decide (t.Num<(σ.length:Int))) else some false else some false)=some (isV σ t.Kind t.Num) from Acl σ t,Ap]
  cases b:isV σ t.Kind t.Num with
  | true=>
   obtain ⟨s,h1,h2,h3⟩:=Vs b
   have:=c s h3
   simp only [cond_true,h2,Ap,Ts b h1,At8 4000000 s (by omega) (by omega)]
  | false=>
   rw [Vt b]
   simp only [cond_false]
   refine F6 t.Args (fun j=>((j:Int),(t.Args.take j).map (C3 σ))) rfl (by omega) ?_ ?_
   .intro j x hj hx h1 h2 h3
    have:=Gg (Cq hx)
    simp only [h1,h2,h3,cond_true,Ap,ih x σ M c i (by omega) (by omega)]
    rw [Dw (by simp; omega),Ap,D7 hx]; simp
   .intro h1
    exact ⟨t.Args.map (C3 σ),by simp,rfl⟩
theorem Aua:∀(k:Nat) (t:Ao),Br t<=k->Br t<1099511627776->Ki k t=some (Br t:Int):=by
 intro k
 induction k with
 | zero=>intro t h; have:=Kt t; omega
 | succ k ih=>
  intro t h g
  have b:=Gd t
  have c:=Hq t.Args
  rw [Ki]
  refine F6 t.Args (fun j=>(1+(Cw (t.Args.take j):Int),(j:Int))) rfl (by omega) ?_ ?_
  .intro j x hj hx h1 h2 h3
   have i:=Gg (Cq hx)
   have f:=Vp t.Args (j+1)
   have e:Cw (t.Args.take (j+1))=Cw (t.Args.take j)+Br x:=by rw [D7 hx,Yh]; simp [Cw]
   simp only [h1,h2,h3,cond_true,Ap,ih x (by omega) (by omega)]
   rw [show Al (1+(Cw (t.Args.take j):Int)+(Br x:Int))=1+(Cw (t.Args.take (j+1)):Int) by rw [e,Al,Cl] <;> omega]
  .intro h1
   exact ⟨1+(Cw t.Args:Int),by simp,by rw [b]; simp⟩
theorem Aub (σ:List Ao) (M:Nat) (G:1<=M) (u:M<=1048576) (A:∀s∈σ,Br s<=M):∀(k:Nat) (t:Ao),Br t<=k->Br t<=1048576 ->
  ∃v:Nat,Kj k t (σ.map fun s=>(Br s:Int))=some (v:Int)/\v<=Br (C3 σ t)/\((v=Br (C3 σ t))\/200<v):=by
 intro k
 induction k with
 | zero=>intro t h; have:=Kt t; omega
 | succ k ih=>
  intro t h D
  have B:=Gd t
  have z:=Hq t.Args
  have l:∀x,Br x<=1048576->Br (C3 σ x)<=1099511627776:=fun x hx=>by
   have:=Ack σ M G A x
   have:Br x*M<=1048576*1048576:=Nat.mul_le_mul hx u
   omega
  rw [Kj]
  rw [show (show Option Bool from bif t.Kind==(4:Int) then bif decide (t.Num>=(0:Int)) then some (decide (t.Num<((σ.map fun s=>(Br s:Int)).length:Int))) else some false else some false)=some (isV σ t.Kind t.Num) by rw [List.length_map]; exact Acl σ t,Ap]
  cases f:isV σ t.Kind t.Num with
  | true=>
   obtain ⟨s,h1,h2,h3⟩:=Vs f
   have hi:Au (σ.map fun s=>(Br s:Int)) t.Num=some (Br s:Int):=by
    have:=Eo h2
    rw [Cs (n:=t.Num.toNat) (by omega)]
    simp [h1]
   simp only [cond_true,hi,Ap,Ts f h1]
   exact ⟨Br s,rfl,Nat.le_refl _,.inl rfl⟩
  | false=>
   have y:=l t D
   rw [Vt f] at y ⊢
   simp only [cond_false]
   have g:Br ⟨t.Kind,t.Num,t.Args.map (C3 σ)⟩=1+Cw (t.Args.map (C3 σ)):=by simp only [Br]
   rw [g] at y ⊢
   refine Abo (fun v:Nat=>(v:Int)) (E3 (fun (n,i)=>∃j:Nat,i=j/\j<=t.Args.length/\n=1+(Cw ((t.Args.map (C3 σ)).take j):Int)) (fun (_,i)=>t.Args.length-i.toNat)
    (fun n=>∃v:Nat,n=v/\v<=1+Cw (t.Args.map (C3 σ))/\(v=1+Cw (t.Args.map (C3 σ))\/200<v)) ⟨0,rfl,by omega,by simp [Cw]⟩ ?_ ?_)
   .rintro ⟨n,i⟩ ⟨j,rfl,hj,q⟩
    have q:n=_:=q
    subst q
    rcases Nat.lt_or_ge j t.Args.length with h' | h'
    .have hx:t.Args[j]? = some t.Args[j]:=Cv h'
     generalize t.Args[j]=x at hx
     have J:=Gg (Cq hx)
     obtain ⟨v,b,v2,v3⟩:=ih x (by omega) (by omega)
     have c:(t.Args.map (C3 σ))[j]? = some (C3 σ x):=by simp [hx]
     have e:Cw ((t.Args.map (C3 σ)).take (j+1))=Cw ((t.Args.map (C3 σ)).take j)+Br (C3 σ x):=by rw [D7 c,Yh]; simp [Cw]
     have E:=Vp (t.Args.map (C3 σ)) (j+1)
     have I:Al (1+(Cw ((t.Args.map (C3 σ)).take j):Int)+(v:Int))=((1+Cw ((t.Args.map (C3 σ)).take j)+v:Nat):Int):=by rw [Al,Cl] <;> omega
     simp only [A4 (by omega:(j:Int)<(t.Args.length:Int)),cond_true,Cs rfl hx,Ap,b,D3 h' (by omega),I]
     by_cases hb:1+Cw ((t.Args.map (C3 σ)).take j)+v>200
     .rw [A4 (by omega)]
      exact .inr ⟨_,rfl,_,rfl,by omega,.inr hb⟩
     .rw [A8 (by omega)]
      refine .inl ⟨_,rfl,⟨j+1,rfl,by omega,?_⟩,by simp; omega⟩
      have:v=Br (C3 σ x):=by omega
      subst this
      rw [e]; omega
    .have:j=t.Args.length:=by omega
     subst this
     refine .inr ⟨_,by simp; rfl,1+Cw (t.Args.map (C3 σ)),?_,by omega,.inl rfl⟩
     rw [List.take_of_length_le (by simp)]; omega
   .rintro n ⟨v,rfl,b,v2⟩
    exact ⟨_,rfl,v,rfl,b,v2⟩
def Gp (data:List A5) (t:Ao) (c:Int):Option (List Ao) :=
 if t.Kind=5 then
  match Au data t.Num with
  | none=>none
  | some x=>if (t.Args.length:Int)=x.Vars then
    match Au x.Cons c with
    | none=>none
    | some y=>if (y.Args.map (C3 t.Args)).all (fun a=>decide (Br a<=200)) then some (y.Args.map (C3 t.Args)) else none
   else none
 else none
def okL (o:Option (List Ao)):List Ao×Bool:=match o with | none=>([],false) | some l=>(l,true)
theorem Auc {R:Type} (data:List A5) (t:Ao) (c:Int) (F:A5->Jc->Option R) (z:R) (X:Option R)
  (b:X=(match Au data t.Num with
   | none=>some z
   | some x=>match Au x.Cons c with
    | none=>some z
    | some y=>if t.Kind=5/\(t.Args.length:Int)=x.Vars then F x y else some z)):X=if t.Kind=5 then
  match Au data t.Num with
  | none=>some z
  | some x=>if (t.Args.length:Int)=x.Vars then
    match Au x.Cons c with
    | none=>some z
    | some y=>F x y
   else some z
 else some z:=by
 subst b
 by_cases h:t.Kind=5
 .rw [if_pos h]
  cases Au data t.Num with
  | none=>rfl
  | some x=>
   simp only
   by_cases h':(t.Args.length:Int)=x.Vars
   .rw [if_pos h']
    cases Au x.Cons c with
    | none=>rfl
    | some y=>simp [h,h']
   .rw [if_neg h']
    cases Au x.Cons c with
    | none=>rfl
    | some y=>simp [h']
 .rw [if_neg h]
  cases Au data t.Num with
  | none=>rfl
  | some x=>
   simp only
   cases Au x.Cons c with
   | none=>rfl
   | some y=>simp [h]
def Szv (data:List A5):Prop:=∀x∈data,∀y∈x.Cons,y.Args.length<=6/\∀a∈y.Args,Br a<=200
theorem Gi.szv {data:List A5} (h:Gi data):Szv data:=by
 intro x hx y hy
 obtain ⟨d,hd⟩:=List.getElem?_of_mem hx
 have h1:=h.2.1 d x hd
 obtain ⟨_,c,b⟩:=h1.2.2.2.2.2 y hy
 refine ⟨c,fun a ha=>?_⟩
 have:=List.all_eq_true.1 b a ha
 unfold Ht at this
 rw [Bool.or_eq_true] at this
 rcases this with h' | h'
 .exact (Ace hd h1.2.1 h').2
 .simp only [Dl,decide_eq_true_eq] at h'; exact h'.2
theorem Aud {t a:Ao} (c:Br t<=200) (ha:Br a<=200):Br (C3 t.Args a)<=40000:=by
 have h1:=Ack t.Args 200 (by omega) (fun s b=>by have:=Gg b; have:=Gd t; omega) a
 have:Br a*200<=200*200:=Nat.mul_le_mul_right 200 ha
 omega
theorem Acm {data:List A5} (A:Szv data) (t:Ao) (B:Br t<=200) (c:Int):Qx data t c=some (okL (Gp data t c)):=by
 have G:Qx data t c=_:=Auc data t c (fun x y=>(Bc (S:=(Int×(List Ao))) (E:=(((List Ao)×Bool)⊕(List Ao))) (fun (v22,f)=>
   bif (decide (v22<(y.Args.length:Int))) then (
   (Au y.Args v22).bind fun v24=>
   (Js (4000000) v24 t.Args).bind fun v26=>
   (Ja (4000000) v26).bind fun v28=>
   bif (decide (v28>(200:Int))) then some (.inr (.inl ([],false)))
   else (
   (Cr 40 f [v26]).bind fun u=>
   some (.inl ((Al (v22+1)),u))))
   else some (.inr (.inr f))) (0,[])).bind fun z=>
   match z with
   | .inl (l,k)=>some (l,k)
   | .inr q=>some (q,true)) ([],false) _ (by
  unfold Qx
  by_cases hk:t.Kind=5
  .simp only [C0 hk,cond_false]
   cases hx:Au data t.Num with
   | none=>
    rcases M1 hx with h | h
    .simp only [A4 h,cond_true,Ap]
    .by_cases h':t.Num<0
     .simp only [A4 h',cond_true,Ap]
     .simp only [A8 h',A4 (show t.Num>=(data.length:Int) from h),cond_true,cond_false,Ap]
   | some x=>
    obtain ⟨a1,a2,_,_⟩:=Eo hx
    simp only [A8 (by omega:¬t.Num<0),A8 (by omega:¬t.Num>=(data.length:Int)),cond_false,Ap]
    by_cases b:(t.Args.length:Int)=x.Vars
    .simp only [C0 b,cond_false]
     cases hy:Au x.Cons c with
     | none=>
      rcases M1 hy with h | h
      .simp only [A4 h,cond_true,Ap]
      .by_cases h':c<0
       .simp only [A4 h',cond_true,Ap]
       .simp only [A8 h',A4 (show c>=(x.Cons.length:Int) from h),cond_true,cond_false,Ap]
     | some y=>
      obtain ⟨b1,b2,_,_⟩:=Eo hy
      simp only [A8 (by omega:¬c<0),A8 (by omega:¬c>=(x.Cons.length:Int)),cond_false,Ap,hk,b,and_self,if_true]
      rfl
    .simp only [C7 b,cond_true,Ap]
     cases hy:Au x.Cons c with
     | none=>rfl
     | some y=>simp [b]
  .simp only [C7 hk,cond_true,Ap]
   cases hx:Au data t.Num with
   | none=>rfl
   | some x=>
    simp only
    cases hy:Au x.Cons c with
    | none=>rfl
    | some y=>simp [hk])
 rw [G]
 unfold Gp
 by_cases hk:t.Kind=5
 .rw [if_pos hk,if_pos hk]
  cases hx:Au data t.Num with
  | none=>rfl
  | some x=>
   simp only
   by_cases b:(t.Args.length:Int)=x.Vars
   .rw [if_pos b,if_pos b]
    cases hy:Au x.Cons c with
    | none=>rfl
    | some y=>
     simp only
     obtain ⟨I,i⟩:=A x (Eo hx).2.2.2 y (Eo hy).2.2.2
     refine (Jw (rt:=(y.Args.map (C3 t.Args),true)) (rf:=([],false)) y.Args (fun a=>decide (Br (C3 t.Args a)<=200)) (fun j=>((j:Int),(y.Args.take j).map (C3 t.Args))) rfl (by omega) ?_ ?_).trans ?_
     .intro j a ha h1 h2 h3
      have hj:=Em ha
      have s1:=i a (Cq ha)
      have s2:=Aud B s1
      simp only [h1,h2,h3,cond_true,Ap,At9 4000000 a t.Args 200 (fun s D=>by have:=Gg D; have:=Gd t; omega) (by omega) (by omega) (by omega),Aik 4000000 (C3 t.Args a) (by omega) (by omega)]
      by_cases hb:Br (C3 t.Args a)<=200
      .rw [A4 hb,A8 (by omega)]
       refine ⟨fun _=>?_,fun h=>by cases h⟩
       rw [Dw (by simp; omega)]
       simp only [cond_false,Ap]
       rw [D7 ha]; simp
      .rw [A8 hb,A4 (by omega)]
       exact ⟨(fun h=>by cases h),fun _=>⟨_,rfl,rfl⟩⟩
     .intro h1
      exact ⟨.inr (y.Args.map (C3 t.Args)),by simp,rfl⟩
     .rw [List.all_map]
      cases g:y.Args.all ((fun a=>decide (Br a<=200)) ∘ C3 t.Args) with
      | true=>rw [if_pos rfl]; rw [show (y.Args.all fun a=>decide (Br (C3 t.Args a)<=200))=true from g]; rfl
      | false=>rw [show (y.Args.all fun a=>decide (Br (C3 t.Args a)<=200))=false from g]; rfl
   .rw [if_neg b,if_neg b]; rfl
 .rw [if_neg hk,if_neg hk]; rfl
end Go.Ab
namespace Go.Ab
open Go
theorem Acn {data:List A5} (A:Szv data) (t:Ao) (I:Br t<=200) (c:Int):Tb data t c=some (okL (Gp data t c)):=by
 have B:=Gd t
 have u:=Hq t.Args
 unfold Tb Gp
 by_cases hk:t.Kind=5
 .simp only [C0 hk,cond_false,if_pos hk]
  cases hx:Au data t.Num with
  | none=>
   rcases M1 hx with h | h
   .simp only [A4 h,cond_true,Ap,okL]
   .by_cases h':t.Num<0
    .simp only [A4 h',cond_true,Ap,okL]
    .simp only [A8 h',A4 (show t.Num>=(data.length:Int) from h),cond_true,cond_false,Ap,okL]
  | some x=>
   obtain ⟨a1,a2,_,hxm⟩:=Eo hx
   simp only [A8 (by omega:¬t.Num<0),A8 (by omega:¬t.Num>=(data.length:Int)),cond_false,Ap]
   by_cases g:(t.Args.length:Int)=x.Vars
   .simp only [C0 g,cond_false,if_pos g]
    cases hy:Au x.Cons c with
    | none=>
     rcases M1 hy with h | h
     .simp only [A4 h,cond_true,Ap,okL]
     .by_cases h':c<0
      .simp only [A4 h',cond_true,Ap,okL]
      .simp only [A8 h',A4 (show c>=(x.Cons.length:Int) from h),cond_true,cond_false,Ap,okL]
    | some y=>
     obtain ⟨b1,b2,_,k⟩:=Eo hy
     obtain ⟨G,b⟩:=A x hxm y k
     simp only [A8 (by omega:¬c<0),A8 (by omega:¬c>=(x.Cons.length:Int)),cond_false,Ap]
     rw [Ko (n:=t.Args.length) (c:=t.Args.length) rfl rfl (by omega) (by omega) (by omega),Ap]
     refine F6 t.Args (fun j=>((j:Int),((t.Args.take j).map fun s=>(Br s:Int))++List.replicate (t.Args.length-j) 0)) rfl (by omega) ?_ ?_
     .intro j s hj i h1 h2 h3
      have:=Gg (Cq i)
      obtain ⟨m,D⟩:∃m,t.Args.length-j=m+1:=⟨t.Args.length-j-1,by omega⟩
      have E:t.Args.length-(j+1)=m:=by omega
      have l:j=((t.Args.take j).map fun s=>(Br s:Int)).length:=by simp; omega
      simp only [h1,h2,h3,cond_true,Ap,Aua 4000000 s (by omega) (by omega),D,E,List.replicate_succ,Yk _ _ _ (j:Int) j rfl l,Yj _ _ _ _ (j:Int) j rfl l,D7 i]
      simp
     .intro h1
      refine ⟨t.Args.map fun s=>(Br s:Int),by simp,?_⟩
      have q:∀s∈t.Args,Br s<=200:=fun s i=>by have:=Gg i; omega
      refine (Jw (rt:=(y.Args.map (C3 t.Args),true)) (rf:=([],false)) y.Args (fun a=>decide (Br (C3 t.Args a)<=200)) (fun j=>(j:Int)) rfl (by omega) ?_ ?_).trans ?_
      .intro j a ha h1 h2 h3
       have s1:=b a (Cq ha)
       obtain ⟨v,z,v2,v3⟩:=Aub t.Args 200 (by omega) (by omega) q 4000000 a (by omega) (by omega)
       simp only [h1,h2,h3,cond_true,Ap,z]
       by_cases hb:Br (C3 t.Args a)<=200
       .rw [A4 hb,A8 (by omega)]
        exact ⟨fun _=>rfl,fun h=>by cases h⟩
       .rw [A8 hb,A4 (by omega)]
        exact ⟨(fun h=>by cases h),fun _=>⟨_,rfl,rfl⟩⟩
      .intro h1
       refine ⟨.inr (),by simp,?_⟩
       simp only
       refine F6 y.Args (fun j=>((j:Int),(y.Args.take j).map (C3 t.Args))) rfl (by omega) ?_ ?_
       .intro j a hj ha h1 h2 h3
        have s1:=b a (Cq ha)
        simp only [h1,h2,h3,cond_true,Ap,At7 4000000 a t.Args 200 q (by omega) (by omega)]
        rw [Dw (by simp; omega),Ap,D7 ha]; simp
       .intro h1
        exact ⟨y.Args.map (C3 t.Args),by simp,rfl⟩
      .rw [List.all_map]
       cases f:y.Args.all ((fun a=>decide (Br a<=200)) ∘ C3 t.Args) with
       | true=>rw [if_pos rfl]; rw [show (y.Args.all fun a=>decide (Br (C3 t.Args a)<=200))=true from f]; rfl
       | false=>rw [show (y.Args.all fun a=>decide (Br (C3 t.Args a)<=200))=false from f]; rfl
   .simp only [C7 g,cond_true,Ap,if_neg g,okL]
 .simp only [C7 hk,cond_true,Ap,if_neg hk,okL]
theorem Aue {data:List A5} (b:Szv data) (t:Ao) (f:Br t<=200) (c:Int):Uv data t c=some (okL (Gp data t c)):=Acn b t f c
theorem Auf {data:List A5} (b:Szv data) (t:Ao) (f:Br t<=200) (c:Int):Uw data t c=some (okL (Gp data t c)):=Acm b t f c
theorem Ow {data:List A5} {t:Ao} {c:Int} {l:List Ao} (h:Gp data t c=some l) :
  ∃x y,t.Kind=5/\Au data t.Num=some x/\(t.Args.length:Int)=x.Vars/\Au x.Cons c=some y/\l=y.Args.map (C3 t.Args)/\∀a∈l,Br a<=200:=by
 unfold Gp at h
 by_cases hk:t.Kind=5
 .rw [if_pos hk] at h
  cases hx:Au data t.Num with
  | none=>rw [hx] at h; cases h
  | some x=>
   rw [hx] at h
   simp only at h
   by_cases f:(t.Args.length:Int)=x.Vars
   .rw [if_pos f] at h
    cases hy:Au x.Cons c with
    | none=>rw [hy] at h; cases h
    | some y=>
     rw [hy] at h
     simp only at h
     by_cases b:(y.Args.map (C3 t.Args)).all (fun a=>decide (Br a<=200))=true
     .rw [if_pos b] at h
      cases h
      refine ⟨x,y,hk,rfl,f,hy,rfl,fun a ha=>?_⟩
      have:=List.all_eq_true.1 b a ha
      simpa using this
     .rw [if_neg b] at h; cases h
   .rw [if_neg f] at h; cases h
 .rw [if_neg hk] at h; cases h
def F0 (l:List Ao) (r:List Bool):List Ao:=((l.zip r).filter fun p=>!p.2).map (·.1)
def G7 (data:List A5) (t:Ao) (c:Int):Option (List Ao):=(Gp data t c).map fun l=>F0 l (Ec data t.Num c)
theorem Vu {data:List A5} {t:Ao} {c:Int} {l:List Ao} (h:Gp data t c=some l):(Ec data t.Num c).length=l.length:=by
 obtain ⟨x,y,_,hx,_,hy,rfl,_⟩:=Ow h
 unfold Ec
 simp only [hx,hy,List.length_map]
theorem Aco {l:List Ao} {r:List Bool} {j:Nat} {a:Ao} {b:Bool} (h1:l[j]? = some a) (h2:r[j]? = some b):F0 (l.take (j+1)) (r.take (j+1))=F0 (l.take j) (r.take j)++bif b then [] else [a]:=by
 unfold F0
 have f:=Em h1
 have c:=Em h2
 rw [D7 h1,D7 h2,List.zip_append (by simp; omega)]
 cases b <;> simp
theorem Acp (l:List Ao) (r:List Bool):(F0 l r).length<=l.length:=by
 unfold F0
 rw [List.length_map]
 refine Nat.le_trans (List.length_filter_le _ _) ?_
 rw [List.length_zip]; omega
theorem Yp {data:List A5} (f:Szv data) (k:Hs data) (t:Ao) (i:Br t<=200) (c:Int):Qb data t c=some (okL (G7 data t c)):=by
 unfold Qb G7
 rw [Acn f t i c,Ap]
 cases g:Gp data t c with
 | none=>rfl
 | some l=>
  have q:=Vu g
  obtain ⟨x,y,_,hx,_,hy,u,_⟩:=Ow g
  obtain ⟨h,_⟩:=f x (Eo hx).2.2.2 y (Eo hy).2.2.2
  have s:l.length<=6:=by rw [u]; simpa using h
  simp only [okL,Dr,cond_false,Yl data t.Num c k,Ap,Option.map_some]
  refine F6 (Ec data t.Num c) (fun j=>((j:Int),F0 (l.take j) ((Ec data t.Num c).take j))) (by simp [F0]) (by omega) ?_ ?_
  .intro j b hj hb h1 h2 h3
   have ha:l[j]? = some l[j]:=Cv (by omega)
   generalize l[j]=a at ha
   have z:=Acp (l.take j) ((Ec data t.Num c).take j)
   have:(l.take j).length<=6:=by simp; omega
   simp only [h1,h2,h3,cond_true,Ap,Cs rfl ha,Aco ha hb]
   rw [Dw (by simp; omega)]
   cases b <;> simp
  .intro h1
   refine ⟨F0 l (Ec data t.Num c),?_,rfl⟩
   simp only [h1]
   rw [List.take_of_length_le (by omega),List.take_of_length_le (Nat.le_refl _)]; rfl
def Jy (r:List Bool):List Int:=(r.zipIdx.filter fun p=>!p.1).map fun p=>(p.2:Int)
def Ra (r:List Bool):List Int:=(r.zipIdx.filter fun p=>p.1).map fun p=>(p.2:Int)
theorem Acq {r:List Bool} {j:Nat} {b:Bool} (h:r[j]? = some b):(r.take (j+1)).zipIdx=(r.take j).zipIdx++[(b,j)]:=by
 have:=Em h
 rw [D7 h,List.zipIdx_append]; simp; omega
theorem Aug {data:List A5} (g:Szv data) (k:Hs data) (t:Ao) (i:Br t<=200) (c:Int) {l:List Ao} (f:Gp data t c=some l):S3 data t c=some (Jy (Ec data t.Num c),Ra (Ec data t.Num c),true):=by
 unfold S3
 have q:=Vu f
 obtain ⟨x,y,_,hx,_,hy,u,_⟩:=Ow f
 obtain ⟨h,_⟩:=g x (Eo hx).2.2.2 y (Eo hy).2.2.2
 have s:l.length<=6:=by rw [u]; simpa using h
 rw [Acm g t i c,f,Ap]
 simp only [okL,Dr,cond_false,Atd data t.Num c k,Ap]
 generalize Ec data t.Num c=r at *
 refine F6 r (fun j=>((j:Int),Jy (r.take j),Ra (r.take j))) (by simp [Jy,Ra]) (by omega) ?_ ?_
 .intro j b hj hb h1 h2 h3
  have A:(Jy (r.take j)).length<=6:=by
   unfold Jy; rw [List.length_map]; refine Nat.le_trans (List.length_filter_le _ _) ?_; simp; omega
  have z:(Ra (r.take j)).length<=6:=by
   unfold Ra; rw [List.length_map]; refine Nat.le_trans (List.length_filter_le _ _) ?_; simp; omega
  simp only [h1,h2,h3,cond_true,Ap]
  rw [Dw (by simp; omega),Dw (by simp; omega)]
  unfold Jy Ra
  rw [Acq hb]
  cases b <;> simp
 .intro h1
  exact ⟨(Jy r,Ra r),by simp,rfl⟩
theorem Auh {l:List Ao} {r:List Bool} (h:r.length=l.length):∀(j:Nat) (a:Int),(Jy r)[j]? = some a->∃x,Au l a=some x/\(F0 l r)[j]? = some x:=by
 intro j a ha
 have e:F0 l r=(r.zipIdx.filter fun p=>!p.1).map fun p=>(l[p.2]?).getD ⟨0,0,[]⟩:=by
  unfold F0
  have key:∀n,n<=r.length->(((l.take n).zip (r.take n)).filter fun p=>!p.2).map (·.1)=((r.take n).zipIdx.filter fun p=>!p.1).map fun p=>(l[p.2]?).getD ⟨0,0,[]⟩:=by
   intro n
   induction n with
   | zero=>intro _; simp
   | succ n ih=>
    intro g
    have h1:l[n]? = some l[n]:=Cv (by omega)
    have h2:r[n]? = some r[n]:=Cv (by omega)
    have:=Aco h1 h2
    unfold F0 at this
    rw [this,ih (by omega),Acq h2]
    cases r[n] <;> simp [h1]
  have:=key r.length (Nat.le_refl _)
  rw [List.take_of_length_le (by omega),List.take_of_length_le (Nat.le_refl _)] at this
  exact this
 unfold Jy at ha
 rw [List.getElem?_map] at ha
 cases hp:(r.zipIdx.filter fun p=>!p.1)[j]? with
 | none=>rw [hp] at ha; cases ha
 | some p=>
  rw [hp] at ha
  cases ha
  have c:=Cq hp
  rw [List.mem_filter] at c
  have b:r[p.2]? = some p.1:=List.mk_mem_zipIdx_iff_getElem?.1 c.1
  have f:=Em b
  have hx:l[p.2]? = some l[p.2]:=Cv (by omega)
  refine ⟨l[p.2],Cs rfl hx,?_⟩
  rw [e,List.getElem?_map,hp]
  simp [hx]
theorem Aui {l:List Ao} {r:List Bool} (h:r.length=l.length):(Jy r).length=(F0 l r).length:=by
 unfold Jy F0
 simp only [List.length_map]
 have key:∀n,n<=r.length->(((l.take n).zip (r.take n)).filter fun p=>!p.2).length=((r.take n).zipIdx.filter fun p=>!p.1).length:=by
  intro n
  induction n with
  | zero=>intro _; simp
  | succ n ih=>
   intro b
   have h1:l[n]? = some l[n]:=Cv (by omega)
   have h2:r[n]? = some r[n]:=Cv (by omega)
   rw [Acq h2,D7 h1,D7 h2,List.zip_append (by simp; omega),List.filter_append,List.length_append,ih (by omega),List.filter_append,List.length_append]
   cases r[n] <;> simp
 have:=key r.length (Nat.le_refl _)
 rw [List.take_of_length_le (by omega),List.take_of_length_le (Nat.le_refl _)] at this
 exact this.symm
theorem Yq {data:List A5} (g:Szv data) (q:Hs data) (t:Ao) (i:Br t<=200) (c:Int):Qc data t c=some (okL (G7 data t c)):=by
 unfold Qc G7
 rw [Acm g t i c,Ap]
 cases h:Gp data t c with
 | none=>rfl
 | some l=>
  have f:=Vu h
  obtain ⟨x,y,_,hx,_,hy,z,_⟩:=Ow h
  obtain ⟨k,_⟩:=g x (Eo hx).2.2.2 y (Eo hy).2.2.2
  have u:l.length<=6:=by rw [z]; simpa using k
  simp only [okL,Dr,cond_false,Aug g q t i c h,Ap,Option.map_some]
  generalize Ec data t.Num c=r at *
  have s:=Aui f
  have A:=Acp l r
  refine F6 (Jy r) (fun j=>((j:Int),(F0 l r).take j)) (by simp) (by omega) ?_ ?_
  .intro j b hj hb h1 h2 h3
   obtain ⟨a,a1,a2⟩:=Auh f j b hb
   simp only [h1,h2,h3,cond_true,Ap,a1]
   rw [Dw (by simp; omega),Ap,D7 a2]
  .intro h1
   refine ⟨F0 l r,?_,rfl⟩
   simp only [h1]
   rw [List.take_of_length_le (by omega)]; rfl
theorem Acr {data:List A5} {t:Ao} {c:Int} {l:List Ao} (h:G7 data t c=some l):(∀a∈l,Br a<=200)/\∃x,Au data t.Num=some x/\0<=c/\c<x.Cons.length:=by
 unfold G7 at h
 cases b:Gp data t c with
 | none=>rw [b] at h; cases h
 | some m=>
  rw [b] at h
  cases h
  obtain ⟨x,y,_,hx,_,hy,_,g⟩:=Ow b
  refine ⟨fun a ha=>?_,x,hx,(Eo hy).1,(Eo hy).2.1⟩
  unfold F0 at ha
  obtain ⟨p,f,rfl⟩:=List.mem_map.1 ha
  exact g _ (List.of_mem_zip (List.mem_filter.1 f).1).1
end Go.Ab
namespace Go.Ab
open Go
mutual
def isz:Be->Nat
 | ⟨_,l⟩=>1+E6 l
def E6:List Be->Nat
 | []=>0
 | x::xs=>isz x+E6 xs
end
theorem Gj (t:Be):isz t=1+E6 t.Kids:=by cases t; simp only [isz]
theorem L8 {l:List Be} {a:Be} (h:a∈l):isz a<=E6 l:=by
 induction l with
 | nil=>cases h
 | cons x xs ih=>
  simp only [E6]
  rcases List.mem_cons.1 h with rfl | h
  .omega
  .have:=ih h; omega
theorem Kv (l:List Be):l.length<=E6 l:=by
 induction l with
 | nil=>simp
 | cons x xs ih=>simp only [E6,List.length_cons]; have:=Gj x; omega
mutual
def F1 (data:List A5):Be->Ao->Option Nat
 | ⟨n,kids⟩,t=>
  if t.Kind=6 then (if n=0 then Ed data kids t.Args else none)
  else if t.Kind=7 then (if 0<=n/\n<=6/\kids.length=0 then some n.toNat else none)
  else if t.Kind=5 then (if n=0 then F7 data kids t else none)
  else if n=0/\kids.length=0 then some 0 else none
def Ed (data:List A5):List Be->List Ao->Option Nat
 | [],[]=>some 0
 | i::is,t::ts=>(F1 data i t).bind fun a=>(Ed data is ts).map (a + ·)
 | [],_::_=>none
 | _::_,[]=>none
def F7 (data:List A5):List Be->Ao->Option Nat
 | [],_=>some 0
 | ⟨n,kids⟩::es,t=>(G7 data t n).bind fun ts=>(Ed data kids ts).bind fun a=>(F7 data es t).map (1+a + ·)
end
theorem Yr (data:List A5) (i:Be) (t:Ao):F1 data i t=if t.Kind=6 then (if i.Num=0 then Ed data i.Kids t.Args else none)
  else if t.Kind=7 then (if 0<=i.Num/\i.Num<=6/\i.Kids.length=0 then some i.Num.toNat else none)
  else if t.Kind=5 then (if i.Num=0 then F7 data i.Kids t else none)
  else if i.Num=0/\i.Kids.length=0 then some 0 else none:=by cases i; simp only [F1]
theorem Vv (data:List A5) (e:Be) (es:List Be) (t:Ao):F7 data (e::es) t=(G7 data t e.Num).bind fun b=>(Ed data e.Kids b).bind fun a=>(F7 data es t).map (1+a + ·):=by cases e; simp only [F7]
theorem Vw (data:List A5) (i:Be) (c:List Be) (t:Ao) (b:List Ao):Ed data (i::c) (t::b)=(F1 data i t).bind fun a=>(Ed data c b).map (a + ·):=by simp only [Ed]
theorem Ys (data:List A5):∀(c:List Be) (b:List Ao),b.length≠c.length->Ed data c b=none
 | [],[],h=>absurd rfl h
 | i::c,t::b,h=>by rw [Vw,Ys data c b (by simpa using h)]; cases F1 data i t <;> rfl
 | [],_::_,_=>by simp only [Ed]
 | _::_,[],_=>by simp only [Ed]
theorem Ai1 (data:List A5):∀(es:List Be) (t:Ao) (d:Nat),F7 data es t=some d->es.length<=d
 | [],_,_,_=>by simp
 | e::es,t,d,h=>by
  rw [Vv] at h
  cases h1:G7 data t e.Num with
  | none=>rw [h1] at h; cases h
  | some c=>
   rw [h1,Ap] at h
   cases h2:Ed data e.Kids c with
   | none=>rw [h2] at h; cases h
   | some a=>
    rw [h2,Ap] at h
    cases h3:F7 data es t with
    | none=>rw [h3] at h; cases h
    | some b=>
     rw [h3] at h
     cases h
     have:=Ai1 data es t b h3
     simp only [List.length_cons]; omega
def Fw (o:Option Nat):Int:=match o with | some d=>if d<=6 then (d:Int) else -1 | none => -1
theorem Yt {d:Nat} (h:d<=6):Fw (some d)=d:=by simp [Fw,h]
theorem Acs {d:Nat} (h:6<d):Fw (some d) = -1:=by simp only [Fw]; rw [if_neg (by omega)]
theorem Acu (o:Option Nat):(Fw o = -1/\∀d,o=some d->6<d)\/∃d,o=some d/\d<=6/\Fw o=d:=by
 cases o with
 | none=>exact .inl ⟨rfl,fun d h=>by cases h⟩
 | some d=>
  rcases Nat.lt_or_ge 6 d with h | h
  .exact .inl ⟨Acs h,fun e b=>by cases b; exact h⟩
  .exact .inr ⟨d,rfl,h,Yt h⟩
theorem Rb {o:Option Nat} (h:∀d,o=some d->6<d):Fw o = -1:=by
 cases o with
 | none=>rfl
 | some d=>exact Acs (h d rfl)
def Pr (p:Int×Bool) (o:Option Nat):Prop:=(p.2=true/\∃d:Nat,o=some d/\d<=6/\p.1=d)\/(p.2=false/\∀d,o=some d->6<d)
theorem Kw {α:Type} {l:List α} {j:Nat} {x:α} (h:l[j]? = some x):l.drop j=x::l.drop (j+1):=by
 have hj:=Em h
 rw [List.drop_eq_getElem_cons hj]
 rw [Cv hj] at h
 rw [Option.some.inj h]
theorem Auj {data:List A5} (N:Szv data) (R:Hs data):∀k:Nat,
  (∀(i:Be) (t:Ao),2*isz i<=k->isz i<=1048576->Br t<=200->∃p,Ke k data t i=some p/\Pr p (F1 data i t)) /\
  (∀(f:List Be) (c:List Ao),2*E6 f+1<=k->E6 f<=1048576->(∀t∈c,Br t<=200)->∃p,Lx k data c f=some p/\Pr p (Ed data f c)):=by
 intro k
 induction k with
 | zero=>exact ⟨fun i t h=>by have:=Gj i; omega,fun f c h=>by omega⟩
 | succ k ih=>
  obtain ⟨a6,L⟩:=ih
  constructor
  .intro i t hk hi J
   have aa:=Gj i
   have a7:=Kv i.Kids
   rw [Ke,Yr]
   by_cases V:t.Kind=6
   .simp only [Ct V,cond_true,if_pos V]
    by_cases s:i.Num=0
    .simp only [C0 s,cond_false,if_pos s]
     obtain ⟨p,p1,p2⟩:=L i.Kids t.Args (by omega) (by omega) (fun a ha=>by have:=Gg ha; have:=Gd t; omega)
     rw [p1]
     exact ⟨p,rfl,p2⟩
    .simp only [C7 s,cond_true,if_neg s]
     exact ⟨_,rfl,.inr ⟨rfl,fun d h=>by cases h⟩⟩
   .simp only [Cg V,cond_false,if_neg V]
    by_cases U:t.Kind=7
    .simp only [Ct U,cond_true,if_pos U]
     by_cases a1:0<=i.Num
     .by_cases a2:i.Num<=6
      .by_cases a3:i.Kids.length=0
       .rw [A4 (show i.Num>=0 from a1),A4 a2,if_pos ⟨a1,a2,a3⟩]
        exact ⟨_,rfl,.inl ⟨by simp [a3],i.Num.toNat,rfl,by omega,by simp; omega⟩⟩
       .rw [A4 (show i.Num>=0 from a1),A4 a2,if_neg (fun h=>a3 h.2.2)]
        exact ⟨_,rfl,.inr ⟨Cg (by omega),fun d h=>by cases h⟩⟩
      .rw [A4 (show i.Num>=0 from a1),A8 a2,if_neg (fun h=>a2 h.2.1)]
       exact ⟨_,rfl,.inr ⟨rfl,fun d h=>by cases h⟩⟩
     .rw [A8 (show ¬i.Num>=0 from a1),if_neg (fun h=>a1 h.1)]
      exact ⟨_,rfl,.inr ⟨rfl,fun d h=>by cases h⟩⟩
    .simp only [Cg U,cond_false,if_neg U]
     by_cases X:t.Kind=5
     .simp only [Ct X,cond_true,if_pos X]
      by_cases s:i.Num=0
      .simp only [C0 s,cond_false,if_pos s]
       have key:∀(m j acc:Nat),j+m=i.Kids.length->acc<=6->∃z,Bc (S:=(Int×Int)) (E:=((Int×Bool)⊕Int)) (fun (v8,v9)=>
         bif (decide (v9<(i.Kids.length:Int))) then (
         (Au i.Kids v9).bind fun v10=>
         (Qb data t v10.Num).bind fun v12=>
         bif (!v12.2) then some (.inr (.inl (0,false)))
         else (
         (Lx k data v12.1 v10.Kids).bind fun v13=>
         bif (!v13.2) then some (.inr (.inl (0,false)))
         else (
         bif (decide ((Al (v8+(Al (1+v13.1))))>(6:Int))) then some (.inr (.inl (0,false)))
         else some (.inl ((Al (v8+(Al (1+v13.1)))),(Al (v9+1)))))))
         else some (.inr (.inr v8))) ((acc:Int),(j:Int))=some z/\(match z with | .inl p=>p=(0,false)/\∀d,(F7 data (i.Kids.drop j) t).map (acc + ·)=some d->6<d | .inr v=>∃d:Nat,(F7 data (i.Kids.drop j) t).map (acc + ·)=some d/\d<=6/\v=d):=by
        intro m
        induction m with
        | zero=>
         intro j acc hj l
         have:j=i.Kids.length:=by omega
         subst this
         exact ⟨.inr (acc:Int),E9 (by simp),acc,by simp [F7],l,rfl⟩
        | succ m A=>
         intro j acc hj l
         have g:i.Kids[j]? = some i.Kids[j]:=Cv (by omega)
         generalize i.Kids[j]=e at g
         have a8:=L8 (Cq g)
         have ab:=Gj e
         rw [Kw g,Vv]
         cases hp:G7 data t e.Num with
         | none=>
          refine ⟨.inl (0,false),E9 ?_,rfl,fun d h=>by simp at h⟩
          simp only [A4 (by omega:(j:Int)<(i.Kids.length:Int)),cond_true,Cs rfl g,Ap,Yp N R t J e.Num,hp,okL,Bool.not_false]
         | some c=>
          obtain ⟨q,I,x⟩:=L e.Kids c (by omega) (by omega) (Acr hp).1
          rcases x with ⟨x,a,B,q4,q5⟩ | ⟨x,B⟩
          .have Y:Al ((acc:Int)+Al (1+q.1))=((acc+(1+a):Nat):Int):=by
            rw [q5,show Al (1+(a:Int))=((1+a:Nat):Int) by rw [Al,Cl] <;> omega,Al,Cl] <;> omega
           by_cases hb:acc+(1+a)<=6
           .obtain ⟨z,y,z2⟩:=A (j+1) (acc+(1+a)) (by omega) hb
            refine ⟨z,?_,?_⟩
            .rw [I2 (s':=(((acc+(1+a):Nat):Int),((j+1:Nat):Int)))]
             .exact y
             .simp only [A4 (by omega:(j:Int)<(i.Kids.length:Int)),cond_true,Cs rfl g,Ap,Yp N R t J e.Num,hp,okL,Dr,cond_false,I,x,Y,A8 (by omega:¬((acc+(1+a):Nat):Int)>6),D3 (show j<i.Kids.length by omega) (by omega)]
            .have G:∀o:Option Nat,(((some a:Option Nat).bind fun a=>o.map (1+a + ·)).map (acc + ·))=o.map (acc+(1+a) + ·):=by
              intro o; cases o <;> simp [Nat.add_assoc]
             rw [Ap,B,G]
             exact z2
           .refine ⟨.inl (0,false),E9 ?_,rfl,fun d h=>?_⟩
            .simp only [A4 (by omega:(j:Int)<(i.Kids.length:Int)),cond_true,Cs rfl g,Ap,Yp N R t J e.Num,hp,okL,Dr,cond_false,I,x,Y,A4 (by omega:((acc+(1+a):Nat):Int)>6)]
            .rw [Ap,B,Ap] at h
             cases D:F7 data (i.Kids.drop (j+1)) t with
             | none=>rw [D] at h; cases h
             | some b=>rw [D] at h; simp at h; omega
          .refine ⟨.inl (0,false),E9 ?_,rfl,fun d h=>?_⟩
           .simp only [A4 (by omega:(j:Int)<(i.Kids.length:Int)),cond_true,Cs rfl g,Ap,Yp N R t J e.Num,hp,okL,Dr,cond_false,I,x,Bool.not_false]
           .rw [Ap] at h
            cases ha:Ed data e.Kids c with
            | none=>rw [ha] at h; cases h
            | some a=>
             rw [ha,Ap] at h
             have:=B a ha
             cases D:F7 data (i.Kids.drop (j+1)) t with
             | none=>rw [D] at h; cases h
             | some b=>rw [D] at h; simp at h; omega
       obtain ⟨z,y,z2⟩:=key i.Kids.length 0 0 (by omega) (by omega)
       have y:Bc _ ((0:Int),(0:Int))=some z:=y
       rw [y,Ap]
       have G:∀o:Option Nat,o.map (0 + ·)=o:=by intro o; cases o <;> simp
       rw [List.drop_zero,G] at z2
       match z,z2 with
       | .inl p,z2=>exact ⟨_,rfl,.inr ⟨by rw [z2.1],z2.2⟩⟩
       | .inr v,z2=>
        obtain ⟨d,d1,d2,d3⟩:=z2
        exact ⟨_,rfl,.inl ⟨rfl,d,d1,d2,d3⟩⟩
      .simp only [C7 s,cond_true,if_neg s]
       exact ⟨_,rfl,.inr ⟨rfl,fun d h=>by cases h⟩⟩
     .simp only [Cg X,cond_false,if_neg X]
      by_cases s:i.Num=0
      .simp only [Ct s,cond_true]
       by_cases a3:i.Kids.length=0
       .rw [if_pos ⟨s,a3⟩]
        exact ⟨_,rfl,.inl ⟨by simp [a3],0,rfl,by omega,rfl⟩⟩
       .rw [if_neg (fun h=>a3 h.2)]
        exact ⟨_,rfl,.inr ⟨Cg (by omega),fun d h=>by cases h⟩⟩
      .simp only [Cg s,cond_false]
       rw [if_neg (fun h=>s h.1)]
       exact ⟨_,rfl,.inr ⟨rfl,fun d h=>by cases h⟩⟩
  .intro f c hk hi J
   have a7:=Kv f
   rw [Lx]
   by_cases hl:c.length=f.length
   .rw [C0 (by omega)]
    simp only [cond_false]
    have key:∀(m j acc:Nat),j+m=f.length->acc<=6*j->∃z,Bc (S:=(Int×Int)) (E:=((Int×Bool)⊕Int)) (fun (v5,M)=>
      bif (decide (M<(c.length:Int))) then (
      (Au c M).bind fun v7=>
      (Au f M).bind fun v9=>
      (Ke k data v7 v9).bind fun v10=>
      bif (!v10.2) then some (.inr (.inl (0,false)))
      else some (.inl ((Al (v5+v10.1)),(Al (M+1)))))
      else some (.inr (.inr v5))) ((acc:Int),(j:Int))=some z/\(match z with | .inl p=>p=(0,false)/\∀d,(Ed data (f.drop j) (c.drop j)).map (acc + ·)=some d->6<d | .inr v=>∃d:Nat,(Ed data (f.drop j) (c.drop j)).map (acc + ·)=some d/\v=d):=by
     intro m
     induction m with
     | zero=>
      intro j acc hj l
      have:j=c.length:=by omega
      subst this
      refine ⟨.inr (acc:Int),E9 (by simp),acc,?_,rfl⟩
      rw [List.drop_of_length_le (by omega),List.drop_of_length_le (by omega)]
      simp [Ed]
     | succ m A=>
      intro j acc hj l
      have g:f[j]? = some f[j]:=Cv (by omega)
      generalize f[j]=e at g
      have hu:c[j]? = some c[j]:=Cv (by omega)
      generalize c[j]=u at hu
      have a8:=L8 (Cq g)
      rw [Kw g,Kw hu,Vw]
      obtain ⟨q,I,x⟩:=a6 e u (by omega) (by omega) (J u (Cq hu))
      rcases x with ⟨x,a,B,q4,q5⟩ | ⟨x,B⟩
      .have Y:Al ((acc:Int)+q.1)=((acc+a:Nat):Int):=by
        rw [q5,Al,Cl] <;> omega
       obtain ⟨z,y,z2⟩:=A (j+1) (acc+a) (by omega) (by omega)
       refine ⟨z,?_,?_⟩
       .rw [I2 (s':=(((acc+a:Nat):Int),((j+1:Nat):Int)))]
        .exact y
        .simp only [A4 (by omega:(j:Int)<(c.length:Int)),cond_true,Cs rfl g,Cs rfl hu,Ap,Dr,cond_false,I,x,Y,D3 (show j<f.length by omega) (by omega)]
       .have G:∀o:Option Nat,(((some a:Option Nat).bind fun a=>o.map (a + ·)).map (acc + ·))=o.map (acc+a + ·):=by
         intro o; cases o <;> simp [Nat.add_assoc]
        rw [B,G]
        exact z2
      .refine ⟨.inl (0,false),E9 ?_,rfl,fun d h=>?_⟩
       .simp only [A4 (by omega:(j:Int)<(c.length:Int)),cond_true,Cs rfl g,Cs rfl hu,Ap,I,x,Bool.not_false]
       .cases ha:F1 data e u with
        | none=>rw [ha] at h; cases h
        | some a=>
         rw [ha,Ap] at h
         have:=B a ha
         cases D:Ed data (f.drop (j+1)) (c.drop (j+1)) with
         | none=>rw [D] at h; cases h
         | some b=>rw [D] at h; simp at h; omega
    obtain ⟨z,y,z2⟩:=key f.length 0 0 (by omega) (by omega)
    have y:Bc _ ((0:Int),(0:Int))=some z:=y
    rw [y,Ap]
    have G:∀o:Option Nat,o.map (0 + ·)=o:=by intro o; cases o <;> simp
    rw [List.drop_zero,List.drop_zero,G] at z2
    match z,z2 with
    | .inl p,z2=>exact ⟨_,rfl,.inr ⟨by rw [z2.1],z2.2⟩⟩
    | .inr v,z2=>
     obtain ⟨d,d1,d3⟩:=z2
     by_cases hd:d<=6
     .exact ⟨_,rfl,.inl ⟨A4 (by omega),d,d1,hd,d3⟩⟩
     .exact ⟨_,rfl,.inr ⟨A8 (by omega),fun e g=>by rw [d1] at g; cases g; omega⟩⟩
   .rw [C7 (by omega),Ys data f c hl]
    exact ⟨_,rfl,.inr ⟨rfl,fun d h=>by cases h⟩⟩
end Go.Ab
namespace Go.Ab
open Go
theorem Ai2 {data:List A5} (V:Szv data) (X:Hs data) (h8:∀x∈data,x.Cons.length<=8):∀k:Nat,
  (∀(i:Be) (t:Ao),2*isz i<=k->isz i<=1048576->Br t<=200->Jq k data t i=some (Fw (F1 data i t))) /\
  (∀(f:List Be) (c:List Ao),2*E6 f+1<=k->E6 f<=1048576->(∀t∈c,Br t<=200)->Ly k data c f=some (Fw (Ed data f c))):=by
 intro k
 induction k with
 | zero=>exact ⟨fun i t h=>by have:=Gj i; omega,fun f c h=>by omega⟩
 | succ k ih=>
  obtain ⟨a8,M⟩:=ih
  have L:∀o:Option Nat,o.map (0 + ·)=o:=by intro o; cases o <;> simp
  constructor
  .intro i t hk hi J
   have ag:=Gj i
   have aa:=Kv i.Kids
   rw [Jq,Yr]
   by_cases h6:t.Kind=6
   .simp only [Ct h6,cond_true,if_pos h6]
    by_cases q:i.Num=0
    .simp only [C0 q,cond_false,if_pos q]
     rw [M i.Kids t.Args (by omega) (by omega) (fun a ha=>by have:=Gg ha; have:=Gd t; omega)]
     rfl
    .simp only [C7 q,cond_true,if_neg q]; rfl
   .simp only [Cg h6,cond_false,if_neg h6]
    by_cases Y:t.Kind=7
    .simp only [Ct Y,cond_true,if_pos Y]
     by_cases a1:0<=i.Num
     .by_cases a2:i.Num<=6
      .by_cases a3:i.Kids.length=0
       .rw [A8 (by omega),A8 (by omega),A8 (by omega),if_pos ⟨a1,a2,a3⟩,Yt (by omega)]
        simp; omega
       .rw [A8 (by omega),A8 (by omega),A4 (by omega),if_neg (fun h=>a3 h.2.2)]; rfl
      .rw [A8 (by omega),A4 (by omega),if_neg (fun h=>a2 h.2.1)]; rfl
     .rw [A4 (by omega),if_neg (fun h=>a1 h.1)]; rfl
    .simp only [Cg Y,cond_false,if_neg Y]
     by_cases h5:t.Kind=5
     .simp only [Ct h5,cond_true,if_pos h5]
      by_cases q:i.Num=0
      .simp only [C0 q,cond_false,if_pos q,Ap]
       by_cases N:(i.Kids.length:Int)>6
       .rw [A4 N]
        refine congrArg some (Rb fun d hd=>?_).symm
        have:=Ai1 data _ _ _ hd
        omega
       rw [A8 N]
       simp only [cond_false]
       have key:∀(m j acc:Nat),j+m=i.Kids.length->acc<=6->∃z,Bc (S:=(Int×Int)) (E:=(Int⊕Int)) (fun (v10,G)=>
         bif (decide (G<(i.Kids.length:Int))) then (
         (Au i.Kids G).bind fun v12=>
         (show Option Bool from
         bif (decide (v12.Num<(0:Int))) then some true
         else some (decide (v12.Num>=(8:Int)))).bind fun a6=>
         bif a6 then some (.inr (.inl (-1)))
         else (
         (Qc data t v12.Num).bind fun v15=>
         bif (!v15.2) then some (.inr (.inl (-1)))
         else (
         (Ly k data v15.1 v12.Kids).bind fun v16=>
         bif (decide (v16<(0:Int))) then some (.inr (.inl (-1)))
         else (
         bif (decide ((Al ((Al (v10+1))+v16))>(6:Int))) then some (.inr (.inl (-1)))
         else some (.inl ((Al (v10+(Al (1+v16)))),(Al (G+1))))))))
         else some (.inr (.inr v10))) ((acc:Int),(j:Int))=some z/\(match z with | .inl v=>v | .inr v=>v)=Fw ((F7 data (i.Kids.drop j) t).map (acc + ·)):=by
        intro m
        induction m with
        | zero=>
         intro j acc hj g
         have:j=i.Kids.length:=by omega
         subst this
         refine ⟨.inr (acc:Int),E9 (by simp),?_⟩
         simp [F7,Fw,g]
        | succ m A=>
         intro j acc hj g
         have l:i.Kids[j]? = some i.Kids[j]:=Cv (by omega)
         generalize i.Kids[j]=e at l
         have ab:=L8 (Cq l)
         have ah:=Gj e
         rw [Kw l,Vv]
         have hb:(bif decide (e.Num<(0:Int)) then some true else some (decide (e.Num>=(8:Int))))=some (decide (e.Num<0\/8<=e.Num)):=by
          by_cases g1:e.Num<0 <;> by_cases g2:8<=e.Num <;> simp [g1,g2]
         cases hp:G7 data t e.Num with
         | none=>
          refine ⟨.inl (-1),E9 ?_,by simp [Fw]⟩
          simp only [A4 (by omega:(j:Int)<(i.Kids.length:Int)),cond_true,Cs rfl l,Ap,Yq V X t J e.Num,hp,okL,Bool.not_false,hb]
          cases decide (e.Num<0\/8<=e.Num) <;> rfl
         | some c=>
          obtain ⟨pz,x,a7,ae,ad⟩:=Acr hp
          have af:=h8 x (Eo a7).2.2.2
          have y:=M e.Kids c (by omega) (by omega) pz
          have hb':decide (e.Num<0\/8<=e.Num)=false:=A8 (by omega)
          rcases Acu (Ed data e.Kids c) with ⟨D,U⟩ | ⟨a,D,U,c3⟩
          .rw [D] at y
           refine ⟨.inl (-1),E9 ?_,?_⟩
           .simp only [A4 (by omega:(j:Int)<(i.Kids.length:Int)),cond_true,Cs rfl l,Ap,Yq V X t J e.Num,hp,okL,Dr,cond_false,hb,hb',y]; rfl
           .refine (Rb fun d h=>?_).symm
            rw [Ap] at h
            cases ha:Ed data e.Kids c with
            | none=>rw [ha] at h; cases h
            | some a=>
             rw [ha,Ap] at h
             have:=U a ha
             cases B:F7 data (i.Kids.drop (j+1)) t with
             | none=>rw [B] at h; cases h
             | some b=>rw [B] at h; simp at h; omega
          .rw [c3] at y
           have R:Al (Al ((acc:Int)+1)+(a:Int))=((acc+(1+a):Nat):Int):=by
            rw [show Al ((acc:Int)+1)=((acc+1:Nat):Int) by rw [Al,Cl] <;> omega,Al,Cl] <;> omega
           have ac:Al ((acc:Int)+Al (1+(a:Int)))=((acc+(1+a):Nat):Int):=by
            rw [show Al (1+(a:Int))=((1+a:Nat):Int) by rw [Al,Cl] <;> omega,Al,Cl] <;> omega
           by_cases I:acc+(1+a)<=6
           .obtain ⟨z,s,z2⟩:=A (j+1) (acc+(1+a)) (by omega) I
            refine ⟨z,?_,?_⟩
            .rw [I2 (s':=(((acc+(1+a):Nat):Int),((j+1:Nat):Int)))]
             .exact s
             .simp only [A4 (by omega:(j:Int)<(i.Kids.length:Int)),cond_true,Cs rfl l,Ap,Yq V X t J e.Num,hp,okL,Dr,cond_false,hb,hb',y,R,ac,A8 (by omega:¬(a:Int)<0),A8 (by omega:¬((acc+(1+a):Nat):Int)>6),D3 (show j<i.Kids.length by omega) (by omega)]
            .have L:∀o:Option Nat,(((some a:Option Nat).bind fun a=>o.map (1+a + ·)).map (acc + ·))=o.map (acc+(1+a) + ·):=by
              intro o; cases o <;> simp [Nat.add_assoc]
             rw [Ap,D,L]
             exact z2
           .refine ⟨.inl (-1),E9 ?_,?_⟩
            .simp only [A4 (by omega:(j:Int)<(i.Kids.length:Int)),cond_true,Cs rfl l,Ap,Yq V X t J e.Num,hp,okL,Dr,cond_false,hb,hb',y,R,A8 (by omega:¬(a:Int)<0),A4 (by omega:((acc+(1+a):Nat):Int)>6)]
            .refine (Rb fun d h=>?_).symm
             rw [Ap,D,Ap] at h
             cases B:F7 data (i.Kids.drop (j+1)) t with
             | none=>rw [B] at h; cases h
             | some b=>rw [B] at h; simp at h; omega
       obtain ⟨z,s,z2⟩:=key i.Kids.length 0 0 (by omega) (by omega)
       have s:Bc _ ((0:Int),(0:Int))=some z:=s
       erw [s,Ap]
       rw [List.drop_zero,L] at z2
       rw [<-z2]
       cases z <;> rfl
      .simp only [C7 q,cond_true,if_neg q]; rfl
     .simp only [Cg h5,cond_false,if_neg h5]
      by_cases q:i.Num=0
      .simp only [C0 q,cond_false]
       by_cases a3:i.Kids.length=0
       .rw [if_pos ⟨q,a3⟩,A8 (by omega)]; rfl
       .rw [if_neg (fun h=>a3 h.2),A4 (by omega)]; rfl
      .simp only [C7 q,cond_true]
       rw [if_neg (fun h=>q h.1)]; rfl
  .intro f c hk hi J
   have aa:=Kv f
   rw [Ly]
   by_cases hl:c.length=f.length
   .rw [C0 (by omega)]
    simp only [cond_false]
    have key:∀(m j acc:Nat),j+m=f.length->acc<=6->∃z,Bc (S:=(Int×Int)) (E:=(Int⊕Int)) (fun (v4,v5)=>
      bif (decide (v5<(c.length:Int))) then (
      (Au c v5).bind fun v6=>
      (Au f v5).bind fun v7=>
      (Jq k data v6 v7).bind fun v8=>
      bif (decide (v8<(0:Int))) then some (.inr (.inl (-1)))
      else (
      bif (decide ((Al (v4+v8))>(6:Int))) then some (.inr (.inl (-1)))
      else some (.inl ((Al (v4+v8)),(Al (v5+1))))))
      else some (.inr (.inr v4))) ((acc:Int),(j:Int))=some z/\(match z with | .inl v=>v | .inr v=>v)=Fw ((Ed data (f.drop j) (c.drop j)).map (acc + ·)):=by
     intro m
     induction m with
     | zero=>
      intro j acc hj g
      have:j=c.length:=by omega
      subst this
      refine ⟨.inr (acc:Int),E9 (by simp),?_⟩
      rw [List.drop_of_length_le (by omega),List.drop_of_length_le (by omega)]
      simp [Ed,Fw,g]
     | succ m A=>
      intro j acc hj g
      have l:f[j]? = some f[j]:=Cv (by omega)
      generalize f[j]=e at l
      have hu:c[j]? = some c[j]:=Cv (by omega)
      generalize c[j]=u at hu
      have ab:=L8 (Cq l)
      rw [Kw l,Kw hu,Vw]
      have y:=a8 e u (by omega) (by omega) (J u (Cq hu))
      rcases Acu (F1 data e u) with ⟨D,U⟩ | ⟨a,D,U,c3⟩
      .rw [D] at y
       refine ⟨.inl (-1),E9 ?_,?_⟩
       .simp only [A4 (by omega:(j:Int)<(c.length:Int)),cond_true,Cs rfl l,Cs rfl hu,Ap,y]; rfl
       .refine (Rb fun d h=>?_).symm
        cases ha:F1 data e u with
        | none=>rw [ha] at h; cases h
        | some a=>
         rw [ha,Ap] at h
         have:=U a ha
         cases B:Ed data (f.drop (j+1)) (c.drop (j+1)) with
         | none=>rw [B] at h; cases h
         | some b=>rw [B] at h; simp at h; omega
      .rw [c3] at y
       have R:Al ((acc:Int)+(a:Int))=((acc+a:Nat):Int):=by rw [Al,Cl] <;> omega
       by_cases I:acc+a<=6
       .obtain ⟨z,s,z2⟩:=A (j+1) (acc+a) (by omega) I
        refine ⟨z,?_,?_⟩
        .rw [I2 (s':=(((acc+a:Nat):Int),((j+1:Nat):Int)))]
         .exact s
         .simp only [A4 (by omega:(j:Int)<(c.length:Int)),cond_true,Cs rfl l,Cs rfl hu,Ap,cond_false,y,R,A8 (by omega:¬(a:Int)<0),A8 (by omega:¬((acc+a:Nat):Int)>6),D3 (show j<f.length by omega) (by omega)]
        .have L:∀o:Option Nat,(((some a:Option Nat).bind fun a=>o.map (a + ·)).map (acc + ·))=o.map (acc+a + ·):=by
          intro o; cases o <;> simp [Nat.add_assoc]
         rw [D,L]
         exact z2
       .refine ⟨.inl (-1),E9 ?_,?_⟩
        .simp only [A4 (by omega:(j:Int)<(c.length:Int)),cond_true,Cs rfl l,Cs rfl hu,Ap,cond_false,y,R,A8 (by omega:¬(a:Int)<0),A4 (by omega:((acc+a:Nat):Int)>6)]
        .refine (Rb fun d h=>?_).symm
         rw [D,Ap] at h
         cases B:Ed data (f.drop (j+1)) (c.drop (j+1)) with
         | none=>rw [B] at h; cases h
         | some b=>rw [B] at h; simp at h; omega
    obtain ⟨z,s,z2⟩:=key f.length 0 0 (by omega) (by omega)
    have s:Bc _ ((0:Int),(0:Int))=some z:=s
    rw [s,Ap]
    rw [List.drop_zero,List.drop_zero,L] at z2
    rw [<-z2]
    cases z <;> rfl
   .rw [C7 (by omega),Ys data f c hl]; rfl
theorem Gi.cons8 {data:List A5} (h:Gi data):∀x∈data,x.Cons.length<=8:=by
 intro x hx
 obtain ⟨d,hd⟩:=List.getElem?_of_mem hx
 exact (h.2.1 d x hd).2.2.2.1
theorem Auk {data:List A5} (b:Gi data) (f:Hs data) (t:Ao) (i:Be) (c:Br t<=200) (hi:isz i<=1048576):P5 data t i=some (Fw (F1 data i t)):=by
 unfold P5
 rw [(Ai2 b.szv f b.cons8 4000000).1 i t (by omega) hi c]; rfl
end Go.Ab
namespace Go.Ab
open Go
def I64 (n:Int):Prop:= -9223372036854775808<=n/\n<=9223372036854775807
def ti (n:Int):List Int:=(Lib.itoa n).map fun c=>(c.toNat:Int)
def Ox (c:Int):Bool:=c==45||(decide (48<=c)&&decide (c<=57))
theorem Tt {d:Nat} (h:d<10):(UInt8.ofNat (48+d)).toNat=48+d:=by
 rw [UInt8.toNat_ofNat']; omega
theorem Acv:∀(n u:Nat),u<=n->∀c∈Lib.decDigits u,48<=c.toNat/\c.toNat<=57:=by
 intro n
 induction n with
 | zero=>
  intro u hu c hc
  rw [Lib.decDigits,dif_pos (by omega)] at hc
  simp only [List.mem_singleton] at hc
  subst hc; rw [Tt (by omega)]; omega
 | succ n ih=>
  intro u hu c hc
  rw [Lib.decDigits] at hc
  split at hc
  .simp only [List.mem_singleton] at hc
   subst hc; rw [Tt (by omega)]; omega
  .rcases List.mem_append.1 hc with h | h
   .exact ih (u / 10) (by omega) c h
   .simp only [List.mem_singleton] at h
    subst h; rw [Tt (by omega)]; omega
def Yu (l:List UInt8):Nat:=l.foldl (fun a c=>10*a+(c.toNat-48)) 0
theorem Ai3:∀(n u:Nat),u<=n->Yu (Lib.decDigits u)=u:=by
 intro n
 induction n with
 | zero=>
  intro u hu
  rw [Lib.decDigits,dif_pos (by omega)]
  simp only [Yu,List.foldl_cons,List.foldl_nil]
  rw [Tt (by omega)]; omega
 | succ n ih=>
  intro u hu
  rw [Lib.decDigits]
  split
  .simp only [Yu,List.foldl_cons,List.foldl_nil]
   rw [Tt (by omega)]; omega
  .have:=ih (u / 10) (by omega)
   unfold Yu at *
   rw [List.foldl_append,this]
   simp only [List.foldl_cons,List.foldl_nil]
   rw [Tt (by omega)]; omega
theorem Ai4 {u v:Nat} (h:Lib.decDigits u=Lib.decDigits v):u=v:=by
 rw [<-Ai3 u u (Nat.le_refl _),h,Ai3 v v (Nat.le_refl _)]
theorem Aul (u:Nat):Lib.decDigits u≠[]:=by
 rw [Lib.decDigits]; split <;> simp
theorem Aum {m n:Int} (h:Lib.itoa m=Lib.itoa n):m=n:=by
 have b:∀u v:Nat,45::Lib.decDigits u≠Lib.decDigits v:=by
  intro u v e
  have:=Acv v v (Nat.le_refl _) 45 (by rw [<-e]; simp)
  exact absurd this (by decide)
 unfold Lib.itoa at h
 split at h <;> split at h
 .have:=Ai4 (List.cons.inj h).2; omega
 .exact absurd h (b _ _)
 .exact absurd h.symm (b _ _)
 .have:=Ai4 h; omega
theorem Oy (n:Int):∀c∈ti n,Ox c=true:=by
 intro c hc
 unfold ti at hc
 obtain ⟨b,hb,rfl⟩:=List.mem_map.1 hc
 have key:b=45\/(48<=b.toNat/\b.toNat<=57):=by
  unfold Lib.itoa at hb
  split at hb
  .rcases List.mem_cons.1 hb with h | h
   .exact .inl h
   .exact .inr (Acv _ _ (Nat.le_refl _) b h)
  .exact .inr (Acv _ _ (Nat.le_refl _) b hb)
 unfold Ox
 rcases key with rfl | ⟨h1,h2⟩
 .decide
 .rw [Bool.or_eq_true,Dl,decide_eq_true_eq,decide_eq_true_eq]; right; omega
theorem Ai5 (n:Int):ti n≠[]:=by
 unfold ti Lib.itoa
 split
 .simp
 .simpa using Aul _
theorem Ai6 {m n:Int} (h:ti m=ti n):m=n:=by
 unfold ti at h
 have:∀l m:List UInt8,l.map (fun c=>(c.toNat:Int))=m.map (fun c=>(c.toNat:Int))->l=m:=by
  intro l
  induction l with
  | nil=>intro m h; cases m with | nil=>rfl | cons=>simp at h
  | cons x xs ih=>
   intro m h
   cases m with
   | nil=>simp at h
   | cons y ys=>
    simp only [List.map_cons,List.cons.injEq] at h
    rw [ih ys h.2,UInt8.toNat.inj (by omega:x.toNat=y.toNat)]
 exact Aum (this _ _ h)
theorem Acw {n:Int} (h:I64 n):(ti n).length<=21:=by
 unfold ti; rw [List.length_map]; exact Lib.itoa_length_le n h.1 h.2
def Oz (X:List Int):Prop:=∀c m,X=c::m->Ox c=false/\c≠40
def Yv (X:List Int):Prop:=∀c m,X=c::m->Ox c=false
theorem Acx:∀(a b X Y:List Int),(∀c∈a,Ox c=true)->(∀c∈b,Ox c=true)->Yv X->Yv Y->a++X=b++Y->a=b/\X=Y
 | [],[],_,_,_,_,_,_,h=>⟨rfl,h⟩
 | [],y::b,X,Y,_,hb,g,_,h=>by
  have:=g y (b++Y) h
  rw [hb y (by simp)] at this; cases this
 | x::a,[],X,Y,ha,_,_,f,h=>by
  have:=f x (a++X) h.symm
  rw [ha x (by simp)] at this; cases this
 | x::a,y::b,X,Y,ha,hb,g,f,h=>by
  simp only [List.cons_append,List.cons.injEq] at h
  obtain ⟨j,i⟩:=Acx a b X Y (fun c hc=>ha c (by simp [hc])) (fun c hc=>hb c (by simp [hc])) g f h.2
  exact ⟨by rw [h.1,j],i⟩
mutual
def wx:Be->List Int
 | ⟨n,kids⟩=>ti n++(if kids.length=0 then [] else 40::(wxs kids++[41]))
def wxs:List Be->List Int
 | []=>[]
 | x::xs=>wx x++44::wxs xs
end
theorem Acy (i:Be):wx i=ti i.Num++(if i.Kids.length=0 then [] else 40::(wxs i.Kids++[41])):=by cases i; simp only [wx]
theorem Ai7 (l m:List Be):wxs (l++m)=wxs l++wxs m:=by
 induction l with
 | nil=>simp [wxs]
 | cons x xs ih=>simp only [List.cons_append,wxs,ih,List.append_assoc]
theorem Ai8 (b:List Be) (X:List Int) (f:Oz X):Yv ((if b.length=0 then [] else 40::(wxs b++[41]))++X):=by
 intro c m h
 by_cases hk:b.length=0
 .rw [if_pos hk,List.nil_append] at h
  exact (f c m h).1
 .rw [if_neg hk,List.cons_append] at h
  cases h; decide
theorem Ai9 (X:List Int):Oz (44::X):=by intro c m h; cases h; exact ⟨by decide,by decide⟩
theorem Aja:Oz []:=by intro c m h; cases h
mutual
theorem Ajb:∀(i j:Be) (X Y:List Int),Oz X->Oz Y->wx i++X=wx j++Y->i=j/\X=Y
 | ⟨n,k⟩,⟨n',k'⟩,X,Y,hX,hY,h=>by
  simp only [wx,List.append_assoc] at h
  obtain ⟨e1,e2⟩:=Acx _ _ _ _ (Oy n) (Oy n') (Ai8 k X hX) (Ai8 k' Y hY) h
  have e1:=Ai6 e1
  subst e1
  by_cases hk:k.length=0
  .by_cases hk':k'.length=0
   .rw [if_pos hk,if_pos hk'] at e2
    rw [List.length_eq_zero_iff.1 hk,List.length_eq_zero_iff.1 hk']
    exact ⟨rfl,e2⟩
   .rw [if_pos hk,if_neg hk',List.nil_append,List.cons_append] at e2
    exact absurd rfl (hX _ _ e2).2
  .by_cases hk':k'.length=0
   .rw [if_neg hk,if_pos hk',List.nil_append,List.cons_append] at e2
    exact absurd rfl (hY _ _ e2.symm).2
   .rw [if_neg hk,if_neg hk',List.cons_append,List.cons_append,List.append_assoc,List.append_assoc] at e2
    obtain ⟨e3,e4⟩:=Ajc k k' X Y hX hY (List.cons.inj e2).2
    rw [e3]; exact ⟨rfl,e4⟩
theorem Ajc:∀(l m:List Be) (X Y:List Int),Oz X->Oz Y->wxs l++([41]++X)=wxs m++([41]++Y)->l=m/\X=Y
 | [],[],X,Y,_,_,h=>by
  simp only [wxs,List.nil_append,List.cons_append,List.cons.injEq,true_and] at h
  exact ⟨rfl,h⟩
 | [],y::ys,X,Y,_,_,h=>by
  exfalso
  cases ht:ti y.Num with
  | nil=>exact Ai5 _ ht
  | cons c r=>
   have hc:=Oy y.Num c (by rw [ht]; simp)
   simp only [wxs,Acy y,ht,List.nil_append,List.cons_append,List.cons.injEq] at h
   rw [<-h.1] at hc; exact absurd hc (by decide)
 | x::xs,[],X,Y,_,_,h=>by
  exfalso
  cases ht:ti x.Num with
  | nil=>exact Ai5 _ ht
  | cons c r=>
   have hc:=Oy x.Num c (by rw [ht]; simp)
   simp only [wxs,Acy x,ht,List.nil_append,List.cons_append,List.cons.injEq] at h
   rw [h.1] at hc; exact absurd hc (by decide)
 | x::xs,y::ys,X,Y,hX,hY,h=>by
  simp only [wxs,List.append_assoc,List.cons_append] at h
  obtain ⟨e1,e2⟩:=Ajb x y _ _ (Ai9 _) (Ai9 _) h
  obtain ⟨e3,e4⟩:=Ajc xs ys X Y hX hY (by simpa using e2)
  exact ⟨by rw [e1,e3],e4⟩
end
mutual
def iR:Be->Prop
 | ⟨n,l⟩=>I64 n/\iRs l
def iRs:List Be->Prop
 | []=>True
 | x::xs=>iR x/\iRs xs
end
theorem Aun (i:Be):iR i↔I64 i.Num/\iRs i.Kids:=by cases i; simp only [iR]
theorem Auo {l:List Be} (h:iRs l) {a:Be} (ha:a∈l):iR a:=by
 induction l with
 | nil=>cases ha
 | cons x xs ih=>
  simp only [iRs] at h
  rcases List.mem_cons.1 ha with rfl | ha
  .exact h.1
  .exact ih h.2 ha
mutual
theorem Ajd:∀i:Be,iR i->(wx i).length+1<=24*isz i
 | ⟨n,l⟩,h=>by
  simp only [iR] at h
  have h1:=Yw l h.2
  have h2:=Acw h.1
  simp only [wx,isz,List.length_append]
  by_cases hl:l.length=0
  .rw [if_pos hl]; simp; omega
  .rw [if_neg hl]; simp; omega
theorem Yw:∀l:List Be,iRs l->(wxs l).length<=24*E6 l
 | [],_=>by simp [wxs,E6]
 | x::xs,h=>by
  simp only [iRs] at h
  have h1:=Ajd x h.1
  have h2:=Yw xs h.2
  have h3:=Gj x
  simp only [wxs,E6,List.length_append,List.length_cons]; omega
end
theorem Aje (l m:List Be):E6 (l++m)=E6 l+E6 m:=by
 induction l with
 | nil=>simp [E6]
 | cons x xs ih=>simp only [List.cons_append,E6,ih]; omega
theorem Aup (l m:List Be):iRs (l++m)↔iRs l/\iRs m:=by
 induction l with
 | nil=>simp [iRs]
 | cons x xs ih=>simp only [List.cons_append,iRs,ih,and_assoc]
theorem Ajf {n:Int} (h:I64 n):Uj n=some ⟨(Lib.itoa n).toArray⟩:=by unfold Uj; rw [if_pos (show _/\_ from h)]
theorem Auq (n:Int):Ni ⟨(Lib.itoa n).toArray⟩=ti n:=by unfold Ni ti; simp
theorem Aur:∀(k:Nat) (i:Be) (b:List Int),isz i<=k->iR i->b.length+24*isz i<=1099511627776->Mx k i b=some (b++wx i):=by
 intro k
 induction k with
 | zero=>intro i b h; have:=Gj i; omega
 | succ k ih=>
  intro i b h c hb
  have hi:=Gj i
  have B:=Kv i.Kids
  have c:=(Aun i).1 c
  have E:=Acw c.1
  rw [Mx,Acy]
  simp only [So,Ajf c.1,Ap,Xp,Va,Auq]
  rw [Dw (by omega)]
  simp only [Ap]
  by_cases s:i.Kids.length=0
  .rw [A8 (by omega),if_pos s]; simp
  .rw [A4 (by omega),if_neg s]
   simp only [cond_true,Qo,Va,Ap]
   rw [Dw (by simp; omega),Ap]
   have g:=Yw i.Kids c.2
   have l:∀j,(wxs (i.Kids.take j)).length<=24*E6 i.Kids:=fun j=>by
    have:=Ai7 (i.Kids.take j) (i.Kids.drop j)
    rw [List.take_append_drop] at this
    rw [this,List.length_append] at g; omega
   refine F6 i.Kids (fun j=>((j:Int),b++ti i.Num++[40]++wxs (i.Kids.take j))) (by simp [wxs]) (by omega) ?_ ?_
   .intro j x hj hx h1 h2 h3
    have D:=L8 (Cq hx)
    have f:=Auo c.2 (Cq hx)
    have A:=Ajd x f
    have q:=l (j+1)
    have e:wxs (i.Kids.take (j+1))=wxs (i.Kids.take j)++(wx x++[44]):=by rw [D7 hx,Ai7]; simp [wxs]
    rw [e] at q
    simp only [List.length_append,List.length_cons,List.length_nil] at q
    simp only [h1,h2,h3,cond_true,Ap]
    have z:E6 (i.Kids.take j)+isz x<=E6 i.Kids:=by
     have u:=Aje (i.Kids.take (j+1)) (i.Kids.drop (j+1))
     rw [List.take_append_drop,D7 hx,Aje] at u
     simp only [E6] at u; omega
    have y:(wxs (i.Kids.take j)).length<=24*E6 (i.Kids.take j):=Yw _ (by
     have:=(Aup (i.Kids.take j) (i.Kids.drop j)).1 (by rw [List.take_append_drop]; exact c.2)
     exact this.1)
    rw [ih x _ (by omega) f (by simp; omega)]
    simp only [Ap]
    rw [Dw (by simp; omega),e]
    simp
   .intro h1
    refine ⟨b++ti i.Num++[40]++wxs i.Kids,by simp,?_⟩
    rw [Dw (by simp; omega)]
    simp
def Kx (v:Int) (i:Be):List Int:=118::(ti v++58::wx i)
def L9 (v:Int) (i:Be):ByteArray:=⟨(Gr (Kx v i)).toArray⟩
mutual
theorem Ajg:∀i:Be,∀c∈wx i,0<=c/\c<256
 | ⟨n,l⟩,c,h=>by
  simp only [wx,List.mem_append] at h
  rcases h with h | h
  .have:=Oy n c h
   simp only [Ox,Bool.or_eq_true,Dl,beq_iff_eq,decide_eq_true_eq] at this
   omega
  .by_cases hl:l.length=0
   .rw [if_pos hl] at h; cases h
   .rw [if_neg hl] at h
    simp only [List.mem_cons,List.mem_append,List.not_mem_nil,or_false] at h
    rcases h with h | h | h
    .omega
    .exact Ajh l c h
    .omega
theorem Ajh:∀l:List Be,∀c∈wxs l,0<=c/\c<256
 | [],c,h=>by simp [wxs] at h
 | x::xs,c,h=>by
  simp only [wxs,List.mem_append,List.mem_cons] at h
  rcases h with h | h | h
  .exact Ajg x c h
  .omega
  .exact Ajh xs c h
end
theorem Acz (v:Int) (i:Be):∀c∈Kx v i,0<=c/\c<256:=by
 intro c h
 simp only [Kx,List.mem_cons,List.mem_append] at h
 rcases h with h | h | h | h
 .omega
 .have:=Oy v c h
  simp only [Ox,Bool.or_eq_true,Dl,beq_iff_eq,decide_eq_true_eq] at this
  omega
 .omega
 .exact Ajg i c h
theorem Aji:∀l m:List Int,(∀c∈l,0<=c/\c<256)->(∀c∈m,0<=c/\c<256)->Gr l=Gr m->l=m
 | [],[],_,_,_=>rfl
 | [],_::_,_,_,h=>by simp [Gr] at h
 | _::_,[],_,_,h=>by simp [Gr] at h
 | x::xs,y::ys,h1,h2,h=>by
  simp only [Gr,List.map_cons,List.cons.injEq] at h
  have hx:=h1 x (by simp)
  have hy:=h2 y (by simp)
  have e:x.toNat=y.toNat:=by
   have:=congrArg UInt8.toNat h.1
   rw [UInt8.toNat_ofNat',UInt8.toNat_ofNat'] at this
   omega
  rw [Aji xs ys (fun c hc=>h1 c (by simp [hc])) (fun c hc=>h2 c (by simp [hc])) h.2,show x=y by omega]
theorem Aus {v w:Int} {i j:Be} (h:L9 v i=L9 w j):v=w/\i=j:=by
 unfold L9 at h
 have h1:(Gr (Kx v i)).toArray=(Gr (Kx w j)).toArray:=by injection h
 have h2:Gr (Kx v i)=Gr (Kx w j):=by simpa using congrArg Array.toList h1
 have h3:=Aji _ _ (Acz v i) (Acz w j) h2
 simp only [Kx,List.cons.injEq,true_and] at h3
 have b:∀X:List Int,Yv (58::X):=fun X c m e=>by cases e; decide
 obtain ⟨k,g⟩:=Acx _ _ _ _ (Oy v) (Oy w) (b _) (b _) h3
 obtain ⟨f,_⟩:=Ajb i j [] [] Aja Aja (by simpa using (List.cons.inj g).2)
 exact ⟨Ai6 k,f⟩
theorem Aut (l:List UInt8):Ni ⟨l.toArray⟩=l.map fun b=>(b.toNat:Int):=by unfold Ni; simp
theorem Auu (v:Int) (i:Be) (c:I64 v) (g:iR i) (hi:isz i<=1048576):Sn v i=some (L9 v i):=by
 have l:=Acw c
 have f:(Lib.itoa v).length=(ti v).length:=by unfold ti; simp
 unfold Sn
 have k:Nj (ByteArray.mk #[118]) ⟨(Lib.itoa v).toArray⟩=some ⟨(118::Lib.itoa v).toArray⟩:=by
  unfold Nj
  rw [if_pos]
  .congr 1
  .show 1+(Lib.itoa v).toArray.size<=9223372036854775807
   rw [List.size_toArray]; omega
 have j:Nj ⟨(118::Lib.itoa v).toArray⟩ (ByteArray.mk #[58])=some ⟨(118::(Lib.itoa v++[58])).toArray⟩:=by
  unfold Nj
  rw [if_pos]
  .congr 1
  .show (118::Lib.itoa v).toArray.size+1<=9223372036854775807
   rw [List.size_toArray,List.length_cons]; omega
 simp only [So,Ajf c,Ap,k,j,U1,Xm,Aut]
 rw [Dw (by simp; omega)]
 simp only [Ap]
 rw [Aur 4000000 i _ (by omega) g (by simp; omega)]
 simp only [Ap,Aa0]
 have h:([]++(118::(Lib.itoa v++[58])).map fun b=>(b.toNat:Int))++wx i=Kx v i:=by
  unfold Kx ti; simp
 rw [h]
 unfold W0 L9
 rw [if_pos ⟨by simp [Kx],Acz v i⟩]; rfl
end Go.Ab
namespace Go.Ab
open Go
mutual
theorem Ajj (data:List A5):∀(i:Be) (t:Ao) (d:Nat),F1 data i t=some d->d<=6*isz i
 | ⟨n,kids⟩,t,d,h=>by
  rw [Yr] at h
  simp only [isz]
  simp only at h
  split at h
  .split at h
   .have:=Vx data kids _ d h; omega
   .cases h
  .split at h
   .split at h
    .cases h; omega
    .cases h
   .split at h
    .split at h
     .have:=Ajk data kids _ d h; omega
     .cases h
    .split at h
     .cases h; omega
     .cases h
theorem Vx (data:List A5):∀(is:List Be) (ts:List Ao) (d:Nat),Ed data is ts=some d->d<=6*E6 is
 | [],[],d,h=>by simp only [Ed] at h; cases h; omega
 | i::is,t::ts,d,h=>by
  rw [Vw] at h
  cases h1:F1 data i t with
  | none=>rw [h1] at h; cases h
  | some a=>
   rw [h1,Ap] at h
   cases h2:Ed data is ts with
   | none=>rw [h2] at h; cases h
   | some b=>
    rw [h2] at h
    cases h
    have:=Ajj data i t a h1
    have:=Vx data is ts b h2
    simp only [E6]; omega
 | [],_::_,d,h=>by simp only [Ed] at h; cases h
 | _::_,[],d,h=>by simp only [Ed] at h; cases h
theorem Ajk (data:List A5):∀(es:List Be) (t:Ao) (d:Nat),F7 data es t=some d->d<=6*E6 es
 | [],t,d,h=>by simp only [F7] at h; cases h; omega
 | ⟨n,kids⟩::es,t,d,h=>by
  rw [Vv] at h
  simp only at h
  cases h1:G7 data t n with
  | none=>rw [h1] at h; cases h
  | some ts=>
   rw [h1,Ap] at h
   cases h2:Ed data kids ts with
   | none=>rw [h2] at h; cases h
   | some a=>
    rw [h2,Ap] at h
    cases h3:F7 data es t with
    | none=>rw [h3] at h; cases h
    | some b=>
     rw [h3] at h
     cases h
     have:=Vx data kids ts a h2
     have:=Ajk data es t b h3
     simp only [E6,isz]; omega
end
def Tu (data:List A5) (e:Be) (t:Ao):Option Nat:=(G7 data t e.Num).bind fun b=>(Ed data e.Kids b).map (1 + ·)
theorem Auv (data:List A5) (e:Be) (es:List Be) (t:Ao):F7 data (e::es) t=(Tu data e t).bind fun a=>(F7 data es t).map (a + ·):=by
 rw [Vv]; unfold Tu
 cases G7 data t e.Num with
 | none=>rfl
 | some b=>simp only [Ap]; cases Ed data e.Kids b <;> rfl
theorem Auw (data:List A5) (e:Be) (t:Ao) (d:Nat) (h:Tu data e t=some d):d<=6*isz e:=by
 unfold Tu at h
 cases h1:G7 data t e.Num with
 | none=>rw [h1] at h; cases h
 | some b=>
  rw [h1,Ap] at h
  cases h2:Ed data e.Kids b with
  | none=>rw [h2] at h; cases h
  | some a=>
   rw [h2] at h
   cases h
   have:=Vx data _ b a h2
   have:=Gj e
   show 1+a<=_
   omega
def Dg (v:Int) (o:Option Nat):Prop:=(v = -1/\∀d,o=some d->6<d)\/∃d:Nat,o=some d/\v=d
theorem Dg.clip {v:Int} {o:Option Nat} (h:Dg v o):(if v>6 then -1 else v)=Fw o:=by
 rcases h with ⟨rfl,h⟩ | ⟨d,rfl,rfl⟩
 .rw [if_neg (by omega),Rb h]
 .by_cases hd:6<d
  .rw [if_pos (by omega),Acs hd]
  .rw [if_neg (by omega),Yt (by omega)]
theorem Yx {o p:Option Nat} {acc:Nat} {d:Nat} (h:(o.bind fun a=>p.map (a + ·)).map (acc + ·)=some d):∃a b,o=some a/\p=some b/\d=acc+(a+b):=by
 cases o with
 | none=>cases h
 | some a=>
  cases p with
  | none=>cases h
  | some b=>exact ⟨a,b,rfl,rfl,by simp at h; omega⟩
theorem Aux {data:List A5} (hz:Szv data) (hs:Hs data) (b1:List (ByteArray×Int)) (b2:List (ByteArray×List D8)) (vars:List Ao) (r1 r2:Int) (L:List Ao):∀k:Nat,
  (∀(i:Be) (t:Ao),3*isz i<=k->isz i<=1048576->Br t<=200->∃v,Kl k t i b1 b2 data vars r1 r2 L=some v/\Dg v (F1 data i t)) /\
  (∀(g:List Be) (f:List Ao),3*E6 g+1<=k->E6 g<=1048576->(∀t∈f,Br t<=200)->∃v,Mu k f g b1 b2 data vars r1 r2 L=some v/\Dg v (Ed data g f)) /\
  (∀(e:Be) (t:Ao),3*isz e<=k->isz e<=1048576->Br t<=200->∃v,Mv k t e b1 b2 data vars r1 r2 L=some v/\Dg v (Tu data e t)):=by
 intro k
 induction k with
 | zero=>exact ⟨fun i t h=>by have:=Gj i; omega,fun g f h=>by omega,fun i t h=>by have:=Gj i; omega⟩
 | succ k ih=>
  obtain ⟨a6,M,a7⟩:=ih
  have I:∀o:Option Nat,o.map (0 + ·)=o:=by intro o; cases o <;> simp
  have c:∀d:Nat,(none:Option Nat)=some d->6<d:=fun d h=>by cases h
  refine ⟨?_,?_,?_⟩
  .intro i t hk hi N
   have af:=Gj i
   have R:=Kv i.Kids
   rw [Kl,Yr]
   by_cases Y:t.Kind=6
   .simp only [Ct Y,cond_true,if_pos Y]
    by_cases s:i.Num=0
    .simp only [Ct s,cond_true,if_pos s]
     obtain ⟨p,p1,p2⟩:=M i.Kids t.Args (by omega) (by omega) (fun a ha=>by have:=Gg ha; have:=Gd t; omega)
     rw [p1]
     exact ⟨p,rfl,p2⟩
    .simp only [Cg s,cond_false,if_neg s]
     exact ⟨_,rfl,.inl ⟨rfl,c⟩⟩
   .simp only [Cg Y,cond_false,if_neg Y]
    by_cases X:t.Kind=7
    .simp only [Ct X,cond_true,if_pos X]
     by_cases a1:0<=i.Num
     .by_cases a2:i.Num<=6
      .by_cases a3:i.Kids.length=0
       .rw [A4 (show i.Num>=0 from a1),A4 a2,if_pos ⟨a1,a2,a3⟩,Ct (by omega)]
        exact ⟨_,rfl,.inr ⟨i.Num.toNat,rfl,by omega⟩⟩
       .rw [A4 (show i.Num>=0 from a1),A4 a2,if_neg (fun h=>a3 h.2.2),Cg (by omega)]
        exact ⟨_,rfl,.inl ⟨rfl,c⟩⟩
      .rw [A4 (show i.Num>=0 from a1),A8 a2,if_neg (fun h=>a2 h.2.1)]
       exact ⟨_,rfl,.inl ⟨rfl,c⟩⟩
     .rw [A8 (show ¬i.Num>=0 from a1),if_neg (fun h=>a1 h.1)]
      exact ⟨_,rfl,.inl ⟨rfl,c⟩⟩
    .simp only [Cg X,cond_false,if_neg X]
     by_cases h5:t.Kind=5
     .simp only [Ct h5,cond_true,if_pos h5]
      by_cases s:i.Num=0
      .simp only [C0 s,cond_false,if_pos s]
       have key:∀(m j acc:Nat),j+m=i.Kids.length->acc<=10000000->∃z,Bc (S:=(Int×Int)) (E:=(Int⊕Int)) (fun (v7,v8)=>
         bif (decide (v8<(i.Kids.length:Int))) then (
         (Au i.Kids v8).bind fun v9=>
         (Mv k t v9 b1 b2 data vars r1 r2 L).bind fun J=>
         bif (decide (J<(0:Int))) then some (.inr (.inl (-1)))
         else (
         bif (decide (v7>(6:Int))) then some (.inr (.inl (-1)))
         else some (.inl ((Al (v7+J)),(Al (v8+1))))))
         else some (.inr (.inr v7))) ((acc:Int),(j:Int))=some z/\Dg (match z with | .inl v=>v | .inr v=>v) ((F7 data (i.Kids.drop j) t).map (acc + ·)):=by
        intro m
        induction m with
        | zero=>
         intro j acc hj D
         have:j=i.Kids.length:=by omega
         subst this
         exact ⟨.inr (acc:Int),E9 (by simp),.inr ⟨acc,by simp [F7],rfl⟩⟩
        | succ m B=>
         intro j acc hj D
         have q:i.Kids[j]? = some i.Kids[j]:=Cv (by omega)
         generalize i.Kids[j]=e at q
         have ac:=L8 (Cq q)
         rw [Kw q,Auv]
         obtain ⟨v,G,v2⟩:=a7 e t (by omega) (by omega) N
         rcases v2 with ⟨rfl,v2⟩ | ⟨a,a1,rfl⟩
         .refine ⟨.inl (-1),E9 ?_,.inl ⟨rfl,fun d h=>?_⟩⟩
          .simp only [A4 (by omega:(j:Int)<(i.Kids.length:Int)),cond_true,Cs rfl q,Ap,G]; rfl
          .obtain ⟨a,b,ha,hb,rfl⟩:=Yx h
           have:=v2 a ha; omega
         .have U:=Auw data e t a a1
          by_cases hb:acc>6
          .refine ⟨.inl (-1),E9 ?_,.inl ⟨rfl,fun d h=>?_⟩⟩
           .simp only [A4 (by omega:(j:Int)<(i.Kids.length:Int)),cond_true,Cs rfl q,Ap,G,A8 (by omega:¬(a:Int)<0),A4 (by omega:(acc:Int)>6),cond_false]
           .obtain ⟨a,b,ha,hb,rfl⟩:=Yx h
            omega
          .have ew:Al ((acc:Int)+(a:Int))=((acc+a:Nat):Int):=by rw [Al,Cl] <;> omega
           obtain ⟨z,A,z2⟩:=B (j+1) (acc+a) (by omega) (by omega)
           refine ⟨z,?_,?_⟩
           .rw [I2 (s':=(((acc+a:Nat):Int),((j+1:Nat):Int)))]
            .exact A
            .simp only [A4 (by omega:(j:Int)<(i.Kids.length:Int)),cond_true,Cs rfl q,Ap,G,A8 (by omega:¬(a:Int)<0),A8 (by omega:¬(acc:Int)>6),cond_false,ew,D3 (show j<i.Kids.length by omega) (by omega)]
           .have I:∀o:Option Nat,(((some a:Option Nat).bind fun a=>o.map (a + ·)).map (acc + ·))=o.map (acc+a + ·):=by
             intro o; cases o <;> simp [Nat.add_assoc]
            rw [a1,I]
            exact z2
       obtain ⟨z,A,z2⟩:=key i.Kids.length 0 0 (by omega) (by omega)
       have A:Bc _ ((0:Int),(0:Int))=some z:=A
       rw [A,Ap]
       rw [List.drop_zero,I] at z2
       cases z with
       | inl v=>exact ⟨v,rfl,z2⟩
       | inr v=>exact ⟨v,rfl,z2⟩
      .simp only [C7 s,cond_true,if_neg s]
       exact ⟨_,rfl,.inl ⟨rfl,c⟩⟩
     .simp only [Cg h5,cond_false,if_neg h5]
      by_cases s:i.Num=0
      .simp only [Ct s,cond_true]
       by_cases a3:i.Kids.length=0
       .rw [if_pos ⟨s,a3⟩,Ct (by omega)]
        exact ⟨_,rfl,.inr ⟨0,rfl,rfl⟩⟩
       .rw [if_neg (fun h=>a3 h.2),Cg (by omega)]
        exact ⟨_,rfl,.inl ⟨rfl,c⟩⟩
      .simp only [Cg s,cond_false]
       rw [if_neg (fun h=>s h.1)]
       exact ⟨_,rfl,.inl ⟨rfl,c⟩⟩
  .intro g f hk hi N
   have R:=Kv g
   rw [Mu]
   by_cases hl:f.length=g.length
   .rw [C0 (by omega)]
    simp only [cond_false]
    have key:∀(m j acc:Nat),j+m=g.length->acc<=10000000->∃z,Bc (S:=(Int×Int)) (E:=(Int⊕Int)) (fun (v5,V)=>
      bif (decide (V<(f.length:Int))) then (
      (Au f V).bind fun v7=>
      (Au g V).bind fun v9=>
      (Kl k v7 v9 b1 b2 data vars r1 r2 L).bind fun v10=>
      bif (decide (v10<(0:Int))) then some (.inr (.inl (-1)))
      else (
      bif (decide (v5>(6:Int))) then some (.inr (.inl (-1)))
      else some (.inl ((Al (v5+v10)),(Al (V+1))))))
      else some (.inr (.inr v5))) ((acc:Int),(j:Int))=some z/\Dg (match z with | .inl v=>v | .inr v=>v) ((Ed data (g.drop j) (f.drop j)).map (acc + ·)):=by
     intro m
     induction m with
     | zero=>
      intro j acc hj D
      have:j=f.length:=by omega
      subst this
      refine ⟨.inr (acc:Int),E9 (by simp),.inr ⟨acc,?_,rfl⟩⟩
      rw [List.drop_of_length_le (by omega),List.drop_of_length_le (by omega)]
      simp [Ed]
     | succ m B=>
      intro j acc hj D
      have q:g[j]? = some g[j]:=Cv (by omega)
      generalize g[j]=e at q
      have hu:f[j]? = some f[j]:=Cv (by omega)
      generalize f[j]=u at hu
      have ac:=L8 (Cq q)
      rw [Kw q,Kw hu,Vw]
      obtain ⟨v,G,v2⟩:=a6 e u (by omega) (by omega) (N u (Cq hu))
      rcases v2 with ⟨rfl,v2⟩ | ⟨a,a1,rfl⟩
      .refine ⟨.inl (-1),E9 ?_,.inl ⟨rfl,fun d h=>?_⟩⟩
       .simp only [A4 (by omega:(j:Int)<(f.length:Int)),cond_true,Cs rfl q,Cs rfl hu,Ap,G]; rfl
       .obtain ⟨a,b,ha,hb,rfl⟩:=Yx h
        have:=v2 a ha; omega
      .have U:=Ajj data e u a a1
       by_cases hb:acc>6
       .refine ⟨.inl (-1),E9 ?_,.inl ⟨rfl,fun d h=>?_⟩⟩
        .simp only [A4 (by omega:(j:Int)<(f.length:Int)),cond_true,Cs rfl q,Cs rfl hu,Ap,G,A8 (by omega:¬(a:Int)<0),A4 (by omega:(acc:Int)>6),cond_false]
        .obtain ⟨a,b,ha,hb,rfl⟩:=Yx h
         omega
       .have ew:Al ((acc:Int)+(a:Int))=((acc+a:Nat):Int):=by rw [Al,Cl] <;> omega
        obtain ⟨z,A,z2⟩:=B (j+1) (acc+a) (by omega) (by omega)
        refine ⟨z,?_,?_⟩
        .rw [I2 (s':=(((acc+a:Nat):Int),((j+1:Nat):Int)))]
         .exact A
         .simp only [A4 (by omega:(j:Int)<(f.length:Int)),cond_true,Cs rfl q,Cs rfl hu,Ap,G,A8 (by omega:¬(a:Int)<0),A8 (by omega:¬(acc:Int)>6),cond_false,ew,D3 (show j<g.length by omega) (by omega)]
        .have I:∀o:Option Nat,(((some a:Option Nat).bind fun a=>o.map (a + ·)).map (acc + ·))=o.map (acc+a + ·):=by
          intro o; cases o <;> simp [Nat.add_assoc]
         rw [a1,I]
         exact z2
    obtain ⟨z,A,z2⟩:=key g.length 0 0 (by omega) (by omega)
    have A:Bc _ ((0:Int),(0:Int))=some z:=A
    rw [A,Ap]
    rw [List.drop_zero,List.drop_zero,I] at z2
    cases z with
    | inl v=>exact ⟨v,rfl,z2⟩
    | inr v=>exact ⟨v,rfl,z2⟩
   .rw [C7 (by omega),Ys data g f hl]
    exact ⟨_,rfl,.inl ⟨rfl,c⟩⟩
  .intro e t hk q N
   have ag:=Gj e
   rw [Mv]
   unfold Tu G7
   rw [Acn hz t N e.Num,Ap]
   cases hf:Gp data t e.Num with
   | none=>exact ⟨-1,rfl,.inl ⟨rfl,c⟩⟩
   | some l=>
    have ad:=Vu hf
    obtain ⟨x,y,_,hx,_,hy,hl,ab⟩:=Ow hf
    obtain ⟨y6,_⟩:=hz x (Eo hx).2.2.2 y (Eo hy).2.2.2
    have ae:l.length<=6:=by rw [hl]; simpa using y6
    have aa:∀a∈F0 l (Ec data t.Num e.Num),Br a<=200:=(Acr (show G7 data t e.Num=some _ by unfold G7; rw [hf]; rfl)).1
    obtain ⟨v,G,v2⟩:=M e.Kids (F0 l (Ec data t.Num e.Num)) (by omega) (by omega) aa
    have hd:Dg (if v<0 then -1 else 1+v) (((some l).map fun l=>F0 l (Ec data t.Num e.Num)).bind fun f=>(Ed data e.Kids f).map (1 + ·)):=by
     rw [Option.map_some,Ap]
     rcases v2 with ⟨rfl,v2⟩ | ⟨a,a1,rfl⟩
     .refine .inl ⟨rfl,fun d h=>?_⟩
      cases ha:Ed data e.Kids (F0 l (Ec data t.Num e.Num)) with
      | none=>rw [ha] at h; cases h
      | some a=>rw [ha] at h; have:=v2 a ha; simp at h; omega
     .rw [a1,if_neg (by omega)]
      exact .inr ⟨1+a,rfl,by omega⟩
    have a8:v = -1\/(0<=v/\v<=10000000):=by
     rcases v2 with ⟨rfl,v2⟩ | ⟨a,a1,rfl⟩
     .exact .inl rfl
     .have:=Vx data _ _ a a1; right; omega
    refine ⟨_,?_,hd⟩
    simp only [okL,Dr,cond_false,Yl data t.Num e.Num hs,Ap]
    refine F6 (Ec data t.Num e.Num) (fun j=>((j:Int),F0 (l.take j) ((Ec data t.Num e.Num).take j))) (by simp [F0]) (by omega) ?_ ?_
    .intro j b hj hb h1 h2 h3
     have ha:l[j]? = some l[j]:=Cv (by omega)
     generalize l[j]=a at ha
     have R:=Acp (l.take j) ((Ec data t.Num e.Num).take j)
     have:(l.take j).length<=6:=by simp; omega
     simp only [h1,h2,h3,cond_true,Ap,Cs rfl ha,Aco ha hb]
     rw [Dw (by simp; omega)]
     cases b <;> simp
    .intro h1
     refine ⟨F0 l (Ec data t.Num e.Num),?_,?_⟩
     .simp only [h1]
      rw [List.take_of_length_le (by omega),List.take_of_length_le (Nat.le_refl _)]; rfl
     .rw [G,Ap]
      rcases a8 with h | h
      .subst h; rfl
      .rw [A8 (by omega),if_neg (by omega)]
       simp only [cond_false]
       rw [Al,Cl] <;> omega
def tyX (vars:List Ao) (res:Ao) (v:Int):Option Ao:=if v = -1 then some res else Au vars v
def F8 (data:List A5) (vars:List Ao) (res:Ao) (o:List (ByteArray×Int)):Prop:=∀p∈o,∀v i t,p.1=L9 v i->tyX vars res v=some t->p.2=Fw (F1 data i t)
theorem Ajl {α:Type}:∀(o:List (ByteArray×α)) (s:ByteArray) (v:α),∀p∈Fr o s v,p∈o\/p=(s,v)
 | [],s,v,p,h=>by simp only [Fr,List.mem_singleton] at h; exact .inr h
 | q::o,s,v,p,h=>by
  unfold Fr at h
  cases b:(s==q.1) with
  | true=>
   rw [b] at h
   simp only [cond_true,List.mem_cons] at h
   rcases h with h | h
   .exact .inr h
   .exact .inl (by simp [h])
  | false=>
   rw [b] at h
   simp only [cond_false,List.mem_cons] at h
   rcases h with h | h
   .exact .inl (by simp [h])
   .rcases Ajl o s v p h with h | h
    .exact .inl (by simp [h])
    .exact .inr h
theorem Auy {data:List A5} (I:Szv data) (L:Hs data) (b1:List (ByteArray×Int)) (b2:List (ByteArray×List D8)) (vars:List Ao) (res:Ao) (g:F8 data vars res b1)
  (v:Int) (i:Be) (t:Ao) (b:tyX vars res v=some t) (c:Br t<=200) (J:I64 v) (M:iR i) (hi:isz i<=1048576) :
  ∃x,Kk v i b1 b2 data vars res.Kind res.Num res.Args=some (Fw (F1 data i t),x)/\F8 data vars res x:=by
 unfold Kk
 rw [Auu v i J M hi,Ap]
 cases j:Fq b1 (L9 v i) with
 | true=>
  refine ⟨b1,?_,g⟩
  have:H5 b1 (L9 v i) 0=Fw (F1 data i t):=by
   unfold H5
   unfold Fq at j
   rw [List.any_eq_true] at j
   obtain ⟨p,E,D⟩:=j
   cases k:b1.find? (fun p=>L9 v i==p.1) with
   | none=>exact absurd D (by have:=List.find?_eq_none.1 k p E; simpa using this)
   | some q=>
    have N:=List.find?_some k
    exact g q (List.mem_of_find?_eq_some k) v i t ((Ach _ _).1 N).symm b
  simp only [cond_true,Ap,Dr,cond_false,this]
 | false=>
  obtain ⟨w,z,y⟩:=(Aux I L b1 b2 vars res.Kind res.Num res.Args 4000000).1 i t (by omega) hi c
  have f:Mm v b1 b2 data vars res.Kind res.Num res.Args=some t:=by
   unfold Mm
   unfold tyX at b
   by_cases h:v = -1
   .rw [if_pos h] at b; cases b
    have R:(Ao.mk res.Kind res.Num res.Args)=res:=by cases res; rfl
    rw [Ct h,R]; rfl
   .rw [if_neg h] at b
    rw [Cg h,b]; rfl
  have l:(bif decide (w>6) then some (-1) else some w:Option Int)=some (Fw (F1 data i t)):=by
   rw [<-y.clip]
   by_cases h:w>6
   .rw [A4 h,if_pos h]; rfl
   .rw [A8 h,if_neg h]; rfl
  refine ⟨Fr b1 (L9 v i) (Fw (F1 data i t)),?_,?_⟩
  .simp only [cond_false,Ap,Bool.not_false,cond_true,f,z,l]
  .intro p hp A G B u s
   rcases Ajl _ _ _ p hp with h | h
   .exact g p h A G B u s
   .subst h
    obtain ⟨rfl,rfl⟩:=Aus u
    rw [b] at s; cases s; rfl
end Go.Ab
namespace Go.Ab
open Go
def Fc (a b:Int):Int:=if a<b then -1 else if a>b then 1 else 0
def orI (a b:Int):Int:=if a=0 then b else a
theorem F9 {a b:Int}:Fc a b=0↔a=b:=by unfold Fc; split <;> (try split) <;> omega
theorem M3 (a b:Int):Jb a b=some (Fc a b):=by
 unfold Jb Su Fc
 simp only [Ap,bne_self_eq_false,cond_false]
 by_cases h:a<b
 .rw [A4 h,if_pos h]; rfl
 .rw [A8 h,if_neg h]
  by_cases h':a>b
  .rw [A4 h',if_pos h']; rfl
  .rw [A8 h',if_neg h']; rfl
theorem Ajm (a b:Int):Sw a b=some (Fc a b):=M3 a b
theorem Tv (a b:Int):Kf [a,b]=some (orI a b):=by
 unfold Kf orI
 by_cases ha:a=0
 .rw [if_pos ha]
  by_cases hb:b=0
  .refine Oj 2 (fun j=>(j:Int)) rfl ?_ ⟨.inr (),rfl,by rw [hb]⟩
   intro j hj
   match j,hj with
   | 0,_=>subst ha; rfl
   | 1,_=>subst hb; rfl
  .refine Oj 1 (fun j=>(j:Int)) rfl ?_ ⟨.inl b,?_,rfl⟩
   .intro j hj
    match j,hj with
    | 0,_=>subst ha; rfl
   .show (bif (b != 0) then _ else _)=_
    rw [C7 hb]; rfl
 .rw [if_neg ha]
  refine Oj 0 (fun j=>(j:Int)) rfl (fun j hj=>by omega) ⟨.inl a,?_,rfl⟩
  show (bif (a != 0) then _ else _)=_
  rw [C7 ha]; rfl
theorem Yy (a b:Int) (h:a≠b):P7 (decide (a<b))=some (Fc a b):=by
 unfold P7 Fc
 by_cases h':a<b
 .rw [A4 h',if_pos h']; rfl
 .rw [A8 h',if_neg h',if_pos (by omega)]; rfl
theorem Yz (a b:Int) (h:a≠b):N1 (decide (a<b))=some (Fc a b):=Yy a b h
theorem Y0 (a b:Int) (h:a≠b):Nt (decide (a<b))=some (Fc a b):=Yy a b h
def Ga {α:Type} (g:α->α->Int):List α->List α->Int
 | x::xs,y::ys=>orI (g x y) (Ga g xs ys)
 | _,_=>0
theorem Vy {α:Type} (g:α->α->Int) (l m:List α) {step:Int->Option (Int⊕(Int⊕Unit))} (k:l.length=m.length) (hb:l.length<4611686018427387904)
  (f:∀(j:Nat) (x y:α),l[j]? = some x->m[j]? = some y->decide ((j:Int)<(l.length:Int))=true->Au l (j:Int)=some x->Au m (j:Int)=some y->decide ((j:Int)>=(m.length:Int))=false->Al ((j:Int)+1)=((j+1:Nat):Int) ->
   step (j:Int)=if g x y=0 then some (.inl ((j+1:Nat):Int)) else some (.inr (.inl (g x y))))
  (i:decide ((l.length:Int)<(l.length:Int))=false->step (l.length:Int)=some (.inr (.inr ()))) :
  ∃z,Bc step 0=some z/\(match z with | .inl r=>r=Ga g l m/\r≠0 | .inr _=>Ga g l m=0):=by
 have key:∀(n j:Nat),j+n=l.length->∃z,Bc step (j:Int)=some z/\(match z with | .inl r=>r=Ga g (l.drop j) (m.drop j)/\r≠0 | .inr _=>Ga g (l.drop j) (m.drop j)=0):=by
  intro n
  induction n with
  | zero=>
   intro j hj
   have:j=l.length:=by omega
   subst this
   refine ⟨.inr (),E9 (i (by simp)),?_⟩
   rw [List.drop_of_length_le (by omega)]; simp [Ga]
  | succ n ih=>
   intro j hj
   have hx:l[j]? = some l[j]:=Cv (by omega)
   have hy:m[j]? = some m[j]:=Cv (by omega)
   generalize l[j]=x at hx
   generalize m[j]=y at hy
   have h:=f j x y hx hy (A4 (by omega)) (Cs rfl hx) (Cs rfl hy) (A8 (by omega)) (D3 (show j<l.length by omega) hb)
   rw [Kw hx,Kw hy]
   by_cases b:g x y=0
   .rw [if_pos b] at h
    obtain ⟨z,c,z2⟩:=ih (j+1) (by omega)
    refine ⟨z,by rw [I2 h]; exact c,?_⟩
    have e:Ga g (x::l.drop (j+1)) (y::m.drop (j+1))=Ga g (l.drop (j+1)) (m.drop (j+1)):=by simp only [Ga,orI,b,if_true]
    cases z with
    | inl r=>simp only [e]; exact z2
    | inr u=>simp only [e]; exact z2
   .rw [if_neg b] at h
    refine ⟨.inl (g x y),E9 h,?_,b⟩
    simp only [Ga,orI,b,if_false]
 exact key l.length 0 (by omega)
theorem Y1 {α:Type} (f:α->α->Option Int) (g:α->α->Int) (l m:List α) (s:l.length=m.length) (hb:l.length<4611686018427387904) (A:∀(j:Nat) (x y:α),l[j]? = some x->m[j]? = some y->f x y=some (g x y)) :
  ((Bc (S:=Int) (E:=(Int⊕Unit)) (fun b=>
   bif (decide (b<(l.length:Int))) then (
   (Au l b).bind fun v7=>
   bif (decide (b>=(m.length:Int))) then some (.inr (.inl 1))
   else (
   (Au m b).bind fun v9=>
   (f v7 v9).bind fun c=>
   bif (c != (0:Int)) then some (.inr (.inl c))
   else some (.inl (Al (b+1)))))
   else some (.inr (.inr ()))) 0).bind fun z=>
   match z with
   | .inl k=>some k
   | .inr _=>bif (decide ((l.length:Int)<(m.length:Int))) then some (-1) else some 0)=some (Ga g l m):=by
 refine Q2 (Vy g l m s hb ?_ (fun h=>by simp only [h]; rfl)) ?_
 .intro j x y hx hy h1 h2 h3 D B
  simp only [h1,h2,h3,D,B,cond_true,cond_false,Ap,A j x y hx hy]
  by_cases i:g x y=0
  .rw [C0 i,if_pos i]; rfl
  .rw [C7 i,if_neg i]; rfl
 .rintro (r | u) q
  .rw [q.1]
  .simp only
   rw [A8 (by omega),show Ga g l m=0 from q]; rfl
def Ma (x y:Fv):Int:=orI (Fc x.Var y.Var) (Fc x.Coef y.Coef)
def Mb (a b:Ey):Int:=if a.Terms.length=b.Terms.length then orI (Ga Ma a.Terms b.Terms) (Fc a.Const b.Const) else Fc a.Terms.length b.Terms.length
theorem Ajn (a b:Ey) (ha:a.Terms.length<1099511627776):Ms a b=some (Mb a b):=by
 unfold Ms Mb
 rw [M3,Ap]
 by_cases h:a.Terms.length=b.Terms.length
 .rw [C0 (F9.2 (by omega)),if_pos h]
  simp only [cond_false]
  have:=Y1 Sv Ma a.Terms b.Terms h (by omega) (fun j x y _ _=>by
   unfold Sv Ma
   rw [M3,Ajm]; simp only [Ap,Tv])
  rw [show U3 a.Terms b.Terms=_ from this,Ap,Ajm]
  simp only [Ap,Tv]
 .rw [C7 (fun e=>h (by have:=F9.1 e; omega)),if_neg h]; rfl
theorem Ajo (a b:Ey) (ha:a.Terms.length<1099511627776):Lq a b=some (Mb a b):=by
 unfold Lq Mb
 by_cases h:a.Terms.length=b.Terms.length
 .rw [C0 (by omega),if_pos h]
  simp only [cond_false]
  refine Q2 (Vy Ma a.Terms b.Terms h (by omega) ?_ (fun h=>by simp only [h]; rfl)) ?_
  .intro j x y hx hy h1 h2 h3 k g
   simp only [h1,h2,h3,g,cond_true,Ap]
   by_cases c:x.Var=y.Var
   .rw [C0 c]
    by_cases hc:x.Coef=y.Coef
    .rw [C0 hc]
     rw [if_pos (by unfold Ma; rw [F9.2 c,F9.2 hc]; rfl)]; rfl
    .rw [C7 hc,Yz _ _ hc]
     have e:Ma x y=Fc x.Coef y.Coef:=by unfold Ma; rw [F9.2 c]; rfl
     rw [e,if_neg (fun e=>hc (F9.1 e))]; rfl
   .rw [C7 c,Yz _ _ c]
    have e:Ma x y=Fc x.Var y.Var:=by unfold Ma orI; rw [if_neg (fun e=>c (F9.1 e))]
    rw [e,if_neg (fun e=>c (F9.1 e))]; rfl
  .rintro (r | u) f
   .obtain ⟨rfl,i⟩:=f
    unfold orI; rw [if_neg i]
   .have f:Ga Ma a.Terms b.Terms=0:=f
    rw [f]
    simp only [orI,if_true]
    by_cases hc:a.Const=b.Const
    .rw [C0 hc,F9.2 hc]; rfl
    .rw [C7 hc,Yz _ _ hc]; rfl
 .rw [C7 (by omega),if_neg h,Yz _ _ (by omega)]; rfl
mutual
def Jg:Be->Be->Int
 | ⟨n,k⟩,j=>if n=j.Num then (if k.length=j.Kids.length then Rc k j.Kids else Fc k.length j.Kids.length) else Fc n j.Num
def Rc:List Be->List Be->Int
 | x::xs,y::ys=>orI (Jg x y) (Rc xs ys)
 | [],_=>0
 | _::_,[]=>0
end
theorem Ajp (i j:Be):Jg i j=if i.Num=j.Num then (if i.Kids.length=j.Kids.length then Rc i.Kids j.Kids else Fc i.Kids.length j.Kids.length) else Fc i.Num j.Num:=by cases i; simp only [Jg]
theorem Ac0:∀l m:List Be,Rc l m=Ga Jg l m
 | x::xs,y::ys=>by simp only [Rc,Ga,Ac0 xs ys]
 | [],_=>by simp [Rc,Ga]
 | _::_,[]=>by simp [Rc,Ga]
theorem Auz:∀(n k:Nat) (i j:Be),isz i<=n->2*n<=k->n<1099511627776->Kg k i j=some (Jg i j):=by
 intro n
 induction n with
 | zero=>intro k i j h; have:=Gj i; omega
 | succ n ih=>
  intro k i j h hk c
  obtain ⟨k,rfl⟩:∃b,k=b+2:=⟨k-2,by omega⟩
  have hi:=Gj i
  have f:=Kv i.Kids
  rw [Kg,Ajp,M3,M3]
  simp only [Ap,Tv]
  by_cases h1:i.Num=j.Num
  .rw [if_pos h1]
   by_cases h2:i.Kids.length=j.Kids.length
   .rw [if_pos h2,C0 (by unfold orI; rw [F9.2 h1,F9.2 (by omega)]; rfl),Ac0]
    simp only [cond_false]
    have:=Y1 (Kg k) Jg i.Kids j.Kids h2 (by omega) (fun q x y hx hy=>ih k x y (by have:=L8 (Cq hx); omega) (by omega) (by omega))
    rw [Qd]
    refine Eq.trans (congrArg (fun q=>Option.bind q _) this) rfl
   .have e:orI (Fc i.Num j.Num) (Fc (i.Kids.length:Int) (j.Kids.length:Int))=Fc i.Kids.length j.Kids.length:=by unfold orI; rw [F9.2 h1]; rfl
    rw [if_neg h2,e,C7 (fun e=>h2 (by have:=F9.1 e; omega))]; rfl
  .have e:orI (Fc i.Num j.Num) (Fc (i.Kids.length:Int) (j.Kids.length:Int))=Fc i.Num j.Num:=by unfold orI; rw [if_neg (fun e=>h1 (F9.1 e))]
   rw [if_neg h1,e,C7 (fun e=>h1 (F9.1 e))]; rfl
theorem Au0:∀(n k:Nat) (i j:Be),isz i<=n->2*n<=k->n<1099511627776->Kc k i j=some (Jg i j):=by
 intro n
 induction n with
 | zero=>intro k i j h; have:=Gj i; omega
 | succ n ih=>
  intro k i j h hk s
  obtain ⟨k,rfl⟩:∃g,k=g+2:=⟨k-2,by omega⟩
  have hi:=Gj i
  have A:=Kv i.Kids
  rw [Kc,Ajp]
  by_cases h1:i.Num=j.Num
  .rw [if_pos h1,C0 h1]
   simp only [cond_false]
   rw [P8]
   by_cases h2:i.Kids.length=j.Kids.length
   .rw [if_pos h2,C0 (by omega),Ac0]
    simp only [cond_false]
    have:=Vy Jg i.Kids j.Kids h2 (by omega) (step:=fun v5=>bif (decide (v5<(i.Kids.length:Int))) then ((Au i.Kids v5).bind fun f=>(Au j.Kids v5).bind fun v7=>(Kc k f v7).bind fun v8=>bif (v8 != (0:Int)) then some (.inr (.inl v8)) else some (.inl (Al (v5+1)))) else some (.inr (.inr ()))) (fun q x y hx hy h1 h2 h3 B l=>by
     simp only [h1,h2,h3,l,cond_true,Ap,ih k x y (by have:=L8 (Cq hx); omega) (by omega) (by omega)]
     by_cases b:Jg x y=0
     .rw [C0 b,if_pos b]; rfl
     .rw [C7 b,if_neg b]; rfl) (fun h=>by simp only [h]; rfl)
    obtain ⟨z,c,z2⟩:=this
    rw [c,Ap]
    cases z with
    | inl r=>rw [z2.1]; rfl
    | inr u=>rw [show Ga Jg i.Kids j.Kids=0 from z2]; rfl
   .rw [if_neg h2,C7 (by omega),Yy _ _ (by omega)]; rfl
  .rw [if_neg h1,C7 h1,Yy _ _ h1]; rfl
def Mc (x y:D1):Int:=orI (Fc x.Var y.Var) (Jg x.Index y.Index)
def M4 (x y:Ek):Int:=orI (Mb x.Lin y.Lin) (Fc x.Deg y.Deg)
def Re (a b:C8):Int :=
 if a.Factors.length=b.Factors.length then
  orI (Ga Mc a.Factors b.Factors) (if a.Atoms.length=b.Atoms.length then Ga M4 a.Atoms b.Atoms else Fc a.Atoms.length b.Atoms.length)
 else Fc a.Factors.length b.Factors.length
structure MSz (m:C8):Prop where
 nf:m.Factors.length<=1048576
 na:m.Atoms.length<=1048576
 fi:∀f∈m.Factors,isz f.Index<=1048576
 fr:∀f∈m.Factors,iR f.Index/\I64 f.Var
 al:∀a∈m.Atoms,a.Lin.Terms.length<=1048576
theorem Au1 (a b:C8) (ha:MSz a):Lp a b=some (Re a b):=by
 have h1:=ha.nf
 have h2:=ha.na
 unfold Lp Re
 rw [M3,Ap]
 by_cases h:a.Factors.length=b.Factors.length
 .rw [C0 (F9.2 (by omega)),if_pos h]
  simp only [cond_false]
  have:=Y1 Sk Mc a.Factors b.Factors h (by omega) (fun j x y hx hy=>by
   unfold Sk Mc
   rw [M3,Auz 1048576 4000000 x.Index y.Index (ha.fi x (Cq hx)) (by omega) (by omega)]; simp only [Ap,Tv])
  rw [show Uy a.Factors b.Factors=_ from this,Ap,M3]
  simp only [Ap,Tv]
  by_cases c:Ga Mc a.Factors b.Factors=0
  .simp only [c,orI,if_true]
   by_cases h':a.Atoms.length=b.Atoms.length
   .rw [C0 (F9.2 (by omega)),if_pos h']
    simp only [cond_false]
    have:=Y1 Sl M4 a.Atoms b.Atoms h' (by omega) (fun j x y hx hy=>by
     unfold Sl M4
     rw [M3,Ajn x.Lin y.Lin (by have:=ha.al x (Cq hx); omega)]; simp only [Ap,Tv])
    rw [show Uz a.Atoms b.Atoms=_ from this]; rfl
   .rw [C7 (fun e=>h' (by have:=F9.1 e; omega)),if_neg h']; rfl
  .simp only [orI,if_neg c]
   rw [C7 c]; rfl
 .rw [C7 (fun e=>h (by have:=F9.1 e; omega)),if_neg h]; rfl
theorem Au2 (a b:C8) (ha:MSz a):Pt a b=some (Re a b):=by
 have h1:=ha.nf
 have h2:=ha.na
 unfold Pt Re
 by_cases h:a.Factors.length=b.Factors.length
 .rw [C0 (by omega),if_pos h]
  simp only [cond_false]
  refine Q2 (Vy Mc a.Factors b.Factors h (by omega) ?_ (fun h=>by simp only [h]; rfl)) ?_
  .intro j x y hx hy h1 h2 h3 i g
   simp only [h1,h2,h3,g,cond_true,Ap,Au0 1048576 4000000 x.Index y.Index (ha.fi x (Cq hx)) (by omega) (by omega)]
   by_cases c:x.Var=y.Var
   .rw [C0 c]
    have e:Mc x y=Jg x.Index y.Index:=by unfold Mc orI; rw [if_pos (F9.2 c)]
    rw [e]
    by_cases hc:Jg x.Index y.Index=0
    .rw [C0 hc,if_pos hc]; rfl
    .rw [C7 hc,if_neg hc]; rfl
   .rw [C7 c,Y0 _ _ c]
    have e:Mc x y=Fc x.Var y.Var:=by unfold Mc orI; rw [if_neg (fun e=>c (F9.1 e))]
    rw [e,if_neg (fun e=>c (F9.1 e))]; rfl
  .rintro (r | u) f
   .obtain ⟨rfl,k⟩:=f
    unfold orI; rw [if_neg k]
   .have f:Ga Mc a.Factors b.Factors=0:=f
    rw [f]
    simp only [orI,if_true]
    by_cases h':a.Atoms.length=b.Atoms.length
    .rw [C0 (by omega),if_pos h']
     simp only [cond_false]
     refine Q2 (Vy M4 a.Atoms b.Atoms h' (by omega) ?_ (fun h=>by simp only [h]; rfl)) ?_
     .intro j x y hx hy h1 h2 h3 i g
      simp only [h1,h2,h3,g,cond_true,Ap,Ajo x.Lin y.Lin (by have:=ha.al x (Cq hx); omega)]
      by_cases c:Mb x.Lin y.Lin=0
      .rw [C0 c]
       have e:M4 x y=Fc x.Deg y.Deg:=by unfold M4 orI; rw [if_pos c]
       rw [e]
       by_cases hc:x.Deg=y.Deg
       .rw [C0 hc,if_pos (F9.2 hc)]; rfl
       .rw [C7 hc,Y0 _ _ hc,if_neg (fun e=>hc (F9.1 e))]; rfl
      .have e:M4 x y=Mb x.Lin y.Lin:=by unfold M4 orI; rw [if_neg c]
       rw [C7 c,e,if_neg c]; rfl
     .rintro (r | u) f
      .rw [f.1]
      .rw [show Ga M4 a.Atoms b.Atoms=0 from f]
    .rw [C7 (by omega),if_neg h',Y0 _ _ (by omega)]; rfl
 .rw [C7 (by omega),if_neg h,Y0 _ _ (by omega)]; rfl
def Ky {α:Type} (f:α->Int) (l:List α) (x:α) (j:Nat):Bool:=j==0||(match l[j-1]? with | some y=>decide (f y<f x) | none=>false)
def Vz (l:List Fv) (x:Fv) (j:Nat):Bool:=decide (-1<=x.Var/\x.Var<3000/\x.Coef≠0/\-1048576<=x.Coef/\x.Coef<=1048576)&&Ky (·.Var) l x j
def O0 (a:Ey):Bool:=decide (-1048576<=a.Const/\a.Const<=1048576/\a.Terms.length<=16)&&a.Terms.zipIdx.all (fun q=>Vz a.Terms q.1 q.2)
theorem Ajq (n:Int):Qm n=some (decide (-1048576<=n/\n<=1048576)):=by
 unfold Qm
 by_cases h:(-1048576:Int)<=n <;> simp [h]
theorem Au3 (n:Int):S4 n=some (decide (-1<=n/\n<3000)):=by
 unfold S4
 by_cases h:(-1:Int)<=n <;> simp [h]
theorem Ac1 {α S E:Type} (f:α->Int) (l:List α) {x:α} {j:Nat} (hx:l[j]? = some x) (i:l.length<4611686018427387904) (c b:Option (S⊕E)) :
  (bif decide ((j:Int)>0) then ((Au l (Al ((j:Int)-1))).bind fun v13=>bif decide (f v13>=f x) then c else b) else b)=bif Ky f l x j then b else c:=by
 have hj:=Em hx
 unfold Ky
 by_cases h:j=0
 .subst h; rfl
 .rw [A4 (by omega)]
  have e:Al ((j:Int)-1)=((j-1:Nat):Int):=by rw [Al,Cl] <;> omega
  have hy:l[j-1]? = some l[j-1]:=Cv (by omega)
  rw [e,Cs rfl hy,hy]
  have g:(j==0)=false:=by simpa using h
  simp only [cond_true,Ap,g,Bool.false_or]
  by_cases hc:f l[j-1]<f x
  .rw [A8 (by omega),A4 hc]; rfl
  .rw [A4 (by omega),A8 hc]; rfl
theorem Au4 (a:Ey):Qg a=some (O0 a):=by
 unfold Qg O0
 rw [Ajq]
 simp only [Ap]
 by_cases h1 : -1048576<=a.Const/\a.Const<=1048576
 .rw [A4 h1]
  by_cases h2:a.Terms.length<=16
  .rw [A8 (by omega:¬(a.Terms.length:Int)>16),A4 ⟨h1.1,h1.2,h2⟩]
   simp only [Dr,cond_false,Ap,Bool.true_and]
   refine (Kr a.Terms (fun q=>Vz a.Terms q.1 q.2) (fun j=>(j:Int)) rfl (by omega) (rt:=true) (rf:=false) ?_ ?_).trans (by rw [Jx])
   .intro j x hx _ h1 h2 h3
    simp only [h1,h2,h3,cond_true,Ap,Au3,Ajq,Ac1 (·.Var) a.Terms hx (by omega),Vz]
    by_cases g1 : -1<=x.Var/\x.Var<3000
    .by_cases g2:x.Coef=0
     .rw [A4 g1,Ct g2,A8 (fun h=>h.2.2.1 g2)]
      exact ⟨(fun h=>by cases h),fun _=>⟨.inl false,rfl,rfl⟩⟩
     .by_cases g3 : -1048576<=x.Coef/\x.Coef<=1048576
      .rw [A4 g1,Cg g2,A4 g3,A4 ⟨g1.1,g1.2,g2,g3.1,g3.2⟩]
       cases Ky (·.Var) a.Terms x j with
       | true=>exact ⟨fun _=>rfl,fun h=>by cases h⟩
       | false=>exact ⟨(fun h=>by cases h),fun _=>⟨.inl false,rfl,rfl⟩⟩
      .rw [A4 g1,Cg g2,A8 g3,A8 (fun h=>g3 h.2.2.2)]
       exact ⟨(fun h=>by cases h),fun _=>⟨.inl false,rfl,rfl⟩⟩
    .rw [A8 g1,A8 (fun h=>g1 ⟨h.1,h.2.1⟩)]
     exact ⟨(fun h=>by cases h),fun _=>⟨.inl false,rfl,rfl⟩⟩
   .intro h _
    exact ⟨.inr (),by simp only [h]; rfl,rfl⟩
  .rw [A4 (by omega:(a.Terms.length:Int)>16),A8 (fun h=>h2 h.2.2)]; rfl
 .rw [A8 h1,A8 (fun h : -1048576<=a.Const/\a.Const<=1048576/\a.Terms.length<=16=>h1 ⟨h.1,h.2.1⟩)]; rfl
theorem Au5 (a:Ey):Ny a=some (O0 a):=by
 unfold Ny O0
 by_cases h2:a.Terms.length<=16
 .rw [A8 (by omega:¬(a.Terms.length:Int)>16)]
  by_cases h1 : -1048576<=a.Const
  .rw [A8 (by omega:¬a.Const < -1048576)]
   by_cases h3:a.Const<=1048576
   .rw [A8 (by omega:¬a.Const>1048576),A4 ⟨h1,h3,h2⟩]
    simp only [cond_false,Ap,Bool.true_and]
    refine (Kr a.Terms (fun q=>Vz a.Terms q.1 q.2) (fun j=>(j:Int)) rfl (by omega) (rt:=true) (rf:=false) ?_ ?_).trans (by rw [Jx])
    .intro j x hx _ h1 h2 h3
     simp only [h1,h2,h3,cond_true,Ap,Ac1 (·.Var) a.Terms hx (by omega),Vz]
     by_cases g1:x.Var < -1
     .rw [A4 g1,A8 (fun h=>by omega)]
      exact ⟨(fun h=>by cases h),fun _=>⟨.inl false,rfl,rfl⟩⟩
     by_cases g2:x.Var>=3000
     .rw [A8 g1,A4 g2,A8 (fun h=>by omega)]
      exact ⟨(fun h=>by cases h),fun _=>⟨.inl false,rfl,rfl⟩⟩
     by_cases g3:x.Coef=0
     .rw [A8 g1,A8 g2,Ct g3,A8 (fun h=>by omega)]
      exact ⟨(fun h=>by cases h),fun _=>⟨.inl false,rfl,rfl⟩⟩
     by_cases g4:x.Coef < -1048576
     .rw [A8 g1,A8 g2,Cg g3,A4 g4,A8 (fun h=>by omega)]
      exact ⟨(fun h=>by cases h),fun _=>⟨.inl false,rfl,rfl⟩⟩
     by_cases g5:x.Coef>1048576
     .rw [A8 g1,A8 g2,Cg g3,A8 g4,A4 g5,A8 (fun h=>by omega)]
      exact ⟨(fun h=>by cases h),fun _=>⟨.inl false,rfl,rfl⟩⟩
     rw [A8 g1,A8 g2,Cg g3,A8 g4,A8 g5,A4 (by omega)]
     cases Ky (·.Var) a.Terms x j with
     | true=>exact ⟨fun _=>rfl,fun h=>by cases h⟩
     | false=>exact ⟨(fun h=>by cases h),fun _=>⟨.inl false,rfl,rfl⟩⟩
    .intro h _
     exact ⟨.inr (),by simp only [h]; rfl,rfl⟩
   .rw [A4 (by omega:a.Const>1048576),A8 (fun h : -1048576<=a.Const/\a.Const<=1048576/\a.Terms.length<=16=>by omega)]; rfl
  .rw [A4 (by omega:a.Const < -1048576),A8 (fun h : -1048576<=a.Const/\a.Const<=1048576/\a.Terms.length<=16=>by omega)]; rfl
 .rw [A4 (by omega:(a.Terms.length:Int)>16),A8 (fun h : -1048576<=a.Const/\a.Const<=1048576/\a.Terms.length<=16=>by omega)]; rfl
end Go.Ab
