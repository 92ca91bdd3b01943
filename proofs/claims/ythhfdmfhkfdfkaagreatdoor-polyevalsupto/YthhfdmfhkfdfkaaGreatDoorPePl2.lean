/- Plain laws: what the plain functions answer. -/
import Derived.Test.YthhfdmfhkfdfkaaGreatDoorPePl1
import Derived.Lib.ItoaLen
namespace Go.Ab
open Go
theorem Axr {l:List ByteArray} {j:Nat} {x:ByteArray} (h:l[j]? = some x) (b:l.Nodup):∀i y,i<j->l[i]? = some y->y≠x:=by intro i y hi hy e;subst e;have h1:=Dr h;have h2:i<l.length:=ω;rw [Be h1] at h;rw [Be h2] at hy;have:=(List.nodup_iff_pairwise_ne.1 b);rw [List.pairwise_iff_getElem] at this;exact this i j h2 h1 hi (by rw [Option.some.inj h,Option.some.inj hy])
theorem Anh (l:List ByteArray) (M:l.length<1099511627776):∃b,S0 l=some b/\(b=false↔l.Nodup):=by
 unfold S0;refine C6 (λv=>∃i:Nat,v=i/\i<=l.length/\(l.take i).Nodup) (λv=>l.length-v.toNat) (λz=>match z with | .inl r=>r=true/\¬l.Nodup | .inr _=>l.Nodup) ⟨0,rfl,ω,ψ⟩ ?_ ?_
 .rintro v ⟨i,rfl,hi,A⟩;rcases Nat.lt_or_ge i l.length with h | h
  .have hx:l[i]? = some l[i]:=Be h;generalize l[i]=x at hx;have G:(l.take i).length=i:=(by simp; omega);have D:∃z,Al (S:=Int) (E:=(Bool⊕Int)) (λv4=>bif v4<(i:Int) then ((Ae l (i:Int)).bind λv5=>(Ae l v4).bind λL=>bif (v5.toList==L.toList) then some (.inr (.inl true)) else some (.inl (Aa (v4+1)))) else some (.inr (.inr v4))) 0=some z/\(match z with | .inl r=>r=true/\x∈l.take i | .inr _=>x ∉ l.take i):=by
    refine P5 (λv4:Int=>∃j:Nat,v4=j/\j<=i/\∀k y,k<j->l[k]? = some y->y≠x) (λv4=>i-v4.toNat) _ ?_ _ ⟨0,rfl,ω,λk y hk=>ω⟩;rintro v4 ⟨j,rfl,hj,g⟩;rcases Nat.lt_or_ge j i with h' | h'
    .have hy:l[j]? = some l[j]:=Be ω;generalize l[j]=y at hy;simp only [An (by omega:(j:Int)<(i:Int)),cond_true,Bi rfl hx,Bi rfl hy,Ad,Abd];by_cases c:x=y
     .rw [An c];refine .inr ⟨.inl true,rfl,rfl,?_⟩;subst c;exact Bg (i:=j) (by rw [List.getElem?_take_of_lt h']; exact hy)
     .rw [Aq c];refine .inl ⟨((j+1:Nat):Int),by simp only [cond_false]; rw [Co h' ω],⟨j+1,rfl,ω,?_⟩,by simp; omega⟩;intro k J hk f;rcases Nat.lt_or_ge k j with h'' | h''
      .exact g k J h'' f
      .have:k=j:=ω;subst this;rw [hy] at f; cases f;exact λe=>c e.symm
    .have:j=i:=ω;subst this;refine .inr ⟨.inr (j:Int),ψ,?_⟩;intro q;obtain ⟨k,hk⟩:=List.getElem?_of_mem q;have B:=Dr hk;rw [List.getElem?_take_of_lt ω] at hk;exact g k x ω hk rfl
   obtain ⟨z,I,z2⟩:=D;simp only [An (by omega:(i:Int)<(l.length:Int)),cond_true];rw [I,Ad]
   match z,z2 with
   | .inl r,z2=>obtain ⟨rfl,z2⟩:=z2;refine .inr ⟨.inl true,rfl,rfl,λhh=>?_⟩;obtain ⟨k,hk⟩:=List.getElem?_of_mem z2;have B:=Dr hk;rw [List.getElem?_take_of_lt ω] at hk;exact Axr hx hh k x ω hk rfl
   | .inr v8,z2=>refine .inl ⟨((i+1:Nat):Int),by simp only [Co h ω],⟨i+1,rfl,ω,?_⟩,by simp; omega⟩;rw [Cu hx];exact Af9 A z2
  .have:i=l.length:=ω;subst this;rw [List.take_length] at A;exact .inr ⟨.inr (),ψ,A⟩
 .rintro (r | u) s
  .obtain ⟨rfl,s⟩:=s;exact ⟨true,rfl,by simp [s]⟩
  .exact ⟨false,rfl,by simpa using s⟩
theorem SzD.args {data:List Ao} (h:SzD data) {x:Ao} (hx:x∈data) {y:Lb} (hy:y∈x.Cons) {t:Ag} (ht:t∈y.Args):A6 t<=1048576/\t.Args.length<=1048576/\y.Args.length<=1048576:=by have h1:=(h x hx).2 y hy;have h3:=Gf ht;have h4:=Ga t;have c:=Hq t.Args;have b:=Hq y.Args;omega
theorem Axs {data:List Ao} (q:DSz data) {d:Nat} {x:Ao} {y:Lb} (hx:data[d]? = some x) (hy:y∈x.Cons) : ∃z,Al (S:=Int) (E:=(Bool⊕Int)) (λb=> bif b<(y.Args.length:Int) then ((Ae y.Args b).bind λf=> (Mx f d x.Vars).bind λk=> bif k then some (.inl (Aa (b+1))) else ((G1 data 0 d).bind λv218=> (L1 v218 f x.Vars).bind λi=> bif (!i) then some (.inr (.inl false)) else some (.inl (Aa (b+1))))) else some (.inr (.inr b))) 0=some z/\(match z with | .inl r=>r=false/\y.Args.all (Im data d x.Vars)=false | .inr _=>y.Args.all (Im data d x.Vars)=true):=by
 have hxm:=Bg hx;have D:=Dr hx;have u:=q.len;have G:y.Args.length<=1048576:=by have:=(q.sz x hxm).2 y hy; have:=Hq y.Args; omega
 refine P5 (λv:Int=>∃j:Nat,v=j/\j<=y.Args.length/\(y.Args.take j).all (Im data d x.Vars)=true) (λv=>y.Args.length-v.toNat) _ ?_ _ ⟨0,rfl,ω,ψ⟩;rintro v ⟨j,rfl,hj,c⟩;rcases Nat.lt_or_ge j y.Args.length with h | h
 .have ht:y.Args[j]? = some y.Args[j]:=Be h;generalize y.Args[j]=t at ht;have l:=Bg ht;obtain ⟨L,J,I⟩:=q.sz.args hxm hy l;simp only [An (by omega:(j:Int)<(y.Args.length:Int)),cond_true,Bi rfl ht,Ad,Am5 t d x.Vars ω,Aat rfl (show d<=data.length by omega),Abc (data.take d) t x.Vars ω,Co h ω];have g:Im data d x.Vars t=true->(y.Args.take (j+1)).all (Im data d x.Vars)=true:=λB=>by rw [Cu ht,List.all_append,c]; simp [B]
  cases s:G5 t d x.Vars with
  | true=>exact .inl ⟨_,rfl,⟨j+1,rfl,ω,g (by unfold Im; rw [s]; rfl)⟩,by simp; omega⟩
  | false=>simp only [cond_false];cases A:(Dc (data.take d) x.Vars t&&decide (A6 t<=200)) with| true=>exact .inl ⟨_,rfl,⟨j+1,rfl,ω,g (by unfold Im; rw [A,s]; rfl)⟩,by simp; omega⟩| false=>refine .inr ⟨.inl false,rfl,rfl,?_⟩;rw [List.all_eq_false];exact ⟨t,l,by unfold Im; rw [A,s]; simp⟩
 .have:j=y.Args.length:=ω;subst this;rw [List.take_length] at c;exact .inr ⟨.inr (y.Args.length:Int),ψ,c⟩
theorem Axt {data:List Ao} (J:DSz data) {d:Nat} {x:Ao} (hx:data[d]? = some x) (X:x.Cons.length<=8) (L:List ByteArray) (V:L.length<=1048576) :
  ∃z,Al (S:=(Int×(List ByteArray))) (E:=(Bool⊕(Int×(List ByteArray)))) (λ(f,k)=>
   bif f<(x.Cons.length:Int) then (
   (show OB from
   (Ae x.Cons f).bind λA=>
   (Qj A.Name).bind λv203=>
   bif (!v203) then some true
   else (
   (Ae x.Cons f).bind λu=>
   some (decide ((u.Args.length:Int)>(6:Int))))
   ).bind λs=>
   bif s then some (.inr (.inl false))
   else (
   (Ae x.Cons f).bind λv206=>
   (Bx 16 k [v206.Name]).bind λD=>
   (Ae x.Cons f).bind λv208=>
   (Al (S:=Int) (E:=(Bool⊕Int)) (λg=>
   bif g<(v208.Args.length:Int) then (
   (Ae v208.Args g).bind λj=>
   (Mx j d x.Vars).bind λq=>
   bif q then some (.inl (Aa (g+1)))
   else (
   (G1 data 0 d).bind λv218=>
   (L1 v218 j x.Vars).bind λl=>
   bif (!l) then some (.inr (.inl false))
   else some (.inl (Aa (g+1)))))
   else some (.inr (.inr g))) 0).bind λz=>
   match z with
   | .inl B=>some (.inr (.inl B))
   | .inr I=>some (.inl ((Aa (f+1)),D))))
   else some (.inr (.inr (f,k)))) (0,L)=some z /\
   (match z with | .inl r=>r=false/\¬(∀y∈x.Cons,Rk data d x.Vars y) | .inr (_,o)=>(∀y∈x.Cons,Rk data d x.Vars y)/\o=L++Fy x):=by
 have hxm:=Bg hx
 refine P5 (λ(v,o)=>∃c:Nat,v=c/\c<=x.Cons.length/\(∀y∈x.Cons.take c,Rk data d x.Vars y)/\o=L++(x.Cons.take c).map (·.Name)) (λ(v,_)=>x.Cons.length-v.toNat) _ ?_ _ ⟨0,rfl,ω,ψ,ψ⟩
 rintro ⟨v,o⟩ ⟨c,rfl,hc,h1,U⟩
 subst U
 rcases Nat.lt_or_ge c x.Cons.length with h | h
 .have hy:x.Cons[c]? = some x.Cons[c]:=Be h
  generalize x.Cons[c]=y at hy
  have i:=Bg hy
  obtain ⟨b,b1,b2⟩:=Anf y.Name (by have:=J.cn x hxm y i; omega)
  obtain ⟨z,N,z2⟩:=Axs J hx i
  simp only [An (by omega:(c:Int)<(x.Cons.length:Int)),cond_true,Bi rfl hy,Ad,b1,Co h ω]
  rw [Di (by simp; omega)]
  cases b with
  | false=>
   refine .inr ⟨.inl false,rfl,rfl,λhh=>?_⟩
   have:=b2.2 (hh y i).1; cases this
  | true=>
   simp only [D3,cond_false,Ad]
   by_cases M:(y.Args.length:Int)>6
   .rw [An M]
    refine .inr ⟨.inl false,rfl,rfl,λhh=>?_⟩
    have:=(hh y i).2.1; omega
   .rw [Aq M]
    simp only [cond_false]
    rw [N,Ad]
    match z,z2 with
    | .inl r,z2=>
     obtain ⟨rfl,z2⟩:=z2
     refine .inr ⟨.inl false,rfl,rfl,λhh=>?_⟩
     have:=(hh y i).2.2
     rw [z2] at this; cases this
    | .inr w,z2=>
     refine .inl ⟨_,rfl,⟨c+1,rfl,ω,?_,?_⟩,by simp; omega⟩
     .intro R G
      rw [Cu hy] at G
      rcases List.mem_append.1 G with h' | h'
      .exact h1 R h'
      .simp at h'; subst h'; exact ⟨b2.1 rfl,ω,z2⟩
     .rw [Cu hy]; simp
 .have:c=x.Cons.length:=ω
  subst this
  rw [List.take_length] at h1
  exact .inr ⟨.inr ((x.Cons.length:Int),L++Fy x),by simp [Fy],h1,rfl⟩
theorem Ani {data:List Ao} (B:DSz data):∃b,Sr data=some b/\(b=true↔Gv data):=by
 have I:=B.len;unfold Sr;rcases Nat.lt_or_ge 12 data.length with h12 | h12
 .rw [An ω];exact ⟨false,rfl,by simp; intro h; have:=h.1; omega⟩
 rw [Aq ω];simp only [cond_false];have k:∀d,d<=data.length->(∀c x,c<d->data[c]? = some x->O8 data c x)->((data.take d).flatMap Fy).length<=8*d:=by intro d;induction d with| zero=>intro _ _; simp| succ d ih=>intro hd h1;have hx:data[d]? = some data[d]:=Be ω;have:=ih ω (λc x D=>h1 c x ω);have U:=(h1 d _ ω hx).2.2.2.1;rw [Cu hx,List.flatMap_append,List.length_append];simp only [List.flatMap_cons,List.flatMap_nil,List.append_nil,Fy,List.length_map];omega
 refine C6 (λ(v,j,i)=>∃d:Nat,v=d/\d<=data.length/\(∀c x,c<d->data[c]? = some x->O8 data c x)/\j=(data.take d).map (·.Name)/\i=(data.take d).flatMap Fy) (λ(v,_,_)=>data.length-v.toNat) (λz=>match z with | .inl r=>r=false/\¬Gv data | .inr (j,i)=>(∀d x,data[d]? = some x->O8 data d x)/\j=data.map (·.Name)/\i=data.flatMap Fy) ⟨0,rfl,ω,by intro c x h; omega,ψ,ψ⟩ ?_ ?_
 .rintro ⟨v,j,i⟩ ⟨d,rfl,hd,h1,h2,h3⟩;rcases Nat.lt_or_ge d data.length with h | h
  .have hx:data[d]? = some data[d]:=Be h;generalize data[d]=x at hx;have hxm:=Bg hx;obtain ⟨b,b1,b2⟩:=Anf x.Name (by have:=B.nm x hxm; omega);simp only [An (by omega:(d:Int)<(data.length:Int)),cond_true,Bi rfl hx,Ad,b1];have bad:∀(s:¬O8 data d x),∃e:Bool⊕((List ByteArray)×(List ByteArray)),(some (Sum.inr (Sum.inl false)):Option ((Int×(List ByteArray)×(List ByteArray))⊕(Bool⊕((List ByteArray)×(List ByteArray)))))=some (.inr e)/\(match e with | .inl r=>r=false/\¬Gv data | .inr (j,i)=>(∀d x,data[d]? = some x->O8 data d x)/\j=data.map (·.Name)/\i=data.flatMap Fy) :=
    λs=>⟨.inl false,rfl,rfl,λhh=>s (hh.2.1 d x hx)⟩
   by_cases f:x.Vars<0
   .simp only [An f,cond_true,Ad];exact .inr (bad λhh=>by have:=hh.1; omega)
   by_cases g:x.Vars>6
   .simp only [Aq f,An g,cond_true,cond_false,Ad];exact .inr (bad λhh=>by have:=hh.2.1; omega)
   by_cases q:(x.Cons.length:Int)<1
   .simp only [Aq f,Aq g,An q,cond_false,cond_true,Ad];exact .inr (bad λhh=>by have:=hh.2.2.1; omega)
   by_cases y:(x.Cons.length:Int)>8
   .simp only [Aq f,Aq g,Aq q,An y,cond_true,cond_false,Ad];exact .inr (bad λhh=>by have:=hh.2.2.2.1; omega)
   simp only [Aq f,Aq g,Aq q,Aq y,cond_false,Ad];cases b with
   | false=>exact .inr (bad λhh=>by have:=b2.2 hh.2.2.2.2.1; cases this)
   | true=>
    have u:=k d hd h1;rw [h2,h3];simp only [D3,cond_false];rw [Di (by simp; omega),Ad];obtain ⟨z,J,z2⟩:=Axt B hx ω ((data.take d).flatMap Fy) ω
    erw [J,Ad]
    match z,z2 with
    | .inl r,z2=>obtain ⟨rfl,z2⟩:=z2;exact .inr (bad λhh=>z2 hh.2.2.2.2.2)
    | .inr (v60,R),z2=>
     obtain ⟨M,L⟩:=z2;subst L;have ht:=Cu hx;refine .inl ⟨(((d+1:Nat):Int),(data.take d).map (·.Name)++[x.Name],(data.take d).flatMap Fy++Fy x),by simp only [Co h ω],⟨d+1,rfl,ω,?_,?_,?_⟩,by simp; omega⟩
     .intro c N D l;rcases Nat.lt_or_ge c d with h' | h'
      .exact h1 c N h' l
      .have:c=d:=ω;subst this;rw [hx] at l; cases l;exact ⟨ω,ω,ω,ω,b2.1 rfl,M⟩
     .rw [ht]; simp
     .rw [ht]; simp [List.flatMap_append]
  .have:d=data.length:=ω;subst this;rw [List.take_length] at h2 h3;exact .inr ⟨.inr (j,i),ψ,λd x hx=>h1 d x (Dr hx) hx,h2,h3⟩
 .rintro (r | ⟨j,i⟩) hp
  .obtain ⟨rfl,hp⟩:=hp;exact ⟨false,rfl,by simp [hp]⟩
  .obtain ⟨G,rfl,rfl⟩:=hp;have u:=k data.length ω (λd x _=>G d x);rw [List.take_length] at u;obtain ⟨b,b1,b2⟩:=Anh (data.map (·.Name)) (by simp; omega);obtain ⟨S,E,A⟩:=Anh (data.flatMap Fy) ω;simp only [b1,Ad,E];cases b with
   | true=>exact ⟨false,rfl,by simp; intro hh; have:=b2.2 hh.2.2.1; cases this⟩
   | false=>cases S with| true=>exact ⟨false,rfl,by simp; intro hh; have:=A.2 hh.2.2.2; cases this⟩| false=>exact ⟨true,rfl,by simp; exact ⟨h12,G,b2.1 rfl,A.1 rfl⟩⟩
end Go.Ab
namespace Go.Ab
open Go
def isV (σ:List Ag) (k n:Int):Bool:=k==4&&decide (0<=n)&&decide (n<(σ.length:Int))
mutual
def Cv (σ:List Ag):Ag->Ag
 | ⟨k,n,l⟩=>match (if isV σ k n then σ[n.toNat]? else none) with
  | some s=>s
  | none=>⟨k,n,Lh σ l⟩
def Lh (σ:List Ag):List Ag->List Ag
 | []=>[]
 | x::xs=>Cv σ x::Lh σ xs
end
theorem Agb (σ l:List Ag):Lh σ l=l.map (Cv σ):=by induction l with| nil=>rfl| cons x xs ih=>simp only [Lh,ih,List.map_cons]
theorem Xm {σ:List Ag} {k n:Int} (h:isV σ k n=true):∃s,σ[n.toNat]? = some s/\Ae σ n=some s/\s∈σ:=by simp only [isV,Ca,decide_eq_true_eq] at h;have b:n.toNat < σ.length:=ω;refine ⟨σ[n.toNat],Be b,?_,List.getElem_mem b⟩;unfold Ae;rw [if_pos ω,Be b]
theorem T5 {σ:List Ag} {t s:Ag} (h:isV σ t.Kind t.Num=true) (b:σ[t.Num.toNat]? = some s):Cv σ t=s:=by cases t; simp only [Cv] at *; simp [h,b]
theorem Xn {σ:List Ag} {t:Ag} (h:isV σ t.Kind t.Num=false):Cv σ t=⟨t.Kind,t.Num,t.Args.map (Cv σ)⟩:=by cases t; simp only [Cv] at *; simp [h,Agb]
mutual
theorem Anj:∀t:Ag,Cv [] t=t
 | ⟨k,n,l⟩=>by
  have hv:isV [] k n=false:=by
   unfold isV
   by_cases h:0<=n
   .rw [Aq (by simp; omega:¬n<(([]:List Ag).length:Int))]; simp
   .rw [Aq h]; simp
  simp only [Cv,hv,Ank l]; rfl
theorem Ank:∀l:List Ag,Lh [] l=l
 | []=>rfl
 | x::xs=>by simp only [Lh,Anj x,Ank xs]
end
mutual
theorem Agc (σ:List Ag) (M:Nat) (hM:1<=M) (hσ:∀s∈σ,A6 s<=M):∀t:Ag,A6 (Cv σ t)<=A6 t*M
 | ⟨k,n,l⟩=>by
  cases hv:isV σ k n with
  | true=>
   obtain ⟨s,h1,_,h3⟩:=Xm hv
   rw [T5 (t:=⟨k,n,l⟩) hv h1]
   have:=hσ s h3
   have h2:=Me ⟨k,n,l⟩
   calc A6 s<=1*M:=ω
    _<=_:=Nat.mul_le_mul_right M h2
  | false=>
   have:=Anl σ M hM hσ l
   simp only [Cv,hv,A6]
   simp only [Bool.false_eq_true,if_false,A6]
   rw [Nat.add_mul]; omega
theorem Anl (σ:List Ag) (M:Nat) (hM:1<=M) (hσ:∀s∈σ,A6 s<=M):∀l:List Ag,Cj (Lh σ l)<=Cj l*M
 | []=>by simp [Lh,Cj]
 | x::xs=>by
  have h1:=Agc σ M hM hσ x
  have h2:=Anl σ M hM hσ xs
  simp only [Lh,Cj]
  rw [Nat.add_mul]; omega
end
theorem Agd (σ:List Ag) (t:Ag):(bif t.Kind==(4:Int) then bif decide (t.Num>=(0:Int)) then some (decide (t.Num<(σ.length:Int))) else some false else some false)=some (isV σ t.Kind t.Num):=by unfold isV;cases t.Kind==4 <;> simp;by_cases h:0<=t.Num <;> simp [h]
theorem Axu:∀(k:Nat) (t:Ag) (σ:List Ag) (M:Nat),(∀s∈σ,A6 s<=M)->A6 t+M+1<=k->k<1099511627776->Mz k t σ=some (Cv σ t):=by
 intro k;induction k with
 | zero=>intro t σ M _ h; omega
 | succ k ih=>
  intro t σ M b h hk;have f:=Ga t;have c:=Hq t.Args;rw [Mz];rw [show (show OB from bif t.Kind==(4:Int) then bif decide (t.Num>=(0:Int)) then some (decide (t.Num<(σ.length:Int))) else some false else some false)=some (isV σ t.Kind t.Num) from Agd σ t,Ad];cases hv:isV σ t.Kind t.Num with
  | true=>obtain ⟨s,h1,h2,h3⟩:=Xm hv;have:=b s h3;simp only [cond_true,h2,Ad,T5 hv h1,ih s [] 0 ψ ω ω,Anj]
  | false=>
   rw [Xn hv];simp only [cond_false];refine Fg t.Args (λj=>((j:Int),(t.Args.take j).map (Cv σ))) rfl ω ?_ ?_
   .intro j x hj hx h1 h2 h3;have:=Gf (Bg hx);simp only [h1,h2,h3,cond_true,Ad,ih x σ M b ω ω];rw [Di (by simp; omega),Ad,Cu hx]; simp
   .intro h1;exact ⟨t.Args.map (Cv σ),ψ,rfl⟩
theorem Axv:∀(k:Nat) (t:Ag),A6 t<=k->k<1099511627776->Q3 k t=some t:=by
 intro k;induction k with
 | zero=>intro t h; have:=Me t; omega
 | succ k ih=>
  intro t h hk;have c:=Ga t;have b:=Hq t.Args;rw [Q3];refine Fg t.Args (λj=>((j:Int),(t.Args.take j))) rfl ω ?_ ?_
  .intro j x hj hx h1 h2 h3;have:=Gf (Bg hx);simp only [h1,h2,h3,cond_true,Ad,ih x ω ω];rw [Di (by simp; omega),Ad,Cu hx]
  .intro h1;exact ⟨t.Args,ψ,by cases t; rfl⟩
theorem Axw:∀(k:Nat) (t:Ag) (σ:List Ag) (M:Nat),(∀s∈σ,A6 s<=M)->M<=4000000->A6 t<=k->k<1099511627776->M2 k t σ=some (Cv σ t):=by
 intro k;induction k with
 | zero=>intro t σ M _ _ h; have:=Me t; omega
 | succ k ih=>
  intro t σ M b g h hk;have f:=Ga t;have c:=Hq t.Args;rw [M2];rw [show (show OB from bif t.Kind==(4:Int) then bif decide (t.Num>=(0:Int)) then some (decide (t.Num<(σ.length:Int))) else some false else some false)=some (isV σ t.Kind t.Num) from Agd σ t,Ad];cases hv:isV σ t.Kind t.Num with
  | true=>obtain ⟨s,h1,h2,h3⟩:=Xm hv;have:=b s h3;simp only [cond_true,h2,Ad,T5 hv h1,Axv 4000000 s ω ω]
  | false=>
   rw [Xn hv];simp only [cond_false];refine Fg t.Args (λj=>((j:Int),(t.Args.take j).map (Cv σ))) rfl ω ?_ ?_
   .intro j x hj hx h1 h2 h3;have:=Gf (Bg hx);simp only [h1,h2,h3,cond_true,Ad,ih x σ M b g ω ω];rw [Di (by simp; omega),Ad,Cu hx]; simp
   .intro h1;exact ⟨t.Args.map (Cv σ),ψ,rfl⟩
theorem Axx:∀(k:Nat) (t:Ag),A6 t<=k->A6 t<1099511627776->Oe k t=some (A6 t:Int):=by
 intro k;induction k with
 | zero=>intro t h; have:=Me t; omega
 | succ k ih=>
  intro t h ht;have b:=Ga t;have c:=Hq t.Args;rw [Oe];refine Fg t.Args (λj=>(1+(Cj (t.Args.take j):Int),(j:Int))) rfl ω ?_ ?_
  .intro j x hj hx h1 h2 h3;have g:=Gf (Bg hx);have f:=Xh t.Args (j+1);have e:Cj (t.Args.take (j+1))=Cj (t.Args.take j)+A6 x:=(by rw [Cu hx,Aba]; simp [Cj]);simp only [h1,h2,h3,cond_true,Ad,ih x ω ω];rw [show Aa (1+(Cj (t.Args.take j):Int)+(A6 x:Int))=1+(Cj (t.Args.take (j+1)):Int) by rw [e,Aa,B4] <;> omega]
  .intro h1;exact ⟨1+(Cj t.Args:Int),ψ,by rw [b]; simp⟩
theorem Axy (σ:List Ag) (M:Nat) (D:1<=M) (q:M<=1048576) (z:∀s∈σ,A6 s<=M):∀(k:Nat) (t:Ag),A6 t<=k->A6 t<=1048576 -> ∃v:Nat,Of k t (σ.map λs=>(A6 s:Int))=some (v:Int)/\v<=A6 (Cv σ t)/\((v=A6 (Cv σ t))\/200<v):=by
 intro k;induction k with
 | zero=>intro t h; have:=Me t; omega
 | succ k ih=>
  intro t h ht;have A:=Ga t;have y:=Hq t.Args;have g:∀x,A6 x<=1048576->A6 (Cv σ x)<=1099511627776:=λx hx=>by have:=Agc σ M D z x;have:A6 x*M<=1048576*1048576:=Nat.mul_le_mul hx q;omega
  rw [Of];rw [show (show OB from bif t.Kind==(4:Int) then bif decide (t.Num>=(0:Int)) then some (decide (t.Num<((σ.map λs=>(A6 s:Int)).length:Int))) else some false else some false)=some (isV σ t.Kind t.Num) by rw [List.length_map]; exact Agd σ t,Ad];cases hv:isV σ t.Kind t.Num with
  | true=>obtain ⟨s,h1,h2,h3⟩:=Xm hv;have hi:Ae (σ.map λs=>(A6 s:Int)) t.Num=some (A6 s:Int):=(by have:=Ec h2;rw [Bi (n:=t.Num.toNat) ω];simp [h1]);simp only [cond_true,hi,Ad,T5 hv h1];exact ⟨A6 s,rfl,Nat.le_refl _,.inl rfl⟩
  | false=>
   have u:=g t ht;rw [Xn hv] at u ⊢;simp only [cond_false];have f:A6 ⟨t.Kind,t.Num,t.Args.map (Cv σ)⟩=1+Cj (t.Args.map (Cv σ)):=(by simp only [A6]);rw [f] at u ⊢;refine Afk (λv:Nat=>(v:Int)) (C6 (λ(n,i)=>∃j:Nat,i=j/\j<=t.Args.length/\n=1+(Cj ((t.Args.map (Cv σ)).take j):Int)) (λ(_,i)=>t.Args.length-i.toNat) (λn=>∃v:Nat,n=v/\v<=1+Cj (t.Args.map (Cv σ))/\(v=1+Cj (t.Args.map (Cv σ))\/200<v)) ⟨0,rfl,ω,by simp [Cj]⟩ ?_ ?_)
   .rintro ⟨n,i⟩ ⟨j,rfl,hj,l⟩;have l:n=_:=l;subst l;rcases Nat.lt_or_ge j t.Args.length with h' | h'
    .have hx:t.Args[j]? = some t.Args[j]:=Be h';generalize t.Args[j]=x at hx;have G:=Gf (Bg hx);obtain ⟨v,b,v2,v3⟩:=ih x ω ω;have c:(t.Args.map (Cv σ))[j]? = some (Cv σ x):=(by simp [hx]);have e:Cj ((t.Args.map (Cv σ)).take (j+1))=Cj ((t.Args.map (Cv σ)).take j)+A6 (Cv σ x):=(by rw [Cu c,Aba]; simp [Cj]);have B:=Xh (t.Args.map (Cv σ)) (j+1);have E:Aa (1+(Cj ((t.Args.map (Cv σ)).take j):Int)+(v:Int))=((1+Cj ((t.Args.map (Cv σ)).take j)+v:Nat):Int):=(by rw [Aa,B4] <;> omega);simp only [An (by omega:(j:Int)<(t.Args.length:Int)),cond_true,Bi rfl hx,Ad,b,Co h' ω,E];by_cases hb:1+Cj ((t.Args.map (Cv σ)).take j)+v>200
     .rw [An ω];exact .inr ⟨_,rfl,_,rfl,ω,.inr hb⟩
     .rw [Aq ω];refine .inl ⟨_,rfl,⟨j+1,rfl,ω,?_⟩,by simp; omega⟩;have:v=A6 (Cv σ x):=ω;subst this;rw [e]; omega
    .have:j=t.Args.length:=ω;subst this;refine .inr ⟨_,by simp; rfl,1+Cj (t.Args.map (Cv σ)),?_,ω,.inl rfl⟩;rw [List.take_of_length_le ψ]; omega
   .rintro n ⟨v,rfl,b,v2⟩;exact ⟨_,rfl,v,rfl,b,v2⟩
def Gg (data:List Ao) (t:Ag) (c:Int):Option (List Ag) := if t.Kind=5 then match Ae data t.Num with
  | none=>none
  | some x=>if (t.Args.length:Int)=x.Vars then match Ae x.Cons c with
    | none=>none
    | some y=>if (y.Args.map (Cv t.Args)).all (λa=>decide (A6 a<=200)) then some (y.Args.map (Cv t.Args)) else none else none else none
def okL (o:Option (List Ag)):List Ag×Bool:=match o with | none=>([],false) | some l=>(l,true)
theorem Axz {R:Type} (data:List Ao) (t:Ag) (c:Int) (F:Ao->Lb->Option R) (z:R) (X:Option R) (b:X=(match Ae data t.Num with
   | none=>some z
   | some x=>match Ae x.Cons c with
    | none=>some z
    | some y=>if t.Kind=5/\(t.Args.length:Int)=x.Vars then F x y else some z)):X=if t.Kind=5 then match Ae data t.Num with
  | none=>some z
  | some x=>if (t.Args.length:Int)=x.Vars then match Ae x.Cons c with
    | none=>some z
    | some y=>F x y else some z else some z:=by
 subst b;by_cases h:t.Kind=5
 .rw [if_pos h];cases Ae data t.Num with
  | none=>rfl
  | some x=>
   simp only;by_cases h':(t.Args.length:Int)=x.Vars
   .rw [if_pos h'];cases Ae x.Cons c with| none=>rfl| some y=>simp [h,h']
   .rw [if_neg h'];cases Ae x.Cons c with| none=>rfl| some y=>simp [h']
 .rw [if_neg h];cases Ae data t.Num with
  | none=>rfl
  | some x=>simp only;cases Ae x.Cons c with| none=>rfl| some y=>simp [h]
def Szv (data:List Ao):Prop:=∀x∈data,∀y∈x.Cons,y.Args.length<=6/\∀a∈y.Args,A6 a<=200
theorem Gv.szv {data:List Ao} (h:Gv data):Szv data:=by
 intro x hx y hy;obtain ⟨d,hd⟩:=List.getElem?_of_mem hx;have h1:=h.2.1 d x hd;obtain ⟨_,c,b⟩:=h1.2.2.2.2.2 y hy;refine ⟨c,λa ha=>?_⟩;have:=List.all_eq_true.1 b a ha;unfold Im at this;rw [Bool.or_eq_true] at this;rcases this with h' | h'
 .exact (Af5 hd h1.2.1 h').2
 .simp only [Ca,decide_eq_true_eq] at h'; exact h'.2
theorem Ax0 {t a:Ag} (ht:A6 t<=200) (ha:A6 a<=200):A6 (Cv t.Args a)<=40000:=by have h1:=Agc t.Args 200 ω (λs b=>by have:=Gf b; have:=Ga t; omega) a;have:A6 a*200<=200*200:=Nat.mul_le_mul_right 200 ha;omega
theorem Age {data:List Ao} (A:Szv data) (t:Ag) (ht:A6 t<=200) (c:Int):Tt data t c=some (okL (Gg data t c)):=by
 have D:Tt data t c=_:=Axz data t c (λx y=>(Al (S:=(Int×(List Ag))) (E:=(((List Ag)×Bool)⊕(List Ag))) (λ(v22,b)=>
   bif v22<(y.Args.length:Int) then (
   (Ae y.Args v22).bind λv24=>
   (M2 (4000000) v24 t.Args).bind λv26=>
   (L6 (4000000) v26).bind λv28=>
   bif v28>(200:Int) then some (.inr (.inl ([],false)))
   else (
   (Bx 40 b [v26]).bind λq=>
   some (.inl ((Aa (v22+1)),q))))
   else some (.inr (.inr b))) (0,[])).bind λz=>
   match z with
   | .inl (k,i)=>some (k,i)
   | .inr l=>some (l,true)) ([],false) _ (by
  unfold Tt
  by_cases hk:t.Kind=5
  .simp only [Cp hk,cond_false]
   cases hx:Ae data t.Num with
   | none=>
    rcases O7 hx with h | h
    .simp only [An h,cond_true,Ad]
    .by_cases h':t.Num<0
     .simp only [An h',cond_true,Ad]
     .simp only [Aq h',An (show t.Num>=(data.length:Int) from h),cond_true,cond_false,Ad]
   | some x=>
    obtain ⟨a1,a2,_,_⟩:=Ec hx
    simp only [Aq (by omega:¬t.Num<0),Aq (by omega:¬t.Num>=(data.length:Int)),cond_false,Ad]
    by_cases hv:(t.Args.length:Int)=x.Vars
    .simp only [Cp hv,cond_false]
     cases hy:Ae x.Cons c with
     | none=>
      rcases O7 hy with h | h
      .simp only [An h,cond_true,Ad]
      .by_cases h':c<0
       .simp only [An h',cond_true,Ad]
       .simp only [Aq h',An (show c>=(x.Cons.length:Int) from h),cond_true,cond_false,Ad]
     | some y=>
      obtain ⟨b1,b2,_,_⟩:=Ec hy
      simp only [Aq (by omega:¬c<0),Aq (by omega:¬c>=(x.Cons.length:Int)),cond_false,Ad,hk,hv,and_self,if_true]
      rfl
    .simp only [Cs hv,cond_true,Ad]
     cases hy:Ae x.Cons c with
     | none=>rfl
     | some y=>simp [hv]
  .simp only [Cs hk,cond_true,Ad]
   cases hx:Ae data t.Num with
   | none=>rfl
   | some x=>
    simp only
    cases hy:Ae x.Cons c with
    | none=>rfl
    | some y=>simp [hk])
 rw [D]
 unfold Gg
 by_cases hk:t.Kind=5
 .rw [if_pos hk,if_pos hk]
  cases hx:Ae data t.Num with
  | none=>rfl
  | some x=>
   simp only
   by_cases hv:(t.Args.length:Int)=x.Vars
   .rw [if_pos hv,if_pos hv]
    cases hy:Ae x.Cons c with
    | none=>rfl
    | some y=>
     simp only
     obtain ⟨G,g⟩:=A x (Ec hx).2.2.2 y (Ec hy).2.2.2
     refine (Ld (rt:=(y.Args.map (Cv t.Args),true)) (rf:=([],false)) y.Args (λa=>decide (A6 (Cv t.Args a)<=200)) (λj=>((j:Int),(y.Args.take j).map (Cv t.Args))) rfl ω ?_ ?_).trans ?_
     .intro j a ha h1 h2 h3
      have hj:=Dr ha
      have u:=g a (Bg ha)
      have I:=Ax0 ht u
      simp only [h1,h2,h3,cond_true,Ad,Axw 4000000 a t.Args 200 (λs B=>by have:=Gf B; have:=Ga t; omega) ω ω ω,Am3 4000000 (Cv t.Args a) ω ω]
      by_cases hb:A6 (Cv t.Args a)<=200
      .rw [An hb,Aq ω]
       refine ⟨λ_=>?_,λh=>by cases h⟩
       rw [Di (by simp; omega)]
       simp only [cond_false,Ad]
       rw [Cu ha]; simp
      .rw [Aq hb,An ω]
       exact ⟨(λh=>by cases h),λ_=>⟨_,rfl,rfl⟩⟩
     .intro h1
      exact ⟨.inr (y.Args.map (Cv t.Args)),ψ,rfl⟩
     .rw [List.all_map]
      cases f:y.Args.all ((λa=>decide (A6 a<=200)) ∘ Cv t.Args) with
      | true=>rw [if_pos rfl]; rw [show (y.Args.all λa=>decide (A6 (Cv t.Args a)<=200))=true from f]; rfl
      | false=>rw [show (y.Args.all λa=>decide (A6 (Cv t.Args a)<=200))=false from f]; rfl
   .rw [if_neg hv,if_neg hv]; rfl
 .rw [if_neg hk,if_neg hk]; rfl
end Go.Ab
namespace Go.Ab
open Go
theorem Abe {data:List Ao} (A:Szv data) (t:Ag) (ht:A6 t<=200) (c:Int):Ts data t c=some (okL (Gg data t c)):=by
 have B:=Ga t;have q:=Hq t.Args;unfold Ts Gg;by_cases hk:t.Kind=5
 .simp only [Cp hk,cond_false,if_pos hk];cases hx:Ae data t.Num with
  | none=>
   rcases O7 hx with h | h
   .simp only [An h,cond_true,Ad,okL]
   .by_cases h':t.Num<0
    .simp only [An h',cond_true,Ad,okL]
    .simp only [Aq h',An (show t.Num>=(data.length:Int) from h),cond_true,cond_false,Ad,okL]
  | some x=>
   obtain ⟨a1,a2,_,hxm⟩:=Ec hx;simp only [Aq (by omega:¬t.Num<0),Aq (by omega:¬t.Num>=(data.length:Int)),cond_false,Ad];by_cases hv:(t.Args.length:Int)=x.Vars
   .simp only [Cp hv,cond_false,if_pos hv];cases hy:Ae x.Cons c with
    | none=>
     rcases O7 hy with h | h
     .simp only [An h,cond_true,Ad,okL]
     .by_cases h':c<0
      .simp only [An h',cond_true,Ad,okL]
      .simp only [Aq h',An (show c>=(x.Cons.length:Int) from h),cond_true,cond_false,Ad,okL]
    | some y=>
     obtain ⟨b1,b2,_,i⟩:=Ec hy;obtain ⟨E,b⟩:=A x hxm y i;simp only [Aq (by omega:¬c<0),Aq (by omega:¬c>=(x.Cons.length:Int)),cond_false,Ad];rw [Js (n:=t.Args.length) (c:=t.Args.length) rfl rfl ω ω ω,Ad];refine Fg t.Args (λj=>((j:Int),((t.Args.take j).map λs=>(A6 s:Int))++List.replicate (t.Args.length-j) 0)) rfl ω ?_ ?_
     .intro j s hj g h1 h2 h3;have:=Gf (Bg g);obtain ⟨m,D⟩:∃m,t.Args.length-j=m+1:=⟨t.Args.length-j-1,ω⟩;have e2:t.Args.length-(j+1)=m:=ω;have k:j=((t.Args.take j).map λs=>(A6 s:Int)).length:=(by simp; omega);simp only [h1,h2,h3,cond_true,Ad,Axx 4000000 s ω ω,D,e2,List.replicate_succ,T2 _ _ _ (j:Int) j rfl k,T1 _ _ _ _ (j:Int) j rfl k,Cu g];simp
     .intro h1;refine ⟨t.Args.map λs=>(A6 s:Int),ψ,?_⟩;have l:∀s∈t.Args,A6 s<=200:=λs g=>by have:=Gf g; omega
      refine (Ld (rt:=(y.Args.map (Cv t.Args),true)) (rf:=([],false)) y.Args (λa=>decide (A6 (Cv t.Args a)<=200)) (λj=>(j:Int)) rfl ω ?_ ?_).trans ?_
      .intro j a ha h1 h2 h3;have z:=b a (Bg ha);obtain ⟨v,u,v2,v3⟩:=Axy t.Args 200 ω ω l 4000000 a ω ω;simp only [h1,h2,h3,cond_true,Ad,u];by_cases hb:A6 (Cv t.Args a)<=200
       .rw [An hb,Aq ω];exact ⟨λ_=>rfl,λh=>by cases h⟩
       .rw [Aq hb,An ω];exact ⟨(λh=>by cases h),λ_=>⟨_,rfl,rfl⟩⟩
      .intro h1;refine ⟨.inr (),ψ,?_⟩;simp only;refine Fg y.Args (λj=>((j:Int),(y.Args.take j).map (Cv t.Args))) rfl ω ?_ ?_
       .intro j a hj ha h1 h2 h3;have z:=b a (Bg ha);simp only [h1,h2,h3,cond_true,Ad,Axu 4000000 a t.Args 200 l ω ω];rw [Di (by simp; omega),Ad,Cu ha]; simp
       .intro h1;exact ⟨y.Args.map (Cv t.Args),ψ,rfl⟩
      .rw [List.all_map];cases f:y.Args.all ((λa=>decide (A6 a<=200)) ∘ Cv t.Args) with| true=>rw [if_pos rfl]; rw [show (y.Args.all λa=>decide (A6 (Cv t.Args a)<=200))=true from f]; rfl| false=>rw [show (y.Args.all λa=>decide (A6 (Cv t.Args a)<=200))=false from f]; rfl
   .simp only [Cs hv,cond_true,Ad,if_neg hv,okL]
 .simp only [Cs hk,cond_true,Ad,if_neg hk,okL]
theorem Ax1 {data:List Ao} (b:Szv data) (t:Ag) (ht:A6 t<=200) (c:Int):Zr data t c=some (okL (Gg data t c)):=Abe b t ht c
theorem Ax2 {data:List Ao} (b:Szv data) (t:Ag) (ht:A6 t<=200) (c:Int):Zt data t c=some (okL (Gg data t c)):=Age b t ht c
theorem Mi {data:List Ao} {t:Ag} {c:Int} {l:List Ag} (h:Gg data t c=some l) : ∃x y,t.Kind=5/\Ae data t.Num=some x/\(t.Args.length:Int)=x.Vars/\Ae x.Cons c=some y/\l=y.Args.map (Cv t.Args)/\∀a∈l,A6 a<=200:=by
 unfold Gg at h;by_cases hk:t.Kind=5
 .rw [if_pos hk] at h;cases hx:Ae data t.Num with
  | none=>rw [hx] at h; cases h
  | some x=>
   rw [hx] at h;simp only at h;by_cases hv:(t.Args.length:Int)=x.Vars
   .rw [if_pos hv] at h;cases hy:Ae x.Cons c with
    | none=>rw [hy] at h; cases h
    | some y=>
     rw [hy] at h;simp only at h;by_cases b:(y.Args.map (Cv t.Args)).all (λa=>decide (A6 a<=200))=true
     .rw [if_pos b] at h;cases h;refine ⟨x,y,hk,rfl,hv,hy,rfl,λa ha=>?_⟩;have:=List.all_eq_true.1 b a ha;simpa using this
     .rw [if_neg b] at h; cases h
   .rw [if_neg hv] at h; cases h
 .rw [if_neg hk] at h; cases h
def Em (l:List Ag) (r:List Bool):List Ag:=((l.zip r).filter λp=>!p.2).map (·.1)
def Fz (data:List Ao) (t:Ag) (c:Int):Option (List Ag):=(Gg data t c).map λl=>Em l (Cx data t.Num c)
theorem Rl {data:List Ao} {t:Ag} {c:Int} {l:List Ag} (h:Gg data t c=some l):(Cx data t.Num c).length=l.length:=by obtain ⟨x,y,_,hx,_,hy,rfl,_⟩:=Mi h;unfold Cx;simp only [hx,hy,List.length_map]
theorem Abf {l:List Ag} {r:List Bool} {j:Nat} {a:Ag} {b:Bool} (h1:l[j]? = some a) (h2:r[j]? = some b):Em (l.take (j+1)) (r.take (j+1))=Em (l.take j) (r.take j)++bif b then [] else [a]:=by unfold Em;have c:=Dr h1;have e2:=Dr h2;rw [Cu h1,Cu h2,List.zip_append (by simp; omega)];cases b <;> simp
theorem Xo (l:List Ag) (r:List Bool):(Em l r).length<=l.length:=by unfold Em;rw [List.length_map];refine Nat.le_trans (List.length_filter_le _ _) ?_;rw [List.length_zip]; omega
theorem Abg {data:List Ao} (f:Szv data) (i:Hf data) (t:Ag) (ht:A6 t<=200) (c:Int):Tf data t c=some (okL (Fz data t c)):=by
 unfold Tf Fz;rw [Abe f t ht c,Ad];cases g:Gg data t c with
 | none=>rfl
 | some l=>
  have k:=Rl g;obtain ⟨x,y,_,hx,_,hy,s,_⟩:=Mi g;obtain ⟨h,_⟩:=f x (Ec hx).2.2.2 y (Ec hy).2.2.2;have q:l.length<=6:=(by rw [s]; simpa using h);simp only [okL,D3,cond_false,Xj data t.Num c i,Ad,Option.map_some];refine Fg (Cx data t.Num c) (λj=>((j:Int),Em (l.take j) ((Cx data t.Num c).take j))) (by simp [Em]) ω ?_ ?_
  .intro j b hj hb h1 h2 h3;have ha:l[j]? = some l[j]:=Be ω;generalize l[j]=a at ha;have u:=Xo (l.take j) ((Cx data t.Num c).take j);have:(l.take j).length<=6:=(by simp; omega);simp only [h1,h2,h3,cond_true,Ad,Bi rfl ha,Abf ha hb];rw [Di (by simp; omega)];cases b <;> simp
  .intro h1;refine ⟨Em l (Cx data t.Num c),?_,rfl⟩;simp only [h1];rw [List.take_of_length_le ω,List.take_of_length_le (Nat.le_refl _)]; rfl
def Ed (r:List Bool):List Int:=(r.zipIdx.filter λp=>!p.1).map λp=>(p.2:Int)
def O9 (r:List Bool):List Int:=(r.zipIdx.filter λp=>p.1).map λp=>(p.2:Int)
theorem Abh {r:List Bool} {j:Nat} {b:Bool} (h:r[j]? = some b):(r.take (j+1)).zipIdx=(r.take j).zipIdx++[(b,j)]:=by have:=Dr h;rw [Cu h,List.zipIdx_append]; simp; omega
theorem Anm {data:List Ao} (g:Szv data) (i:Hf data) (t:Ag) (ht:A6 t<=200) (c:Int) {l:List Ag} (f:Gg data t c=some l):Tj data t c=some (Ed (Cx data t.Num c),O9 (Cx data t.Num c),true):=by
 unfold Tj;have k:=Rl f;obtain ⟨x,y,_,hx,_,hy,s,_⟩:=Mi f;obtain ⟨h,_⟩:=g x (Ec hx).2.2.2 y (Ec hy).2.2.2;have q:l.length<=6:=by rw [s]; simpa using h
 rw [Age g t ht c,f,Ad];simp only [okL,D3,cond_false,Aw0 data t.Num c i,Ad];generalize Cx data t.Num c=r at *;refine Fg r (λj=>((j:Int),Ed (r.take j),O9 (r.take j))) (by simp [Ed,O9]) ω ?_ ?_
 .intro j b hj hb h1 h2 h3;have z:(Ed (r.take j)).length<=6:=(by unfold Ed; rw [List.length_map]; refine Nat.le_trans (List.length_filter_le _ _) ?_; simp; omega);have u:(O9 (r.take j)).length<=6:=(by unfold O9; rw [List.length_map]; refine Nat.le_trans (List.length_filter_le _ _) ?_; simp; omega);simp only [h1,h2,h3,cond_true,Ad];rw [Di (by simp; omega),Di (by simp; omega)];unfold Ed O9;rw [Abh hb];cases b <;> simp
 .intro h1;exact ⟨(Ed r,O9 r),ψ,rfl⟩
theorem Ax3 {l:List Ag} {r:List Bool} (h:r.length=l.length):∀(j:Nat) (a:Int),(Ed r)[j]? = some a->∃x,Ae l a=some x/\(Em l r)[j]? = some x:=by
 intro j a ha;have e:Em l r=(r.zipIdx.filter λp=>!p.1).map λp=>(l[p.2]?).getD ⟨0,0,[]⟩:=by unfold Em;have key:∀n,n<=r.length->(((l.take n).zip (r.take n)).filter λp=>!p.2).map (·.1)=((r.take n).zipIdx.filter λp=>!p.1).map λp=>(l[p.2]?).getD ⟨0,0,[]⟩:=(by intro n;induction n with| zero=>intro _; simp| succ n ih=>intro g;have h1:l[n]? = some l[n]:=Be ω;have h2:r[n]? = some r[n]:=Be ω;have:=Abf h1 h2;unfold Em at this;rw [this,ih ω,Abh h2];cases r[n] <;> simp [h1]);have:=key r.length (Nat.le_refl _);rw [List.take_of_length_le ω,List.take_of_length_le (Nat.le_refl _)] at this;exact this
 unfold Ed at ha;rw [List.getElem?_map] at ha;cases hp:(r.zipIdx.filter λp=>!p.1)[j]? with| none=>rw [hp] at ha; cases ha| some p=>rw [hp] at ha;cases ha;have c:=Bg hp;rw [List.mem_filter] at c;have b:r[p.2]? = some p.1:=List.mk_mem_zipIdx_iff_getElem?.1 c.1;have f:=Dr b;have hx:l[p.2]? = some l[p.2]:=Be ω;refine ⟨l[p.2],Bi rfl hx,?_⟩;rw [e,List.getElem?_map,hp];simp [hx]
theorem Ax4 {l:List Ag} {r:List Bool} (h:r.length=l.length):(Ed r).length=(Em l r).length:=by
 unfold Ed Em;simp only [List.length_map];have key:∀n,n<=r.length->(((l.take n).zip (r.take n)).filter λp=>!p.2).length=((r.take n).zipIdx.filter λp=>!p.1).length:=by intro n;induction n with| zero=>intro _; simp| succ n ih=>intro b;have h1:l[n]? = some l[n]:=Be ω;have h2:r[n]? = some r[n]:=Be ω;rw [Abh h2,Cu h1,Cu h2,List.zip_append (by simp; omega),List.filter_append,List.length_append,ih ω,List.filter_append,List.length_append];cases r[n] <;> simp
 have:=key r.length (Nat.le_refl _);rw [List.take_of_length_le ω,List.take_of_length_le (Nat.le_refl _)] at this;exact this.symm
theorem Xp {data:List Ao} (g:Szv data) (k:Hf data) (t:Ag) (ht:A6 t<=200) (c:Int):Oi data t c=some (okL (Fz data t c)):=by
 unfold Oi Fz;rw [Age g t ht c,Ad];cases h:Gg data t c with
 | none=>rfl
 | some l=>
  have f:=Rl h;obtain ⟨x,y,_,hx,_,hy,u,_⟩:=Mi h;obtain ⟨i,_⟩:=g x (Ec hx).2.2.2 y (Ec hy).2.2.2;have s:l.length<=6:=(by rw [u]; simpa using i);simp only [okL,D3,cond_false,Anm g k t ht c h,Ad,Option.map_some];generalize Cx data t.Num c=r at *;have q:=Ax4 f;have z:=Xo l r;refine Fg (Ed r) (λj=>((j:Int),(Em l r).take j)) ψ ω ?_ ?_
  .intro j b hj hb h1 h2 h3;obtain ⟨a,a1,a2⟩:=Ax3 f j b hb;simp only [h1,h2,h3,cond_true,Ad,a1];rw [Di (by simp; omega),Ad,Cu a2]
  .intro h1;refine ⟨Em l r,?_,rfl⟩;simp only [h1];rw [List.take_of_length_le ω]; rfl
theorem Abi {data:List Ao} {t:Ag} {c:Int} {l:List Ag} (h:Fz data t c=some l):(∀a∈l,A6 a<=200)/\∃x,Ae data t.Num=some x/\0<=c/\c<x.Cons.length:=by unfold Fz at h;cases b:Gg data t c with| none=>rw [b] at h; cases h| some m=>rw [b] at h;cases h;obtain ⟨x,y,_,hx,_,hy,_,g⟩:=Mi b;refine ⟨λa ha=>?_,x,hx,(Ec hy).1,(Ec hy).2.1⟩;unfold Em at ha;obtain ⟨p,f,rfl⟩:=List.mem_map.1 ha;exact g _ (List.of_mem_zip (List.mem_filter.1 f).1).1
end Go.Ab
namespace Go.Ab
open Go
mutual
def C1:A3->Nat
 | ⟨_,l⟩=>1+E4 l
def E4:List A3->Nat
 | []=>0
 | x::xs=>C1 x+E4 xs
end
theorem E5 (t:A3):C1 t=1+E4 t.Kids:=by cases t; simp only [C1]
theorem Hy {l:List A3} {a:A3} (h:a∈l):C1 a<=E4 l:=by
 induction l with
 | nil=>cases h
 | cons x xs ih=>
  simp only [E4];rcases List.mem_cons.1 h with rfl | h
  .omega
  .have:=ih h; omega
theorem Li (l:List A3):l.length<=E4 l:=by induction l with| nil=>simp| cons x xs ih=>simp only [E4,List.length_cons]; have:=E5 x; omega
mutual
def Ee (data:List Ao):A3->Ag->Option Nat
 | ⟨n,kids⟩,t=>
  if t.Kind=6 then (if n=0 then C2 data kids t.Args else none)
  else if t.Kind=7 then (if 0<=n/\n<=6/\kids.length=0 then some n.toNat else none)
  else if t.Kind=5 then (if n=0 then Fq data kids t else none)
  else if n=0/\kids.length=0 then some 0 else none
def C2 (data:List Ao):List A3->List Ag->Option Nat
 | [],[]=>some 0
 | i::is,t::ts=>(Ee data i t).bind λa=>(C2 data is ts).map (a + ·)
 | [],_::_=>none
 | _::_,[]=>none
def Fq (data:List Ao):List A3->Ag->Option Nat
 | [],_=>some 0
 | ⟨n,kids⟩::es,t=>(Fz data t n).bind λts=>(C2 data kids ts).bind λa=>(Fq data es t).map (1+a + ·)
end
theorem Rm (data:List Ao) (i:A3) (t:Ag):Ee data i t=if t.Kind=6 then (if i.Num=0 then C2 data i.Kids t.Args else none) else if t.Kind=7 then (if 0<=i.Num/\i.Num<=6/\i.Kids.length=0 then some i.Num.toNat else none) else if t.Kind=5 then (if i.Num=0 then Fq data i.Kids t else none) else if i.Num=0/\i.Kids.length=0 then some 0 else none:=by cases i; simp only [Ee]
theorem T6 (data:List Ao) (e:A3) (es:List A3) (t:Ag):Fq data (e::es) t=(Fz data t e.Num).bind λb=>(C2 data e.Kids b).bind λa=>(Fq data es t).map (1+a + ·):=by cases e; simp only [Fq]
theorem M8 (data:List Ao) (i:A3) (c:List A3) (t:Ag) (b:List Ag):C2 data (i::c) (t::b)=(Ee data i t).bind λa=>(C2 data c b).map (a + ·):=by simp only [C2]
theorem Abj (data:List Ao):∀(c:List A3) (b:List Ag),b.length≠c.length->C2 data c b=none
 | [],[],h=>absurd rfl h
 | i::c,t::b,h=>by rw [M8,Abj data c b (by simpa using h)]; cases Ee data i t <;> rfl
 | [],_::_,_=>by simp only [C2]
 | _::_,[],_=>by simp only [C2]
theorem Ano (data:List Ao):∀(es:List A3) (t:Ag) (d:Nat),Fq data es t=some d->es.length<=d
 | [],_,_,_=>ψ
 | e::es,t,d,h=>by
  rw [T6] at h;cases h1:Fz data t e.Num with
  | none=>rw [h1] at h; cases h
  | some c=>
   rw [h1,Ad] at h;cases h2:C2 data e.Kids c with
   | none=>rw [h2] at h; cases h
   | some a=>rw [h2,Ad] at h;cases h3:Fq data es t with| none=>rw [h3] at h; cases h| some b=>rw [h3] at h;cases h;have:=Ano data es t b h3;simp only [List.length_cons]; omega
def Gb (o:Option Nat):Int:=match o with | some d=>if d<=6 then (d:Int) else -1 | none => -1
theorem Xq {d:Nat} (h:d<=6):Gb (some d)=d:=by simp [Gb,h]
theorem Agf {d:Nat} (h:6<d):Gb (some d) = -1:=by simp only [Gb]; rw [if_neg ω]
theorem Xr (o:Option Nat):(Gb o = -1/\∀d,o=some d->6<d)\/∃d,o=some d/\d<=6/\Gb o=d:=by
 cases o with
 | none=>exact .inl ⟨rfl,λd h=>by cases h⟩
 | some d=>
  rcases Nat.lt_or_ge 6 d with h | h
  .exact .inl ⟨Agf h,λe b=>by cases b; exact h⟩
  .exact .inr ⟨d,rfl,h,Xq h⟩
theorem Rn {o:Option Nat} (h:∀d,o=some d->6<d):Gb o = -1:=by cases o with| none=>rfl| some d=>exact Agf (h d rfl)
def Pr (p:Int×Bool) (o:Option Nat):Prop:=(p.2=true/\∃d:Nat,o=some d/\d<=6/\p.1=d)\/(p.2=false/\∀d,o=some d->6<d)
theorem Lj {α:Type} {l:List α} {j:Nat} {x:α} (h:l[j]? = some x):l.drop j=x::l.drop (j+1):=by have hj:=Dr h;rw [List.drop_eq_getElem_cons hj];rw [Be hj] at h;rw [Option.some.inj h]
theorem Ax5 {data:List Ao} (N:Szv data) (R:Hf data):∀k:Nat, (∀(i:A3) (t:Ag),2*C1 i<=k->C1 i<=1048576->A6 t<=200->∃p,Og k data t i=some p/\Pr p (Ee data i t)) /\ (∀(f:List A3) (c:List Ag),2*E4 f+1<=k->E4 f<=1048576->(∀t∈c,A6 t<=200)->∃p,Ok k data c f=some p/\Pr p (C2 data f c)):=by
 intro k;induction k with
 | zero=>exact ⟨λi t h=>by have:=E5 i; omega,λf c h=>ω⟩
 | succ k ih=>
  obtain ⟨a6,L⟩:=ih;constructor
  .intro i t hk hi ht;have aa:=E5 i;have a7:=Li i.Kids;rw [Og,Rm];by_cases V:t.Kind=6
   .simp only [Ct V,cond_true,if_pos V];by_cases h0:i.Num=0
    .simp only [Cp h0,cond_false,if_pos h0];obtain ⟨p,p1,p2⟩:=L i.Kids t.Args ω ω (λa ha=>by have:=Gf ha; have:=Ga t; omega);rw [p1];exact ⟨p,rfl,p2⟩
    .simp only [Cs h0,cond_true,if_neg h0];exact ⟨_,rfl,.inr ⟨rfl,λd h=>by cases h⟩⟩
   .simp only [Bz V,cond_false,if_neg V];by_cases U:t.Kind=7
    .simp only [Ct U,cond_true,if_pos U];by_cases a1:0<=i.Num
     .by_cases a2:i.Num<=6
      .by_cases a3:i.Kids.length=0
       .rw [An (show i.Num>=0 from a1),An a2,if_pos ⟨a1,a2,a3⟩];exact ⟨_,rfl,.inl ⟨by simp [a3],i.Num.toNat,rfl,ω,by simp; omega⟩⟩
       .rw [An (show i.Num>=0 from a1),An a2,if_neg (λh=>a3 h.2.2)];exact ⟨_,rfl,.inr ⟨Bz ω,λd h=>by cases h⟩⟩
      .rw [An (show i.Num>=0 from a1),Aq a2,if_neg (λh=>a2 h.2.1)];exact ⟨_,rfl,.inr ⟨rfl,λd h=>by cases h⟩⟩
     .rw [Aq (show ¬i.Num>=0 from a1),if_neg (λh=>a1 h.1)];exact ⟨_,rfl,.inr ⟨rfl,λd h=>by cases h⟩⟩
    .simp only [Bz U,cond_false,if_neg U];by_cases X:t.Kind=5
     .simp only [Ct X,cond_true,if_pos X];by_cases h0:i.Num=0
      .simp only [Cp h0,cond_false,if_pos h0];have key:∀(m j acc:Nat),j+m=i.Kids.length->acc<=6->∃z,Al (S:=(Int×Int)) (E:=((Int×Bool)⊕Int)) (λ(v8,v9)=>
         bif v9<(i.Kids.length:Int) then ((Ae i.Kids v9).bind λy=> (Tf data t y.Num).bind λv12=> bif (!v12.2) then some (.inr (.inl (0,false))) else ((Ok k data v12.1 y.Kids).bind λG=> bif (!G.2) then some (.inr (.inl (0,false))) else (bif (Aa (v8+(Aa (1+G.1))))>(6:Int) then some (.inr (.inl (0,false))) else some (.inl ((Aa (v8+(Aa (1+G.1)))),(Aa (v9+1))))))) else some (.inr (.inr v8))) ((acc:Int),(j:Int))=some z/\(match z with | .inl p=>p=(0,false)/\∀d,(Fq data (i.Kids.drop j) t).map (acc + ·)=some d->6<d | .inr v=>∃d:Nat,(Fq data (i.Kids.drop j) t).map (acc + ·)=some d/\d<=6/\v=d):=by
        intro m;induction m with
        | zero=>intro j acc hj l;have:j=i.Kids.length:=ω;subst this;exact ⟨.inr (acc:Int),F3 ψ,acc,by simp [Fq],l,rfl⟩
        | succ m A=>
         intro j acc hj l;have g:i.Kids[j]? = some i.Kids[j]:=Be ω;generalize i.Kids[j]=e at g;have a8:=Hy (Bg g);have ab:=E5 e;rw [Lj g,T6];cases hp:Fz data t e.Num with
         | none=>refine ⟨.inl (0,false),F3 ?_,rfl,λd h=>by simp at h⟩;simp only [An (by omega:(j:Int)<(i.Kids.length:Int)),cond_true,Bi rfl g,Ad,Abg N R t ht e.Num,hp,okL,Bool.not_false]
         | some c=>
          obtain ⟨q,J,s⟩:=L e.Kids c ω ω (Abi hp).1;rcases s with ⟨s,a,B,q4,Z⟩ | ⟨s,B⟩
          .have Y:Aa ((acc:Int)+Aa (1+q.1))=((acc+(1+a):Nat):Int):=(by rw [Z,show Aa (1+(a:Int))=((1+a:Nat):Int) by rw [Aa,B4] <;> omega,Aa,B4] <;> omega);by_cases hb:acc+(1+a)<=6
           .obtain ⟨z,x,z2⟩:=A (j+1) (acc+(1+a)) ω hb;refine ⟨z,?_,?_⟩
            .rw [K1 (s':=(((acc+(1+a):Nat):Int),((j+1:Nat):Int)))]
             .exact x
             .simp only [An (by omega:(j:Int)<(i.Kids.length:Int)),cond_true,Bi rfl g,Ad,Abg N R t ht e.Num,hp,okL,D3,cond_false,J,s,Y,Aq (by omega:¬((acc+(1+a):Nat):Int)>6),Co (show j<i.Kids.length by omega) ω]
            .have I:∀o:Option Nat,(((some a:Option Nat).bind λa=>o.map (1+a + ·)).map (acc + ·))=o.map (acc+(1+a) + ·):=(by intro o; cases o <;> simp [Nat.add_assoc]);rw [Ad,B,I];exact z2
           .refine ⟨.inl (0,false),F3 ?_,rfl,λd h=>?_⟩
            .simp only [An (by omega:(j:Int)<(i.Kids.length:Int)),cond_true,Bi rfl g,Ad,Abg N R t ht e.Num,hp,okL,D3,cond_false,J,s,Y,An (by omega:((acc+(1+a):Nat):Int)>6)]
            .rw [Ad,B,Ad] at h;cases D:Fq data (i.Kids.drop (j+1)) t with| none=>rw [D] at h; cases h| some b=>rw [D] at h; simp at h; omega
          .refine ⟨.inl (0,false),F3 ?_,rfl,λd h=>?_⟩
           .simp only [An (by omega:(j:Int)<(i.Kids.length:Int)),cond_true,Bi rfl g,Ad,Abg N R t ht e.Num,hp,okL,D3,cond_false,J,s,Bool.not_false]
           .rw [Ad] at h;cases ha:C2 data e.Kids c with
            | none=>rw [ha] at h; cases h
            | some a=>rw [ha,Ad] at h;have:=B a ha;cases D:Fq data (i.Kids.drop (j+1)) t with| none=>rw [D] at h; cases h| some b=>rw [D] at h; simp at h; omega
       obtain ⟨z,x,z2⟩:=key i.Kids.length 0 0 ω ω;have x:Al _ ((0:Int),(0:Int))=some z:=x;rw [x,Ad];have I:∀o:Option Nat,o.map (0 + ·)=o:=(by intro o; cases o <;> simp);rw [List.drop_zero,I] at z2
       match z,z2 with| .inl p,z2=>exact ⟨_,rfl,.inr ⟨by rw [z2.1],z2.2⟩⟩| .inr v,z2=>obtain ⟨d,d1,d2,d3⟩:=z2;exact ⟨_,rfl,.inl ⟨rfl,d,d1,d2,d3⟩⟩
      .simp only [Cs h0,cond_true,if_neg h0];exact ⟨_,rfl,.inr ⟨rfl,λd h=>by cases h⟩⟩
     .simp only [Bz X,cond_false,if_neg X];by_cases h0:i.Num=0
      .simp only [Ct h0,cond_true];by_cases a3:i.Kids.length=0
       .rw [if_pos ⟨h0,a3⟩];exact ⟨_,rfl,.inl ⟨by simp [a3],0,rfl,ω,rfl⟩⟩
       .rw [if_neg (λh=>a3 h.2)];exact ⟨_,rfl,.inr ⟨Bz ω,λd h=>by cases h⟩⟩
      .simp only [Bz h0,cond_false];rw [if_neg (λh=>h0 h.1)];exact ⟨_,rfl,.inr ⟨rfl,λd h=>by cases h⟩⟩
  .intro f c hk hi ht;have a7:=Li f;rw [Ok];by_cases hl:c.length=f.length
   .rw [Cp ω];simp only [cond_false];have key:∀(m j acc:Nat),j+m=f.length->acc<=6*j->∃z,Al (S:=(Int×Int)) (E:=((Int×Bool)⊕Int)) (λ(v5,M)=>
      bif M<(c.length:Int) then ((Ae c M).bind λv7=> (Ae f M).bind λv9=> (Og k data v7 v9).bind λy=> bif (!y.2) then some (.inr (.inl (0,false))) else some (.inl ((Aa (v5+y.1)),(Aa (M+1))))) else some (.inr (.inr v5))) ((acc:Int),(j:Int))=some z/\(match z with | .inl p=>p=(0,false)/\∀d,(C2 data (f.drop j) (c.drop j)).map (acc + ·)=some d->6<d | .inr v=>∃d:Nat,(C2 data (f.drop j) (c.drop j)).map (acc + ·)=some d/\v=d):=by
     intro m;induction m with
     | zero=>intro j acc hj l;have:j=c.length:=ω;subst this;refine ⟨.inr (acc:Int),F3 ψ,acc,?_,rfl⟩;rw [List.drop_of_length_le ω,List.drop_of_length_le ω];simp [C2]
     | succ m A=>
      intro j acc hj l;have g:f[j]? = some f[j]:=Be ω;generalize f[j]=e at g;have hu:c[j]? = some c[j]:=Be ω;generalize c[j]=u at hu;have a8:=Hy (Bg g);rw [Lj g,Lj hu,M8];obtain ⟨q,J,s⟩:=a6 e u ω ω (ht u (Bg hu));rcases s with ⟨s,a,B,q4,Z⟩ | ⟨s,B⟩
      .have Y:Aa ((acc:Int)+q.1)=((acc+a:Nat):Int):=(by rw [Z,Aa,B4] <;> omega);obtain ⟨z,x,z2⟩:=A (j+1) (acc+a) ω ω;refine ⟨z,?_,?_⟩
       .rw [K1 (s':=(((acc+a:Nat):Int),((j+1:Nat):Int)))]
        .exact x
        .simp only [An (by omega:(j:Int)<(c.length:Int)),cond_true,Bi rfl g,Bi rfl hu,Ad,D3,cond_false,J,s,Y,Co (show j<f.length by omega) ω]
       .have I:∀o:Option Nat,(((some a:Option Nat).bind λa=>o.map (a + ·)).map (acc + ·))=o.map (acc+a + ·):=(by intro o; cases o <;> simp [Nat.add_assoc]);rw [B,I];exact z2
      .refine ⟨.inl (0,false),F3 ?_,rfl,λd h=>?_⟩
       .simp only [An (by omega:(j:Int)<(c.length:Int)),cond_true,Bi rfl g,Bi rfl hu,Ad,J,s,Bool.not_false]
       .cases ha:Ee data e u with
        | none=>rw [ha] at h; cases h
        | some a=>rw [ha,Ad] at h;have:=B a ha;cases D:C2 data (f.drop (j+1)) (c.drop (j+1)) with| none=>rw [D] at h; cases h| some b=>rw [D] at h; simp at h; omega
    obtain ⟨z,x,z2⟩:=key f.length 0 0 ω ω;have x:Al _ ((0:Int),(0:Int))=some z:=x;rw [x,Ad];have I:∀o:Option Nat,o.map (0 + ·)=o:=(by intro o; cases o <;> simp);rw [List.drop_zero,List.drop_zero,I] at z2
    match z,z2 with
    | .inl p,z2=>exact ⟨_,rfl,.inr ⟨by rw [z2.1],z2.2⟩⟩
    | .inr v,z2=>
     obtain ⟨d,d1,d3⟩:=z2;by_cases hd:d<=6
     .exact ⟨_,rfl,.inl ⟨An ω,d,d1,hd,d3⟩⟩
     .exact ⟨_,rfl,.inr ⟨Aq ω,λe g=>by rw [d1] at g; cases g; omega⟩⟩
   .rw [Cs ω,Abj data f c hl];exact ⟨_,rfl,.inr ⟨rfl,λd h=>by cases h⟩⟩
end Go.Ab
namespace Go.Ab
open Go
theorem Ax6 {data:List Ao} (V:Szv data) (X:Hf data) (h8:∀x∈data,x.Cons.length<=8):∀k:Nat, (∀(i:A3) (t:Ag),2*C1 i<=k->C1 i<=1048576->A6 t<=200->Ol k data t i=some (Gb (Ee data i t))) /\ (∀(f:List A3) (c:List Ag),2*E4 f+1<=k->E4 f<=1048576->(∀t∈c,A6 t<=200)->Om k data c f=some (Gb (C2 data f c))):=by
 intro k;induction k with
 | zero=>exact ⟨λi t h=>by have:=E5 i; omega,λf c h=>ω⟩
 | succ k ih=>
  obtain ⟨a8,M⟩:=ih;have J:∀o:Option Nat,o.map (0 + ·)=o:=(by intro o; cases o <;> simp);constructor
  .intro i t hk hi ht;have ag:=E5 i;have aa:=Li i.Kids;rw [Ol,Rm];by_cases Z:t.Kind=6
   .simp only [Ct Z,cond_true,if_pos Z];by_cases h0:i.Num=0
    .simp only [Cp h0,cond_false,if_pos h0];rw [M i.Kids t.Args ω ω (λa ha=>by have:=Gf ha; have:=Ga t; omega)];rfl
    .simp only [Cs h0,cond_true,if_neg h0]; rfl
   .simp only [Bz Z,cond_false,if_neg Z];by_cases Y:t.Kind=7
    .simp only [Ct Y,cond_true,if_pos Y];by_cases a1:0<=i.Num
     .by_cases a2:i.Num<=6
      .by_cases a3:i.Kids.length=0
       .rw [Aq ω,Aq ω,Aq ω,if_pos ⟨a1,a2,a3⟩,Xq ω];simp; omega
       .rw [Aq ω,Aq ω,An ω,if_neg (λh=>a3 h.2.2)]; rfl
      .rw [Aq ω,An ω,if_neg (λh=>a2 h.2.1)]; rfl
     .rw [An ω,if_neg (λh=>a1 h.1)]; rfl
    .simp only [Bz Y,cond_false,if_neg Y];by_cases h5:t.Kind=5
     .simp only [Ct h5,cond_true,if_pos h5];by_cases h0:i.Num=0
      .simp only [Cp h0,cond_false,if_pos h0,Ad];by_cases N:(i.Kids.length:Int)>6
       .rw [An N];refine congrArg some (Rn λd hd=>?_).symm;have:=Ano data _ _ _ hd;omega
       rw [Aq N];simp only [cond_false];have key:∀(m j acc:Nat),j+m=i.Kids.length->acc<=6->∃z,Al (S:=(Int×Int)) (E:=(Int⊕Int)) (λ(G,v11)=>
         bif v11<(i.Kids.length:Int) then ((Ae i.Kids v11).bind λv12=> (show OB from bif v12.Num<(0:Int) then some true else some (decide (v12.Num>=(8:Int)))).bind λa6=> bif a6 then some (.inr (.inl (-1))) else ((Oi data t v12.Num).bind λL=> bif (!L.2) then some (.inr (.inl (-1))) else ((Om k data L.1 v12.Kids).bind λD=> bif D<(0:Int) then some (.inr (.inl (-1))) else (bif (Aa ((Aa (G+1))+D))>(6:Int) then some (.inr (.inl (-1))) else some (.inl ((Aa (G+(Aa (1+D)))),(Aa (v11+1))))))))
         else some (.inr (.inr G))) ((acc:Int),(j:Int))=some z/\(match z with | .inl v=>v | .inr v=>v)=Gb ((Fq data (i.Kids.drop j) t).map (acc + ·)):=by
        intro m;induction m with
        | zero=>intro j acc hj g;have:j=i.Kids.length:=ω;subst this;refine ⟨.inr (acc:Int),F3 ψ,?_⟩;simp [Fq,Gb,g]
        | succ m y=>
         intro j acc hj g;have l:i.Kids[j]? = some i.Kids[j]:=Be ω;generalize i.Kids[j]=e at l;have ab:=Hy (Bg l);have ah:=E5 e;rw [Lj l,T6];have hb:(bif decide (e.Num<(0:Int)) then some true else some (decide (e.Num>=(8:Int))))=some (decide (e.Num<0\/8<=e.Num)):=(by by_cases g1:e.Num<0 <;> by_cases g2:8<=e.Num <;> simp [g1,g2]);cases hp:Fz data t e.Num with
         | none=>refine ⟨.inl (-1),F3 ?_,by simp [Gb]⟩;simp only [An (by omega:(j:Int)<(i.Kids.length:Int)),cond_true,Bi rfl l,Ad,Xp V X t ht e.Num,hp,okL,Bool.not_false,hb];cases decide (e.Num<0\/8<=e.Num) <;> rfl
         | some c=>
          obtain ⟨pz,x,a7,ae,ad⟩:=Abi hp;have af:=h8 x (Ec a7).2.2.2;have s:=M e.Kids c ω ω pz;have hb':decide (e.Num<0\/8<=e.Num)=false:=Aq ω;rcases Xr (C2 data e.Kids c) with ⟨B,U⟩ | ⟨a,B,U,c3⟩
          .rw [B] at s;refine ⟨.inl (-1),F3 ?_,?_⟩
           .simp only [An (by omega:(j:Int)<(i.Kids.length:Int)),cond_true,Bi rfl l,Ad,Xp V X t ht e.Num,hp,okL,D3,cond_false,hb,hb',s]; rfl
           .refine (Rn λd h=>?_).symm;rw [Ad] at h;cases ha:C2 data e.Kids c with
            | none=>rw [ha] at h; cases h
            | some a=>rw [ha,Ad] at h;have:=U a ha;cases A:Fq data (i.Kids.drop (j+1)) t with| none=>rw [A] at h; cases h| some b=>rw [A] at h; simp at h; omega
          .rw [c3] at s;have R:Aa (Aa ((acc:Int)+1)+(a:Int))=((acc+(1+a):Nat):Int):=(by rw [show Aa ((acc:Int)+1)=((acc+1:Nat):Int) by rw [Aa,B4] <;> omega,Aa,B4] <;> omega);have ac:Aa ((acc:Int)+Aa (1+(a:Int)))=((acc+(1+a):Nat):Int):=(by rw [show Aa (1+(a:Int))=((1+a:Nat):Int) by rw [Aa,B4] <;> omega,Aa,B4] <;> omega);by_cases I:acc+(1+a)<=6
           .obtain ⟨z,q,z2⟩:=y (j+1) (acc+(1+a)) ω I;refine ⟨z,?_,?_⟩
            .rw [K1 (s':=(((acc+(1+a):Nat):Int),((j+1:Nat):Int)))]
             .exact q
             .simp only [An (by omega:(j:Int)<(i.Kids.length:Int)),cond_true,Bi rfl l,Ad,Xp V X t ht e.Num,hp,okL,D3,cond_false,hb,hb',s,R,ac,Aq (by omega:¬(a:Int)<0),Aq (by omega:¬((acc+(1+a):Nat):Int)>6),Co (show j<i.Kids.length by omega) ω]
            .have J:∀o:Option Nat,(((some a:Option Nat).bind λa=>o.map (1+a + ·)).map (acc + ·))=o.map (acc+(1+a) + ·):=(by intro o; cases o <;> simp [Nat.add_assoc]);rw [Ad,B,J];exact z2
           .refine ⟨.inl (-1),F3 ?_,?_⟩
            .simp only [An (by omega:(j:Int)<(i.Kids.length:Int)),cond_true,Bi rfl l,Ad,Xp V X t ht e.Num,hp,okL,D3,cond_false,hb,hb',s,R,Aq (by omega:¬(a:Int)<0),An (by omega:((acc+(1+a):Nat):Int)>6)]
            .refine (Rn λd h=>?_).symm;rw [Ad,B,Ad] at h;cases A:Fq data (i.Kids.drop (j+1)) t with| none=>rw [A] at h; cases h| some b=>rw [A] at h; simp at h; omega
       obtain ⟨z,q,z2⟩:=key i.Kids.length 0 0 ω ω;have q:Al _ ((0:Int),(0:Int))=some z:=q
       erw [q,Ad];rw [List.drop_zero,J] at z2;rw [<-z2];cases z <;> rfl
      .simp only [Cs h0,cond_true,if_neg h0]; rfl
     .simp only [Bz h5,cond_false,if_neg h5];by_cases h0:i.Num=0
      .simp only [Cp h0,cond_false];by_cases a3:i.Kids.length=0
       .rw [if_pos ⟨h0,a3⟩,Aq ω]; rfl
       .rw [if_neg (λh=>a3 h.2),An ω]; rfl
      .simp only [Cs h0,cond_true];rw [if_neg (λh=>h0 h.1)]; rfl
  .intro f c hk hi ht;have aa:=Li f;rw [Om];by_cases hl:c.length=f.length
   .rw [Cp ω];simp only [cond_false];have key:∀(m j acc:Nat),j+m=f.length->acc<=6->∃z,Al (S:=(Int×Int)) (E:=(Int⊕Int)) (λ(v4,v5)=>
      bif v5<(c.length:Int) then ((Ae c v5).bind λv6=> (Ae f v5).bind λv7=> (Ol k data v6 v7).bind λv8=> bif v8<(0:Int) then some (.inr (.inl (-1))) else (bif (Aa (v4+v8))>(6:Int) then some (.inr (.inl (-1))) else some (.inl ((Aa (v4+v8)),(Aa (v5+1)))))) else some (.inr (.inr v4))) ((acc:Int),(j:Int))=some z/\(match z with | .inl v=>v | .inr v=>v)=Gb ((C2 data (f.drop j) (c.drop j)).map (acc + ·)):=by
     intro m;induction m with
     | zero=>intro j acc hj g;have:j=c.length:=ω;subst this;refine ⟨.inr (acc:Int),F3 ψ,?_⟩;rw [List.drop_of_length_le ω,List.drop_of_length_le ω];simp [C2,Gb,g]
     | succ m y=>
      intro j acc hj g;have l:f[j]? = some f[j]:=Be ω;generalize f[j]=e at l;have hu:c[j]? = some c[j]:=Be ω;generalize c[j]=u at hu;have ab:=Hy (Bg l);rw [Lj l,Lj hu,M8];have s:=a8 e u ω ω (ht u (Bg hu));rcases Xr (Ee data e u) with ⟨B,U⟩ | ⟨a,B,U,c3⟩
      .rw [B] at s;refine ⟨.inl (-1),F3 ?_,?_⟩
       .simp only [An (by omega:(j:Int)<(c.length:Int)),cond_true,Bi rfl l,Bi rfl hu,Ad,s]; rfl
       .refine (Rn λd h=>?_).symm;cases ha:Ee data e u with
        | none=>rw [ha] at h; cases h
        | some a=>rw [ha,Ad] at h;have:=U a ha;cases A:C2 data (f.drop (j+1)) (c.drop (j+1)) with| none=>rw [A] at h; cases h| some b=>rw [A] at h; simp at h; omega
      .rw [c3] at s;have R:Aa ((acc:Int)+(a:Int))=((acc+a:Nat):Int):=(by rw [Aa,B4] <;> omega);by_cases I:acc+a<=6
       .obtain ⟨z,q,z2⟩:=y (j+1) (acc+a) ω I;refine ⟨z,?_,?_⟩
        .rw [K1 (s':=(((acc+a:Nat):Int),((j+1:Nat):Int)))]
         .exact q
         .simp only [An (by omega:(j:Int)<(c.length:Int)),cond_true,Bi rfl l,Bi rfl hu,Ad,cond_false,s,R,Aq (by omega:¬(a:Int)<0),Aq (by omega:¬((acc+a:Nat):Int)>6),Co (show j<f.length by omega) ω]
        .have J:∀o:Option Nat,(((some a:Option Nat).bind λa=>o.map (a + ·)).map (acc + ·))=o.map (acc+a + ·):=(by intro o; cases o <;> simp [Nat.add_assoc]);rw [B,J];exact z2
       .refine ⟨.inl (-1),F3 ?_,?_⟩
        .simp only [An (by omega:(j:Int)<(c.length:Int)),cond_true,Bi rfl l,Bi rfl hu,Ad,cond_false,s,R,Aq (by omega:¬(a:Int)<0),An (by omega:((acc+a:Nat):Int)>6)]
        .refine (Rn λd h=>?_).symm;rw [B,Ad] at h;cases A:C2 data (f.drop (j+1)) (c.drop (j+1)) with| none=>rw [A] at h; cases h| some b=>rw [A] at h; simp at h; omega
    obtain ⟨z,q,z2⟩:=key f.length 0 0 ω ω;have q:Al _ ((0:Int),(0:Int))=some z:=q;rw [q,Ad];rw [List.drop_zero,List.drop_zero,J] at z2;rw [<-z2];cases z <;> rfl
   .rw [Cs ω,Abj data f c hl]; rfl
theorem Gv.cons8 {data:List Ao} (h:Gv data):∀x∈data,x.Cons.length<=8:=by intro x hx;obtain ⟨d,hd⟩:=List.getElem?_of_mem hx;exact (h.2.1 d x hd).2.2.2.1
theorem Ax7 {data:List Ao} (hv:Gv data) (b:Hf data) (t:Ag) (i:A3) (ht:A6 t<=200) (hi:C1 i<=1048576):Ta data t i=some (Gb (Ee data i t)):=by unfold Ta;rw [(Ax6 hv.szv b hv.cons8 4000000).1 i t ω hi ht]; rfl
end Go.Ab
namespace Go.Ab
open Go
def I64 (n:Int):Prop:= -9223372036854775808<=n/\n<=9223372036854775807
def ti (n:Int):List Int:=(Lib.itoa n).map λc=>(c.toNat:Int)
def M9 (c:Int):Bool:=c==45||(decide (48<=c)&&decide (c<=57))
theorem T7 {d:Nat} (h:d<10):(UInt8.ofNat (48+d)).toNat=48+d:=by rw [UInt8.toNat_ofNat']; omega
theorem Abk:∀(n u:Nat),u<=n->∀c∈Lib.decDigits u,48<=c.toNat/\c.toNat<=57:=by
 intro n;induction n with
 | zero=>intro u hu c hc;rw [Lib.decDigits,dif_pos ω] at hc;simp only [List.mem_singleton] at hc;subst hc; rw [T7 ω]; omega
 | succ n ih=>
  intro u hu c hc;rw [Lib.decDigits] at hc;split at hc
  .simp only [List.mem_singleton] at hc;subst hc; rw [T7 ω]; omega
  .rcases List.mem_append.1 hc with h | h
   .exact ih (u / 10) ω c h
   .simp only [List.mem_singleton] at h;subst h; rw [T7 ω]; omega
def Abl (l:List UInt8):Nat:=l.foldl (λa c=>10*a+(c.toNat-48)) 0
theorem Anp:∀(n u:Nat),u<=n->Abl (Lib.decDigits u)=u:=by
 intro n;induction n with
 | zero=>intro u hu;rw [Lib.decDigits,dif_pos ω];simp only [Abl,List.foldl_cons,List.foldl_nil];rw [T7 ω]; omega
 | succ n ih=>
  intro u hu;rw [Lib.decDigits];split
  .simp only [Abl,List.foldl_cons,List.foldl_nil];rw [T7 ω]; omega
  .have:=ih (u / 10) ω;unfold Abl at *;rw [List.foldl_append,this];simp only [List.foldl_cons,List.foldl_nil];rw [T7 ω]; omega
theorem Anq {u v:Nat} (h:Lib.decDigits u=Lib.decDigits v):u=v:=by rw [<-Anp u u (Nat.le_refl _),h,Anp v v (Nat.le_refl _)]
theorem Ax8 (u:Nat):Lib.decDigits u≠[]:=by rw [Lib.decDigits]; split <;> simp
theorem Ax9 {m n:Int} (h:Lib.itoa m=Lib.itoa n):m=n:=by
 have b:∀u v:Nat,45::Lib.decDigits u≠Lib.decDigits v:=by intro u v e;have:=Abk v v (Nat.le_refl _) 45 (by rw [<-e]; simp);exact absurd this δ
 unfold Lib.itoa at h;split at h <;> split at h
 .have:=Anq (List.cons.inj h).2; omega
 .exact absurd h (b _ _)
 .exact absurd h.symm (b _ _)
 .have:=Anq h; omega
theorem Na (n:Int):∀c∈ti n,M9 c=true:=by
 intro c hc;unfold ti at hc;obtain ⟨b,hb,rfl⟩:=List.mem_map.1 hc;have key:b=45\/(48<=b.toNat/\b.toNat<=57):=by
  unfold Lib.itoa at hb;split at hb
  .rcases List.mem_cons.1 hb with h | h
   .exact .inl h
   .exact .inr (Abk _ _ (Nat.le_refl _) b h)
  .exact .inr (Abk _ _ (Nat.le_refl _) b hb)
 unfold M9;rcases key with rfl | ⟨h1,h2⟩
 .decide
 .rw [Bool.or_eq_true,Ca,decide_eq_true_eq,decide_eq_true_eq]; right; omega
theorem Agg (n:Int):ti n≠[]:=by
 unfold ti Lib.itoa;split
 .simp
 .simpa using Ax8 _
theorem Anr {m n:Int} (h:ti m=ti n):m=n:=by
 unfold ti at h;have:∀l m:List UInt8,l.map (λc=>(c.toNat:Int))=m.map (λc=>(c.toNat:Int))->l=m:=by
  intro l;induction l with
  | nil=>intro m h; cases m with | nil=>rfl | cons=>simp at h
  | cons x xs ih=>intro m h;cases m with| nil=>simp at h| cons y ys=>simp only [List.map_cons,List.cons.injEq] at h;rw [ih ys h.2,UInt8.toNat.inj (by omega:x.toNat=y.toNat)]
 exact Ax9 (this _ _ h)
theorem Agh {n:Int} (h:I64 n):(ti n).length<=21:=by unfold ti; rw [List.length_map]; exact Lib.itoa_length_le n h.1 h.2
def Ro (X:List Int):Prop:=∀c m,X=c::m->M9 c=false/\c≠40
def Abm (X:List Int):Prop:=∀c m,X=c::m->M9 c=false
theorem Agi:∀(a b X Y:List Int),(∀c∈a,M9 c=true)->(∀c∈b,M9 c=true)->Abm X->Abm Y->a++X=b++Y->a=b/\X=Y
 | [],[],_,_,_,_,_,_,h=>⟨rfl,h⟩
 | [],y::b,X,Y,_,hb,g,_,h=>by have:=g y (b++Y) h;rw [hb y ψ] at this; cases this
 | x::a,[],X,Y,ha,_,_,f,h=>by have:=f x (a++X) h.symm;rw [ha x ψ] at this; cases this
 | x::a,y::b,X,Y,ha,hb,g,f,h=>by simp only [List.cons_append,List.cons.injEq] at h;obtain ⟨i,e2⟩:=Agi a b X Y (λc hc=>ha c (by simp [hc])) (λc hc=>hb c (by simp [hc])) g f h.2;exact ⟨by rw [h.1,i],e2⟩
mutual
def wx:A3->List Int
 | ⟨n,kids⟩=>ti n++(if kids.length=0 then [] else 40::(wxs kids++[41]))
def wxs:List A3->List Int
 | []=>[]
 | x::xs=>wx x++44::wxs xs
end
theorem Agj (i:A3):wx i=ti i.Num++(if i.Kids.length=0 then [] else 40::(wxs i.Kids++[41])):=by cases i; simp only [wx]
theorem Ans (l m:List A3):wxs (l++m)=wxs l++wxs m:=by induction l with| nil=>simp [wxs]| cons x xs ih=>simp only [List.cons_append,wxs,ih,List.append_assoc]
theorem Ant (b:List A3) (X:List Int) (f:Ro X):Abm ((if b.length=0 then [] else 40::(wxs b++[41]))++X):=by
 intro c m h;by_cases hk:b.length=0
 .rw [if_pos hk,List.nil_append] at h;exact (f c m h).1
 .rw [if_neg hk,List.cons_append] at h;cases h; decide
theorem Anu (X:List Int):Ro (44::X):=by intro c m h; cases h; exact ⟨δ,δ⟩
theorem Anv:Ro []:=by intro c m h; cases h
mutual
theorem Anw:∀(i j:A3) (X Y:List Int),Ro X->Ro Y->wx i++X=wx j++Y->i=j/\X=Y
 | ⟨n,k⟩,⟨n',k'⟩,X,Y,hX,hY,h=>by
  simp only [wx,List.append_assoc] at h
  obtain ⟨e1,e2⟩:=Agi _ _ _ _ (Na n) (Na n') (Ant k X hX) (Ant k' Y hY) h
  have e1:=Anr e1
  subst e1
  by_cases hk:k.length=0
  .by_cases hk':k'.length=0
   .rw [if_pos hk,if_pos hk'] at e2
    rw [List.length_eq_zero_iff.1 hk,List.length_eq_zero_iff.1 hk']
    exact ⟨rfl,e2⟩
   .rw [if_pos hk,if_neg hk',List.nil_append,List.cons_append] at e2
    exact absurd rfl (hX _ _ e2).2
  .by_cases hk':k'.length=0
   .rw [if_neg hk,if_pos hk',List.nil_append,List.cons_append] at e2
    exact absurd rfl (hY _ _ e2.symm).2
   .rw [if_neg hk,if_neg hk',List.cons_append,List.cons_append,List.append_assoc,List.append_assoc] at e2
    obtain ⟨e3,e4⟩:=Anx k k' X Y hX hY (List.cons.inj e2).2
    rw [e3]; exact ⟨rfl,e4⟩
theorem Anx:∀(l m:List A3) (X Y:List Int),Ro X->Ro Y->wxs l++([41]++X)=wxs m++([41]++Y)->l=m/\X=Y
 | [],[],X,Y,_,_,h=>by
  simp only [wxs,List.nil_append,List.cons_append,List.cons.injEq,true_and] at h
  exact ⟨rfl,h⟩
 | [],y::ys,X,Y,_,_,h=>by
  exfalso
  cases ht:ti y.Num with
  | nil=>exact Agg _ ht
  | cons c r=>
   have hc:=Na y.Num c (by rw [ht]; simp)
   simp only [wxs,Agj y,ht,List.nil_append,List.cons_append,List.cons.injEq] at h
   rw [<-h.1] at hc; exact absurd hc δ
 | x::xs,[],X,Y,_,_,h=>by
  exfalso
  cases ht:ti x.Num with
  | nil=>exact Agg _ ht
  | cons c r=>
   have hc:=Na x.Num c (by rw [ht]; simp)
   simp only [wxs,Agj x,ht,List.nil_append,List.cons_append,List.cons.injEq] at h
   rw [h.1] at hc; exact absurd hc δ
 | x::xs,y::ys,X,Y,hX,hY,h=>by
  simp only [wxs,List.append_assoc,List.cons_append] at h
  obtain ⟨e1,e2⟩:=Anw x y _ _ (Anu _) (Anu _) h
  obtain ⟨e3,e4⟩:=Anx xs ys X Y hX hY (by simpa using e2)
  exact ⟨by rw [e1,e3],e4⟩
end
mutual
def iR:A3->Prop
 | ⟨n,l⟩=>I64 n/\iRs l
def iRs:List A3->Prop
 | []=>True
 | x::xs=>iR x/\iRs xs
end
theorem Aya (i:A3):iR i↔I64 i.Num/\iRs i.Kids:=by cases i; simp only [iR]
theorem Ayb {l:List A3} (h:iRs l) {a:A3} (ha:a∈l):iR a:=by
 induction l with
 | nil=>cases ha
 | cons x xs ih=>
  simp only [iRs] at h;rcases List.mem_cons.1 ha with rfl | ha
  .exact h.1
  .exact ih h.2 ha
mutual
theorem Anz:∀i:A3,iR i->(wx i).length+1<=24*C1 i
 | ⟨n,l⟩,h=>by
  simp only [iR] at h
  have h1:=Abn l h.2
  have h2:=Agh h.1
  simp only [wx,C1,List.length_append]
  by_cases hl:l.length=0
  .rw [if_pos hl]; simp; omega
  .rw [if_neg hl]; simp; omega
theorem Abn:∀l:List A3,iRs l->(wxs l).length<=24*E4 l
 | [],_=>by simp [wxs,E4]
 | x::xs,h=>by
  simp only [iRs] at h
  have h1:=Anz x h.1
  have h2:=Abn xs h.2
  have h3:=E5 x
  simp only [wxs,E4,List.length_append,List.length_cons]; omega
end
theorem An0 (l m:List A3):E4 (l++m)=E4 l+E4 m:=by induction l with| nil=>simp [E4]| cons x xs ih=>simp only [List.cons_append,E4,ih]; omega
theorem Ayc (l m:List A3):iRs (l++m)↔iRs l/\iRs m:=by induction l with| nil=>simp [iRs]| cons x xs ih=>simp only [List.cons_append,iRs,ih,and_assoc]
theorem An1 {n:Int} (h:I64 n):Nw n=some ⟨(Lib.itoa n).toArray⟩:=by unfold Nw; rw [if_pos (show _/\_ from h)]
theorem Ayd (n:Int):Mr ⟨(Lib.itoa n).toArray⟩=ti n:=by unfold Mr ti; simp
theorem Aye:∀(k:Nat) (i:A3) (b:List Int),C1 i<=k->iR i->b.length+24*C1 i<=1099511627776->Q4 k i b=some (b++wx i):=by
 intro k;induction k with
 | zero=>intro i b h; have:=E5 i; omega
 | succ k ih=>
  intro i b h c hb;have hi:=E5 i;have z:=Li i.Kids;have c:=(Aya i).1 c;have B:=Agh c.1;rw [Q4,Agj];simp only [Jb,An1 c.1,Ad,Hc,W5,Ayd];rw [Di ω];simp only [Ad];by_cases h0:i.Kids.length=0
  .rw [Aq ω,if_pos h0]; simp
  .rw [An ω,if_neg h0];simp only [cond_true,To,W5,Ad];rw [Di (by simp; omega),Ad];have g:=Abn i.Kids c.2;have l:∀j,(wxs (i.Kids.take j)).length<=24*E4 i.Kids:=λj=>by have:=Ans (i.Kids.take j) (i.Kids.drop j);rw [List.take_append_drop] at this;rw [this,List.length_append] at g; omega
   refine Fg i.Kids (λj=>((j:Int),b++ti i.Num++[40]++wxs (i.Kids.take j))) (by simp [wxs]) ω ?_ ?_
   .intro j x hj hx h1 h2 h3;have A:=Hy (Bg hx);have f:=Ayb c.2 (Bg hx);have y:=Anz x f;have hh:=l (j+1);have e:wxs (i.Kids.take (j+1))=wxs (i.Kids.take j)++(wx x++[44]):=(by rw [Cu hx,Ans]; simp [wxs]);rw [e] at hh;simp only [List.length_append,List.length_cons,List.length_nil] at hh;simp only [h1,h2,h3,cond_true,Ad];have u:E4 (i.Kids.take j)+C1 x<=E4 i.Kids:=(by have q:=An0 (i.Kids.take (j+1)) (i.Kids.drop (j+1));rw [List.take_append_drop,Cu hx,An0] at q;simp only [E4] at q; omega);have s:(wxs (i.Kids.take j)).length<=24*E4 (i.Kids.take j):=Abn _ (by have:=(Ayc (i.Kids.take j) (i.Kids.drop j)).1 (by rw [List.take_append_drop]; exact c.2);exact this.1);rw [ih x _ ω f (by simp; omega)];simp only [Ad];rw [Di (by simp; omega),e];simp
   .intro h1;refine ⟨b++ti i.Num++[40]++wxs i.Kids,ψ,?_⟩;rw [Di (by simp; omega)];simp
def Lk (v:Int) (i:A3):List Int:=118::(ti v++58::wx i)
def Mj (v:Int) (i:A3):ByteArray:=⟨(E7 (Lk v i)).toArray⟩
mutual
theorem An2:∀i:A3,∀c∈wx i,0<=c/\c<256
 | ⟨n,l⟩,c,h=>by
  simp only [wx,List.mem_append] at h
  rcases h with h | h
  .have:=Na n c h
   simp only [M9,Bool.or_eq_true,Ca,beq_iff_eq,decide_eq_true_eq] at this
   omega
  .by_cases hl:l.length=0
   .rw [if_pos hl] at h; cases h
   .rw [if_neg hl] at h
    simp only [List.mem_cons,List.mem_append,List.not_mem_nil,or_false] at h
    rcases h with h | h | h
    .omega
    .exact An3 l c h
    .omega
theorem An3:∀l:List A3,∀c∈wxs l,0<=c/\c<256
 | [],c,h=>by simp [wxs] at h
 | x::xs,c,h=>by
  simp only [wxs,List.mem_append,List.mem_cons] at h
  rcases h with h | h | h
  .exact An2 x c h
  .omega
  .exact An3 xs c h
end
theorem Abo (v:Int) (i:A3):∀c∈Lk v i,0<=c/\c<256:=by
 intro c h;simp only [Lk,List.mem_cons,List.mem_append] at h;rcases h with h | h | h | h
 .omega
 .have:=Na v c h;simp only [M9,Bool.or_eq_true,Ca,beq_iff_eq,decide_eq_true_eq] at this;omega
 .omega
 .exact An2 i c h
theorem An4:∀l m:List Int,(∀c∈l,0<=c/\c<256)->(∀c∈m,0<=c/\c<256)->E7 l=E7 m->l=m
 | [],[],_,_,_=>rfl
 | [],_::_,_,_,h=>by simp [E7] at h
 | _::_,[],_,_,h=>by simp [E7] at h
 | x::xs,y::ys,h1,h2,h=>by simp only [E7,List.map_cons,List.cons.injEq] at h;have hx:=h1 x ψ;have hy:=h2 y ψ;have e:x.toNat=y.toNat:=(by have:=congrArg UInt8.toNat h.1;rw [UInt8.toNat_ofNat',UInt8.toNat_ofNat'] at this;omega);rw [An4 xs ys (λc hc=>h1 c (by simp [hc])) (λc hc=>h2 c (by simp [hc])) h.2,show x=y by omega]
theorem Ayf {v w:Int} {i j:A3} (h:Mj v i=Mj w j):v=w/\i=j:=by
 unfold Mj at h;have h1:(E7 (Lk v i)).toArray=(E7 (Lk w j)).toArray:=by injection h
 have h2:E7 (Lk v i)=E7 (Lk w j):=by simpa using congrArg Array.toList h1
 have h3:=An4 _ _ (Abo v i) (Abo w j) h2;simp only [Lk,List.cons.injEq,true_and] at h3;have b:∀X:List Int,Abm (58::X):=λX c m e=>by cases e; decide
 obtain ⟨g,e2⟩:=Agi _ _ _ _ (Na v) (Na w) (b _) (b _) h3;obtain ⟨f,_⟩:=Anw i j [] [] Anv Anv (by simpa using (List.cons.inj e2).2);exact ⟨Anr g,f⟩
theorem Ayg (l:List UInt8):Mr ⟨l.toArray⟩=l.map λb=>(b.toNat:Int):=by unfold Mr; simp
theorem Ayh (v:Int) (i:A3) (hv:I64 v) (f:iR i) (hi:C1 i<=1048576):Qw v i=some (Mj v i):=by
 have j:=Agh hv;have c:(Lib.itoa v).length=(ti v).length:=by unfold ti; simp
 unfold Qw;have h:F4 (ByteArray.mk #[118]) ⟨(Lib.itoa v).toArray⟩=some ⟨(118::Lib.itoa v).toArray⟩:=by
  unfold F4;rw [if_pos]
  .congr 1
  .show 1+(Lib.itoa v).toArray.size<=9223372036854775807;rw [List.size_toArray]; omega
 have e2:F4 ⟨(118::Lib.itoa v).toArray⟩ (ByteArray.mk #[58])=some ⟨(118::(Lib.itoa v++[58])).toArray⟩:=by
  unfold F4;rw [if_pos]
  .congr 1
  .show (118::Lib.itoa v).toArray.size+1<=9223372036854775807;rw [List.size_toArray,List.length_cons]; omega
 simp only [Jb,An1 hv,Ad,h,e2,Jr,Aaf,Ayg];rw [Di (by simp; omega)];simp only [Ad];rw [Aye 4000000 i _ ω f (by simp; omega)];simp only [Ad,La];have g:([]++(118::(Lib.itoa v++[58])).map λb=>(b.toNat:Int))++wx i=Lk v i:=by unfold Lk ti; simp
 rw [g];unfold U1 Mj;rw [if_pos (Abo v i)]; rfl
end Go.Ab
namespace Go.Ab
open Go
mutual
theorem An5 (data:List Ao):∀(i:A3) (t:Ag) (d:Nat),Ee data i t=some d->d<=6*C1 i
 | ⟨n,kids⟩,t,d,h=>by
  rw [Rm] at h
  simp only [C1]
  simp only at h
  split at h
  .split at h
   .have:=Xs data kids _ d h; omega
   .cases h
  .split at h
   .split at h
    .cases h; omega
    .cases h
   .split at h
    .split at h
     .have:=An6 data kids _ d h; omega
     .cases h
    .split at h
     .cases h; omega
     .cases h
theorem Xs (data:List Ao):∀(is:List A3) (ts:List Ag) (d:Nat),C2 data is ts=some d->d<=6*E4 is
 | [],[],d,h=>by simp only [C2] at h; cases h; omega
 | i::is,t::ts,d,h=>by
  rw [M8] at h
  cases h1:Ee data i t with
  | none=>rw [h1] at h; cases h
  | some a=>
   rw [h1,Ad] at h
   cases h2:C2 data is ts with
   | none=>rw [h2] at h; cases h
   | some b=>
    rw [h2] at h
    cases h
    have:=An5 data i t a h1
    have:=Xs data is ts b h2
    simp only [E4]; omega
 | [],_::_,d,h=>by simp only [C2] at h; cases h
 | _::_,[],d,h=>by simp only [C2] at h; cases h
theorem An6 (data:List Ao):∀(es:List A3) (t:Ag) (d:Nat),Fq data es t=some d->d<=6*E4 es
 | [],t,d,h=>by simp only [Fq] at h; cases h; omega
 | ⟨n,kids⟩::es,t,d,h=>by
  rw [T6] at h
  simp only at h
  cases h1:Fz data t n with
  | none=>rw [h1] at h; cases h
  | some ts=>
   rw [h1,Ad] at h
   cases h2:C2 data kids ts with
   | none=>rw [h2] at h; cases h
   | some a=>
    rw [h2,Ad] at h
    cases h3:Fq data es t with
    | none=>rw [h3] at h; cases h
    | some b=>
     rw [h3] at h
     cases h
     have:=Xs data kids ts a h2
     have:=An6 data es t b h3
     simp only [E4,C1]; omega
end
def T8 (data:List Ao) (e:A3) (t:Ag):Option Nat:=(Fz data t e.Num).bind λb=>(C2 data e.Kids b).map (1 + ·)
theorem Ayi (data:List Ao) (e:A3) (es:List A3) (t:Ag):Fq data (e::es) t=(T8 data e t).bind λa=>(Fq data es t).map (a + ·):=by rw [T6]; unfold T8;cases Fz data t e.Num with| none=>rfl| some b=>simp only [Ad]; cases C2 data e.Kids b <;> rfl
theorem Ayj (data:List Ao) (e:A3) (t:Ag) (d:Nat) (h:T8 data e t=some d):d<=6*C1 e:=by
 unfold T8 at h;cases h1:Fz data t e.Num with
 | none=>rw [h1] at h; cases h
 | some b=>rw [h1,Ad] at h;cases h2:C2 data e.Kids b with| none=>rw [h2] at h; cases h| some a=>rw [h2] at h;cases h;have:=Xs data _ b a h2;have:=E5 e;show 1+a<=_;omega
def Dg (v:Int) (o:Option Nat):Prop:=(v = -1/\∀d,o=some d->6<d)\/∃d:Nat,o=some d/\v=d
theorem Dg.clip {v:Int} {o:Option Nat} (h:Dg v o):(if v>6 then -1 else v)=Gb o:=by
 rcases h with ⟨rfl,h⟩ | ⟨d,rfl,rfl⟩
 .rw [if_neg ω,Rn h]
 .by_cases hd:6<d
  .rw [if_pos ω,Agf hd]
  .rw [if_neg ω,Xq ω]
theorem Abp {o p:Option Nat} {acc:Nat} {d:Nat} (h:(o.bind λa=>p.map (a + ·)).map (acc + ·)=some d):∃a b,o=some a/\p=some b/\d=acc+(a+b):=by
 cases o with
 | none=>cases h
 | some a=>cases p with| none=>cases h| some b=>exact ⟨a,b,rfl,rfl,by simp at h; omega⟩
theorem Ayk {data:List Ao} (hz:Szv data) (hs:Hf data) (b1:List (ByteArray×Int)) (b2:List (ByteArray×List D2)) (vars:List Ag) (N M:Int) (L:List Ag):∀k:Nat, (∀(i:A3) (t:Ag),3*C1 i<=k->C1 i<=1048576->A6 t<=200->∃v,Oj k t i b1 b2 data vars N M L=some v/\Dg v (Ee data i t)) /\ (∀(g:List A3) (f:List Ag),3*E4 g+1<=k->E4 g<=1048576->(∀t∈f,A6 t<=200)->∃v,Q5 k f g b1 b2 data vars N M L=some v/\Dg v (C2 data g f)) /\ (∀(e:A3) (t:Ag),3*C1 e<=k->C1 e<=1048576->A6 t<=200->∃v,Q6 k t e b1 b2 data vars N M L=some v/\Dg v (T8 data e t)):=by
 intro k;induction k with
 | zero=>exact ⟨λi t h=>by have:=E5 i; omega,λg f h=>ω,λi t h=>by have:=E5 i; omega⟩
 | succ k ih=>
  obtain ⟨a6,R,a7⟩:=ih;have G:∀o:Option Nat,o.map (0 + ·)=o:=(by intro o; cases o <;> simp);have c:∀d:Nat,(none:Option Nat)=some d->6<d:=λd h=>by cases h
  refine ⟨?_,?_,?_⟩
  .intro i t hk hi ht;have af:=E5 i;have U:=Li i.Kids;rw [Oj,Rm];by_cases Z:t.Kind=6
   .simp only [Ct Z,cond_true,if_pos Z];by_cases h0:i.Num=0
    .simp only [Ct h0,cond_true,if_pos h0];obtain ⟨p,p1,p2⟩:=R i.Kids t.Args ω ω (λa ha=>by have:=Gf ha; have:=Ga t; omega);rw [p1];exact ⟨p,rfl,p2⟩
    .simp only [Bz h0,cond_false,if_neg h0];exact ⟨_,rfl,.inl ⟨rfl,c⟩⟩
   .simp only [Bz Z,cond_false,if_neg Z];by_cases Y:t.Kind=7
    .simp only [Ct Y,cond_true,if_pos Y];by_cases a1:0<=i.Num
     .by_cases a2:i.Num<=6
      .by_cases a3:i.Kids.length=0
       .rw [An (show i.Num>=0 from a1),An a2,if_pos ⟨a1,a2,a3⟩,Ct ω];exact ⟨_,rfl,.inr ⟨i.Num.toNat,rfl,ω⟩⟩
       .rw [An (show i.Num>=0 from a1),An a2,if_neg (λh=>a3 h.2.2),Bz ω];exact ⟨_,rfl,.inl ⟨rfl,c⟩⟩
      .rw [An (show i.Num>=0 from a1),Aq a2,if_neg (λh=>a2 h.2.1)];exact ⟨_,rfl,.inl ⟨rfl,c⟩⟩
     .rw [Aq (show ¬i.Num>=0 from a1),if_neg (λh=>a1 h.1)];exact ⟨_,rfl,.inl ⟨rfl,c⟩⟩
    .simp only [Bz Y,cond_false,if_neg Y];by_cases h5:t.Kind=5
     .simp only [Ct h5,cond_true,if_pos h5];by_cases h0:i.Num=0
      .simp only [Cp h0,cond_false,if_pos h0];have key:∀(m j acc:Nat),j+m=i.Kids.length->acc<=10000000->∃z,Al (S:=(Int×Int)) (E:=(Int⊕Int)) (λ(I,v8)=>
         bif v8<(i.Kids.length:Int) then ((Ae i.Kids v8).bind λv9=> (Q6 k t v9 b1 b2 data vars N M L).bind λv11=> bif v11<(0:Int) then some (.inr (.inl (-1))) else (bif I>(6:Int) then some (.inr (.inl (-1))) else some (.inl ((Aa (I+v11)),(Aa (v8+1)))))) else some (.inr (.inr I))) ((acc:Int),(j:Int))=some z/\Dg (match z with | .inl v=>v | .inr v=>v) ((Fq data (i.Kids.drop j) t).map (acc + ·)):=by
        intro m;induction m with
        | zero=>intro j acc hj B;have:j=i.Kids.length:=ω;subst this;exact ⟨.inr (acc:Int),F3 ψ,.inr ⟨acc,by simp [Fq],rfl⟩⟩
        | succ m A=>
         intro j acc hj B;have q:i.Kids[j]? = some i.Kids[j]:=Be ω;generalize i.Kids[j]=e at q;have ac:=Hy (Bg q);rw [Lj q,Ayi];obtain ⟨v,D,v2⟩:=a7 e t ω ω ht;rcases v2 with ⟨rfl,v2⟩ | ⟨a,a1,rfl⟩
         .refine ⟨.inl (-1),F3 ?_,.inl ⟨rfl,λd h=>?_⟩⟩
          .simp only [An (by omega:(j:Int)<(i.Kids.length:Int)),cond_true,Bi rfl q,Ad,D]; rfl
          .obtain ⟨a,b,ha,hb,rfl⟩:=Abp h;have:=v2 a ha; omega
         .have V:=Ayj data e t a a1;by_cases hb:acc>6
          .refine ⟨.inl (-1),F3 ?_,.inl ⟨rfl,λd h=>?_⟩⟩
           .simp only [An (by omega:(j:Int)<(i.Kids.length:Int)),cond_true,Bi rfl q,Ad,D,Aq (by omega:¬(a:Int)<0),An (by omega:(acc:Int)>6),cond_false]
           .obtain ⟨a,b,ha,hb,rfl⟩:=Abp h;omega
          .have ew:Aa ((acc:Int)+(a:Int))=((acc+a:Nat):Int):=(by rw [Aa,B4] <;> omega);obtain ⟨z,s,z2⟩:=A (j+1) (acc+a) ω ω;refine ⟨z,?_,?_⟩
           .rw [K1 (s':=(((acc+a:Nat):Int),((j+1:Nat):Int)))]
            .exact s
            .simp only [An (by omega:(j:Int)<(i.Kids.length:Int)),cond_true,Bi rfl q,Ad,D,Aq (by omega:¬(a:Int)<0),Aq (by omega:¬(acc:Int)>6),cond_false,ew,Co (show j<i.Kids.length by omega) ω]
           .have G:∀o:Option Nat,(((some a:Option Nat).bind λa=>o.map (a + ·)).map (acc + ·))=o.map (acc+a + ·):=(by intro o; cases o <;> simp [Nat.add_assoc]);rw [a1,G];exact z2
       obtain ⟨z,s,z2⟩:=key i.Kids.length 0 0 ω ω;have s:Al _ ((0:Int),(0:Int))=some z:=s;rw [s,Ad];rw [List.drop_zero,G] at z2;cases z with| inl v=>exact ⟨v,rfl,z2⟩| inr v=>exact ⟨v,rfl,z2⟩
      .simp only [Cs h0,cond_true,if_neg h0];exact ⟨_,rfl,.inl ⟨rfl,c⟩⟩
     .simp only [Bz h5,cond_false,if_neg h5];by_cases h0:i.Num=0
      .simp only [Ct h0,cond_true];by_cases a3:i.Kids.length=0
       .rw [if_pos ⟨h0,a3⟩,Ct ω];exact ⟨_,rfl,.inr ⟨0,rfl,rfl⟩⟩
       .rw [if_neg (λh=>a3 h.2),Bz ω];exact ⟨_,rfl,.inl ⟨rfl,c⟩⟩
      .simp only [Bz h0,cond_false];rw [if_neg (λh=>h0 h.1)];exact ⟨_,rfl,.inl ⟨rfl,c⟩⟩
  .intro g f hk hi ht;have U:=Li g;rw [Q5];by_cases hl:f.length=g.length
   .rw [Cp ω];simp only [cond_false];have key:∀(m j acc:Nat),j+m=g.length->acc<=10000000->∃z,Al (S:=(Int×Int)) (E:=(Int⊕Int)) (λ(v5,X)=>
      bif X<(f.length:Int) then ((Ae f X).bind λI=> (Ae g X).bind λv9=> (Oj k I v9 b1 b2 data vars N M L).bind λJ=> bif J<(0:Int) then some (.inr (.inl (-1))) else (bif v5>(6:Int) then some (.inr (.inl (-1))) else some (.inl ((Aa (v5+J)),(Aa (X+1)))))) else some (.inr (.inr v5))) ((acc:Int),(j:Int))=some z/\Dg (match z with | .inl v=>v | .inr v=>v) ((C2 data (g.drop j) (f.drop j)).map (acc + ·)):=by
     intro m;induction m with
     | zero=>intro j acc hj B;have:j=f.length:=ω;subst this;refine ⟨.inr (acc:Int),F3 ψ,.inr ⟨acc,?_,rfl⟩⟩;rw [List.drop_of_length_le ω,List.drop_of_length_le ω];simp [C2]
     | succ m A=>
      intro j acc hj B;have q:g[j]? = some g[j]:=Be ω;generalize g[j]=e at q;have hu:f[j]? = some f[j]:=Be ω;generalize f[j]=u at hu;have ac:=Hy (Bg q);rw [Lj q,Lj hu,M8];obtain ⟨v,D,v2⟩:=a6 e u ω ω (ht u (Bg hu));rcases v2 with ⟨rfl,v2⟩ | ⟨a,a1,rfl⟩
      .refine ⟨.inl (-1),F3 ?_,.inl ⟨rfl,λd h=>?_⟩⟩
       .simp only [An (by omega:(j:Int)<(f.length:Int)),cond_true,Bi rfl q,Bi rfl hu,Ad,D]; rfl
       .obtain ⟨a,b,ha,hb,rfl⟩:=Abp h;have:=v2 a ha; omega
      .have V:=An5 data e u a a1;by_cases hb:acc>6
       .refine ⟨.inl (-1),F3 ?_,.inl ⟨rfl,λd h=>?_⟩⟩
        .simp only [An (by omega:(j:Int)<(f.length:Int)),cond_true,Bi rfl q,Bi rfl hu,Ad,D,Aq (by omega:¬(a:Int)<0),An (by omega:(acc:Int)>6),cond_false]
        .obtain ⟨a,b,ha,hb,rfl⟩:=Abp h;omega
       .have ew:Aa ((acc:Int)+(a:Int))=((acc+a:Nat):Int):=(by rw [Aa,B4] <;> omega);obtain ⟨z,s,z2⟩:=A (j+1) (acc+a) ω ω;refine ⟨z,?_,?_⟩
        .rw [K1 (s':=(((acc+a:Nat):Int),((j+1:Nat):Int)))]
         .exact s
         .simp only [An (by omega:(j:Int)<(f.length:Int)),cond_true,Bi rfl q,Bi rfl hu,Ad,D,Aq (by omega:¬(a:Int)<0),Aq (by omega:¬(acc:Int)>6),cond_false,ew,Co (show j<g.length by omega) ω]
        .have G:∀o:Option Nat,(((some a:Option Nat).bind λa=>o.map (a + ·)).map (acc + ·))=o.map (acc+a + ·):=(by intro o; cases o <;> simp [Nat.add_assoc]);rw [a1,G];exact z2
    obtain ⟨z,s,z2⟩:=key g.length 0 0 ω ω;have s:Al _ ((0:Int),(0:Int))=some z:=s;rw [s,Ad];rw [List.drop_zero,List.drop_zero,G] at z2;cases z with| inl v=>exact ⟨v,rfl,z2⟩| inr v=>exact ⟨v,rfl,z2⟩
   .rw [Cs ω,Abj data g f hl];exact ⟨_,rfl,.inl ⟨rfl,c⟩⟩
  .intro e t hk q ht;have ag:=E5 e;rw [Q6];unfold T8 Fz;rw [Abe hz t ht e.Num,Ad];cases hf:Gg data t e.Num with
   | none=>exact ⟨-1,rfl,.inl ⟨rfl,c⟩⟩
   | some l=>
    have ad:=Rl hf;obtain ⟨x,y,_,hx,_,hy,hl,ab⟩:=Mi hf;obtain ⟨y6,_⟩:=hz x (Ec hx).2.2.2 y (Ec hy).2.2.2;have ae:l.length<=6:=(by rw [hl]; simpa using y6);have aa:∀a∈Em l (Cx data t.Num e.Num),A6 a<=200:=(Abi (show Fz data t e.Num=some _ by unfold Fz; rw [hf]; rfl)).1;obtain ⟨v,D,v2⟩:=R e.Kids (Em l (Cx data t.Num e.Num)) ω ω aa;have hd:Dg (if v<0 then -1 else 1+v) (((some l).map λl=>Em l (Cx data t.Num e.Num)).bind λf=>(C2 data e.Kids f).map (1 + ·)):=by
     rw [Option.map_some,Ad];rcases v2 with ⟨rfl,v2⟩ | ⟨a,a1,rfl⟩
     .refine .inl ⟨rfl,λd h=>?_⟩;cases ha:C2 data e.Kids (Em l (Cx data t.Num e.Num)) with| none=>rw [ha] at h; cases h| some a=>rw [ha] at h; have:=v2 a ha; simp at h; omega
     .rw [a1,if_neg ω];exact .inr ⟨1+a,rfl,ω⟩
    have a8:v = -1\/(0<=v/\v<=10000000):=by
     rcases v2 with ⟨rfl,v2⟩ | ⟨a,a1,rfl⟩
     .exact .inl rfl
     .have:=Xs data _ _ a a1; right; omega
    refine ⟨_,?_,hd⟩;simp only [okL,D3,cond_false,Xj data t.Num e.Num hs,Ad];refine Fg (Cx data t.Num e.Num) (λj=>((j:Int),Em (l.take j) ((Cx data t.Num e.Num).take j))) (by simp [Em]) ω ?_ ?_
    .intro j b hj hb h1 h2 h3;have ha:l[j]? = some l[j]:=Be ω;generalize l[j]=a at ha;have U:=Xo (l.take j) ((Cx data t.Num e.Num).take j);have:(l.take j).length<=6:=(by simp; omega);simp only [h1,h2,h3,cond_true,Ad,Bi rfl ha,Abf ha hb];rw [Di (by simp; omega)];cases b <;> simp
    .intro h1;refine ⟨Em l (Cx data t.Num e.Num),?_,?_⟩
     .simp only [h1];rw [List.take_of_length_le ω,List.take_of_length_le (Nat.le_refl _)]; rfl
     .rw [D,Ad];rcases a8 with h | h
      .subst h; rfl
      .rw [Aq ω,if_neg ω];simp only [cond_false];rw [Aa,B4] <;> omega
def Dl (vars:List Ag) (res:Ag) (v:Int):Option Ag:=if v = -1 then some res else Ae vars v
def F8 (data:List Ao) (vars:List Ag) (res:Ag) (o:List (ByteArray×Int)):Prop:=∀p∈o,∀v i t,p.1=Mj v i->Dl vars res v=some t->p.2=Gb (Ee data i t)
theorem An7 {α:Type}:∀(o:List (ByteArray×α)) (s:ByteArray) (v:α),∀p∈Fx o s v,p∈o\/p=(s,v)
 | [],s,v,p,h=>by simp only [Fx,List.mem_singleton] at h; exact .inr h
 | q::o,s,v,p,h=>by
  unfold Fx at h;cases hq:(s==q.1) with
  | true=>
   rw [hq] at h;simp only [cond_true,List.mem_cons] at h;rcases h with h | h
   .exact .inr h
   .exact .inl (by simp [h])
  | false=>
   rw [hq] at h;simp only [cond_false,List.mem_cons] at h;rcases h with h | h
   .exact .inl (by simp [h])
   .rcases An7 o s v p h with h | h
    .exact .inl (by simp [h])
    .exact .inr h
theorem Ayl {data:List Ao} (B:Szv data) (D:Hf data) (b1:List (ByteArray×Int)) (b2:List (ByteArray×List D2)) (vars:List Ag) (res:Ag) (f:F8 data vars res b1) (v:Int) (i:A3) (t:Ag) (ht:Dl vars res v=some t) (b:A6 t<=200) (hv:I64 v) (E:iR i) (hi:C1 i<=1048576) : ∃l,L7 v i b1 b2 data vars res.Kind res.Num res.Args=some (Gb (Ee data i t),l)/\F8 data vars res l:=by
 unfold L7;rw [Ayh v i hv E hi,Ad];cases hh:Fw b1 (Mj v i) with
 | true=>refine ⟨b1,?_,f⟩;have:Iv b1 (Mj v i) 0=Gb (Ee data i t):=(by unfold Iv;unfold Fw at hh;rw [List.any_eq_true] at hh;obtain ⟨p,A,z⟩:=hh;cases g:b1.find? (λp=>Mj v i==p.1) with| none=>exact absurd z (by have:=List.find?_eq_none.1 g p A; simpa using this)| some q=>have hq:=List.find?_some g;exact f q (List.mem_of_find?_eq_some g) v i t ((Af8 _ _).1 hq).symm ht);simp only [cond_true,Ad,D3,cond_false,this]
 | false=>
  obtain ⟨w,u,s⟩:=(Ayk B D b1 b2 vars res.Kind res.Num res.Args 4000000).1 i t ω hi b;have c:K4 v b1 b2 data vars res.Kind res.Num res.Args=some t:=by
   unfold K4;unfold Dl at ht;by_cases h:v = -1
   .rw [if_pos h] at ht; cases ht;have G:(Ag.mk res.Kind res.Num res.Args)=res:=(by cases res; rfl);rw [Ct h,G]; rfl
   .rw [if_neg h] at ht;rw [Bz h,ht]; rfl
  have j:(bif decide (w>6) then some (-1) else some w:Option Int)=some (Gb (Ee data i t)):=by
   rw [<-s.clip];by_cases h:w>6
   .rw [An h,if_pos h]; rfl
   .rw [Aq h,if_neg h]; rfl
  refine ⟨Fx b1 (Mj v i) (Gb (Ee data i t)),?_,?_⟩
  .simp only [cond_false,Ad,Bool.not_false,cond_true,c,u,j]
  .intro p hp x i' y k e2;rcases An7 _ _ _ p hp with h | h
   .exact f p h x i' y k e2
   .subst h;obtain ⟨rfl,rfl⟩:=Ayf k;rw [ht] at e2; cases e2; rfl
end Go.Ab
namespace Go.Ab
open Go
def Dy (a b:Int):Int:=if a<b then -1 else if a>b then 1 else 0
def Dm (a b:Int):Int:=if a=0 then b else a
theorem Fu {a b:Int}:Dy a b=0↔a=b:=by unfold Dy; split <;> (try split) <;> omega
theorem Nb (a b:Int):J9 a b=some (Dy a b):=by
 unfold J9 Qx Dy;simp only [Ad,bne_self_eq_false,cond_false];by_cases h:a<b
 .rw [An h,if_pos h]; rfl
 .rw [Aq h,if_neg h];by_cases h':a>b
  .rw [An h',if_pos h']; rfl
  .rw [Aq h',if_neg h']; rfl
theorem An8 (a b:Int):Wk a b=some (Dy a b):=Nb a b
theorem T9 (a b:Int):L8 [a,b]=some (Dm a b):=by
 unfold L8 Dm;by_cases ha:a=0
 .rw [if_pos ha];by_cases hb:b=0
  .refine Ke 2 (λj=>(j:Int)) rfl ?_ ⟨.inr (),rfl,by rw [hb]⟩;intro j hj
   match j,hj with| 0,_=>subst ha; rfl| 1,_=>subst hb; rfl
  .refine Ke 1 (λj=>(j:Int)) rfl ?_ ⟨.inl b,?_,rfl⟩
   .intro j hj
    match j,hj with| 0,_=>subst ha; rfl
   .show (bif (b != 0) then _ else _)=_;rw [Cs hb]; rfl
 .rw [if_neg ha];refine Ke 0 (λj=>(j:Int)) rfl (λj hj=>ω) ⟨.inl a,?_,rfl⟩;show (bif (a != 0) then _ else _)=_;rw [Cs ha]; rfl
theorem Abq (a b:Int) (h:a≠b):Tg (decide (a<b))=some (Dy a b):=by
 unfold Tg Dy;by_cases h':a<b
 .rw [An h',if_pos h']; rfl
 .rw [Aq h',if_neg h',if_pos ω]; rfl
theorem Abr (a b:Int) (h:a≠b):Q2 (decide (a<b))=some (Dy a b):=Abq a b h
theorem Abs (a b:Int) (h:a≠b):Qu (decide (a<b))=some (Dy a b):=Abq a b h
def Ej {α:Type} (g:α->α->Int):List α->List α->Int
 | x::xs,y::ys=>Dm (g x y) (Ej g xs ys)
 | _,_=>0
theorem Xt {α:Type} (g:α->α->Int) (l m:List α) {step:Int->Option (Int⊕(Int⊕Unit))} (k:l.length=m.length) (hb:l.length<4611686018427387904) (f:∀(j:Nat) (x y:α),l[j]? = some x->m[j]? = some y->decide ((j:Int)<(l.length:Int))=true->Ae l (j:Int)=some x->Ae m (j:Int)=some y->decide ((j:Int)>=(m.length:Int))=false->Aa ((j:Int)+1)=((j+1:Nat):Int) -> step (j:Int)=if g x y=0 then some (.inl ((j+1:Nat):Int)) else some (.inr (.inl (g x y)))) (i:decide ((l.length:Int)<(l.length:Int))=false->step (l.length:Int)=some (.inr (.inr ()))) : ∃z,Al step 0=some z/\(match z with | .inl r=>r=Ej g l m/\r≠0 | .inr _=>Ej g l m=0):=by
 have key:∀(n j:Nat),j+n=l.length->∃z,Al step (j:Int)=some z/\(match z with | .inl r=>r=Ej g (l.drop j) (m.drop j)/\r≠0 | .inr _=>Ej g (l.drop j) (m.drop j)=0):=by
  intro n;induction n with
  | zero=>intro j hj;have:j=l.length:=ω;subst this;refine ⟨.inr (),F3 (i ψ),?_⟩;rw [List.drop_of_length_le ω]; simp [Ej]
  | succ n ih=>
   intro j hj;have hx:l[j]? = some l[j]:=Be ω;have hy:m[j]? = some m[j]:=Be ω;generalize l[j]=x at hx;generalize m[j]=y at hy;have h:=f j x y hx hy (An ω) (Bi rfl hx) (Bi rfl hy) (Aq ω) (Co (show j<l.length by omega) hb);rw [Lj hx,Lj hy];by_cases b:g x y=0
   .rw [if_pos b] at h;obtain ⟨z,c,z2⟩:=ih (j+1) ω;refine ⟨z,by rw [K1 h]; exact c,?_⟩;have e:Ej g (x::l.drop (j+1)) (y::m.drop (j+1))=Ej g (l.drop (j+1)) (m.drop (j+1)):=(by simp only [Ej,Dm,b,if_true]);cases z with| inl r=>simp only [e]; exact z2| inr u=>simp only [e]; exact z2
   .rw [if_neg b] at h;refine ⟨.inl (g x y),F3 h,?_,b⟩;simp only [Ej,Dm,b,if_false]
 exact key l.length 0 ω
theorem Abt {α:Type} (f:α->α->Option Int) (g:α->α->Int) (l m:List α) (s:l.length=m.length) (hb:l.length<4611686018427387904) (A:∀(j:Nat) (x y:α),l[j]? = some x->m[j]? = some y->f x y=some (g x y)) : ((Al (S:=Int) (E:=(Int⊕Unit)) (λb=> bif b<(l.length:Int) then ((Ae l b).bind λq=> bif b>=(m.length:Int) then some (.inr (.inl 1)) else ((Ae m b).bind λv9=> (f q v9).bind λv11=> bif (v11 != (0:Int)) then some (.inr (.inl v11)) else some (.inl (Aa (b+1))))) else some (.inr (.inr ()))) 0).bind λz=> match z with
   | .inl i=>some i
   | .inr _=>bif (l.length:Int)<(m.length:Int) then some (-1) else some 0)=some (Ej g l m):=by
 refine Xa (Xt g l m s hb ?_ (λh=>by simp only [h]; rfl)) ?_
 .intro j x y hx hy h1 h2 h3 h4 B;simp only [h1,h2,h3,h4,B,cond_true,cond_false,Ad,A j x y hx hy];by_cases c:g x y=0
  .rw [Cp c,if_pos c]; rfl
  .rw [Cs c,if_neg c]; rfl
 .rintro (r | u) k
  .rw [k.1]
  .simp only;rw [Aq ω,show Ej g l m=0 from k]; rfl
def Kh (x y:Dv):Int:=Dm (Dy x.Var y.Var) (Dy x.Coef y.Coef)
def Ki (a b:De):Int:=if a.Terms.length=b.Terms.length then Dm (Ej Kh a.Terms b.Terms) (Dy a.Const b.Const) else Dy a.Terms.length b.Terms.length
theorem An9 (a b:De) (ha:a.Terms.length<1099511627776):K9 a b=some (Ki a b):=by
 unfold K9 Ki;rw [Nb,Ad];by_cases h:a.Terms.length=b.Terms.length
 .rw [Cp (Fu.2 ω),if_pos h];simp only [cond_false];have:=Abt Wj Kh a.Terms b.Terms h ω (λj x y _ _=>by unfold Wj Kh;rw [Nb,An8]; simp only [Ad,T9]);rw [show Aab a.Terms b.Terms=_ from this,Ad,An8];simp only [Ad,T9]
 .rw [Cs (λe=>h (by have:=Fu.1 e; omega)),if_neg h]; rfl
theorem Aoa (a b:De) (ha:a.Terms.length<1099511627776):M1 a b=some (Ki a b):=by
 unfold M1 Ki;by_cases h:a.Terms.length=b.Terms.length
 .rw [Cp ω,if_pos h];simp only [cond_false];refine Xa (Xt Kh a.Terms b.Terms h ω ?_ (λh=>by simp only [h]; rfl)) ?_
  .intro j x y hx hy h1 h2 h3 h4 f;simp only [h1,h2,h3,f,cond_true,Ad];by_cases hv:x.Var=y.Var
   .rw [Cp hv];by_cases hc:x.Coef=y.Coef
    .rw [Cp hc];rw [if_pos (by unfold Kh; rw [Fu.2 hv,Fu.2 hc]; rfl)]; rfl
    .rw [Cs hc,Abr _ _ hc];have e:Kh x y=Dy x.Coef y.Coef:=(by unfold Kh; rw [Fu.2 hv]; rfl);rw [e,if_neg (λe=>hc (Fu.1 e))]; rfl
   .rw [Cs hv,Abr _ _ hv];have e:Kh x y=Dy x.Var y.Var:=(by unfold Kh Dm; rw [if_neg (λe=>hv (Fu.1 e))]);rw [e,if_neg (λe=>hv (Fu.1 e))]; rfl
  .rintro (r | u) c
   .obtain ⟨rfl,h0⟩:=c;unfold Dm; rw [if_neg h0]
   .have c:Ej Kh a.Terms b.Terms=0:=c;rw [c];simp only [Dm,if_true];by_cases hc:a.Const=b.Const
    .rw [Cp hc,Fu.2 hc]; rfl
    .rw [Cs hc,Abr _ _ hc]; rfl
 .rw [Cs ω,if_neg h,Abr _ _ ω]; rfl
mutual
def Ic:A3->A3->Int
 | ⟨n,k⟩,j=>if n=j.Num then (if k.length=j.Kids.length then Rp k j.Kids else Dy k.length j.Kids.length) else Dy n j.Num
def Rp:List A3->List A3->Int
 | x::xs,y::ys=>Dm (Ic x y) (Rp xs ys)
 | [],_=>0
 | _::_,[]=>0
end
theorem Agk (i j:A3):Ic i j=if i.Num=j.Num then (if i.Kids.length=j.Kids.length then Rp i.Kids j.Kids else Dy i.Kids.length j.Kids.length) else Dy i.Num j.Num:=by cases i; simp only [Ic]
theorem Abu:∀l m:List A3,Rp l m=Ej Ic l m
 | x::xs,y::ys=>by simp only [Rp,Ej,Abu xs ys]
 | [],_=>by simp [Rp,Ej]
 | _::_,[]=>by simp [Rp,Ej]
theorem Aym:∀(n k:Nat) (i j:A3),C1 i<=n->2*n<=k->n<1099511627776->Od k i j=some (Ic i j):=by
 intro n;induction n with
 | zero=>intro k i j h; have:=E5 i; omega
 | succ n ih=>
  intro k i j h hk c;obtain ⟨k,rfl⟩:∃b,k=b+2:=⟨k-2,ω⟩;have hi:=E5 i;have f:=Li i.Kids;rw [Od,Agk,Nb,Nb];simp only [Ad,T9];by_cases h1:i.Num=j.Num
  .rw [if_pos h1];by_cases h2:i.Kids.length=j.Kids.length
   .rw [if_pos h2,Cp (by unfold Dm; rw [Fu.2 h1,Fu.2 ω]; rfl),Abu];simp only [cond_false];have:=Abt (Od k) Ic i.Kids j.Kids h2 ω (λq x y hx hy=>ih k x y (by have:=Hy (Bg hx); omega) ω ω);rw [Wl];refine Eq.trans (congrArg (λq=>Option.bind q _) this) rfl
   .have e:Dm (Dy i.Num j.Num) (Dy (i.Kids.length:Int) (j.Kids.length:Int))=Dy i.Kids.length j.Kids.length:=(by unfold Dm; rw [Fu.2 h1]; rfl);rw [if_neg h2,e,Cs (λe=>h2 (by have:=Fu.1 e; omega))]; rfl
  .have e:Dm (Dy i.Num j.Num) (Dy (i.Kids.length:Int) (j.Kids.length:Int))=Dy i.Num j.Num:=(by unfold Dm; rw [if_neg (λe=>h1 (Fu.1 e))]);rw [if_neg h1,e,Cs (λe=>h1 (Fu.1 e))]; rfl
theorem Ayn:∀(n k:Nat) (i j:A3),C1 i<=n->2*n<=k->n<1099511627776->Oh k i j=some (Ic i j):=by
 intro n;induction n with
 | zero=>intro k i j h; have:=E5 i; omega
 | succ n ih=>
  intro k i j h hk A;obtain ⟨k,rfl⟩:∃l,k=l+2:=⟨k-2,ω⟩;have hi:=E5 i;have B:=Li i.Kids;rw [Oh,Agk];by_cases h1:i.Num=j.Num
  .rw [if_pos h1,Cp h1];simp only [cond_false];rw [Wn];by_cases h2:i.Kids.length=j.Kids.length
   .rw [if_pos h2,Cp ω,Abu];simp only [cond_false];have:=Xt Ic i.Kids j.Kids h2 ω (step:=λv5=>bif v5<(i.Kids.length:Int) then ((Ae i.Kids v5).bind λg=>(Ae j.Kids v5).bind λf=>(Oh k g f).bind λv8=>bif (v8 != (0:Int)) then some (.inr (.inl v8)) else some (.inl (Aa (v5+1)))) else some (.inr (.inr ()))) (λq x y hx hy h1 h2 h3 h4 s=>by
     simp only [h1,h2,h3,s,cond_true,Ad,ih k x y (by have:=Hy (Bg hx); omega) ω ω];by_cases b:Ic x y=0
     .rw [Cp b,if_pos b]; rfl
     .rw [Cs b,if_neg b]; rfl) (λh=>by simp only [h]; rfl);obtain ⟨z,c,z2⟩:=this;rw [c,Ad];cases z with| inl r=>rw [z2.1]; rfl| inr u=>rw [show Ej Ic i.Kids j.Kids=0 from z2]; rfl
   .rw [if_neg h2,Cs ω,Abq _ _ ω]; rfl
  .rw [if_neg h1,Cs h1,Abq _ _ h1]; rfl
def Kj (x y:Cn):Int:=Dm (Dy x.Var y.Var) (Ic x.Index y.Index)
def Ll (x y:Cb):Int:=Dm (Ki x.Lin y.Lin) (Dy x.Deg y.Deg)
def En (a b:Bw):Int := if a.Factors.length=b.Factors.length then Dm (Ej Kj a.Factors b.Factors) (if a.Atoms.length=b.Atoms.length then Ej Ll a.Atoms b.Atoms else Dy a.Atoms.length b.Atoms.length) else Dy a.Factors.length b.Factors.length
structure MSz (m:Bw):Prop where
 nf:m.Factors.length<=1048576
 na:m.Atoms.length<=1048576
 fi:∀f∈m.Factors,C1 f.Index<=1048576
 fr:∀f∈m.Factors,iR f.Index/\I64 f.Var
 al:∀a∈m.Atoms,a.Lin.Terms.length<=1048576
theorem Ayo (a b:Bw) (ha:MSz a):N8 a b=some (En a b):=by
 have h1:=ha.nf;have h2:=ha.na;unfold N8 En;rw [Nb,Ad];by_cases h:a.Factors.length=b.Factors.length
 .rw [Cp (Fu.2 ω),if_pos h];simp only [cond_false];have:=Abt V8 Kj a.Factors b.Factors h ω (λj x y hx hy=>by unfold V8 Kj;rw [Nb,Aym 1048576 4000000 x.Index y.Index (ha.fi x (Bg hx)) ω ω]; simp only [Ad,T9]);rw [show Zy a.Factors b.Factors=_ from this,Ad,Nb];simp only [Ad,T9];by_cases h0:Ej Kj a.Factors b.Factors=0
  .simp only [h0,Dm,if_true];by_cases h':a.Atoms.length=b.Atoms.length
   .rw [Cp (Fu.2 ω),if_pos h'];simp only [cond_false];have:=Abt V9 Ll a.Atoms b.Atoms h' ω (λj x y hx hy=>by unfold V9 Ll;rw [Nb,An9 x.Lin y.Lin (by have:=ha.al x (Bg hx); omega)]; simp only [Ad,T9]);rw [show Zz a.Atoms b.Atoms=_ from this]; rfl
   .rw [Cs (λe=>h' (by have:=Fu.1 e; omega)),if_neg h']; rfl
  .simp only [Dm,if_neg h0];rw [Cs h0]; rfl
 .rw [Cs (λe=>h (by have:=Fu.1 e; omega)),if_neg h]; rfl
theorem Ayp (a b:Bw) (ha:MSz a):Sz a b=some (En a b):=by
 have h1:=ha.nf;have h2:=ha.na;unfold Sz En;by_cases h:a.Factors.length=b.Factors.length
 .rw [Cp ω,if_pos h];simp only [cond_false];refine Xa (Xt Kj a.Factors b.Factors h ω ?_ (λh=>by simp only [h]; rfl)) ?_
  .intro j x y hx hy h1 h2 h3 h4 f;simp only [h1,h2,h3,f,cond_true,Ad,Ayn 1048576 4000000 x.Index y.Index (ha.fi x (Bg hx)) ω ω];by_cases hv:x.Var=y.Var
   .rw [Cp hv];have e:Kj x y=Ic x.Index y.Index:=(by unfold Kj Dm; rw [if_pos (Fu.2 hv)]);rw [e];by_cases hc:Ic x.Index y.Index=0
    .rw [Cp hc,if_pos hc]; rfl
    .rw [Cs hc,if_neg hc]; rfl
   .rw [Cs hv,Abs _ _ hv];have e:Kj x y=Dy x.Var y.Var:=(by unfold Kj Dm; rw [if_neg (λe=>hv (Fu.1 e))]);rw [e,if_neg (λe=>hv (Fu.1 e))]; rfl
  .rintro (r | u) c
   .obtain ⟨rfl,h0⟩:=c;unfold Dm; rw [if_neg h0]
   .have c:Ej Kj a.Factors b.Factors=0:=c;rw [c];simp only [Dm,if_true];by_cases h':a.Atoms.length=b.Atoms.length
    .rw [Cp ω,if_pos h'];simp only [cond_false];refine Xa (Xt Ll a.Atoms b.Atoms h' ω ?_ (λh=>by simp only [h]; rfl)) ?_
     .intro j x y hx hy h1 h2 h3 h4 f;simp only [h1,h2,h3,f,cond_true,Ad,Aoa x.Lin y.Lin (by have:=ha.al x (Bg hx); omega)];by_cases hv:Ki x.Lin y.Lin=0
      .rw [Cp hv];have e:Ll x y=Dy x.Deg y.Deg:=(by unfold Ll Dm; rw [if_pos hv]);rw [e];by_cases hc:x.Deg=y.Deg
       .rw [Cp hc,if_pos (Fu.2 hc)]; rfl
       .rw [Cs hc,Abs _ _ hc,if_neg (λe=>hc (Fu.1 e))]; rfl
      .have e:Ll x y=Ki x.Lin y.Lin:=(by unfold Ll Dm; rw [if_neg hv]);rw [Cs hv,e,if_neg hv]; rfl
     .rintro (r | u) c
      .rw [c.1]
      .rw [show Ej Ll a.Atoms b.Atoms=0 from c]
    .rw [Cs ω,if_neg h',Abs _ _ ω]; rfl
 .rw [Cs ω,if_neg h,Abs _ _ ω]; rfl
def Jw {α:Type} (f:α->Int) (l:List α) (x:α) (j:Nat):Bool:=j==0||(match l[j-1]? with | some y=>decide (f y<f x) | none=>false)
def Pa (l:List Dv) (x:Dv) (j:Nat):Bool:=decide (-1<=x.Var/\x.Var<3000/\x.Coef≠0/\-1048576<=x.Coef/\x.Coef<=1048576)&&Jw (·.Var) l x j
def Hg (a:De):Bool:=decide (-1048576<=a.Const/\a.Const<=1048576/\a.Terms.length<=16)&&a.Terms.zipIdx.all (λq=>Pa a.Terms q.1 q.2)
theorem Aob (n:Int):S5 n=some (decide (-1048576<=n/\n<=1048576)):=by unfold S5;by_cases h:(-1048576:Int)<=n <;> simp [h]
theorem Ayq (n:Int):V4 n=some (decide (-1<=n/\n<3000)):=by unfold V4;by_cases h:(-1:Int)<=n <;> simp [h]
theorem Agl {α S E:Type} (f:α->Int) (l:List α) {x:α} {j:Nat} (hx:l[j]? = some x) (i:l.length<4611686018427387904) (c b:Option (S⊕E)) : (bif decide ((j:Int)>0) then ((Ae l (Aa ((j:Int)-1))).bind λg=>bif decide (f g>=f x) then c else b) else b)=bif Jw f l x j then b else c:=by
 have hj:=Dr hx;unfold Jw;by_cases h:j=0
 .subst h; rfl
 .rw [An ω];have e:Aa ((j:Int)-1)=((j-1:Nat):Int):=(by rw [Aa,B4] <;> omega);have hy:l[j-1]? = some l[j-1]:=Be ω;rw [e,Bi rfl hy,hy];have h0:(j==0)=false:=(by simpa using h);simp only [cond_true,Ad,h0,Bool.false_or];by_cases hc:f l[j-1]<f x
  .rw [Aq ω,An hc]; rfl
  .rw [An ω,Aq hc]; rfl
theorem Ayr (a:De):Mv a=some (Hg a):=by
 unfold Mv Hg;rw [Aob];simp only [Ad];by_cases h1 : -1048576<=a.Const/\a.Const<=1048576
 .rw [An h1];by_cases h2:a.Terms.length<=16
  .rw [Aq (by omega:¬(a.Terms.length:Int)>16),An ⟨h1.1,h1.2,h2⟩];simp only [D3,cond_false,Ad,Bool.true_and];refine (M5 a.Terms (λq=>Pa a.Terms q.1 q.2) (λj=>(j:Int)) rfl ω (rt:=true) (rf:=false) ?_ ?_).trans (by rw [Kf])
   .intro j x hx _ h1 h2 h3;simp only [h1,h2,h3,cond_true,Ad,Ayq,Aob,Agl (·.Var) a.Terms hx ω,Pa];by_cases g1 : -1<=x.Var/\x.Var<3000
    .by_cases g2:x.Coef=0
     .rw [An g1,Ct g2,Aq (λh=>h.2.2.1 g2)];exact ⟨(λh=>by cases h),λ_=>⟨.inl false,rfl,rfl⟩⟩
     .by_cases g3 : -1048576<=x.Coef/\x.Coef<=1048576
      .rw [An g1,Bz g2,An g3,An ⟨g1.1,g1.2,g2,g3.1,g3.2⟩];cases Jw (·.Var) a.Terms x j with| true=>exact ⟨λ_=>rfl,λh=>by cases h⟩| false=>exact ⟨(λh=>by cases h),λ_=>⟨.inl false,rfl,rfl⟩⟩
      .rw [An g1,Bz g2,Aq g3,Aq (λh=>g3 h.2.2.2)];exact ⟨(λh=>by cases h),λ_=>⟨.inl false,rfl,rfl⟩⟩
    .rw [Aq g1,Aq (λh=>g1 ⟨h.1,h.2.1⟩)];exact ⟨(λh=>by cases h),λ_=>⟨.inl false,rfl,rfl⟩⟩
   .intro h _;exact ⟨.inr (),by simp only [h]; rfl,rfl⟩
  .rw [An (by omega:(a.Terms.length:Int)>16),Aq (λh=>h2 h.2.2)]; rfl
 .rw [Aq h1,Aq (λh : -1048576<=a.Const/\a.Const<=1048576/\a.Terms.length<=16=>h1 ⟨h.1,h.2.1⟩)]; rfl
theorem Aoc (a:De):Ob a=some (Hg a):=by
 unfold Ob Hg;by_cases h2:a.Terms.length<=16
 .rw [Aq (by omega:¬(a.Terms.length:Int)>16)];by_cases h1 : -1048576<=a.Const
  .rw [Aq (by omega:¬a.Const < -1048576)];by_cases h3:a.Const<=1048576
   .rw [Aq (by omega:¬a.Const>1048576),An ⟨h1,h3,h2⟩];simp only [cond_false,Ad,Bool.true_and];refine (M5 a.Terms (λq=>Pa a.Terms q.1 q.2) (λj=>(j:Int)) rfl ω (rt:=true) (rf:=false) ?_ ?_).trans (by rw [Kf])
    .intro j x hx _ h1 h2 h3;simp only [h1,h2,h3,cond_true,Ad,Agl (·.Var) a.Terms hx ω,Pa];by_cases g1:x.Var < -1
     .rw [An g1,Aq (λh=>ω)];exact ⟨(λh=>by cases h),λ_=>⟨.inl false,rfl,rfl⟩⟩
     by_cases g2:x.Var>=3000
     .rw [Aq g1,An g2,Aq (λh=>ω)];exact ⟨(λh=>by cases h),λ_=>⟨.inl false,rfl,rfl⟩⟩
     by_cases g3:x.Coef=0
     .rw [Aq g1,Aq g2,Ct g3,Aq (λh=>ω)];exact ⟨(λh=>by cases h),λ_=>⟨.inl false,rfl,rfl⟩⟩
     by_cases g4:x.Coef < -1048576
     .rw [Aq g1,Aq g2,Bz g3,An g4,Aq (λh=>ω)];exact ⟨(λh=>by cases h),λ_=>⟨.inl false,rfl,rfl⟩⟩
     by_cases g5:x.Coef>1048576
     .rw [Aq g1,Aq g2,Bz g3,Aq g4,An g5,Aq (λh=>ω)];exact ⟨(λh=>by cases h),λ_=>⟨.inl false,rfl,rfl⟩⟩
     rw [Aq g1,Aq g2,Bz g3,Aq g4,Aq g5,An ω];cases Jw (·.Var) a.Terms x j with| true=>exact ⟨λ_=>rfl,λh=>by cases h⟩| false=>exact ⟨(λh=>by cases h),λ_=>⟨.inl false,rfl,rfl⟩⟩
    .intro h _;exact ⟨.inr (),by simp only [h]; rfl,rfl⟩
   .rw [An (by omega:a.Const>1048576),Aq (λh : -1048576<=a.Const/\a.Const<=1048576/\a.Terms.length<=16=>ω)]; rfl
  .rw [An (by omega:a.Const < -1048576),Aq (λh : -1048576<=a.Const/\a.Const<=1048576/\a.Terms.length<=16=>ω)]; rfl
 .rw [An (by omega:(a.Terms.length:Int)>16),Aq (λh : -1048576<=a.Const/\a.Const<=1048576/\a.Terms.length<=16=>ω)]; rfl
end Go.Ab
