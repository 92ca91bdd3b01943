/- Plain laws: what the plain functions answer. -/
import Derived.Test.YtohelcameomopaaGreatDoorApPl1
import Derived.Lib.ItoaLen
namespace Go.Ab
open Go
theorem Azp {l:List ByteArray} {j:Nat} {x:ByteArray} (h:l[j]? = some x) (b:l.Nodup):∀i y,i<j->l[i]? = some y->y≠x:=by intro i y hi hy e;subst e;have h1:=Dx h;have h2:i<l.length:=ω;rw [Bv h1] at h;rw [Bv h2] at hy;have:=(List.nodup_iff_pairwise_ne.1 b);rw [List.pairwise_iff_getElem] at this;exact this i j h2 h1 hi (by rw [Option.some.inj h,Option.some.inj hy])
theorem Aoo (l:List ByteArray) (N:l.length<1099511627776):∃b,Uq l=some b/\(b=false↔l.Nodup):=by
 unfold Uq;refine Fe (λv=>∃i:Nat,v=i/\i<=l.length/\(l.take i).Nodup) (λv=>l.length-v.toNat) (λz=>match z with | .inl r=>r=true/\¬l.Nodup | .inr _=>l.Nodup) ⟨0,rfl,ω,ψ⟩ ?_ ?_
 .rintro v ⟨i,rfl,hi,A⟩;rcases Nat.lt_or_ge i l.length with h | h
  .have hx:l[i]? = some l[i]:=Bv h;generalize l[i]=x at hx;have G:(l.take i).length=i:=(by simp; omega);have D:∃z,Al (S:=Int) (E:=(Bool⊕Int)) (λv4=>bif v4<(i:Int) then ((Ae l (i:Int)).bind λv5=>(Ae l v4).bind λL=>bif (v5.toList==L.toList) then some (.inr (.inl true)) else some (.inl (Aa (v4+1)))) else some (.inr (.inr v4))) 0=some z/\(match z with | .inl r=>r=true/\x∈l.take i | .inr _=>x ∉ l.take i):=by
    refine Ib (λv4:Int=>∃j:Nat,v4=j/\j<=i/\∀k y,k<j->l[k]? = some y->y≠x) (λv4=>i-v4.toNat) _ ?_ _ ⟨0,rfl,ω,λk y hk=>ω⟩;rintro v4 ⟨j,rfl,hj,g⟩;rcases Nat.lt_or_ge j i with h' | h'
    .have hy:l[j]? = some l[j]:=Bv ω;generalize l[j]=y at hy;simp only [Aj (by omega:(j:Int)<(i:Int)),cond_true,Ce rfl hx,Ce rfl hy,Ad,Acu];by_cases c:x=y
     .rw [Aj c];refine .inr ⟨.inl true,rfl,rfl,?_⟩;subst c;exact Cd (i:=j) (by rw [List.getElem?_take_of_lt h']; exact hy)
     .rw [An c];refine .inl ⟨((j+1:Nat):Int),by simp only [cond_false]; rw [C6 h' ω],⟨j+1,rfl,ω,?_⟩,by simp; omega⟩;intro k J hk f;rcases Nat.lt_or_ge k j with h'' | h''
      .exact g k J h'' f
      .have:k=j:=ω;subst this;rw [hy] at f; cases f;exact λe=>c e.symm
    .have:j=i:=ω;subst this;refine .inr ⟨.inr (j:Int),ψ,?_⟩;intro q;obtain ⟨k,hk⟩:=List.getElem?_of_mem q;have B:=Dx hk;rw [List.getElem?_take_of_lt ω] at hk;exact g k x ω hk rfl
   obtain ⟨z,I,z2⟩:=D;simp only [Aj (by omega:(i:Int)<(l.length:Int)),cond_true];rw [I,Ad]
   match z,z2 with
   | .inl r,z2=>obtain ⟨rfl,z2⟩:=z2;refine .inr ⟨.inl true,rfl,rfl,λM=>?_⟩;obtain ⟨k,hk⟩:=List.getElem?_of_mem z2;have B:=Dx hk;rw [List.getElem?_take_of_lt ω] at hk;exact Azp hx M k x ω hk rfl
   | .inr v8,z2=>refine .inl ⟨((i+1:Nat):Int),by simp only [C6 h ω],⟨i+1,rfl,ω,?_⟩,by simp; omega⟩;rw [C8 hx];exact Ahh A z2
  .have:i=l.length:=ω;subst this;rw [List.take_length] at A;exact .inr ⟨.inr (),ψ,A⟩
 .rintro (r | u) s
  .obtain ⟨rfl,s⟩:=s;exact ⟨true,rfl,by simp [s]⟩
  .exact ⟨false,rfl,by simpa using s⟩
theorem SzD.args {data:List A3} (h:SzD data) {x:A3} (hx:x∈data) {y:Mg} (hy:y∈x.Cons) {t:Ai} (ht:t∈y.Args):Bo t<=1048576/\t.Args.length<=1048576/\y.Args.length<=1048576:=by have h1:=(h x hx).2 y hy;have h3:=Ih ht;have f:=H3 t;have c:=Jx t.Args;have b:=Jx y.Args;omega
theorem Azq {data:List A3} (l:DSz data) {d:Nat} {x:A3} {y:Mg} (hx:data[d]? = some x) (hy:y∈x.Cons) : ∃z,Al (S:=Int) (E:=(Bool⊕Int)) (λb=> bif b<(y.Args.length:Int) then ((Ae y.Args b).bind λf=> (Pk f d x.Vars).bind λi=> bif i then some (.inl (Aa (b+1))) else ((Fy data 0 d).bind λv218=> (N1 v218 f x.Vars).bind λg=> bif (!g) then some (.inr (.inl false)) else some (.inl (Aa (b+1))))) else some (.inr (.inr b))) 0=some z/\(match z with | .inl r=>r=false/\y.Args.all (Jy data d x.Vars)=false | .inr _=>y.Args.all (Jy data d x.Vars)=true):=by
 have hxm:=Cd hx;have B:=Dx hx;have s:=l.len;have D:y.Args.length<=1048576:=by have:=(l.sz x hxm).2 y hy; have:=Jx y.Args; omega
 refine Ib (λv:Int=>∃j:Nat,v=j/\j<=y.Args.length/\(y.Args.take j).all (Jy data d x.Vars)=true) (λv=>y.Args.length-v.toNat) _ ?_ _ ⟨0,rfl,ω,ψ⟩;rintro v ⟨j,rfl,hj,c⟩;rcases Nat.lt_or_ge j y.Args.length with h | h
 .have ht:y.Args[j]? = some y.Args[j]:=Bv h;generalize y.Args[j]=t at ht;have k:=Cd ht;obtain ⟨J,I,G⟩:=l.sz.args hxm hy k;simp only [Aj (by omega:(j:Int)<(y.Args.length:Int)),cond_true,Ce rfl ht,Ad,Aob t d x.Vars ω,Yl rfl (show d<=data.length by omega),Ahc (data.take d) t x.Vars ω,C6 h ω];have good:Jy data d x.Vars t=true->(y.Args.take (j+1)).all (Jy data d x.Vars)=true:=λA=>by rw [C8 ht,List.all_append,c]; simp [A]
  cases q:Ii t d x.Vars with
  | true=>exact .inl ⟨_,rfl,⟨j+1,rfl,ω,good (by unfold Jy; rw [q]; rfl)⟩,by simp; omega⟩
  | false=>simp only [cond_false];cases u:(Fv (data.take d) x.Vars t&&decide (Bo t<=200)) with| true=>exact .inl ⟨_,rfl,⟨j+1,rfl,ω,good (by unfold Jy; rw [u,q]; rfl)⟩,by simp; omega⟩| false=>refine .inr ⟨.inl false,rfl,rfl,?_⟩;rw [List.all_eq_false];exact ⟨t,k,by unfold Jy; rw [u,q]; simp⟩
 .have:j=y.Args.length:=ω;subst this;rw [List.take_length] at c;exact .inr ⟨.inr (y.Args.length:Int),ψ,c⟩
theorem Azr {data:List A3} (M:DSz data) {d:Nat} {x:A3} (hx:data[d]? = some x) (Y:x.Cons.length<=8) (L:List ByteArray) (X:L.length<=1048576) :
  ∃z,Al (S:=(Int×(List ByteArray))) (E:=(Bool⊕(Int×(List ByteArray)))) (λ(f,k)=>
   bif f<(x.Cons.length:Int) then (
   (show OB from
   (Ae x.Cons f).bind λA=>
   (Rr A.Name).bind λv203=>
   bif (!v203) then some true
   else (
   (Ae x.Cons f).bind λu=>
   some (decide ((u.Args.length:Int)>(6:Int))))
   ).bind λs=>
   bif s then some (.inr (.inl false))
   else (
   (Ae x.Cons f).bind λv206=>
   (Ca 16 k [v206.Name]).bind λD=>
   (Ae x.Cons f).bind λv208=>
   (Al (S:=Int) (E:=(Bool⊕Int)) (λg=>
   bif g<(v208.Args.length:Int) then (
   (Ae v208.Args g).bind λj=>
   (Pk j d x.Vars).bind λq=>
   bif q then some (.inl (Aa (g+1)))
   else (
   (Fy data 0 d).bind λv218=>
   (N1 v218 j x.Vars).bind λl=>
   bif (!l) then some (.inr (.inl false))
   else some (.inl (Aa (g+1)))))
   else some (.inr (.inr g))) 0).bind λz=>
   match z with
   | .inl B=>some (.inr (.inl B))
   | .inr J=>some (.inl ((Aa (f+1)),D))))
   else some (.inr (.inr (f,k)))) (0,L)=some z /\
   (match z with | .inl r=>r=false/\¬(∀y∈x.Cons,Sx data d x.Vars y) | .inr (_,o)=>(∀y∈x.Cons,Sx data d x.Vars y)/\o=L++F4 x):=by
 have hxm:=Cd hx
 refine Ib (λ(v,o)=>∃c:Nat,v=c/\c<=x.Cons.length/\(∀y∈x.Cons.take c,Sx data d x.Vars y)/\o=L++(x.Cons.take c).map (·.Name)) (λ(v,_)=>x.Cons.length-v.toNat) _ ?_ _ ⟨0,rfl,ω,ψ,ψ⟩
 rintro ⟨v,o⟩ ⟨c,rfl,hc,h1,V⟩
 subst V
 rcases Nat.lt_or_ge c x.Cons.length with h | h
 .have hy:x.Cons[c]? = some x.Cons[c]:=Bv h
  generalize x.Cons[c]=y at hy
  have i:=Cd hy
  obtain ⟨b,b1,b2⟩:=Aol y.Name (by have:=M.cn x hxm y i; omega)
  obtain ⟨z,R,z2⟩:=Azq M hx i
  simp only [Aj (by omega:(c:Int)<(x.Cons.length:Int)),cond_true,Ce rfl hy,Ad,b1,C6 h ω]
  rw [C3 (by simp; omega)]
  cases b with
  | false=>
   refine .inr ⟨.inl false,rfl,rfl,λI=>?_⟩
   have:=b2.2 (I y i).1; cases this
  | true=>
   simp only [Dk,cond_false,Ad]
   by_cases N:(y.Args.length:Int)>6
   .rw [Aj N]
    refine .inr ⟨.inl false,rfl,rfl,λI=>?_⟩
    have:=(I y i).2.1; omega
   .rw [An N]
    simp only [cond_false]
    rw [R,Ad]
    match z,z2 with
    | .inl r,z2=>
     obtain ⟨rfl,z2⟩:=z2
     refine .inr ⟨.inl false,rfl,rfl,λI=>?_⟩
     have:=(I y i).2.2
     rw [z2] at this; cases this
    | .inr w,z2=>
     refine .inl ⟨_,rfl,⟨c+1,rfl,ω,?_,?_⟩,by simp; omega⟩
     .intro U G
      rw [C8 hy] at G
      rcases List.mem_append.1 G with h' | h'
      .exact h1 U h'
      .simp at h'; subst h'; exact ⟨b2.1 rfl,ω,z2⟩
     .rw [C8 hy]; simp
 .have:c=x.Cons.length:=ω
  subst this
  rw [List.take_length] at h1
  exact .inr ⟨.inr ((x.Cons.length:Int),L++F4 x),by simp [F4],h1,rfl⟩
theorem Azs {data:List A3} (D:DSz data):∃b,W8 data=some b/\(b=true↔Ja data):=by
 have J:=D.len;unfold W8;rcases Nat.lt_or_ge 12 data.length with h12 | h12
 .rw [Aj ω];exact ⟨false,rfl,by simp; intro h; have:=h.1; omega⟩
 rw [An ω];simp only [cond_false];have l:∀d,d<=data.length->(∀f x,f<d->data[f]? = some x->Qb data f x)->((data.take d).flatMap F4).length<=8*d:=by intro d;induction d with| zero=>intro _ _; simp| succ d ih=>intro hd h1;have hx:data[d]? = some data[d]:=Bv ω;have:=ih ω (λf x E=>h1 f x ω);have V:=(h1 d _ ω hx).2.2.2.1;rw [C8 hx,List.flatMap_append,List.length_append];simp only [List.flatMap_cons,List.flatMap_nil,List.append_nil,F4,List.length_map];omega
 refine Fe (λ(v,k,j)=>∃d:Nat,v=d/\d<=data.length/\(∀f x,f<d->data[f]? = some x->Qb data f x)/\k=(data.take d).map (·.Name)/\j=(data.take d).flatMap F4) (λ(v,_,_)=>data.length-v.toNat) (λz=>match z with | .inl r=>r=false/\¬Ja data | .inr (k,j)=>(∀d x,data[d]? = some x->Qb data d x)/\k=data.map (·.Name)/\j=data.flatMap F4) ⟨0,rfl,ω,by intro f x h; omega,ψ,ψ⟩ ?_ ?_
 .rintro ⟨v,k,j⟩ ⟨d,rfl,hd,h1,h2,h3⟩;rcases Nat.lt_or_ge d data.length with h | h
  .have hx:data[d]? = some data[d]:=Bv h;generalize data[d]=x at hx;have hxm:=Cd hx;obtain ⟨b,b1,b2⟩:=Aol x.Name (by have:=D.nm x hxm; omega);simp only [Aj (by omega:(d:Int)<(data.length:Int)),cond_true,Ce rfl hx,Ad,b1];have bad:∀(u:¬Qb data d x),∃e:Bool⊕((List ByteArray)×(List ByteArray)),(some (Sum.inr (Sum.inl false)):Option ((Int×(List ByteArray)×(List ByteArray))⊕(Bool⊕((List ByteArray)×(List ByteArray)))))=some (.inr e)/\(match e with | .inl r=>r=false/\¬Ja data | .inr (k,j)=>(∀d x,data[d]? = some x->Qb data d x)/\k=data.map (·.Name)/\j=data.flatMap F4) :=
    λu=>⟨.inl false,rfl,rfl,λc=>u (c.2.1 d x hx)⟩
   by_cases g:x.Vars<0
   .simp only [Aj g,cond_true,Ad];exact .inr (bad λc=>by have:=c.1; omega)
   by_cases i:x.Vars>6
   .simp only [An g,Aj i,cond_true,cond_false,Ad];exact .inr (bad λc=>by have:=c.2.1; omega)
   by_cases s:(x.Cons.length:Int)<1
   .simp only [An g,An i,Aj s,cond_false,cond_true,Ad];exact .inr (bad λc=>by have:=c.2.2.1; omega)
   by_cases A:(x.Cons.length:Int)>8
   .simp only [An g,An i,An s,Aj A,cond_true,cond_false,Ad];exact .inr (bad λc=>by have:=c.2.2.2.1; omega)
   simp only [An g,An i,An s,An A,cond_false,Ad];cases b with
   | false=>exact .inr (bad λc=>by have:=b2.2 c.2.2.2.2.1; cases this)
   | true=>
    have y:=l d hd h1;rw [h2,h3];simp only [Dk,cond_false];rw [C3 (by simp; omega),Ad];obtain ⟨z,L,z2⟩:=Azr D hx ω ((data.take d).flatMap F4) ω
    erw [L,Ad]
    match z,z2 with
    | .inl r,z2=>obtain ⟨rfl,z2⟩:=z2;exact .inr (bad λc=>z2 c.2.2.2.2.2)
    | .inr (v60,S),z2=>
     obtain ⟨N,M⟩:=z2;subst M;have ht:=C8 hx;refine .inl ⟨(((d+1:Nat):Int),(data.take d).map (·.Name)++[x.Name],(data.take d).flatMap F4++F4 x),by simp only [C6 h ω],⟨d+1,rfl,ω,?_,?_,?_⟩,by simp; omega⟩
     .intro f R E q;rcases Nat.lt_or_ge f d with h' | h'
      .exact h1 f R h' q
      .have:f=d:=ω;subst this;rw [hx] at q; cases q;exact ⟨ω,ω,ω,ω,b2.1 rfl,N⟩
     .rw [ht]; simp
     .rw [ht]; simp [List.flatMap_append]
  .have:d=data.length:=ω;subst this;rw [List.take_length] at h2 h3;exact .inr ⟨.inr (k,j),ψ,λd x hx=>h1 d x (Dx hx) hx,h2,h3⟩
 .rintro (r | ⟨k,j⟩) hp
  .obtain ⟨rfl,hp⟩:=hp;exact ⟨false,rfl,by simp [hp]⟩
  .obtain ⟨I,rfl,rfl⟩:=hp;have y:=l data.length ω (λd x _=>I d x);rw [List.take_length] at y;obtain ⟨b,b1,b2⟩:=Aoo (data.map (·.Name)) (by simp; omega);obtain ⟨U,G,B⟩:=Aoo (data.flatMap F4) ω;simp only [b1,Ad,G];cases b with
   | true=>exact ⟨false,rfl,by simp; intro c; have:=b2.2 c.2.2.1; cases this⟩
   | false=>cases U with| true=>exact ⟨false,rfl,by simp; intro c; have:=B.2 c.2.2.2; cases this⟩| false=>exact ⟨true,rfl,by simp; exact ⟨h12,I,b2.1 rfl,B.1 rfl⟩⟩
end Go.Ab
namespace Go.Ab
open Go
def isV (σ:List Ai) (k n:Int):Bool:=k==4&&decide (0<=n)&&decide (n<(σ.length:Int))
mutual
def Db (σ:List Ai):Ai->Ai
 | ⟨k,n,l⟩=>match (if isV σ k n then σ[n.toNat]? else none) with
  | some s=>s
  | none=>⟨k,n,Oi σ l⟩
def Oi (σ:List Ai):List Ai->List Ai
 | []=>[]
 | x::xs=>Db σ x::Oi σ xs
end
theorem Azt (σ l:List Ai):Oi σ l=l.map (Db σ):=by induction l with| nil=>rfl| cons x xs ih=>simp only [Oi,ih,List.map_cons]
theorem Acv {σ:List Ai} {k n:Int} (h:isV σ k n=true):∃s,σ[n.toNat]? = some s/\Ae σ n=some s/\s∈σ:=by simp only [isV,Dj,decide_eq_true_eq] at h;have b:n.toNat < σ.length:=ω;refine ⟨σ[n.toNat],Bv b,?_,List.getElem_mem b⟩;unfold Ae;rw [if_pos ω,Bv b]
theorem Acw {σ:List Ai} {t s:Ai} (h:isV σ t.Kind t.Num=true) (b:σ[t.Num.toNat]? = some s):Db σ t=s:=by cases t; simp only [Db] at *; simp [h,b]
theorem Ahi {σ:List Ai} {t:Ai} (h:isV σ t.Kind t.Num=false):Db σ t=⟨t.Kind,t.Num,t.Args.map (Db σ)⟩:=by cases t; simp only [Db] at *; simp [h,Azt]
mutual
theorem Aop:∀t:Ai,Db [] t=t
 | ⟨k,n,l⟩=>by
  have hv:isV [] k n=false:=by
   unfold isV
   by_cases h:0<=n
   .rw [An (by simp; omega:¬n<(([]:List Ai).length:Int))]; simp
   .rw [An h]; simp
  simp only [Db,hv,Aoq l]; rfl
theorem Aoq:∀l:List Ai,Oi [] l=l
 | []=>rfl
 | x::xs=>by simp only [Oi,Aop x,Aoq xs]
end
mutual
theorem Ahj (σ:List Ai) (M:Nat) (hM:1<=M) (hσ:∀s∈σ,Bo s<=M):∀t:Ai,Bo (Db σ t)<=Bo t*M
 | ⟨k,n,l⟩=>by
  cases hv:isV σ k n with
  | true=>
   obtain ⟨s,h1,_,h3⟩:=Acv hv
   rw [Acw (t:=⟨k,n,l⟩) hv h1]
   have:=hσ s h3
   have h2:=Nf ⟨k,n,l⟩
   calc Bo s<=1*M:=ω
    _<=_:=Nat.mul_le_mul_right M h2
  | false=>
   have:=Aor σ M hM hσ l
   simp only [Db,hv,Bo]
   simp only [Bool.false_eq_true,if_false,Bo]
   rw [Nat.add_mul]; omega
theorem Aor (σ:List Ai) (M:Nat) (hM:1<=M) (hσ:∀s∈σ,Bo s<=M):∀l:List Ai,Cu (Oi σ l)<=Cu l*M
 | []=>by simp [Oi,Cu]
 | x::xs=>by
  have h1:=Ahj σ M hM hσ x
  have h2:=Aor σ M hM hσ xs
  simp only [Oi,Cu]
  rw [Nat.add_mul]; omega
end
theorem Ahk (σ:List Ai) (t:Ai):(bif t.Kind==(4:Int) then bif decide (t.Num>=(0:Int)) then some (decide (t.Num<(σ.length:Int))) else some false else some false)=some (isV σ t.Kind t.Num):=by unfold isV;cases t.Kind==4 <;> simp;by_cases h:0<=t.Num <;> simp [h]
theorem Azu:∀(k:Nat) (t:Ai) (σ:List Ai) (M:Nat),(∀s∈σ,Bo s<=M)->Bo t+M+1<=k->k<1099511627776->Px k t σ=some (Db σ t):=by
 intro k;induction k with
 | zero=>intro t σ M _ h; omega
 | succ k ih=>
  intro t σ M c h hk;have g:=H3 t;have f:=Jx t.Args;rw [Px];rw [show (show OB from bif t.Kind==(4:Int) then bif decide (t.Num>=(0:Int)) then some (decide (t.Num<(σ.length:Int))) else some false else some false)=some (isV σ t.Kind t.Num) from Ahk σ t,Ad];cases b:isV σ t.Kind t.Num with
  | true=>obtain ⟨s,h1,h2,h3⟩:=Acv b;have:=c s h3;simp only [cond_true,h2,Ad,Acw b h1,ih s [] 0 ψ ω ω,Aop]
  | false=>
   rw [Ahi b];simp only [cond_false];refine Gf t.Args (λj=>((j:Int),(t.Args.take j).map (Db σ))) rfl ω ?_ ?_
   .intro j x hj hx h1 h2 h3;have:=Ih (Cd hx);simp only [h1,h2,h3,cond_true,Ad,ih x σ M c ω ω];rw [C3 (by simp; omega),Ad,C8 hx]; simp
   .intro h1;exact ⟨t.Args.map (Db σ),ψ,rfl⟩
theorem Azv:∀(k:Nat) (t:Ai),Bo t<=k->k<1099511627776->Sf k t=some t:=by
 intro k;induction k with
 | zero=>intro t h; have:=Nf t; omega
 | succ k ih=>
  intro t h hk;have c:=H3 t;have b:=Jx t.Args;rw [Sf];refine Gf t.Args (λj=>((j:Int),(t.Args.take j))) rfl ω ?_ ?_
  .intro j x hj hx h1 h2 h3;have:=Ih (Cd hx);simp only [h1,h2,h3,cond_true,Ad,ih x ω ω];rw [C3 (by simp; omega),Ad,C8 hx]
  .intro h1;exact ⟨t.Args,ψ,by cases t; rfl⟩
theorem Azw:∀(k:Nat) (t:Ai) (σ:List Ai) (M:Nat),(∀s∈σ,Bo s<=M)->M<=4000000->Bo t<=k->k<1099511627776->Py k t σ=some (Db σ t):=by
 intro k;induction k with
 | zero=>intro t σ M _ _ h; have:=Nf t; omega
 | succ k ih=>
  intro t σ M c i h hk;have g:=H3 t;have f:=Jx t.Args;rw [Py];rw [show (show OB from bif t.Kind==(4:Int) then bif decide (t.Num>=(0:Int)) then some (decide (t.Num<(σ.length:Int))) else some false else some false)=some (isV σ t.Kind t.Num) from Ahk σ t,Ad];cases b:isV σ t.Kind t.Num with
  | true=>obtain ⟨s,h1,h2,h3⟩:=Acv b;have:=c s h3;simp only [cond_true,h2,Ad,Acw b h1,Azv 4000000 s ω ω]
  | false=>
   rw [Ahi b];simp only [cond_false];refine Gf t.Args (λj=>((j:Int),(t.Args.take j).map (Db σ))) rfl ω ?_ ?_
   .intro j x hj hx h1 h2 h3;have:=Ih (Cd hx);simp only [h1,h2,h3,cond_true,Ad,ih x σ M c i ω ω];rw [C3 (by simp; omega),Ad,C8 hx]; simp
   .intro h1;exact ⟨t.Args.map (Db σ),ψ,rfl⟩
theorem Azx:∀(k:Nat) (t:Ai),Bo t<=k->Bo t<1099511627776->Sc k t=some (Bo t:Int):=by
 intro k;induction k with
 | zero=>intro t h; have:=Nf t; omega
 | succ k ih=>
  intro t h ht;have b:=H3 t;have c:=Jx t.Args;rw [Sc];refine Gf t.Args (λj=>(1+(Cu (t.Args.take j):Int),(j:Int))) rfl ω ?_ ?_
  .intro j x hj hx h1 h2 h3;have hm:=Ih (Cd hx);have f:=Yt t.Args (j+1);have e:Cu (t.Args.take (j+1))=Cu (t.Args.take j)+Bo x:=(by rw [C8 hx,Acq]; simp [Cu]);simp only [h1,h2,h3,cond_true,Ad,ih x ω ω];rw [show Aa (1+(Cu (t.Args.take j):Int)+(Bo x:Int))=1+(Cu (t.Args.take (j+1)):Int) by rw [e,Aa,Bm] <;> omega]
  .intro h1;exact ⟨1+(Cu t.Args:Int),ψ,by rw [b]; simp⟩
theorem Azy (σ:List Ai) (M:Nat) (E:1<=M) (u:M<=1048576) (A:∀s∈σ,Bo s<=M):∀(k:Nat) (t:Ai),Bo t<=k->Bo t<=1048576 -> ∃v:Nat,Sd k t (σ.map λs=>(Bo s:Int))=some (v:Int)/\v<=Bo (Db σ t)/\((v=Bo (Db σ t))\/200<v):=by
 intro k;induction k with
 | zero=>intro t h; have:=Nf t; omega
 | succ k ih=>
  intro t h ht;have B:=H3 t;have z:=Jx t.Args;have l:∀x,Bo x<=1048576->Bo (Db σ x)<=1099511627776:=λx hx=>by have:=Ahj σ M E A x;have:Bo x*M<=1048576*1048576:=Nat.mul_le_mul hx u;omega
  rw [Sd];rw [show (show OB from bif t.Kind==(4:Int) then bif decide (t.Num>=(0:Int)) then some (decide (t.Num<((σ.map λs=>(Bo s:Int)).length:Int))) else some false else some false)=some (isV σ t.Kind t.Num) by rw [List.length_map]; exact Ahk σ t,Ad];cases f:isV σ t.Kind t.Num with
  | true=>obtain ⟨s,h1,h2,h3⟩:=Acv f;have hi:Ae (σ.map λs=>(Bo s:Int)) t.Num=some (Bo s:Int):=(by have:=Gj h2;rw [Ce (n:=t.Num.toNat) ω];simp [h1]);simp only [cond_true,hi,Ad,Acw f h1];exact ⟨Bo s,rfl,Nat.le_refl _,.inl rfl⟩
  | false=>
   have y:=l t ht;rw [Ahi f] at y ⊢;simp only [cond_false];have g:Bo ⟨t.Kind,t.Num,t.Args.map (Db σ)⟩=1+Cu (t.Args.map (Db σ)):=(by simp only [Bo]);rw [g] at y ⊢;refine Ab5 (λv:Nat=>(v:Int)) (Fe (λ(n,i)=>∃j:Nat,i=j/\j<=t.Args.length/\n=1+(Cu ((t.Args.map (Db σ)).take j):Int)) (λ(_,i)=>t.Args.length-i.toNat) (λn=>∃v:Nat,n=v/\v<=1+Cu (t.Args.map (Db σ))/\(v=1+Cu (t.Args.map (Db σ))\/200<v)) ⟨0,rfl,ω,by simp [Cu]⟩ ?_ ?_)
   .rintro ⟨n,i⟩ ⟨j,rfl,hj,q⟩;have q:n=_:=q;subst q;rcases Nat.lt_or_ge j t.Args.length with h' | h'
    .have hx:t.Args[j]? = some t.Args[j]:=Bv h';generalize t.Args[j]=x at hx;have hm:=Ih (Cd hx);obtain ⟨v,b,v2,v3⟩:=ih x ω ω;have c:(t.Args.map (Db σ))[j]? = some (Db σ x):=(by simp [hx]);have e:Cu ((t.Args.map (Db σ)).take (j+1))=Cu ((t.Args.map (Db σ)).take j)+Bo (Db σ x):=(by rw [C8 c,Acq]; simp [Cu]);have D:=Yt (t.Args.map (Db σ)) (j+1);have G:Aa (1+(Cu ((t.Args.map (Db σ)).take j):Int)+(v:Int))=((1+Cu ((t.Args.map (Db σ)).take j)+v:Nat):Int):=(by rw [Aa,Bm] <;> omega);simp only [Aj (by omega:(j:Int)<(t.Args.length:Int)),cond_true,Ce rfl hx,Ad,b,C6 h' ω,G];by_cases hb:1+Cu ((t.Args.map (Db σ)).take j)+v>200
     .rw [Aj ω];exact .inr ⟨_,rfl,_,rfl,ω,.inr hb⟩
     .rw [An ω];refine .inl ⟨_,rfl,⟨j+1,rfl,ω,?_⟩,by simp; omega⟩;have:v=Bo (Db σ x):=ω;subst this;rw [e]; omega
    .have:j=t.Args.length:=ω;subst this;refine .inr ⟨_,by simp; rfl,1+Cu (t.Args.map (Db σ)),?_,ω,.inl rfl⟩;rw [List.take_of_length_le ψ]; omega
   .rintro n ⟨v,rfl,b,v2⟩;exact ⟨_,rfl,v,rfl,b,v2⟩
def Lm (data:List A3) (t:Ai) (c:Int):Option (List Ai) := if t.Kind=5 then match Ae data t.Num with
  | none=>none
  | some x=>if (t.Args.length:Int)=x.Vars then match Ae x.Cons c with
    | none=>none
    | some y=>if (y.Args.map (Db t.Args)).all (λa=>decide (Bo a<=200)) then some (y.Args.map (Db t.Args)) else none else none else none
def okL (o:Option (List Ai)):List Ai×Bool:=match o with | none=>([],false) | some l=>(l,true)
theorem Azz {R:Type} (data:List A3) (t:Ai) (c:Int) (F:A3->Mg->Option R) (z:R) (X:Option R) (b:X=(match Ae data t.Num with
   | none=>some z
   | some x=>match Ae x.Cons c with
    | none=>some z
    | some y=>if t.Kind=5/\(t.Args.length:Int)=x.Vars then F x y else some z)):X=if t.Kind=5 then match Ae data t.Num with
  | none=>some z
  | some x=>if (t.Args.length:Int)=x.Vars then match Ae x.Cons c with
    | none=>some z
    | some y=>F x y else some z else some z:=by
 subst b;by_cases h:t.Kind=5
 .rw [if_pos h];cases Ae data t.Num with
  | none=>rfl
  | some x=>
   simp only;by_cases h':(t.Args.length:Int)=x.Vars
   .rw [if_pos h'];cases Ae x.Cons c with| none=>rfl| some y=>simp [h,h']
   .rw [if_neg h'];cases Ae x.Cons c with| none=>rfl| some y=>simp [h']
 .rw [if_neg h];cases Ae data t.Num with
  | none=>rfl
  | some x=>simp only;cases Ae x.Cons c with| none=>rfl| some y=>simp [h]
def Szv (data:List A3):Prop:=∀x∈data,∀y∈x.Cons,y.Args.length<=6/\∀a∈y.Args,Bo a<=200
theorem Ja.szv {data:List A3} (h:Ja data):Szv data:=by
 intro x hx y hy;obtain ⟨d,hd⟩:=List.getElem?_of_mem hx;have h1:=h.2.1 d x hd;obtain ⟨_,c,b⟩:=h1.2.2.2.2.2 y hy;refine ⟨c,λa ha=>?_⟩;have:=List.all_eq_true.1 b a ha;unfold Jy at this;rw [Bool.or_eq_true] at this;rcases this with h' | h'
 .exact (Aoh hd h1.2.1 h').2
 .simp only [Dj,decide_eq_true_eq] at h'; exact h'.2
theorem Az0 {t a:Ai} (ht:Bo t<=200) (ha:Bo a<=200):Bo (Db t.Args a)<=40000:=by have h1:=Ahj t.Args 200 ω (λs b=>by have:=Ih b; have:=H3 t; omega) a;have:Bo a*200<=200*200:=Nat.mul_le_mul_right 200 ha;omega
theorem Aos {data:List A3} (B:Szv data) (t:Ai) (ht:Bo t<=200) (c:Int):Sa data t c=some (okL (Lm data t c)):=by
 have G:Sa data t c=_:=Azz data t c (λx y=>(Al (S:=(Int×(List Ai))) (E:=(((List Ai)×Bool)⊕(List Ai))) (λ(v22,f)=>
   bif v22<(y.Args.length:Int) then (
   (Ae y.Args v22).bind λv24=>
   (Py (4000000) v24 t.Args).bind λv26=>
   (N7 (4000000) v26).bind λv28=>
   bif v28>(200:Int) then some (.inr (.inl ([],false)))
   else (
   (Ca 40 f [v26]).bind λu=>
   some (.inl ((Aa (v22+1)),u))))
   else some (.inr (.inr f))) (0,[])).bind λz=>
   match z with
   | .inl (l,k)=>some (l,k)
   | .inr q=>some (q,true)) ([],false) _ (by
  unfold Sa
  by_cases hk:t.Kind=5
  .simp only [De hk,cond_false]
   cases hx:Ae data t.Num with
   | none=>
    rcases Qa hx with h | h
    .simp only [Aj h,cond_true,Ad]
    .by_cases h':t.Num<0
     .simp only [Aj h',cond_true,Ad]
     .simp only [An h',Aj (show t.Num>=(data.length:Int) from h),cond_true,cond_false,Ad]
   | some x=>
    obtain ⟨a1,a2,_,_⟩:=Gj hx
    simp only [An (by omega:¬t.Num<0),An (by omega:¬t.Num>=(data.length:Int)),cond_false,Ad]
    by_cases b:(t.Args.length:Int)=x.Vars
    .simp only [De b,cond_false]
     cases hy:Ae x.Cons c with
     | none=>
      rcases Qa hy with h | h
      .simp only [Aj h,cond_true,Ad]
      .by_cases h':c<0
       .simp only [Aj h',cond_true,Ad]
       .simp only [An h',Aj (show c>=(x.Cons.length:Int) from h),cond_true,cond_false,Ad]
     | some y=>
      obtain ⟨b1,b2,_,_⟩:=Gj hy
      simp only [An (by omega:¬c<0),An (by omega:¬c>=(x.Cons.length:Int)),cond_false,Ad,hk,b,and_self,if_true]
      rfl
    .simp only [Dh b,cond_true,Ad]
     cases hy:Ae x.Cons c with
     | none=>rfl
     | some y=>simp [b]
  .simp only [Dh hk,cond_true,Ad]
   cases hx:Ae data t.Num with
   | none=>rfl
   | some x=>
    simp only
    cases hy:Ae x.Cons c with
    | none=>rfl
    | some y=>simp [hk])
 rw [G]
 unfold Lm
 by_cases hk:t.Kind=5
 .rw [if_pos hk,if_pos hk]
  cases hx:Ae data t.Num with
  | none=>rfl
  | some x=>
   simp only
   by_cases b:(t.Args.length:Int)=x.Vars
   .rw [if_pos b,if_pos b]
    cases hy:Ae x.Cons c with
    | none=>rfl
    | some y=>
     simp only
     obtain ⟨I,i⟩:=B x (Gj hx).2.2.2 y (Gj hy).2.2.2
     refine (P4 (rt:=(y.Args.map (Db t.Args),true)) (rf:=([],false)) y.Args (λa=>decide (Bo (Db t.Args a)<=200)) (λj=>((j:Int),(y.Args.take j).map (Db t.Args))) rfl ω ?_ ?_).trans ?_
     .intro j a ha h1 h2 h3
      have hj:=Dx ha
      have A:=i a (Cd ha)
      have J:=Az0 ht A
      simp only [h1,h2,h3,cond_true,Ad,Azw 4000000 a t.Args 200 (λs D=>by have:=Ih D; have:=H3 t; omega) ω ω ω,An9 4000000 (Db t.Args a) ω ω]
      by_cases hb:Bo (Db t.Args a)<=200
      .rw [Aj hb,An ω]
       refine ⟨λ_=>?_,λh=>by cases h⟩
       rw [C3 (by simp; omega)]
       simp only [cond_false,Ad]
       rw [C8 ha]; simp
      .rw [An hb,Aj ω]
       exact ⟨(λh=>by cases h),λ_=>⟨_,rfl,rfl⟩⟩
     .intro h1
      exact ⟨.inr (y.Args.map (Db t.Args)),ψ,rfl⟩
     .rw [List.all_map]
      cases g:y.Args.all ((λa=>decide (Bo a<=200)) ∘ Db t.Args) with
      | true=>rw [if_pos rfl]; rw [show (y.Args.all λa=>decide (Bo (Db t.Args a)<=200))=true from g]; rfl
      | false=>rw [show (y.Args.all λa=>decide (Bo (Db t.Args a)<=200))=false from g]; rfl
   .rw [if_neg b,if_neg b]; rfl
 .rw [if_neg hk,if_neg hk]; rfl
end Go.Ab
namespace Go.Ab
open Go
theorem Az1 {data:List A3} (B:Szv data) (t:Ai) (ht:Bo t<=200) (c:Int):X7 data t c=some (okL (Lm data t c)):=by
 have D:=H3 t;have u:=Jx t.Args;unfold X7 Lm;by_cases hk:t.Kind=5
 .simp only [De hk,cond_false,if_pos hk];cases hx:Ae data t.Num with
  | none=>
   rcases Qa hx with h | h
   .simp only [Aj h,cond_true,Ad,okL]
   .by_cases h':t.Num<0
    .simp only [Aj h',cond_true,Ad,okL]
    .simp only [An h',Aj (show t.Num>=(data.length:Int) from h),cond_true,cond_false,Ad,okL]
  | some x=>
   obtain ⟨a1,a2,_,hxm⟩:=Gj hx;simp only [An (by omega:¬t.Num<0),An (by omega:¬t.Num>=(data.length:Int)),cond_false,Ad];by_cases g:(t.Args.length:Int)=x.Vars
   .simp only [De g,cond_false,if_pos g];cases hy:Ae x.Cons c with
    | none=>
     rcases Qa hy with h | h
     .simp only [Aj h,cond_true,Ad,okL]
     .by_cases h':c<0
      .simp only [Aj h',cond_true,Ad,okL]
      .simp only [An h',Aj (show c>=(x.Cons.length:Int) from h),cond_true,cond_false,Ad,okL]
    | some y=>
     obtain ⟨b1,b2,_,k⟩:=Gj hy;obtain ⟨G,b⟩:=B x hxm y k;simp only [An (by omega:¬c<0),An (by omega:¬c>=(x.Cons.length:Int)),cond_false,Ad];rw [Ju (n:=t.Args.length) (c:=t.Args.length) rfl rfl ω ω ω,Ad];refine Gf t.Args (λj=>((j:Int),((t.Args.take j).map λs=>(Bo s:Int))++List.replicate (t.Args.length-j) 0)) rfl ω ?_ ?_
     .intro j s hj i h1 h2 h3;have:=Ih (Cd i);obtain ⟨m,hm⟩:∃m,t.Args.length-j=m+1:=⟨t.Args.length-j-1,ω⟩;have E:t.Args.length-(j+1)=m:=ω;have l:j=((t.Args.take j).map λs=>(Bo s:Int)).length:=(by simp; omega);simp only [h1,h2,h3,cond_true,Ad,Azx 4000000 s ω ω,hm,E,List.replicate_succ,Ahe _ _ _ (j:Int) j rfl l,Ahd _ _ _ _ (j:Int) j rfl l,C8 i];simp
     .intro h1;refine ⟨t.Args.map λs=>(Bo s:Int),ψ,?_⟩;have q:∀s∈t.Args,Bo s<=200:=λs i=>by have:=Ih i; omega
      refine (P4 (rt:=(y.Args.map (Db t.Args),true)) (rf:=([],false)) y.Args (λa=>decide (Bo (Db t.Args a)<=200)) (λj=>(j:Int)) rfl ω ?_ ?_).trans ?_
      .intro j a ha h1 h2 h3;have A:=b a (Cd ha);obtain ⟨v,z,v2,v3⟩:=Azy t.Args 200 ω ω q 4000000 a ω ω;simp only [h1,h2,h3,cond_true,Ad,z];by_cases hb:Bo (Db t.Args a)<=200
       .rw [Aj hb,An ω];exact ⟨λ_=>rfl,λh=>by cases h⟩
       .rw [An hb,Aj ω];exact ⟨(λh=>by cases h),λ_=>⟨_,rfl,rfl⟩⟩
      .intro h1;refine ⟨.inr (),ψ,?_⟩;simp only;refine Gf y.Args (λj=>((j:Int),(y.Args.take j).map (Db t.Args))) rfl ω ?_ ?_
       .intro j a hj ha h1 h2 h3;have A:=b a (Cd ha);simp only [h1,h2,h3,cond_true,Ad,Azu 4000000 a t.Args 200 q ω ω];rw [C3 (by simp; omega),Ad,C8 ha]; simp
       .intro h1;exact ⟨y.Args.map (Db t.Args),ψ,rfl⟩
      .rw [List.all_map];cases f:y.Args.all ((λa=>decide (Bo a<=200)) ∘ Db t.Args) with| true=>rw [if_pos rfl]; rw [show (y.Args.all λa=>decide (Bo (Db t.Args a)<=200))=true from f]; rfl| false=>rw [show (y.Args.all λa=>decide (Bo (Db t.Args a)<=200))=false from f]; rfl
   .simp only [Dh g,cond_true,Ad,if_neg g,okL]
 .simp only [Dh hk,cond_true,Ad,if_neg hk,okL]
theorem Yx {data:List A3} {t:Ai} {c:Int} {l:List Ai} (h:Lm data t c=some l) : ∃x y,t.Kind=5/\Ae data t.Num=some x/\(t.Args.length:Int)=x.Vars/\Ae x.Cons c=some y/\l=y.Args.map (Db t.Args)/\∀a∈l,Bo a<=200:=by
 unfold Lm at h;by_cases hk:t.Kind=5
 .rw [if_pos hk] at h;cases hx:Ae data t.Num with
  | none=>rw [hx] at h; cases h
  | some x=>
   rw [hx] at h;simp only at h;by_cases f:(t.Args.length:Int)=x.Vars
   .rw [if_pos f] at h;cases hy:Ae x.Cons c with
    | none=>rw [hy] at h; cases h
    | some y=>
     rw [hy] at h;simp only at h;by_cases b:(y.Args.map (Db t.Args)).all (λa=>decide (Bo a<=200))=true
     .rw [if_pos b] at h;cases h;refine ⟨x,y,hk,rfl,f,hy,rfl,λa ha=>?_⟩;have:=List.all_eq_true.1 b a ha;simpa using this
     .rw [if_neg b] at h; cases h
   .rw [if_neg f] at h; cases h
 .rw [if_neg hk] at h; cases h
def G3 (l:List Ai) (r:List Bool):List Ai:=((l.zip r).filter λp=>!p.2).map (·.1)
def Jz (data:List A3) (t:Ai) (c:Int):Option (List Ai):=(Lm data t c).map λl=>G3 l (G2 data t.Num c)
theorem Ahl {data:List A3} {t:Ai} {c:Int} {l:List Ai} (h:Lm data t c=some l):(G2 data t.Num c).length=l.length:=by obtain ⟨x,y,_,hx,_,hy,rfl,_⟩:=Yx h;unfold G2;simp only [hx,hy,List.length_map]
theorem Aot {l:List Ai} {r:List Bool} {j:Nat} {a:Ai} {b:Bool} (h1:l[j]? = some a) (h2:r[j]? = some b):G3 (l.take (j+1)) (r.take (j+1))=G3 (l.take j) (r.take j)++bif b then [] else [a]:=by unfold G3;have f:=Dx h1;have c:=Dx h2;rw [C8 h1,C8 h2,List.zip_append (by simp; omega)];cases b <;> simp
theorem Aou (l:List Ai) (r:List Bool):(G3 l r).length<=l.length:=by unfold G3;rw [List.length_map];refine Nat.le_trans (List.length_filter_le _ _) ?_;rw [List.length_zip]; omega
def Ln (r:List Bool):List Int:=(r.zipIdx.filter λp=>!p.1).map λp=>(p.2:Int)
def Sz (r:List Bool):List Int:=(r.zipIdx.filter λp=>p.1).map λp=>(p.2:Int)
theorem Ahm {r:List Bool} {j:Nat} {b:Bool} (h:r[j]? = some b):(r.take (j+1)).zipIdx=(r.take j).zipIdx++[(b,j)]:=by have:=Dx h;rw [C8 h,List.zipIdx_append]; simp; omega
theorem Az2 {data:List A3} (g:Szv data) (i:Mn data) (t:Ai) (ht:Bo t<=200) (c:Int) {l:List Ai} (f:Lm data t c=some l):Ya data t c=some (Ln (G2 data t.Num c),Sz (G2 data t.Num c),true):=by
 unfold Ya;have k:=Ahl f;obtain ⟨x,y,_,hx,_,hy,s,_⟩:=Yx f;obtain ⟨h,_⟩:=g x (Gj hx).2.2.2 y (Gj hy).2.2.2;have q:l.length<=6:=by rw [s]; simpa using h
 rw [Aos g t ht c,f,Ad];simp only [okL,Dk,cond_false,Ayx data t.Num c i,Ad];generalize G2 data t.Num c=r at *;refine Gf r (λj=>((j:Int),Ln (r.take j),Sz (r.take j))) (by simp [Ln,Sz]) ω ?_ ?_
 .intro j b hj hb h1 h2 h3;have z:(Ln (r.take j)).length<=6:=(by unfold Ln; rw [List.length_map]; refine Nat.le_trans (List.length_filter_le _ _) ?_; simp; omega);have u:(Sz (r.take j)).length<=6:=(by unfold Sz; rw [List.length_map]; refine Nat.le_trans (List.length_filter_le _ _) ?_; simp; omega);simp only [h1,h2,h3,cond_true,Ad];rw [C3 (by simp; omega),C3 (by simp; omega)];unfold Ln Sz;rw [Ahm hb];cases b <;> simp
 .intro h1;exact ⟨(Ln r,Sz r),ψ,rfl⟩
theorem Az3 {l:List Ai} {r:List Bool} (h:r.length=l.length):∀(j:Nat) (a:Int),(Ln r)[j]? = some a->∃x,Ae l a=some x/\(G3 l r)[j]? = some x:=by
 intro j a ha;have e:G3 l r=(r.zipIdx.filter λp=>!p.1).map λp=>(l[p.2]?).getD ⟨0,0,[]⟩:=by unfold G3;have key:∀n,n<=r.length->(((l.take n).zip (r.take n)).filter λp=>!p.2).map (·.1)=((r.take n).zipIdx.filter λp=>!p.1).map λp=>(l[p.2]?).getD ⟨0,0,[]⟩:=(by intro n;induction n with| zero=>intro _; simp| succ n ih=>intro f;have h1:l[n]? = some l[n]:=Bv ω;have h2:r[n]? = some r[n]:=Bv ω;have:=Aot h1 h2;unfold G3 at this;rw [this,ih ω,Ahm h2];cases r[n] <;> simp [h1]);have:=key r.length (Nat.le_refl _);rw [List.take_of_length_le ω,List.take_of_length_le (Nat.le_refl _)] at this;exact this
 unfold Ln at ha;rw [List.getElem?_map] at ha;cases hp:(r.zipIdx.filter λp=>!p.1)[j]? with| none=>rw [hp] at ha; cases ha| some p=>rw [hp] at ha;cases ha;have hm:=Cd hp;rw [List.mem_filter] at hm;have b:r[p.2]? = some p.1:=List.mk_mem_zipIdx_iff_getElem?.1 hm.1;have c:=Dx b;have hx:l[p.2]? = some l[p.2]:=Bv ω;refine ⟨l[p.2],Ce rfl hx,?_⟩;rw [e,List.getElem?_map,hp];simp [hx]
theorem Az4 {l:List Ai} {r:List Bool} (h:r.length=l.length):(Ln r).length=(G3 l r).length:=by
 unfold Ln G3;simp only [List.length_map];have key:∀n,n<=r.length->(((l.take n).zip (r.take n)).filter λp=>!p.2).length=((r.take n).zipIdx.filter λp=>!p.1).length:=by intro n;induction n with| zero=>intro _; simp| succ n ih=>intro b;have h1:l[n]? = some l[n]:=Bv ω;have h2:r[n]? = some r[n]:=Bv ω;rw [Ahm h2,C8 h1,C8 h2,List.zip_append (by simp; omega),List.filter_append,List.length_append,ih ω,List.filter_append,List.length_append];cases r[n] <;> simp
 have:=key r.length (Nat.le_refl _);rw [List.take_of_length_le ω,List.take_of_length_le (Nat.le_refl _)] at this;exact this.symm
theorem Acx {data:List A3} (g:Szv data) (k:Mn data) (t:Ai) (ht:Bo t<=200) (c:Int):U6 data t c=some (okL (Jz data t c)):=by
 unfold U6 Jz;rw [Aos g t ht c,Ad];cases h:Lm data t c with
 | none=>rfl
 | some l=>
  have f:=Ahl h;obtain ⟨x,y,_,hx,_,hy,u,_⟩:=Yx h;obtain ⟨i,_⟩:=g x (Gj hx).2.2.2 y (Gj hy).2.2.2;have s:l.length<=6:=(by rw [u]; simpa using i);simp only [okL,Dk,cond_false,Az2 g k t ht c h,Ad,Option.map_some];generalize G2 data t.Num c=r at *;have q:=Az4 f;have z:=Aou l r;refine Gf (Ln r) (λj=>((j:Int),(G3 l r).take j)) ψ ω ?_ ?_
  .intro j b hj hb h1 h2 h3;obtain ⟨a,a1,a2⟩:=Az3 f j b hb;simp only [h1,h2,h3,cond_true,Ad,a1];rw [C3 (by simp; omega),Ad,C8 a2]
  .intro h1;refine ⟨G3 l r,?_,rfl⟩;simp only [h1];rw [List.take_of_length_le ω]; rfl
theorem Aov {data:List A3} {t:Ai} {c:Int} {l:List Ai} (h:Jz data t c=some l):(∀a∈l,Bo a<=200)/\∃x,Ae data t.Num=some x/\0<=c/\c<x.Cons.length:=by unfold Jz at h;cases b:Lm data t c with| none=>rw [b] at h; cases h| some m=>rw [b] at h;cases h;obtain ⟨x,y,_,hx,_,hy,_,g⟩:=Yx b;refine ⟨λa ha=>?_,x,hx,(Gj hy).1,(Gj hy).2.1⟩;unfold G3 at ha;obtain ⟨p,f,rfl⟩:=List.mem_map.1 ha;exact g _ (List.of_mem_zip (List.mem_filter.1 f).1).1
end Go.Ab
namespace Go.Ab
open Go
mutual
def Dy:Bn->Nat
 | ⟨_,l⟩=>1+F5 l
def F5:List Bn->Nat
 | []=>0
 | x::xs=>Dy x+F5 xs
end
theorem Gq (t:Bn):Dy t=1+F5 t.Kids:=by cases t; simp only [Dy]
theorem Nh {l:List Bn} {a:Bn} (h:a∈l):Dy a<=F5 l:=by
 induction l with
 | nil=>cases h
 | cons x xs ih=>
  simp only [F5];rcases List.mem_cons.1 h with rfl | h
  .omega
  .have:=ih h; omega
theorem Oj (l:List Bn):l.length<=F5 l:=by induction l with| nil=>simp| cons x xs ih=>simp only [F5,List.length_cons]; have:=Gq x; omega
mutual
def Hn (data:List A3):Bn->Ai->Option Nat
 | ⟨n,kids⟩,t=>
  if t.Kind=6 then (if n=0 then Fo data kids t.Args else none)
  else if t.Kind=7 then (if 0<=n/\n<=6/\kids.length=0 then some n.toNat else none)
  else if t.Kind=5 then (if n=0 then H5 data kids t else none)
  else if n=0/\kids.length=0 then some 0 else none
def Fo (data:List A3):List Bn->List Ai->Option Nat
 | [],[]=>some 0
 | i::is,t::ts=>(Hn data i t).bind λa=>(Fo data is ts).map (a + ·)
 | [],_::_=>none
 | _::_,[]=>none
def H5 (data:List A3):List Bn->Ai->Option Nat
 | [],_=>some 0
 | ⟨n,kids⟩::es,t=>(Jz data t n).bind λts=>(Fo data kids ts).bind λa=>(H5 data es t).map (1+a + ·)
end
theorem Ahn (data:List A3) (i:Bn) (t:Ai):Hn data i t=if t.Kind=6 then (if i.Num=0 then Fo data i.Kids t.Args else none) else if t.Kind=7 then (if 0<=i.Num/\i.Num<=6/\i.Kids.length=0 then some i.Num.toNat else none) else if t.Kind=5 then (if i.Num=0 then H5 data i.Kids t else none) else if i.Num=0/\i.Kids.length=0 then some 0 else none:=by cases i; simp only [Hn]
theorem Acy (data:List A3) (e:Bn) (es:List Bn) (t:Ai):H5 data (e::es) t=(Jz data t e.Num).bind λts=>(Fo data e.Kids ts).bind λa=>(H5 data es t).map (1+a + ·):=by cases e; simp only [H5]
theorem Acz (data:List A3) (i:Bn) (b:List Bn) (t:Ai) (ts:List Ai):Fo data (i::b) (t::ts)=(Hn data i t).bind λa=>(Fo data b ts).map (a + ·):=by simp only [Fo]
theorem Aho (data:List A3):∀(b:List Bn) (ts:List Ai),ts.length≠b.length->Fo data b ts=none
 | [],[],h=>absurd rfl h
 | i::b,t::ts,h=>by rw [Acz,Aho data b ts (by simpa using h)]; cases Hn data i t <;> rfl
 | [],_::_,_=>by simp only [Fo]
 | _::_,[],_=>by simp only [Fo]
theorem Aow (data:List A3):∀(es:List Bn) (t:Ai) (d:Nat),H5 data es t=some d->es.length<=d
 | [],_,_,_=>ψ
 | e::es,t,d,h=>by
  rw [Acy] at h;cases h1:Jz data t e.Num with
  | none=>rw [h1] at h; cases h
  | some ts=>
   rw [h1,Ad] at h;cases h2:Fo data e.Kids ts with
   | none=>rw [h2] at h; cases h
   | some a=>rw [h2,Ad] at h;cases h3:H5 data es t with| none=>rw [h3] at h; cases h| some b=>rw [h3] at h;cases h;have:=Aow data es t b h3;simp only [List.length_cons]; omega
def Gz (o:Option Nat):Int:=match o with | some d=>if d<=6 then (d:Int) else -1 | none => -1
theorem Ahp {d:Nat} (h:d<=6):Gz (some d)=d:=by simp [Gz,h]
theorem Ahq {d:Nat} (h:6<d):Gz (some d) = -1:=by simp only [Gz]; rw [if_neg ω]
theorem Ahr (o:Option Nat):(Gz o = -1/\∀d,o=some d->6<d)\/∃d,o=some d/\d<=6/\Gz o=d:=by
 cases o with
 | none=>exact .inl ⟨rfl,λd h=>by cases h⟩
 | some d=>
  rcases Nat.lt_or_ge 6 d with h | h
  .exact .inl ⟨Ahq h,λe b=>by cases b; exact h⟩
  .exact .inr ⟨d,rfl,h,Ahp h⟩
theorem Vs {o:Option Nat} (h:∀d,o=some d->6<d):Gz o = -1:=by cases o with| none=>rfl| some d=>exact Ahq (h d rfl)
theorem Ij {α:Type} {l:List α} {j:Nat} {x:α} (h:l[j]? = some x):l.drop j=x::l.drop (j+1):=by have hj:=Dx h;rw [List.drop_eq_getElem_cons hj];rw [Bv hj] at h;rw [Option.some.inj h]
end Go.Ab
namespace Go.Ab
open Go
theorem Az5 {data:List A3} (V:Szv data) (X:Mn data) (h8:∀x∈data,x.Cons.length<=8):∀k:Nat, (∀(i:Bn) (t:Ai),2*Dy i<=k->Dy i<=1048576->Bo t<=200->Ps k data t i=some (Gz (Hn data i t))) /\ (∀(c:List Bn) (ts:List Ai),2*F5 c+1<=k->F5 c<=1048576->(∀t∈ts,Bo t<=200)->Pu k data ts c=some (Gz (Fo data c ts))):=by
 intro k;induction k with
 | zero=>exact ⟨λi t h=>by have:=Gq i; omega,λc ts h=>ω⟩
 | succ k ih=>
  obtain ⟨a8,M⟩:=ih;have J:∀o:Option Nat,o.map (0 + ·)=o:=(by intro o; cases o <;> simp);constructor
  .intro i t hk hi ht;have ag:=Gq i;have aa:=Oj i.Kids;rw [Ps,Ahn];by_cases Z:t.Kind=6
   .simp only [Dw Z,cond_true,if_pos Z];by_cases h0:i.Num=0
    .simp only [De h0,cond_false,if_pos h0];rw [M i.Kids t.Args ω ω (λa ha=>by have:=Ih ha; have:=H3 t; omega)];rfl
    .simp only [Dh h0,cond_true,if_neg h0]; rfl
   .simp only [Ch Z,cond_false,if_neg Z];by_cases Y:t.Kind=7
    .simp only [Dw Y,cond_true,if_pos Y];by_cases a1:0<=i.Num
     .by_cases a2:i.Num<=6
      .by_cases a3:i.Kids.length=0
       .rw [An ω,An ω,An ω,if_pos ⟨a1,a2,a3⟩,Ahp ω];simp; omega
       .rw [An ω,An ω,Aj ω,if_neg (λh=>a3 h.2.2)]; rfl
      .rw [An ω,Aj ω,if_neg (λh=>a2 h.2.1)]; rfl
     .rw [Aj ω,if_neg (λh=>a1 h.1)]; rfl
    .simp only [Ch Y,cond_false,if_neg Y];by_cases h5:t.Kind=5
     .simp only [Dw h5,cond_true,if_pos h5];by_cases h0:i.Num=0
      .simp only [De h0,cond_false,if_pos h0,Ad];by_cases N:(i.Kids.length:Int)>6
       .rw [Aj N];refine congrArg some (Vs λd hd=>?_).symm;have:=Aow data _ _ _ hd;omega
       rw [An N];simp only [cond_false];have key:∀(m j acc:Nat),j+m=i.Kids.length->acc<=6->∃z,Al (S:=(Int×Int)) (E:=(Int⊕Int)) (λ(G,D)=>
         bif D<(i.Kids.length:Int) then ((Ae i.Kids D).bind λv12=> (show OB from bif v12.Num<(0:Int) then some true else some (decide (v12.Num>=(8:Int)))).bind λa6=> bif a6 then some (.inr (.inl (-1))) else ((U6 data t v12.Num).bind λL=> bif (!L.2) then some (.inr (.inl (-1))) else ((Pu k data L.1 v12.Kids).bind λB=> bif B<(0:Int) then some (.inr (.inl (-1))) else (bif (Aa ((Aa (G+1))+B))>(6:Int) then some (.inr (.inl (-1))) else some (.inl ((Aa (G+(Aa (1+B)))),(Aa (D+1))))))))
         else some (.inr (.inr G))) ((acc:Int),(j:Int))=some z/\(match z with | .inl v=>v | .inr v=>v)=Gz ((H5 data (i.Kids.drop j) t).map (acc + ·)):=by
        intro m;induction m with
        | zero=>intro j acc hj f;have:j=i.Kids.length:=ω;subst this;refine ⟨.inr (acc:Int),Cz ψ,?_⟩;simp [H5,Gz,f]
        | succ m s=>
         intro j acc hj f;have g:i.Kids[j]? = some i.Kids[j]:=Bv ω;generalize i.Kids[j]=e at g;have ab:=Nh (Cd g);have ah:=Gq e;rw [Ij g,Acy];have hb:(bif decide (e.Num<(0:Int)) then some true else some (decide (e.Num>=(8:Int))))=some (decide (e.Num<0\/8<=e.Num)):=(by by_cases g1:e.Num<0 <;> by_cases g2:8<=e.Num <;> simp [g1,g2]);cases hp:Jz data t e.Num with
         | none=>refine ⟨.inl (-1),Cz ?_,by simp [Gz]⟩;simp only [Aj (by omega:(j:Int)<(i.Kids.length:Int)),cond_true,Ce rfl g,Ad,Acx V X t ht e.Num,hp,okL,Bool.not_false,hb];cases decide (e.Num<0\/8<=e.Num) <;> rfl
         | some ts=>
          obtain ⟨pz,x,a7,ae,ad⟩:=Aov hp;have af:=h8 x (Gj a7).2.2.2;have q:=M e.Kids ts ω ω pz;have hb':decide (e.Num<0\/8<=e.Num)=false:=An ω;rcases Ahr (Fo data e.Kids ts) with ⟨A,U⟩ | ⟨a,A,U,c3⟩
          .rw [A] at q;refine ⟨.inl (-1),Cz ?_,?_⟩
           .simp only [Aj (by omega:(j:Int)<(i.Kids.length:Int)),cond_true,Ce rfl g,Ad,Acx V X t ht e.Num,hp,okL,Dk,cond_false,hb,hb',q]; rfl
           .refine (Vs λd h=>?_).symm;rw [Ad] at h;cases ha:Fo data e.Kids ts with
            | none=>rw [ha] at h; cases h
            | some a=>rw [ha,Ad] at h;have:=U a ha;cases y:H5 data (i.Kids.drop (j+1)) t with| none=>rw [y] at h; cases h| some b=>rw [y] at h; simp at h; omega
          .rw [c3] at q;have R:Aa (Aa ((acc:Int)+1)+(a:Int))=((acc+(1+a):Nat):Int):=(by rw [show Aa ((acc:Int)+1)=((acc+1:Nat):Int) by rw [Aa,Bm] <;> omega,Aa,Bm] <;> omega);have ac:Aa ((acc:Int)+Aa (1+(a:Int)))=((acc+(1+a):Nat):Int):=(by rw [show Aa (1+(a:Int))=((1+a:Nat):Int) by rw [Aa,Bm] <;> omega,Aa,Bm] <;> omega);by_cases I:acc+(1+a)<=6
           .obtain ⟨z,l,z2⟩:=s (j+1) (acc+(1+a)) ω I;refine ⟨z,?_,?_⟩
            .rw [Ft (s':=(((acc+(1+a):Nat):Int),((j+1:Nat):Int)))]
             .exact l
             .simp only [Aj (by omega:(j:Int)<(i.Kids.length:Int)),cond_true,Ce rfl g,Ad,Acx V X t ht e.Num,hp,okL,Dk,cond_false,hb,hb',q,R,ac,An (by omega:¬(a:Int)<0),An (by omega:¬((acc+(1+a):Nat):Int)>6),C6 (show j<i.Kids.length by omega) ω]
            .have J:∀o:Option Nat,(((some a:Option Nat).bind λa=>o.map (1+a + ·)).map (acc + ·))=o.map (acc+(1+a) + ·):=(by intro o; cases o <;> simp [Nat.add_assoc]);rw [Ad,A,J];exact z2
           .refine ⟨.inl (-1),Cz ?_,?_⟩
            .simp only [Aj (by omega:(j:Int)<(i.Kids.length:Int)),cond_true,Ce rfl g,Ad,Acx V X t ht e.Num,hp,okL,Dk,cond_false,hb,hb',q,R,An (by omega:¬(a:Int)<0),Aj (by omega:((acc+(1+a):Nat):Int)>6)]
            .refine (Vs λd h=>?_).symm;rw [Ad,A,Ad] at h;cases y:H5 data (i.Kids.drop (j+1)) t with| none=>rw [y] at h; cases h| some b=>rw [y] at h; simp at h; omega
       obtain ⟨z,l,z2⟩:=key i.Kids.length 0 0 ω ω;have l:Al _ ((0:Int),(0:Int))=some z:=l
       erw [l,Ad];rw [List.drop_zero,J] at z2;rw [<-z2];cases z <;> rfl
      .simp only [Dh h0,cond_true,if_neg h0]; rfl
     .simp only [Ch h5,cond_false,if_neg h5];by_cases h0:i.Num=0
      .simp only [De h0,cond_false];by_cases a3:i.Kids.length=0
       .rw [if_pos ⟨h0,a3⟩,An ω]; rfl
       .rw [if_neg (λh=>a3 h.2),Aj ω]; rfl
      .simp only [Dh h0,cond_true];rw [if_neg (λh=>h0 h.1)]; rfl
  .intro c ts hk hi ht;have aa:=Oj c;rw [Pu];by_cases hl:ts.length=c.length
   .rw [De ω];simp only [cond_false];have key:∀(m j acc:Nat),j+m=c.length->acc<=6->∃z,Al (S:=(Int×Int)) (E:=(Int⊕Int)) (λ(v4,v5)=>
      bif v5<(ts.length:Int) then ((Ae ts v5).bind λv6=> (Ae c v5).bind λv7=> (Ps k data v6 v7).bind λv8=> bif v8<(0:Int) then some (.inr (.inl (-1))) else (bif (Aa (v4+v8))>(6:Int) then some (.inr (.inl (-1))) else some (.inl ((Aa (v4+v8)),(Aa (v5+1)))))) else some (.inr (.inr v4))) ((acc:Int),(j:Int))=some z/\(match z with | .inl v=>v | .inr v=>v)=Gz ((Fo data (c.drop j) (ts.drop j)).map (acc + ·)):=by
     intro m;induction m with
     | zero=>intro j acc hj f;have:j=ts.length:=ω;subst this;refine ⟨.inr (acc:Int),Cz ψ,?_⟩;rw [List.drop_of_length_le ω,List.drop_of_length_le ω];simp [Fo,Gz,f]
     | succ m s=>
      intro j acc hj f;have g:c[j]? = some c[j]:=Bv ω;generalize c[j]=e at g;have hu:ts[j]? = some ts[j]:=Bv ω;generalize ts[j]=u at hu;have ab:=Nh (Cd g);rw [Ij g,Ij hu,Acz];have q:=a8 e u ω ω (ht u (Cd hu));rcases Ahr (Hn data e u) with ⟨A,U⟩ | ⟨a,A,U,c3⟩
      .rw [A] at q;refine ⟨.inl (-1),Cz ?_,?_⟩
       .simp only [Aj (by omega:(j:Int)<(ts.length:Int)),cond_true,Ce rfl g,Ce rfl hu,Ad,q]; rfl
       .refine (Vs λd h=>?_).symm;cases ha:Hn data e u with
        | none=>rw [ha] at h; cases h
        | some a=>rw [ha,Ad] at h;have:=U a ha;cases y:Fo data (c.drop (j+1)) (ts.drop (j+1)) with| none=>rw [y] at h; cases h| some b=>rw [y] at h; simp at h; omega
      .rw [c3] at q;have R:Aa ((acc:Int)+(a:Int))=((acc+a:Nat):Int):=(by rw [Aa,Bm] <;> omega);by_cases I:acc+a<=6
       .obtain ⟨z,l,z2⟩:=s (j+1) (acc+a) ω I;refine ⟨z,?_,?_⟩
        .rw [Ft (s':=(((acc+a:Nat):Int),((j+1:Nat):Int)))]
         .exact l
         .simp only [Aj (by omega:(j:Int)<(ts.length:Int)),cond_true,Ce rfl g,Ce rfl hu,Ad,cond_false,q,R,An (by omega:¬(a:Int)<0),An (by omega:¬((acc+a:Nat):Int)>6),C6 (show j<c.length by omega) ω]
        .have J:∀o:Option Nat,(((some a:Option Nat).bind λa=>o.map (a + ·)).map (acc + ·))=o.map (acc+a + ·):=(by intro o; cases o <;> simp [Nat.add_assoc]);rw [A,J];exact z2
       .refine ⟨.inl (-1),Cz ?_,?_⟩
        .simp only [Aj (by omega:(j:Int)<(ts.length:Int)),cond_true,Ce rfl g,Ce rfl hu,Ad,cond_false,q,R,An (by omega:¬(a:Int)<0),Aj (by omega:((acc+a:Nat):Int)>6)]
        .refine (Vs λd h=>?_).symm;rw [A,Ad] at h;cases y:Fo data (c.drop (j+1)) (ts.drop (j+1)) with| none=>rw [y] at h; cases h| some b=>rw [y] at h; simp at h; omega
    obtain ⟨z,l,z2⟩:=key c.length 0 0 ω ω;have l:Al _ ((0:Int),(0:Int))=some z:=l;rw [l,Ad];rw [List.drop_zero,List.drop_zero,J] at z2;rw [<-z2];cases z <;> rfl
   .rw [Dh ω,Aho data c ts hl]; rfl
theorem Ja.cons8 {data:List A3} (h:Ja data):∀x∈data,x.Cons.length<=8:=by intro x hx;obtain ⟨d,hd⟩:=List.getElem?_of_mem hx;exact (h.2.1 d x hd).2.2.2.1
theorem Az6 {data:List A3} (b:Ja data) (c:Mn data) (t:Ai) (i:Bn) (ht:Bo t<=200) (hi:Dy i<=1048576):Rs data t i=some (Gz (Hn data i t)):=by unfold Rs;rw [(Az5 b.szv c b.cons8 4000000).1 i t ω hi ht]; rfl
end Go.Ab
namespace Go.Ab
open Go
def I64 (n:Int):Prop:= -9223372036854775808<=n/\n<=9223372036854775807
def ti (n:Int):List Int:=(Lib.itoa n).map λc=>(c.toNat:Int)
def Ok (c:Int):Bool:=c==45||(decide (48<=c)&&decide (c<=57))
theorem Vt {d:Nat} (h:d<10):(UInt8.ofNat (48+d)).toNat=48+d:=by rw [UInt8.toNat_ofNat']; omega
theorem Ac0:∀(n u:Nat),u<=n->∀c∈Lib.decDigits u,48<=c.toNat/\c.toNat<=57:=by
 intro n;induction n with
 | zero=>intro u hu c hc;rw [Lib.decDigits,dif_pos ω] at hc;simp only [List.mem_singleton] at hc;subst hc; rw [Vt ω]; omega
 | succ n ih=>
  intro u hu c hc;rw [Lib.decDigits] at hc;split at hc
  .simp only [List.mem_singleton] at hc;subst hc; rw [Vt ω]; omega
  .rcases List.mem_append.1 hc with h | h
   .exact ih (u / 10) ω c h
   .simp only [List.mem_singleton] at h;subst h; rw [Vt ω]; omega
def Ac1 (l:List UInt8):Nat:=l.foldl (λa c=>10*a+(c.toNat-48)) 0
theorem Aox:∀(n u:Nat),u<=n->Ac1 (Lib.decDigits u)=u:=by
 intro n;induction n with
 | zero=>intro u hu;rw [Lib.decDigits,dif_pos ω];simp only [Ac1,List.foldl_cons,List.foldl_nil];rw [Vt ω]; omega
 | succ n ih=>
  intro u hu;rw [Lib.decDigits];split
  .simp only [Ac1,List.foldl_cons,List.foldl_nil];rw [Vt ω]; omega
  .have:=ih (u / 10) ω;unfold Ac1 at *;rw [List.foldl_append,this];simp only [List.foldl_cons,List.foldl_nil];rw [Vt ω]; omega
theorem Aoy {u v:Nat} (h:Lib.decDigits u=Lib.decDigits v):u=v:=by rw [<-Aox u u (Nat.le_refl _),h,Aox v v (Nat.le_refl _)]
theorem Az7 (u:Nat):Lib.decDigits u≠[]:=by rw [Lib.decDigits]; split <;> simp
theorem Az8 {m n:Int} (h:Lib.itoa m=Lib.itoa n):m=n:=by
 have b:∀u v:Nat,45::Lib.decDigits u≠Lib.decDigits v:=by intro u v e;have:=Ac0 v v (Nat.le_refl _) 45 (by rw [<-e]; simp);exact absurd this δ
 unfold Lib.itoa at h;split at h <;> split at h
 .have:=Aoy (List.cons.inj h).2; omega
 .exact absurd h (b _ _)
 .exact absurd h.symm (b _ _)
 .have:=Aoy h; omega
theorem Hg (n:Int):∀c∈ti n,Ok c=true:=by
 intro c hc;unfold ti at hc;obtain ⟨b,hb,rfl⟩:=List.mem_map.1 hc;have key:b=45\/(48<=b.toNat/\b.toNat<=57):=by
  unfold Lib.itoa at hb;split at hb
  .rcases List.mem_cons.1 hb with h | h
   .exact .inl h
   .exact .inr (Ac0 _ _ (Nat.le_refl _) b h)
  .exact .inr (Ac0 _ _ (Nat.le_refl _) b hb)
 unfold Ok;rcases key with rfl | ⟨h1,h2⟩
 .decide
 .rw [Bool.or_eq_true,Dj,decide_eq_true_eq,decide_eq_true_eq]; right; omega
theorem Ahs (n:Int):ti n≠[]:=by
 unfold ti Lib.itoa;split
 .simp
 .simpa using Az7 _
theorem S0 {m n:Int} (h:ti m=ti n):m=n:=by
 unfold ti at h;have:∀l m:List UInt8,l.map (λc=>(c.toNat:Int))=m.map (λc=>(c.toNat:Int))->l=m:=by
  intro l;induction l with
  | nil=>intro m h; cases m with | nil=>rfl | cons=>simp at h
  | cons x xs ih=>intro m h;cases m with| nil=>simp at h| cons y ys=>simp only [List.map_cons,List.cons.injEq] at h;rw [ih ys h.2,UInt8.toNat.inj (by omega:x.toNat=y.toNat)]
 exact Az8 (this _ _ h)
theorem Mo {n:Int} (h:I64 n):(ti n).length<=21:=by unfold ti; rw [List.length_map]; exact Lib.itoa_length_le n h.1 h.2
def Qc (X:List Int):Prop:=∀c m,X=c::m->Ok c=false/\c≠40
def K1 (X:List Int):Prop:=∀c m,X=c::m->Ok c=false
theorem Ol:∀(a b X Y:List Int),(∀c∈a,Ok c=true)->(∀c∈b,Ok c=true)->K1 X->K1 Y->a++X=b++Y->a=b/\X=Y
 | [],[],_,_,_,_,_,_,h=>⟨rfl,h⟩
 | [],y::b,X,Y,_,hb,g,_,h=>by have:=g y (b++Y) h;rw [hb y ψ] at this; cases this
 | x::a,[],X,Y,ha,_,_,f,h=>by have:=f x (a++X) h.symm;rw [ha x ψ] at this; cases this
 | x::a,y::b,X,Y,ha,hb,g,f,h=>by simp only [List.cons_append,List.cons.injEq] at h;obtain ⟨j,i⟩:=Ol a b X Y (λc hc=>ha c (by simp [hc])) (λc hc=>hb c (by simp [hc])) g f h.2;exact ⟨by rw [h.1,j],i⟩
mutual
def wx:Bn->List Int
 | ⟨n,kids⟩=>ti n++(if kids.length=0 then [] else 40::(wxs kids++[41]))
def wxs:List Bn->List Int
 | []=>[]
 | x::xs=>wx x++44::wxs xs
end
theorem Aht (i:Bn):wx i=ti i.Num++(if i.Kids.length=0 then [] else 40::(wxs i.Kids++[41])):=by cases i; simp only [wx]
theorem Aoz (l m:List Bn):wxs (l++m)=wxs l++wxs m:=by induction l with| nil=>simp [wxs]| cons x xs ih=>simp only [List.cons_append,wxs,ih,List.append_assoc]
theorem Ao0 (b:List Bn) (X:List Int) (f:Qc X):K1 ((if b.length=0 then [] else 40::(wxs b++[41]))++X):=by
 intro c m h;by_cases hk:b.length=0
 .rw [if_pos hk,List.nil_append] at h;exact (f c m h).1
 .rw [if_neg hk,List.cons_append] at h;cases h; decide
theorem Ao1 (X:List Int):Qc (44::X):=by intro c m h; cases h; exact ⟨δ,δ⟩
theorem Ao2:Qc []:=by intro c m h; cases h
mutual
theorem Ahu:∀(i j:Bn) (X Y:List Int),Qc X->Qc Y->wx i++X=wx j++Y->i=j/\X=Y
 | ⟨n,k⟩,⟨n',k'⟩,X,Y,hX,hY,h=>by
  simp only [wx,List.append_assoc] at h
  obtain ⟨e1,e2⟩:=Ol _ _ _ _ (Hg n) (Hg n') (Ao0 k X hX) (Ao0 k' Y hY) h
  have e1:=S0 e1
  subst e1
  by_cases hk:k.length=0
  .by_cases hk':k'.length=0
   .rw [if_pos hk,if_pos hk'] at e2
    rw [List.length_eq_zero_iff.1 hk,List.length_eq_zero_iff.1 hk']
    exact ⟨rfl,e2⟩
   .rw [if_pos hk,if_neg hk',List.nil_append,List.cons_append] at e2
    exact absurd rfl (hX _ _ e2).2
  .by_cases hk':k'.length=0
   .rw [if_neg hk,if_pos hk',List.nil_append,List.cons_append] at e2
    exact absurd rfl (hY _ _ e2.symm).2
   .rw [if_neg hk,if_neg hk',List.cons_append,List.cons_append,List.append_assoc,List.append_assoc] at e2
    obtain ⟨e3,e4⟩:=Ao3 k k' X Y hX hY (List.cons.inj e2).2
    rw [e3]; exact ⟨rfl,e4⟩
theorem Ao3:∀(l m:List Bn) (X Y:List Int),Qc X->Qc Y->wxs l++([41]++X)=wxs m++([41]++Y)->l=m/\X=Y
 | [],[],X,Y,_,_,h=>by
  simp only [wxs,List.nil_append,List.cons_append,List.cons.injEq,true_and] at h
  exact ⟨rfl,h⟩
 | [],y::ys,X,Y,_,_,h=>by
  exfalso
  cases ht:ti y.Num with
  | nil=>exact Ahs _ ht
  | cons c r=>
   have hc:=Hg y.Num c (by rw [ht]; simp)
   simp only [wxs,Aht y,ht,List.nil_append,List.cons_append,List.cons.injEq] at h
   rw [<-h.1] at hc; exact absurd hc δ
 | x::xs,[],X,Y,_,_,h=>by
  exfalso
  cases ht:ti x.Num with
  | nil=>exact Ahs _ ht
  | cons c r=>
   have hc:=Hg x.Num c (by rw [ht]; simp)
   simp only [wxs,Aht x,ht,List.nil_append,List.cons_append,List.cons.injEq] at h
   rw [h.1] at hc; exact absurd hc δ
 | x::xs,y::ys,X,Y,hX,hY,h=>by
  simp only [wxs,List.append_assoc,List.cons_append] at h
  obtain ⟨e1,e2⟩:=Ahu x y _ _ (Ao1 _) (Ao1 _) h
  obtain ⟨e3,e4⟩:=Ao3 xs ys X Y hX hY (by simpa using e2)
  exact ⟨by rw [e1,e3],e4⟩
end
mutual
def iR:Bn->Prop
 | ⟨n,l⟩=>I64 n/\iRs l
def iRs:List Bn->Prop
 | []=>True
 | x::xs=>iR x/\iRs xs
end
theorem Az9 (i:Bn):iR i↔I64 i.Num/\iRs i.Kids:=by cases i; simp only [iR]
theorem A0a {l:List Bn} (h:iRs l) {a:Bn} (ha:a∈l):iR a:=by
 induction l with
 | nil=>cases ha
 | cons x xs ih=>
  simp only [iRs] at h;rcases List.mem_cons.1 ha with rfl | ha
  .exact h.1
  .exact ih h.2 ha
mutual
theorem Ahv:∀i:Bn,iR i->(wx i).length+1<=24*Dy i
 | ⟨n,l⟩,h=>by
  simp only [iR] at h
  have h1:=Ac2 l h.2
  have h2:=Mo h.1
  simp only [wx,Dy,List.length_append]
  by_cases hl:l.length=0
  .rw [if_pos hl]; simp; omega
  .rw [if_neg hl]; simp; omega
theorem Ac2:∀l:List Bn,iRs l->(wxs l).length<=24*F5 l
 | [],_=>by simp [wxs,F5]
 | x::xs,h=>by
  simp only [iRs] at h
  have h1:=Ahv x h.1
  have h2:=Ac2 xs h.2
  have h3:=Gq x
  simp only [wxs,F5,List.length_append,List.length_cons]; omega
end
theorem Ao4 (l m:List Bn):F5 (l++m)=F5 l+F5 m:=by induction l with| nil=>simp [F5]| cons x xs ih=>simp only [List.cons_append,F5,ih]; omega
theorem A0b (l m:List Bn):iRs (l++m)↔iRs l/\iRs m:=by induction l with| nil=>simp [iRs]| cons x xs ih=>simp only [List.cons_append,iRs,ih,and_assoc]
theorem Ahw {n:Int} (h:I64 n):Nx n=some ⟨(Lib.itoa n).toArray⟩:=by unfold Nx; rw [if_pos (show _/\_ from h)]
theorem A0c (n:Int):L3 ⟨(Lib.itoa n).toArray⟩=ti n:=by unfold L3 ti; simp
theorem A0d:∀(k:Nat) (i:Bn) (b:List Int),Dy i<=k->iR i->b.length+24*Dy i<=1099511627776->Ry k i b=some (b++wx i):=by
 intro k;induction k with
 | zero=>intro i b h; have:=Gq i; omega
 | succ k ih=>
  intro i b h c hb;have hi:=Gq i;have A:=Oj i.Kids;have c:=(Az9 i).1 c;have B:=Mo c.1;rw [Ry,Aht];simp only [Hv,Ahw c.1,Ad,F9,Vh,A0c];rw [C3 ω];simp only [Ad];by_cases h0:i.Kids.length=0
  .rw [An ω,if_pos h0]; simp
  .rw [Aj ω,if_neg h0];simp only [cond_true,U9,Vh,Ad];rw [C3 (by simp; omega),Ad];have g:=Ac2 i.Kids c.2;have l:∀j,(wxs (i.Kids.take j)).length<=24*F5 i.Kids:=λj=>by have:=Aoz (i.Kids.take j) (i.Kids.drop j);rw [List.take_append_drop] at this;rw [this,List.length_append] at g; omega
   refine Gf i.Kids (λj=>((j:Int),b++ti i.Num++[40]++wxs (i.Kids.take j))) (by simp [wxs]) ω ?_ ?_
   .intro j x hj hx h1 h2 h3;have hm:=Nh (Cd hx);have f:=A0a c.2 (Cd hx);have z:=Ahv x f;have q:=l (j+1);have e:wxs (i.Kids.take (j+1))=wxs (i.Kids.take j)++(wx x++[44]):=(by rw [C8 hx,Aoz]; simp [wxs]);rw [e] at q;simp only [List.length_append,List.length_cons,List.length_nil] at q;simp only [h1,h2,h3,cond_true,Ad];have y:F5 (i.Kids.take j)+Dy x<=F5 i.Kids:=(by have s:=Ao4 (i.Kids.take (j+1)) (i.Kids.drop (j+1));rw [List.take_append_drop,C8 hx,Ao4] at s;simp only [F5] at s; omega);have u:(wxs (i.Kids.take j)).length<=24*F5 (i.Kids.take j):=Ac2 _ (by have:=(A0b (i.Kids.take j) (i.Kids.drop j)).1 (by rw [List.take_append_drop]; exact c.2);exact this.1);rw [ih x _ ω f (by simp; omega)];simp only [Ad];rw [C3 (by simp; omega),e];simp
   .intro h1;refine ⟨b++ti i.Num++[40]++wxs i.Kids,ψ,?_⟩;rw [C3 (by simp; omega)];simp
def Jb (v:Int) (i:Bn):List Int:=118::(ti v++58::wx i)
def Ni (v:Int) (i:Bn):ByteArray:=⟨(Eh (Jb v i)).toArray⟩
mutual
theorem Ao5:∀i:Bn,∀c∈wx i,0<=c/\c<256
 | ⟨n,l⟩,c,h=>by
  simp only [wx,List.mem_append] at h
  rcases h with h | h
  .have:=Hg n c h
   simp only [Ok,Bool.or_eq_true,Dj,beq_iff_eq,decide_eq_true_eq] at this
   omega
  .by_cases hl:l.length=0
   .rw [if_pos hl] at h; cases h
   .rw [if_neg hl] at h
    simp only [List.mem_cons,List.mem_append,List.not_mem_nil,or_false] at h
    rcases h with h | h | h
    .omega
    .exact Ao6 l c h
    .omega
theorem Ao6:∀l:List Bn,∀c∈wxs l,0<=c/\c<256
 | [],c,h=>by simp [wxs] at h
 | x::xs,c,h=>by
  simp only [wxs,List.mem_append,List.mem_cons] at h
  rcases h with h | h | h
  .exact Ao5 x c h
  .omega
  .exact Ao6 xs c h
end
theorem Ac3 (v:Int) (i:Bn):∀c∈Jb v i,0<=c/\c<256:=by
 intro c h;simp only [Jb,List.mem_cons,List.mem_append] at h;rcases h with h | h | h | h
 .omega
 .have:=Hg v c h;simp only [Ok,Bool.or_eq_true,Dj,beq_iff_eq,decide_eq_true_eq] at this;omega
 .omega
 .exact Ao5 i c h
theorem Ahx:∀l m:List Int,(∀c∈l,0<=c/\c<256)->(∀c∈m,0<=c/\c<256)->Eh l=Eh m->l=m
 | [],[],_,_,_=>rfl
 | [],_::_,_,_,h=>by simp [Eh] at h
 | _::_,[],_,_,h=>by simp [Eh] at h
 | x::xs,y::ys,h1,h2,h=>by simp only [Eh,List.map_cons,List.cons.injEq] at h;have hx:=h1 x ψ;have hy:=h2 y ψ;have e:x.toNat=y.toNat:=(by have:=congrArg UInt8.toNat h.1;rw [UInt8.toNat_ofNat',UInt8.toNat_ofNat'] at this;omega);rw [Ahx xs ys (λc hc=>h1 c (by simp [hc])) (λc hc=>h2 c (by simp [hc])) h.2,show x=y by omega]
theorem A0e {v w:Int} {i j:Bn} (h:Ni v i=Ni w j):v=w/\i=j:=by
 unfold Ni at h;have h1:(Eh (Jb v i)).toArray=(Eh (Jb w j)).toArray:=by injection h
 have h2:Eh (Jb v i)=Eh (Jb w j):=by simpa using congrArg Array.toList h1
 have h3:=Ahx _ _ (Ac3 v i) (Ac3 w j) h2;simp only [Jb,List.cons.injEq,true_and] at h3;have b:∀X:List Int,K1 (58::X):=λX c m e=>by cases e; decide
 obtain ⟨k,g⟩:=Ol _ _ _ _ (Hg v) (Hg w) (b _) (b _) h3;obtain ⟨f,_⟩:=Ahu i j [] [] Ao2 Ao2 (by simpa using (List.cons.inj g).2);exact ⟨S0 k,f⟩
theorem A0f (l:List UInt8):L3 ⟨l.toArray⟩=l.map λb=>(b.toNat:Int):=by unfold L3; simp
theorem Ao7 (v:Int) (i:Bn) (c:I64 v) (g:iR i) (hi:Dy i<=1048576):Kw v i=some (Ni v i):=by
 have l:=Mo c;have f:(Lib.itoa v).length=(ti v).length:=by unfold ti; simp
 unfold Kw;have k:Fg (ByteArray.mk #[118]) ⟨(Lib.itoa v).toArray⟩=some ⟨(118::Lib.itoa v).toArray⟩:=by
  unfold Fg;rw [if_pos]
  .congr 1
  .show 1+(Lib.itoa v).toArray.size<=9223372036854775807;rw [List.size_toArray]; omega
 have j:Fg ⟨(118::Lib.itoa v).toArray⟩ (ByteArray.mk #[58])=some ⟨(118::(Lib.itoa v++[58])).toArray⟩:=by
  unfold Fg;rw [if_pos]
  .congr 1
  .show (118::Lib.itoa v).toArray.size+1<=9223372036854775807;rw [List.size_toArray,List.length_cons]; omega
 simp only [Hv,Ahw c,Ad,k,j,Iy,Xx,A0f];rw [C3 (by simp; omega)];simp only [Ad];rw [A0d 4000000 i _ ω g (by simp; omega)];simp only [Ad,Kx];have h:([]++(118::(Lib.itoa v++[58])).map λb=>(b.toNat:Int))++wx i=Jb v i:=by unfold Jb ti; simp
 rw [h];unfold Wn Ni;rw [if_pos (Ac3 v i)]; rfl
end Go.Ab
namespace Go.Ab
open Go
mutual
theorem Ao8 (data:List A3):∀(i:Bn) (t:Ai) (d:Nat),Hn data i t=some d->d<=6*Dy i
 | ⟨n,kids⟩,t,d,h=>by
  rw [Ahn] at h
  simp only [Dy]
  simp only at h
  split at h
  .split at h
   .have:=Yy data kids _ d h; omega
   .cases h
  .split at h
   .split at h
    .cases h; omega
    .cases h
   .split at h
    .split at h
     .have:=Ao9 data kids _ d h; omega
     .cases h
    .split at h
     .cases h; omega
     .cases h
theorem Yy (data:List A3):∀(is:List Bn) (ts:List Ai) (d:Nat),Fo data is ts=some d->d<=6*F5 is
 | [],[],d,h=>by simp only [Fo] at h; cases h; omega
 | i::is,t::ts,d,h=>by
  rw [Acz] at h
  cases h1:Hn data i t with
  | none=>rw [h1] at h; cases h
  | some a=>
   rw [h1,Ad] at h
   cases h2:Fo data is ts with
   | none=>rw [h2] at h; cases h
   | some b=>
    rw [h2] at h
    cases h
    have:=Ao8 data i t a h1
    have:=Yy data is ts b h2
    simp only [F5]; omega
 | [],_::_,d,h=>by simp only [Fo] at h; cases h
 | _::_,[],d,h=>by simp only [Fo] at h; cases h
theorem Ao9 (data:List A3):∀(es:List Bn) (t:Ai) (d:Nat),H5 data es t=some d->d<=6*F5 es
 | [],t,d,h=>by simp only [H5] at h; cases h; omega
 | ⟨n,kids⟩::es,t,d,h=>by
  rw [Acy] at h
  simp only at h
  cases h1:Jz data t n with
  | none=>rw [h1] at h; cases h
  | some ts=>
   rw [h1,Ad] at h
   cases h2:Fo data kids ts with
   | none=>rw [h2] at h; cases h
   | some a=>
    rw [h2,Ad] at h
    cases h3:H5 data es t with
    | none=>rw [h3] at h; cases h
    | some b=>
     rw [h3] at h
     cases h
     have:=Yy data kids ts a h2
     have:=Ao9 data es t b h3
     simp only [F5,Dy]; omega
end
def Vu (data:List A3) (e:Bn) (t:Ai):Option Nat:=(Jz data t e.Num).bind λts=>(Fo data e.Kids ts).map (1 + ·)
theorem A0g (data:List A3) (e:Bn) (es:List Bn) (t:Ai):H5 data (e::es) t=(Vu data e t).bind λa=>(H5 data es t).map (a + ·):=by rw [Acy]; unfold Vu;cases Jz data t e.Num with| none=>rfl| some ts=>simp only [Ad]; cases Fo data e.Kids ts <;> rfl
theorem A0h (data:List A3) (e:Bn) (t:Ai) (d:Nat) (h:Vu data e t=some d):d<=6*Dy e:=by
 unfold Vu at h;cases h1:Jz data t e.Num with
 | none=>rw [h1] at h; cases h
 | some ts=>rw [h1,Ad] at h;cases h2:Fo data e.Kids ts with| none=>rw [h2] at h; cases h| some a=>rw [h2] at h;cases h;have:=Yy data _ ts a h2;have:=Gq e;show 1+a<=_;omega
def Dg (v:Int) (o:Option Nat):Prop:=(v = -1/\∀d,o=some d->6<d)\/∃d:Nat,o=some d/\v=d
theorem Dg.clip {v:Int} {o:Option Nat} (h:Dg v o):(if v>6 then -1 else v)=Gz o:=by
 rcases h with ⟨rfl,h⟩ | ⟨d,rfl,rfl⟩
 .rw [if_neg ω,Vs h]
 .by_cases hd:6<d
  .rw [if_pos ω,Ahq hd]
  .rw [if_neg ω,Ahp ω]
theorem Ac4 {o p:Option Nat} {acc:Nat} {d:Nat} (h:(o.bind λa=>p.map (a + ·)).map (acc + ·)=some d):∃a b,o=some a/\p=some b/\d=acc+(a+b):=by
 cases o with
 | none=>cases h
 | some a=>cases p with| none=>cases h| some b=>exact ⟨a,b,rfl,rfl,by simp at h; omega⟩
theorem A0i {data:List A3} (hz:Szv data) (hs:Mn data) (b1:List (ByteArray×Int)) (b2:List (ByteArray×List Cs)) (vars:List Ai) (N M:Int) (L:List Ai):∀k:Nat, (∀(i:Bn) (t:Ai),3*Dy i<=k->Dy i<=1048576->Bo t<=200->∃v,Pt k t i b1 b2 data vars N M L=some v/\Dg v (Hn data i t)) /\ (∀(f:List Bn) (ts:List Ai),3*F5 f+1<=k->F5 f<=1048576->(∀t∈ts,Bo t<=200)->∃v,R6 k ts f b1 b2 data vars N M L=some v/\Dg v (Fo data f ts)) /\ (∀(e:Bn) (t:Ai),3*Dy e<=k->Dy e<=1048576->Bo t<=200->∃v,R7 k t e b1 b2 data vars N M L=some v/\Dg v (Vu data e t)):=by
 intro k;induction k with
 | zero=>exact ⟨λi t h=>by have:=Gq i; omega,λf ts h=>ω,λi t h=>by have:=Gq i; omega⟩
 | succ k ih=>
  obtain ⟨a6,R,a7⟩:=ih;have D:∀o:Option Nat,o.map (0 + ·)=o:=(by intro o; cases o <;> simp);have c:∀d:Nat,(none:Option Nat)=some d->6<d:=λd h=>by cases h
  refine ⟨?_,?_,?_⟩
  .intro i t hk hi ht;have af:=Gq i;have U:=Oj i.Kids;rw [Pt,Ahn];by_cases Z:t.Kind=6
   .simp only [Dw Z,cond_true,if_pos Z];by_cases h0:i.Num=0
    .simp only [Dw h0,cond_true,if_pos h0];obtain ⟨p,p1,p2⟩:=R i.Kids t.Args ω ω (λa ha=>by have:=Ih ha; have:=H3 t; omega);rw [p1];exact ⟨p,rfl,p2⟩
    .simp only [Ch h0,cond_false,if_neg h0];exact ⟨_,rfl,.inl ⟨rfl,c⟩⟩
   .simp only [Ch Z,cond_false,if_neg Z];by_cases Y:t.Kind=7
    .simp only [Dw Y,cond_true,if_pos Y];by_cases a1:0<=i.Num
     .by_cases a2:i.Num<=6
      .by_cases a3:i.Kids.length=0
       .rw [Aj (show i.Num>=0 from a1),Aj a2,if_pos ⟨a1,a2,a3⟩,Dw ω];exact ⟨_,rfl,.inr ⟨i.Num.toNat,rfl,ω⟩⟩
       .rw [Aj (show i.Num>=0 from a1),Aj a2,if_neg (λh=>a3 h.2.2),Ch ω];exact ⟨_,rfl,.inl ⟨rfl,c⟩⟩
      .rw [Aj (show i.Num>=0 from a1),An a2,if_neg (λh=>a2 h.2.1)];exact ⟨_,rfl,.inl ⟨rfl,c⟩⟩
     .rw [An (show ¬i.Num>=0 from a1),if_neg (λh=>a1 h.1)];exact ⟨_,rfl,.inl ⟨rfl,c⟩⟩
    .simp only [Ch Y,cond_false,if_neg Y];by_cases h5:t.Kind=5
     .simp only [Dw h5,cond_true,if_pos h5];by_cases h0:i.Num=0
      .simp only [De h0,cond_false,if_pos h0];have key:∀(m j acc:Nat),j+m=i.Kids.length->acc<=10000000->∃z,Al (S:=(Int×Int)) (E:=(Int⊕Int)) (λ(G,v8)=>
         bif v8<(i.Kids.length:Int) then ((Ae i.Kids v8).bind λv9=> (R7 k t v9 b1 b2 data vars N M L).bind λI=> bif I<(0:Int) then some (.inr (.inl (-1))) else (bif G>(6:Int) then some (.inr (.inl (-1))) else some (.inl ((Aa (G+I)),(Aa (v8+1)))))) else some (.inr (.inr G))) ((acc:Int),(j:Int))=some z/\Dg (match z with | .inl v=>v | .inr v=>v) ((H5 data (i.Kids.drop j) t).map (acc + ·)):=by
        intro m;induction m with
        | zero=>intro j acc hj A;have:j=i.Kids.length:=ω;subst this;exact ⟨.inr (acc:Int),Cz ψ,.inr ⟨acc,by simp [H5],rfl⟩⟩
        | succ m s=>
         intro j acc hj A;have g:i.Kids[j]? = some i.Kids[j]:=Bv ω;generalize i.Kids[j]=e at g;have ac:=Nh (Cd g);rw [Ij g,A0g];obtain ⟨v,B,v2⟩:=a7 e t ω ω ht;rcases v2 with ⟨rfl,v2⟩ | ⟨a,a1,rfl⟩
         .refine ⟨.inl (-1),Cz ?_,.inl ⟨rfl,λd h=>?_⟩⟩
          .simp only [Aj (by omega:(j:Int)<(i.Kids.length:Int)),cond_true,Ce rfl g,Ad,B]; rfl
          .obtain ⟨a,b,ha,hb,rfl⟩:=Ac4 h;have:=v2 a ha; omega
         .have V:=A0h data e t a a1;by_cases hb:acc>6
          .refine ⟨.inl (-1),Cz ?_,.inl ⟨rfl,λd h=>?_⟩⟩
           .simp only [Aj (by omega:(j:Int)<(i.Kids.length:Int)),cond_true,Ce rfl g,Ad,B,An (by omega:¬(a:Int)<0),Aj (by omega:(acc:Int)>6),cond_false]
           .obtain ⟨a,b,ha,hb,rfl⟩:=Ac4 h;omega
          .have ew:Aa ((acc:Int)+(a:Int))=((acc+a:Nat):Int):=(by rw [Aa,Bm] <;> omega);obtain ⟨z,q,z2⟩:=s (j+1) (acc+a) ω ω;refine ⟨z,?_,?_⟩
           .rw [Ft (s':=(((acc+a:Nat):Int),((j+1:Nat):Int)))]
            .exact q
            .simp only [Aj (by omega:(j:Int)<(i.Kids.length:Int)),cond_true,Ce rfl g,Ad,B,An (by omega:¬(a:Int)<0),An (by omega:¬(acc:Int)>6),cond_false,ew,C6 (show j<i.Kids.length by omega) ω]
           .have D:∀o:Option Nat,(((some a:Option Nat).bind λa=>o.map (a + ·)).map (acc + ·))=o.map (acc+a + ·):=(by intro o; cases o <;> simp [Nat.add_assoc]);rw [a1,D];exact z2
       obtain ⟨z,q,z2⟩:=key i.Kids.length 0 0 ω ω;have q:Al _ ((0:Int),(0:Int))=some z:=q;rw [q,Ad];rw [List.drop_zero,D] at z2;cases z with| inl v=>exact ⟨v,rfl,z2⟩| inr v=>exact ⟨v,rfl,z2⟩
      .simp only [Dh h0,cond_true,if_neg h0];exact ⟨_,rfl,.inl ⟨rfl,c⟩⟩
     .simp only [Ch h5,cond_false,if_neg h5];by_cases h0:i.Num=0
      .simp only [Dw h0,cond_true];by_cases a3:i.Kids.length=0
       .rw [if_pos ⟨h0,a3⟩,Dw ω];exact ⟨_,rfl,.inr ⟨0,rfl,rfl⟩⟩
       .rw [if_neg (λh=>a3 h.2),Ch ω];exact ⟨_,rfl,.inl ⟨rfl,c⟩⟩
      .simp only [Ch h0,cond_false];rw [if_neg (λh=>h0 h.1)];exact ⟨_,rfl,.inl ⟨rfl,c⟩⟩
  .intro f ts hk hi ht;have U:=Oj f;rw [R6];by_cases hl:ts.length=f.length
   .rw [De ω];simp only [cond_false];have key:∀(m j acc:Nat),j+m=f.length->acc<=10000000->∃z,Al (S:=(Int×Int)) (E:=(Int⊕Int)) (λ(v5,X)=>
      bif X<(ts.length:Int) then ((Ae ts X).bind λG=> (Ae f X).bind λv9=> (Pt k G v9 b1 b2 data vars N M L).bind λJ=> bif J<(0:Int) then some (.inr (.inl (-1))) else (bif v5>(6:Int) then some (.inr (.inl (-1))) else some (.inl ((Aa (v5+J)),(Aa (X+1)))))) else some (.inr (.inr v5))) ((acc:Int),(j:Int))=some z/\Dg (match z with | .inl v=>v | .inr v=>v) ((Fo data (f.drop j) (ts.drop j)).map (acc + ·)):=by
     intro m;induction m with
     | zero=>intro j acc hj A;have:j=ts.length:=ω;subst this;refine ⟨.inr (acc:Int),Cz ψ,.inr ⟨acc,?_,rfl⟩⟩;rw [List.drop_of_length_le ω,List.drop_of_length_le ω];simp [Fo]
     | succ m s=>
      intro j acc hj A;have g:f[j]? = some f[j]:=Bv ω;generalize f[j]=e at g;have hu:ts[j]? = some ts[j]:=Bv ω;generalize ts[j]=u at hu;have ac:=Nh (Cd g);rw [Ij g,Ij hu,Acz];obtain ⟨v,B,v2⟩:=a6 e u ω ω (ht u (Cd hu));rcases v2 with ⟨rfl,v2⟩ | ⟨a,a1,rfl⟩
      .refine ⟨.inl (-1),Cz ?_,.inl ⟨rfl,λd h=>?_⟩⟩
       .simp only [Aj (by omega:(j:Int)<(ts.length:Int)),cond_true,Ce rfl g,Ce rfl hu,Ad,B]; rfl
       .obtain ⟨a,b,ha,hb,rfl⟩:=Ac4 h;have:=v2 a ha; omega
      .have V:=Ao8 data e u a a1;by_cases hb:acc>6
       .refine ⟨.inl (-1),Cz ?_,.inl ⟨rfl,λd h=>?_⟩⟩
        .simp only [Aj (by omega:(j:Int)<(ts.length:Int)),cond_true,Ce rfl g,Ce rfl hu,Ad,B,An (by omega:¬(a:Int)<0),Aj (by omega:(acc:Int)>6),cond_false]
        .obtain ⟨a,b,ha,hb,rfl⟩:=Ac4 h;omega
       .have ew:Aa ((acc:Int)+(a:Int))=((acc+a:Nat):Int):=(by rw [Aa,Bm] <;> omega);obtain ⟨z,q,z2⟩:=s (j+1) (acc+a) ω ω;refine ⟨z,?_,?_⟩
        .rw [Ft (s':=(((acc+a:Nat):Int),((j+1:Nat):Int)))]
         .exact q
         .simp only [Aj (by omega:(j:Int)<(ts.length:Int)),cond_true,Ce rfl g,Ce rfl hu,Ad,B,An (by omega:¬(a:Int)<0),An (by omega:¬(acc:Int)>6),cond_false,ew,C6 (show j<f.length by omega) ω]
        .have D:∀o:Option Nat,(((some a:Option Nat).bind λa=>o.map (a + ·)).map (acc + ·))=o.map (acc+a + ·):=(by intro o; cases o <;> simp [Nat.add_assoc]);rw [a1,D];exact z2
    obtain ⟨z,q,z2⟩:=key f.length 0 0 ω ω;have q:Al _ ((0:Int),(0:Int))=some z:=q;rw [q,Ad];rw [List.drop_zero,List.drop_zero,D] at z2;cases z with| inl v=>exact ⟨v,rfl,z2⟩| inr v=>exact ⟨v,rfl,z2⟩
   .rw [Dh ω,Aho data f ts hl];exact ⟨_,rfl,.inl ⟨rfl,c⟩⟩
  .intro e t hk g ht;have ag:=Gq e;rw [R7];unfold Vu Jz;rw [Az1 hz t ht e.Num,Ad];cases hf:Lm data t e.Num with
   | none=>exact ⟨-1,rfl,.inl ⟨rfl,c⟩⟩
   | some l=>
    have ad:=Ahl hf;obtain ⟨x,y,_,hx,_,hy,hl,ab⟩:=Yx hf;obtain ⟨y6,_⟩:=hz x (Gj hx).2.2.2 y (Gj hy).2.2.2;have ae:l.length<=6:=(by rw [hl]; simpa using y6);have aa:∀a∈G3 l (G2 data t.Num e.Num),Bo a<=200:=(Aov (show Jz data t e.Num=some _ by unfold Jz; rw [hf]; rfl)).1;obtain ⟨v,B,v2⟩:=R e.Kids (G3 l (G2 data t.Num e.Num)) ω ω aa;have hd:Dg (if v<0 then -1 else 1+v) (((some l).map λl=>G3 l (G2 data t.Num e.Num)).bind λts=>(Fo data e.Kids ts).map (1 + ·)):=by
     rw [Option.map_some,Ad];rcases v2 with ⟨rfl,v2⟩ | ⟨a,a1,rfl⟩
     .refine .inl ⟨rfl,λd h=>?_⟩;cases ha:Fo data e.Kids (G3 l (G2 data t.Num e.Num)) with| none=>rw [ha] at h; cases h| some a=>rw [ha] at h; have:=v2 a ha; simp at h; omega
     .rw [a1,if_neg ω];exact .inr ⟨1+a,rfl,ω⟩
    have a8:v = -1\/(0<=v/\v<=10000000):=by
     rcases v2 with ⟨rfl,v2⟩ | ⟨a,a1,rfl⟩
     .exact .inl rfl
     .have:=Yy data _ _ a a1; right; omega
    refine ⟨_,?_,hd⟩;simp only [okL,Dk,cond_false,Aod data t.Num e.Num hs,Ad];refine Gf (G2 data t.Num e.Num) (λj=>((j:Int),G3 (l.take j) ((G2 data t.Num e.Num).take j))) (by simp [G3]) ω ?_ ?_
    .intro j b hj hb h1 h2 h3;have ha:l[j]? = some l[j]:=Bv ω;generalize l[j]=a at ha;have U:=Aou (l.take j) ((G2 data t.Num e.Num).take j);have:(l.take j).length<=6:=(by simp; omega);simp only [h1,h2,h3,cond_true,Ad,Ce rfl ha,Aot ha hb];rw [C3 (by simp; omega)];cases b <;> simp
    .intro h1;refine ⟨G3 l (G2 data t.Num e.Num),?_,?_⟩
     .simp only [h1];rw [List.take_of_length_le ω,List.take_of_length_le (Nat.le_refl _)]; rfl
     .rw [B,Ad];rcases a8 with h | h
      .subst h; rfl
      .rw [An ω,if_neg ω];simp only [cond_false];rw [Aa,Bm] <;> omega
def tyX (vars:List Ai) (res:Ai) (v:Int):Option Ai:=if v = -1 then some res else Ae vars v
def F6 (data:List A3) (vars:List Ai) (res:Ai) (o:List (ByteArray×Int)):Prop:=∀p∈o,∀v i t,p.1=Ni v i->tyX vars res v=some t->p.2=Gz (Hn data i t)
theorem Apa {α:Type}:∀(o:List (ByteArray×α)) (s:ByteArray) (v:α),∀p∈Fp o s v,p∈o\/p=(s,v)
 | [],s,v,p,h=>by simp only [Fp,List.mem_singleton] at h; exact .inr h
 | q::o,s,v,p,h=>by
  unfold Fp at h;cases hq:(s==q.1) with
  | true=>
   rw [hq] at h;simp only [cond_true,List.mem_cons] at h;rcases h with h | h
   .exact .inr h
   .exact .inl (by simp [h])
  | false=>
   rw [hq] at h;simp only [cond_false,List.mem_cons] at h;rcases h with h | h
   .exact .inl (by simp [h])
   .rcases Apa o s v p h with h | h
    .exact .inl (by simp [h])
    .exact .inr h
theorem A0j {data:List A3} (E:Szv data) (I:Mn data) (b1:List (ByteArray×Int)) (b2:List (ByteArray×List Cs)) (vars:List Ai) (res:Ai) (hm:F6 data vars res b1) (v:Int) (i:Bn) (t:Ai) (ht:tyX vars res v=some t) (b:Bo t<=200) (G:I64 v) (J:iR i) (hi:Dy i<=1048576) : ∃s,Md v i b1 b2 data vars res.Kind res.Num res.Args=some (Gz (Hn data i t),s)/\F6 data vars res s:=by
 unfold Md;rw [Ao7 v i G J hi,Ad];cases f:Fd b1 (Ni v i) with
 | true=>refine ⟨b1,?_,hm⟩;have:Ht b1 (Ni v i) 0=Gz (Hn data i t):=(by unfold Ht;unfold Fd at f;rw [List.any_eq_true] at f;obtain ⟨p,B,A⟩:=f;cases g:b1.find? (λp=>Ni v i==p.1) with| none=>exact absurd A (by have:=List.find?_eq_none.1 g p B; simpa using this)| some q=>have hq:=List.find?_some g;exact hm q (List.mem_of_find?_eq_some g) v i t ((Sy _ _).1 hq).symm ht);simp only [cond_true,Ad,Dk,cond_false,this]
 | false=>
  obtain ⟨w,x,u⟩:=(A0i E I b1 b2 vars res.Kind res.Num res.Args 4000000).1 i t ω hi b;have c:M6 v b1 b2 data vars res.Kind res.Num res.Args=some t:=by
   unfold M6;unfold tyX at ht;by_cases h:v = -1
   .rw [if_pos h] at ht; cases ht;have L:(Ai.mk res.Kind res.Num res.Args)=res:=(by cases res; rfl);rw [Dw h,L]; rfl
   .rw [if_neg h] at ht;rw [Ch h,ht]; rfl
  have j:(bif decide (w>6) then some (-1) else some w:Option Int)=some (Gz (Hn data i t)):=by
   rw [<-u.clip];by_cases h:w>6
   .rw [Aj h,if_pos h]; rfl
   .rw [An h,if_neg h]; rfl
  refine ⟨Fp b1 (Ni v i) (Gz (Hn data i t)),?_,?_⟩
  .simp only [cond_false,Ad,Bool.not_false,cond_true,c,x,j]
  .intro p hp y D z l k;rcases Apa _ _ _ p hp with h | h
   .exact hm p h y D z l k
   .subst h;obtain ⟨rfl,rfl⟩:=A0e l;rw [ht] at k; cases k; rfl
end Go.Ab
namespace Go.Ab
open Go
def D2 (a b:Int):Int:=if a<b then -1 else if a>b then 1 else 0
def D3 (a b:Int):Int:=if a=0 then b else a
theorem Fz {a b:Int}:D2 a b=0↔a=b:=by unfold D2; split <;> (try split) <;> omega
theorem Nj (a b:Int):Kv a b=some (D2 a b):=by
 unfold Kv Xh D2;simp only [Ad,bne_self_eq_false,cond_false];by_cases h:a<b
 .rw [Aj h,if_pos h]; rfl
 .rw [An h,if_neg h];by_cases h':a>b
  .rw [Aj h',if_pos h']; rfl
  .rw [An h',if_neg h']; rfl
theorem Apb (a b:Int):Xu a b=some (D2 a b):=Nj a b
theorem Vv (a b:Int):M8 [a,b]=some (D3 a b):=by
 unfold M8 D3;by_cases ha:a=0
 .rw [if_pos ha];by_cases hb:b=0
  .refine Ie 2 (λj=>(j:Int)) rfl ?_ ⟨.inr (),rfl,by rw [hb]⟩;intro j hj
   match j,hj with| 0,_=>subst ha; rfl| 1,_=>subst hb; rfl
  .refine Ie 1 (λj=>(j:Int)) rfl ?_ ⟨.inl b,?_,rfl⟩
   .intro j hj
    match j,hj with| 0,_=>subst ha; rfl
   .show (bif (b != 0) then _ else _)=_;rw [Dh hb]; rfl
 .rw [if_neg ha];refine Ie 0 (λj=>(j:Int)) rfl (λj hj=>ω) ⟨.inl a,?_,rfl⟩;show (bif (a != 0) then _ else _)=_;rw [Dh ha]; rfl
theorem Ac5 (a b:Int) (h:a≠b):Uk (decide (a<b))=some (D2 a b):=by
 unfold Uk D2;by_cases h':a<b
 .rw [Aj h',if_pos h']; rfl
 .rw [An h',if_neg h',if_pos ω]; rfl
theorem Ac6 (a b:Int) (h:a≠b):Ro (decide (a<b))=some (D2 a b):=Ac5 a b h
theorem Ac7 (a b:Int) (h:a≠b):Rk (decide (a<b))=some (D2 a b):=Ac5 a b h
def Ew {α:Type} (g:α->α->Int):List α->List α->Int
 | x::xs,y::ys=>D3 (g x y) (Ew g xs ys)
 | _,_=>0
theorem Yz {α:Type} (g:α->α->Int) (l m:List α) {step:Int->Option (Int⊕(Int⊕Unit))} (k:l.length=m.length) (hb:l.length<4611686018427387904) (f:∀(j:Nat) (x y:α),l[j]? = some x->m[j]? = some y->decide ((j:Int)<(l.length:Int))=true->Ae l (j:Int)=some x->Ae m (j:Int)=some y->decide ((j:Int)>=(m.length:Int))=false->Aa ((j:Int)+1)=((j+1:Nat):Int) -> step (j:Int)=if g x y=0 then some (.inl ((j+1:Nat):Int)) else some (.inr (.inl (g x y)))) (i:decide ((l.length:Int)<(l.length:Int))=false->step (l.length:Int)=some (.inr (.inr ()))) : ∃z,Al step 0=some z/\(match z with | .inl r=>r=Ew g l m/\r≠0 | .inr _=>Ew g l m=0):=by
 have key:∀(n j:Nat),j+n=l.length->∃z,Al step (j:Int)=some z/\(match z with | .inl r=>r=Ew g (l.drop j) (m.drop j)/\r≠0 | .inr _=>Ew g (l.drop j) (m.drop j)=0):=by
  intro n;induction n with
  | zero=>intro j hj;have:j=l.length:=ω;subst this;refine ⟨.inr (),Cz (i ψ),?_⟩;rw [List.drop_of_length_le ω]; simp [Ew]
  | succ n ih=>
   intro j hj;have hx:l[j]? = some l[j]:=Bv ω;have hy:m[j]? = some m[j]:=Bv ω;generalize l[j]=x at hx;generalize m[j]=y at hy;have h:=f j x y hx hy (Aj ω) (Ce rfl hx) (Ce rfl hy) (An ω) (C6 (show j<l.length by omega) hb);rw [Ij hx,Ij hy];by_cases b:g x y=0
   .rw [if_pos b] at h;obtain ⟨z,c,z2⟩:=ih (j+1) ω;refine ⟨z,by rw [Ft h]; exact c,?_⟩;have e:Ew g (x::l.drop (j+1)) (y::m.drop (j+1))=Ew g (l.drop (j+1)) (m.drop (j+1)):=(by simp only [Ew,D3,b,if_true]);cases z with| inl r=>simp only [e]; exact z2| inr u=>simp only [e]; exact z2
   .rw [if_neg b] at h;refine ⟨.inl (g x y),Cz h,?_,b⟩;simp only [Ew,D3,b,if_false]
 exact key l.length 0 ω
theorem Ac8 {α:Type} (f:α->α->Option Int) (g:α->α->Int) (l m:List α) (A:l.length=m.length) (hb:l.length<4611686018427387904) (B:∀(j:Nat) (x y:α),l[j]? = some x->m[j]? = some y->f x y=some (g x y)) : ((Al (S:=Int) (E:=(Int⊕Unit)) (λb=> bif b<(l.length:Int) then ((Ae l b).bind λs=> bif b>=(m.length:Int) then some (.inr (.inl 1)) else ((Ae m b).bind λv9=> (f s v9).bind λc=> bif (c != (0:Int)) then some (.inr (.inl c)) else some (.inl (Aa (b+1))))) else some (.inr (.inr ()))) 0).bind λz=> match z with
   | .inl k=>some k
   | .inr _=>bif (l.length:Int)<(m.length:Int) then some (-1) else some 0)=some (Ew g l m):=by
 refine Yn (Yz g l m A hb ?_ (λh=>by simp only [h]; rfl)) ?_
 .intro j x y hx hy h1 h2 h3 G D;simp only [h1,h2,h3,G,D,cond_true,cond_false,Ad,B j x y hx hy];by_cases i:g x y=0
  .rw [De i,if_pos i]; rfl
  .rw [Dh i,if_neg i]; rfl
 .rintro (r | u) q
  .rw [q.1]
  .simp only;rw [An ω,show Ew g l m=0 from q]; rfl
def Lo (x y:A5):Int:=D3 (D2 x.Var y.Var) (D2 x.Coef y.Coef)
def E8 (a b:Bb):Int:=if a.Terms.length=b.Terms.length then D3 (Ew Lo a.Terms b.Terms) (D2 a.Const b.Const) else D2 a.Terms.length b.Terms.length
theorem Ac9 (a b:Bb) (ha:a.Terms.length<1099511627776):Lk a b=some (E8 a b):=by
 unfold Lk E8;rw [Nj,Ad];by_cases h:a.Terms.length=b.Terms.length
 .rw [De (Fz.2 ω),if_pos h];simp only [cond_false];have:=Ac8 Xt Lo a.Terms b.Terms h ω (λj x y _ _=>by unfold Xt Lo;rw [Nj,Apb]; simp only [Ad,Vv]);rw [show Abh a.Terms b.Terms=_ from this,Ad,Apb];simp only [Ad,Vv]
 .rw [Dh (λe=>h (by have:=Fz.1 e; omega)),if_neg h]; rfl
theorem Ada (a b:Bb) (ha:a.Terms.length<1099511627776):I6 a b=some (E8 a b):=by
 unfold I6 E8;by_cases h:a.Terms.length=b.Terms.length
 .rw [De ω,if_pos h];simp only [cond_false];refine Yn (Yz Lo a.Terms b.Terms h ω ?_ (λh=>by simp only [h]; rfl)) ?_
  .intro j x y hx hy h1 h2 h3 i g;simp only [h1,h2,h3,g,cond_true,Ad];by_cases c:x.Var=y.Var
   .rw [De c];by_cases hc:x.Coef=y.Coef
    .rw [De hc];rw [if_pos (by unfold Lo; rw [Fz.2 c,Fz.2 hc]; rfl)]; rfl
    .rw [Dh hc,Ac6 _ _ hc];have e:Lo x y=D2 x.Coef y.Coef:=(by unfold Lo; rw [Fz.2 c]; rfl);rw [e,if_neg (λe=>hc (Fz.1 e))]; rfl
   .rw [Dh c,Ac6 _ _ c];have e:Lo x y=D2 x.Var y.Var:=(by unfold Lo D3; rw [if_neg (λe=>c (Fz.1 e))]);rw [e,if_neg (λe=>c (Fz.1 e))]; rfl
  .rintro (r | u) f
   .obtain ⟨rfl,h0⟩:=f;unfold D3; rw [if_neg h0]
   .have f:Ew Lo a.Terms b.Terms=0:=f;rw [f];simp only [D3,if_true];by_cases hc:a.Const=b.Const
    .rw [De hc,Fz.2 hc]; rfl
    .rw [Dh hc,Ac6 _ _ hc]; rfl
 .rw [Dh ω,if_neg h,Ac6 _ _ ω]; rfl
mutual
def I1:Bn->Bn->Int
 | ⟨n,k⟩,j=>if n=j.Num then (if k.length=j.Kids.length then S3 k j.Kids else D2 k.length j.Kids.length) else D2 n j.Num
def S3:List Bn->List Bn->Int
 | x::xs,y::ys=>D3 (I1 x y) (S3 xs ys)
 | [],_=>0
 | _::_,[]=>0
end
theorem Ahy (i j:Bn):I1 i j=if i.Num=j.Num then (if i.Kids.length=j.Kids.length then S3 i.Kids j.Kids else D2 i.Kids.length j.Kids.length) else D2 i.Num j.Num:=by cases i; simp only [I1]
theorem Adb:∀l m:List Bn,S3 l m=Ew I1 l m
 | x::xs,y::ys=>by simp only [S3,Ew,Adb xs ys]
 | [],_=>by simp [S3,Ew]
 | _::_,[]=>by simp [S3,Ew]
theorem A0k:∀(n k:Nat) (i j:Bn),Dy i<=n->2*n<=k->n<1099511627776->Pr k i j=some (I1 i j):=by
 intro n;induction n with
 | zero=>intro k i j h; have:=Gq i; omega
 | succ n ih=>
  intro k i j h hk c;obtain ⟨k,rfl⟩:∃b,k=b+2:=⟨k-2,ω⟩;have hi:=Gq i;have f:=Oj i.Kids;rw [Pr,Ahy,Nj,Nj];simp only [Ad,Vv];by_cases h1:i.Num=j.Num
  .rw [if_pos h1];by_cases h2:i.Kids.length=j.Kids.length
   .rw [if_pos h2,De (by unfold D3; rw [Fz.2 h1,Fz.2 ω]; rfl),Adb];simp only [cond_false];have:=Ac8 (Pr k) I1 i.Kids j.Kids h2 ω (λq x y hx hy=>ih k x y (by have:=Nh (Cd hx); omega) ω ω);rw [Xv];refine Eq.trans (congrArg (λq=>Option.bind q _) this) rfl
   .have e:D3 (D2 i.Num j.Num) (D2 (i.Kids.length:Int) (j.Kids.length:Int))=D2 i.Kids.length j.Kids.length:=(by unfold D3; rw [Fz.2 h1]; rfl);rw [if_neg h2,e,Dh (λe=>h2 (by have:=Fz.1 e; omega))]; rfl
  .have e:D3 (D2 i.Num j.Num) (D2 (i.Kids.length:Int) (j.Kids.length:Int))=D2 i.Num j.Num:=(by unfold D3; rw [if_neg (λe=>h1 (Fz.1 e))]);rw [if_neg h1,e,Dh (λe=>h1 (Fz.1 e))]; rfl
theorem A0l:∀(n k:Nat) (i j:Bn),Dy i<=n->2*n<=k->n<1099511627776->Pd k i j=some (I1 i j):=by
 intro n;induction n with
 | zero=>intro k i j h; have:=Gq i; omega
 | succ n ih=>
  intro k i j h hk A;obtain ⟨k,rfl⟩:∃l,k=l+2:=⟨k-2,ω⟩;have hi:=Gq i;have B:=Oj i.Kids;rw [Pd,Ahy];by_cases h1:i.Num=j.Num
  .rw [if_pos h1,De h1];simp only [cond_false];rw [Xa];by_cases h2:i.Kids.length=j.Kids.length
   .rw [if_pos h2,De ω,Adb];simp only [cond_false];have:=Yz I1 i.Kids j.Kids h2 ω (step:=λv5=>bif v5<(i.Kids.length:Int) then ((Ae i.Kids v5).bind λg=>(Ae j.Kids v5).bind λf=>(Pd k g f).bind λv8=>bif (v8 != (0:Int)) then some (.inr (.inl v8)) else some (.inl (Aa (v5+1)))) else some (.inr (.inr ()))) (λq x y hx hy h1 h2 h3 D s=>by
     simp only [h1,h2,h3,s,cond_true,Ad,ih k x y (by have:=Nh (Cd hx); omega) ω ω];by_cases b:I1 x y=0
     .rw [De b,if_pos b]; rfl
     .rw [Dh b,if_neg b]; rfl) (λh=>by simp only [h]; rfl);obtain ⟨z,c,z2⟩:=this;rw [c,Ad];cases z with| inl r=>rw [z2.1]; rfl| inr u=>rw [show Ew I1 i.Kids j.Kids=0 from z2]; rfl
   .rw [if_neg h2,Dh ω,Ac5 _ _ ω]; rfl
  .rw [if_neg h1,Dh h1,Ac5 _ _ h1]; rfl
def Lp (x y:B7):Int:=D3 (D2 x.Var y.Var) (I1 x.Index y.Index)
def Mp (x y:A7):Int:=D3 (E8 x.Lin y.Lin) (D2 x.Deg y.Deg)
def C4 (a b:Ba):Int := if a.Factors.length=b.Factors.length then D3 (Ew Lp a.Factors b.Factors) (if a.Atoms.length=b.Atoms.length then Ew Mp a.Atoms b.Atoms else D2 a.Atoms.length b.Atoms.length) else D2 a.Factors.length b.Factors.length
structure D9 (m:Ba):Prop where
 nf:m.Factors.length<=1048576
 na:m.Atoms.length<=1048576
 fi:∀f∈m.Factors,Dy f.Index<=1048576
 fr:∀f∈m.Factors,iR f.Index/\I64 f.Var
 al:∀a∈m.Atoms,a.Lin.Terms.length<=1048576
theorem Apc (a b:Ba) (ha:D9 a):Pi a b=some (C4 a b):=by
 have h1:=ha.nf;have h2:=ha.na;unfold Pi C4;rw [Nj,Ad];by_cases h:a.Factors.length=b.Factors.length
 .rw [De (Fz.2 ω),if_pos h];simp only [cond_false];have:=Ac8 Xl Lp a.Factors b.Factors h ω (λj x y hx hy=>by unfold Xl Lp;rw [Nj,A0k 1048576 4000000 x.Index y.Index (ha.fi x (Cd hx)) ω ω]; simp only [Ad,Vv]);rw [show Aa6 a.Factors b.Factors=_ from this,Ad,Nj];simp only [Ad,Vv];by_cases h0:Ew Lp a.Factors b.Factors=0
  .simp only [h0,D3,if_true];by_cases h':a.Atoms.length=b.Atoms.length
   .rw [De (Fz.2 ω),if_pos h'];simp only [cond_false];have:=Ac8 Xm Mp a.Atoms b.Atoms h' ω (λj x y hx hy=>by unfold Xm Mp;rw [Nj,Ac9 x.Lin y.Lin (by have:=ha.al x (Cd hx); omega)]; simp only [Ad,Vv]);rw [show Aa7 a.Atoms b.Atoms=_ from this]; rfl
   .rw [Dh (λe=>h' (by have:=Fz.1 e; omega)),if_neg h']; rfl
  .simp only [D3,if_neg h0];rw [Dh h0]; rfl
 .rw [Dh (λe=>h (by have:=Fz.1 e; omega)),if_neg h]; rfl
theorem Y0 (a b:Ba) (ha:D9 a):Lg a b=some (C4 a b):=by
 have h1:=ha.nf;have h2:=ha.na;unfold Lg C4;by_cases h:a.Factors.length=b.Factors.length
 .rw [De ω,if_pos h];simp only [cond_false];refine Yn (Yz Lp a.Factors b.Factors h ω ?_ (λh=>by simp only [h]; rfl)) ?_
  .intro j x y hx hy h1 h2 h3 i g;simp only [h1,h2,h3,g,cond_true,Ad,A0l 1048576 4000000 x.Index y.Index (ha.fi x (Cd hx)) ω ω];by_cases c:x.Var=y.Var
   .rw [De c];have e:Lp x y=I1 x.Index y.Index:=(by unfold Lp D3; rw [if_pos (Fz.2 c)]);rw [e];by_cases hc:I1 x.Index y.Index=0
    .rw [De hc,if_pos hc]; rfl
    .rw [Dh hc,if_neg hc]; rfl
   .rw [Dh c,Ac7 _ _ c];have e:Lp x y=D2 x.Var y.Var:=(by unfold Lp D3; rw [if_neg (λe=>c (Fz.1 e))]);rw [e,if_neg (λe=>c (Fz.1 e))]; rfl
  .rintro (r | u) f
   .obtain ⟨rfl,h0⟩:=f;unfold D3; rw [if_neg h0]
   .have f:Ew Lp a.Factors b.Factors=0:=f;rw [f];simp only [D3,if_true];by_cases h':a.Atoms.length=b.Atoms.length
    .rw [De ω,if_pos h'];simp only [cond_false];refine Yn (Yz Mp a.Atoms b.Atoms h' ω ?_ (λh=>by simp only [h]; rfl)) ?_
     .intro j x y hx hy h1 h2 h3 i g;simp only [h1,h2,h3,g,cond_true,Ad,Ada x.Lin y.Lin (by have:=ha.al x (Cd hx); omega)];by_cases c:E8 x.Lin y.Lin=0
      .rw [De c];have e:Mp x y=D2 x.Deg y.Deg:=(by unfold Mp D3; rw [if_pos c]);rw [e];by_cases hc:x.Deg=y.Deg
       .rw [De hc,if_pos (Fz.2 hc)]; rfl
       .rw [Dh hc,Ac7 _ _ hc,if_neg (λe=>hc (Fz.1 e))]; rfl
      .have e:Mp x y=E8 x.Lin y.Lin:=(by unfold Mp D3; rw [if_neg c]);rw [Dh c,e,if_neg c]; rfl
     .rintro (r | u) f
      .rw [f.1]
      .rw [show Ew Mp a.Atoms b.Atoms=0 from f]
    .rw [Dh ω,if_neg h',Ac7 _ _ ω]; rfl
 .rw [Dh ω,if_neg h,Ac7 _ _ ω]; rfl
def Kg {α:Type} (f:α->Int) (l:List α) (x:α) (j:Nat):Bool:=j==0||(match l[j-1]? with | some y=>decide (f y<f x) | none=>false)
def Nk (l:List A5) (x:A5) (j:Nat):Bool:=decide (-1<=x.Var/\x.Var<3000/\x.Coef≠0/\-1048576<=x.Coef/\x.Coef<=1048576)&&Kg (·.Var) l x j
def C2 (a:Bb):Bool:=decide (-1048576<=a.Const/\a.Const<=1048576/\a.Terms.length<=16)&&a.Terms.zipIdx.all (λq=>Nk a.Terms q.1 q.2)
theorem Apd (n:Int):Uf n=some (decide (-1048576<=n/\n<=1048576)):=by unfold Uf;by_cases h:(-1048576:Int)<=n <;> simp [h]
theorem A0m (n:Int):W3 n=some (decide (-1<=n/\n<3000)):=by unfold W3;by_cases h:(-1:Int)<=n <;> simp [h]
theorem Ahz {α S E:Type} (f:α->Int) (l:List α) {x:α} {j:Nat} (hx:l[j]? = some x) (i:l.length<4611686018427387904) (c b:Option (S⊕E)) : (bif decide ((j:Int)>0) then ((Ae l (Aa ((j:Int)-1))).bind λg=>bif decide (f g>=f x) then c else b) else b)=bif Kg f l x j then b else c:=by
 have hj:=Dx hx;unfold Kg;by_cases h:j=0
 .subst h; rfl
 .rw [Aj ω];have e:Aa ((j:Int)-1)=((j-1:Nat):Int):=(by rw [Aa,Bm] <;> omega);have hy:l[j-1]? = some l[j-1]:=Bv ω;rw [e,Ce rfl hy,hy];have h0:(j==0)=false:=(by simpa using h);simp only [cond_true,Ad,h0,Bool.false_or];by_cases hc:f l[j-1]<f x
  .rw [An ω,Aj hc]; rfl
  .rw [Aj ω,An hc]; rfl
theorem Lq (a:Bb):I4 a=some (C2 a):=by
 unfold I4 C2;rw [Apd];simp only [Ad];by_cases h1 : -1048576<=a.Const/\a.Const<=1048576
 .rw [Aj h1];by_cases h2:a.Terms.length<=16
  .rw [An (by omega:¬(a.Terms.length:Int)>16),Aj ⟨h1.1,h1.2,h2⟩];simp only [Dk,cond_false,Ad,Bool.true_and];refine (Od a.Terms (λq=>Nk a.Terms q.1 q.2) (λj=>(j:Int)) rfl ω (rt:=true) (rf:=false) ?_ ?_).trans (by rw [Ml])
   .intro j x hx _ h1 h2 h3;simp only [h1,h2,h3,cond_true,Ad,A0m,Apd,Ahz (·.Var) a.Terms hx ω,Nk];by_cases g1 : -1<=x.Var/\x.Var<3000
    .by_cases g2:x.Coef=0
     .rw [Aj g1,Dw g2,An (λh=>h.2.2.1 g2)];exact ⟨(λh=>by cases h),λ_=>⟨.inl false,rfl,rfl⟩⟩
     .by_cases g3 : -1048576<=x.Coef/\x.Coef<=1048576
      .rw [Aj g1,Ch g2,Aj g3,Aj ⟨g1.1,g1.2,g2,g3.1,g3.2⟩];cases Kg (·.Var) a.Terms x j with| true=>exact ⟨λ_=>rfl,λh=>by cases h⟩| false=>exact ⟨(λh=>by cases h),λ_=>⟨.inl false,rfl,rfl⟩⟩
      .rw [Aj g1,Ch g2,An g3,An (λh=>g3 h.2.2.2)];exact ⟨(λh=>by cases h),λ_=>⟨.inl false,rfl,rfl⟩⟩
    .rw [An g1,An (λh=>g1 ⟨h.1,h.2.1⟩)];exact ⟨(λh=>by cases h),λ_=>⟨.inl false,rfl,rfl⟩⟩
   .intro h _;exact ⟨.inr (),by simp only [h]; rfl,rfl⟩
  .rw [Aj (by omega:(a.Terms.length:Int)>16),An (λh=>h2 h.2.2)]; rfl
 .rw [An h1,An (λh : -1048576<=a.Const/\a.Const<=1048576/\a.Terms.length<=16=>h1 ⟨h.1,h.2.1⟩)]; rfl
theorem Nl (a:Bb):Jn a=some (C2 a):=by
 unfold Jn C2;by_cases h2:a.Terms.length<=16
 .rw [An (by omega:¬(a.Terms.length:Int)>16)];by_cases h1 : -1048576<=a.Const
  .rw [An (by omega:¬a.Const < -1048576)];by_cases h3:a.Const<=1048576
   .rw [An (by omega:¬a.Const>1048576),Aj ⟨h1,h3,h2⟩];simp only [cond_false,Ad,Bool.true_and];refine (Od a.Terms (λq=>Nk a.Terms q.1 q.2) (λj=>(j:Int)) rfl ω (rt:=true) (rf:=false) ?_ ?_).trans (by rw [Ml])
    .intro j x hx _ h1 h2 h3;simp only [h1,h2,h3,cond_true,Ad,Ahz (·.Var) a.Terms hx ω,Nk];by_cases g1:x.Var < -1
     .rw [Aj g1,An (λh=>ω)];exact ⟨(λh=>by cases h),λ_=>⟨.inl false,rfl,rfl⟩⟩
     by_cases g2:x.Var>=3000
     .rw [An g1,Aj g2,An (λh=>ω)];exact ⟨(λh=>by cases h),λ_=>⟨.inl false,rfl,rfl⟩⟩
     by_cases g3:x.Coef=0
     .rw [An g1,An g2,Dw g3,An (λh=>ω)];exact ⟨(λh=>by cases h),λ_=>⟨.inl false,rfl,rfl⟩⟩
     by_cases g4:x.Coef < -1048576
     .rw [An g1,An g2,Ch g3,Aj g4,An (λh=>ω)];exact ⟨(λh=>by cases h),λ_=>⟨.inl false,rfl,rfl⟩⟩
     by_cases g5:x.Coef>1048576
     .rw [An g1,An g2,Ch g3,An g4,Aj g5,An (λh=>ω)];exact ⟨(λh=>by cases h),λ_=>⟨.inl false,rfl,rfl⟩⟩
     rw [An g1,An g2,Ch g3,An g4,An g5,Aj ω];cases Kg (·.Var) a.Terms x j with| true=>exact ⟨λ_=>rfl,λh=>by cases h⟩| false=>exact ⟨(λh=>by cases h),λ_=>⟨.inl false,rfl,rfl⟩⟩
    .intro h _;exact ⟨.inr (),by simp only [h]; rfl,rfl⟩
   .rw [Aj (by omega:a.Const>1048576),An (λh : -1048576<=a.Const/\a.Const<=1048576/\a.Terms.length<=16=>ω)]; rfl
  .rw [Aj (by omega:a.Const < -1048576),An (λh : -1048576<=a.Const/\a.Const<=1048576/\a.Terms.length<=16=>ω)]; rfl
 .rw [Aj (by omega:(a.Terms.length:Int)>16),An (λh : -1048576<=a.Const/\a.Const<=1048576/\a.Terms.length<=16=>ω)]; rfl
end Go.Ab
namespace Go.Ab
open Go
structure Qd (data:List A3) (vars:List Ai) (res:Ai):Prop where
 vd:Ja data
 sh:Mn data
 sz:∀v t,tyX vars res v=some t->Bo t<=200
 nv:vars.length<=3000
theorem A0n (vars:List Ai) (res:Ai) (v:Int):(tyX vars res v).isSome=decide (-1<=v/\v<vars.length):=by
 unfold tyX;by_cases h:v = -1
 .rw [if_pos h]; subst h; rw [Aj ω]; rfl
 .rw [if_neg h];cases hx:Ae vars v with
  | none=>rcases Qa hx with h' | h' <;> rw [An ω] <;> rfl
  | some t=>have:=Gj hx; rw [Aj ω]; rfl
section
variable (b1:List (ByteArray×Int)) (b2:List (ByteArray×List Cs)) (data:List A3) (vars:List Ai) (res:Ai)
theorem Ape (v:Int) (f c:Int) (b:List Ai):Rp v b1 b2 data vars f c b=some (tyX vars res v).isSome:=by
 rw [A0n];unfold Rp;by_cases h:v>=-1
 .rw [Aj h];by_cases h':v<(vars.length:Int)
  .rw [Aj h',Aj ⟨h,h'⟩]; rfl
  .rw [An h',An (λg=>h' g.2)]; rfl
 .rw [An h,An (λg : -1<=v/\v<(vars.length:Int)=>h g.1)]; rfl
theorem A0o {v:Int} {t:Ai} (ht:tyX vars res v=some t):M6 v b1 b2 data vars res.Kind res.Num res.Args=some t:=by
 unfold M6;unfold tyX at ht;by_cases h:v = -1
 .rw [if_pos h] at ht; cases ht;have b:(Ai.mk res.Kind res.Num res.Args)=res:=(by cases res; rfl);rw [Dw h,b]; rfl
 .rw [if_neg h] at ht;rw [Ch h,ht]; rfl
def Gk (t:A5):Bool:=match tyX vars res t.Var with | some u=>u.Kind==1 | none=>false
def Ea (l:Bb):Bool:=l.Terms.all (Gk vars res)
theorem Apf (l:Bb) (c:l.Terms.length<=1048576):Rm l b1 b2 data vars res.Kind res.Num res.Args=some (Ea vars res l):=by
 unfold Rm Aa5 Aa8;have key:=Anl l.Terms (λt=>!Gk vars res t) ω (J:=λz=>match z with | .inl b=>some b | .inr _=>some (-1)) (step:=λv3=>bif v3<(l.Terms.length:Int) then ((Ae l.Terms v3).bind λv4=>(Un v4 b1 b2 data vars res.Kind res.Num res.Args).bind λv5=>bif v5 then some (.inr (.inl v3)) else some (.inl (Aa (v3+1)))) else some (.inr (.inr ()))) (by intro j x hx h1 h2 h3;have e:Un x b1 b2 data vars res.Kind res.Num res.Args=some (!Gk vars res x):=(by unfold Un Gk;rw [Ape b1 b2 data vars res,Ad];cases ht:tyX vars res x.Var with| none=>rfl| some t=>rw [A0o b1 b2 data vars res ht]; rfl);simp only [h1,h2,h3,cond_true,Ad,e]) (λh=>by simp only [h]; rfl) (λ_=>rfl) rfl
 obtain ⟨i,i1,i2⟩:=key
 erw [i1];simp only [Ad,i2];congr 1;unfold Ea;rw [List.any_eq_not_all_not]; simp
theorem Apg (x:Bk) (v:Int):Pg x v=some (match tyX x.Vars x.Res v with | some t=>(t,true) | none=>(⟨0,0,[]⟩,false)):=by
 unfold Pg tyX;by_cases h:v = -1
 .rw [Dw h,if_pos h]; rfl
 .rw [Ch h,if_neg h];cases hx:Ae x.Vars v with
  | none=>
   rcases Qa hx with h' | h'
   .simp only [Aj h',cond_true,cond_false,Ad]
   .by_cases h0:v<0
    .simp only [Aj h0,cond_true,cond_false,Ad]
    .simp only [An h0,Aj (show v>=(x.Vars.length:Int) from h'),cond_true,cond_false,Ad]
  | some t=>obtain ⟨a1,a2,_⟩:=Gj hx;simp only [An (by omega:¬v<0),An (by omega:¬v>=(x.Vars.length:Int)),cond_false,Ad]
theorem Ah0 (x:Bk) (l:Bb) (b:l.Terms.length<=1048576):Pc x l=some (Ea x.Vars x.Res l):=by
 unfold Pc;refine (P4 l.Terms (Gk x.Vars x.Res) (λj=>(j:Int)) rfl ω (rt:=true) (rf:=false) ?_ ?_).trans (by rw [Ml]; rfl)
 .intro j t ht h1 h2 h3;simp only [h1,h2,h3,cond_true,Ad,Apg];unfold Gk;cases hu:tyX x.Vars x.Res t.Var with
  | none=>exact ⟨(λh=>by cases h),λ_=>⟨.inl false,rfl,rfl⟩⟩
  | some u=>
   simp only [Dk,cond_false];by_cases hk:u.Kind=1
   .rw [Dw hk,De hk];exact ⟨λ_=>rfl,λh=>by cases h⟩
   .rw [Ch hk,Dh hk];exact ⟨(λh=>by cases h),λ_=>⟨.inl false,rfl,rfl⟩⟩
 .intro h; exact ⟨.inr (),by simp only [h]; rfl,rfl⟩
def Ff (f:B7):Int:=match tyX vars res f.Var with | some t=>Gz (Hn data f.Index t) | none => -1
theorem Ah1 (f:B7) : -1<=Ff data vars res f/\Ff data vars res f<=6:=by
 unfold Ff;cases tyX vars res f.Var with
 | none=>simp
 | some t=>rcases Ahr (Hn data f.Index t) with ⟨h,_⟩ | ⟨d,_,h2,h⟩ <;> simp only [h] <;> omega
def Om (m:Ba):Bool:=m.Factors.all (λf=>decide (0<=Ff data vars res f))&&m.Atoms.all (λa=>decide (0<=a.Deg)&&Ea vars res a.Lin)
def D4 (l:List B7):Int:=(l.map (Ff data vars res)).sum
def Cb (l:List A7):Int:=(l.map (·.Deg)).sum
def Nm (l:List A7) (x:A7) (j:Nat):Bool:=j==0||(match l[j-1]? with | some y=>decide (E8 y.Lin x.Lin<0) | none=>false)
def Nn (l:List B7) (f:B7) (j:Nat):Bool:=decide (1<=Ff data vars res f)&&Kg (·.Var) l f j
def Ik (l:List A7) (a:A7) (j:Nat):Bool:=decide (1<=a.Deg)&&C2 a.Lin && !(a.Lin.Terms.length==0)&&Ea vars res a.Lin&&Nm l a j
def Hh (m:Ba):Bool:=m.Factors.zipIdx.all (λq=>Nn data vars res m.Factors q.1 q.2)&&m.Atoms.zipIdx.all (λq=>Ik vars res m.Atoms q.1 q.2)&&decide (D4 data vars res m.Factors+Cb m.Atoms<=6)
variable {b1 data vars res}
theorem Ah2 (hc:Qd data vars res) (hm:F6 data vars res b1) (f:B7) (g:I64 f.Var) (h:iR f.Index) (hi:Dy f.Index<=1048576) (b:(tyX vars res f.Var).isSome=true) : ∃c,Md f.Var f.Index b1 b2 data vars res.Kind res.Num res.Args=some (Ff data vars res f,c)/\F6 data vars res c:=by cases ht:tyX vars res f.Var with| none=>rw [ht] at b; cases b| some t=>obtain ⟨c,h1,h2⟩:=A0j hc.vd.szv hc.sh b1 b2 vars res hm f.Var f.Index t ht (hc.sz _ _ ht) g h hi;refine ⟨c,?_,h2⟩;rw [h1]; unfold Ff; rw [ht]
theorem A0p (hc:Qd data vars res) (hm:F6 data vars res b1) (m:Ba) (l:D9 m) :
  ∃s,Xk m b1 b2 data vars res.Kind res.Num res.Args=some (Om data vars res m,s)/\F6 data vars res s:=by
 have V:=l.nf
 have ha:=l.na
 unfold Xk
 refine Ab5 (λs=>(Om data vars res m,s)) ?_
 obtain ⟨r,U,N⟩:=Yo (M:=List (ByteArray×Int)) (R:=Bool×List (ByteArray×Int)) m.Factors (λq=>decide (0<=Ff data vars res q.1)) (λj o=>((j:Int),o)) (F6 data vars res)
  (λr=>F6 data vars res r.2/\r.1=m.Atoms.all (λa=>decide (0<=a.Deg)&&Ea vars res a.Lin)) (λr=>F6 data vars res r.2/\r.1=false) b1
  (s0:=((0:Int),b1))
  (step:=(λ(A,x)=>
   bif A<(m.Factors.length:Int) then (
   (Ae m.Factors A).bind λv8=>
   (Rp v8.Var x b2 data vars res.Kind res.Num res.Args).bind λB=>
   bif (!B) then some (.inr (.inl (false,x)))
   else (
   (Md v8.Var v8.Index x b2 data vars res.Kind res.Num res.Args).bind λg=>
   bif g.1<(0:Int) then some (.inr (.inl (false,g.2)))
   else some (.inl ((Aa (A+1)),g.2))))
   else some (.inr (.inr x)):Int×List (ByteArray×Int)->Option ((Int×List (ByteArray×Int))⊕((Bool×List (ByteArray×Int))⊕List (ByteArray×Int)))))
  (J:=(λz=>match z with
   | .inl (L,I)=>some (L,I)
   | .inr b=>(Al (S:=Int) (E:=((Bool×(List (ByteArray×Int)))⊕Unit)) (λc=>
     bif c<(m.Atoms.length:Int) then (
     (Ae m.Atoms c).bind λu=>
     bif u.Deg<(0:Int) then some (.inr (.inl (false,b)))
     else (
     (Rm u.Lin b b2 data vars res.Kind res.Num res.Args).bind λv21=>
     bif (!v21) then some (.inr (.inl (false,b)))
     else some (.inl (Aa (c+1)))))
     else some (.inr (.inr ()))) 0).bind λz=>match z with
      | .inl (G,D)=>some (G,D)
      | .inr _=>some (true,b)))
  rfl hm ω (by
   intro j f o y hx _ h1 h2 h3
   have k:=Cd hx
   simp only [h1,h2,h3,cond_true,Ad,Ape o b2 data vars res]
   cases i:(tyX vars res f.Var).isSome with
   | false=>
    have e:Ff data vars res f = -1:=by
     unfold Ff
     cases ht:tyX vars res f.Var with
     | none=>rfl
     | some t=>rw [ht] at i; cases i
    rw [e]
    exact ⟨(λh=>by cases h),λ_=>⟨_,rfl,_,rfl,y,rfl⟩⟩
   | true=>
    obtain ⟨s,d1,d2⟩:=Ah2 b2 hc y f (l.fr f k).2 (l.fr f k).1 (l.fi f k) i
    simp only [Dk,cond_false,d1,Ad]
    by_cases h0:0<=Ff data vars res f
    .rw [Aj h0,An ω]
     exact ⟨λ_=>⟨s,rfl,d2⟩,λh=>by cases h⟩
    .rw [An h0,Aj ω]
     exact ⟨(λh=>by cases h),λ_=>⟨_,rfl,_,rfl,d2,rfl⟩⟩) (by
   intro o y h1 _
   refine ⟨.inr o,by simp only [h1]; rfl,?_⟩
   refine ⟨(m.Atoms.all (λa=>decide (0<=a.Deg)&&Ea vars res a.Lin),o),?_,y,rfl⟩
   refine (P4 m.Atoms (λa=>decide (0<=a.Deg)&&Ea vars res a.Lin) (λj=>(j:Int)) rfl ω (rt:=(true,o)) (rf:=(false,o)) ?_ ?_).trans (by cases m.Atoms.all (λa=>decide (0<=a.Deg)&&Ea vars res a.Lin) <;> rfl)
   .intro j a hx h1 h2 h3
    simp only [h1,h2,h3,cond_true,Ad,Apf o b2 data vars res a.Lin (l.al a (Cd hx))]
    by_cases h0:0<=a.Deg
    .rw [Aj h0,An ω]
     cases Ea vars res a.Lin with
     | true=>exact ⟨λ_=>rfl,λh=>by cases h⟩
     | false=>exact ⟨(λh=>by cases h),λ_=>⟨_,rfl,rfl⟩⟩
    .rw [An h0,Aj ω]
     exact ⟨(λh=>by cases h),λ_=>⟨_,rfl,rfl⟩⟩
   .intro h; exact ⟨.inr (),by simp only [h]; rfl,rfl⟩)
 refine ⟨r,U,r.2,?_,?_⟩
 .unfold Om
  rw [<-Acd]
  rcases N with ⟨h1,h2,h3⟩ | ⟨h1,h2,h3⟩
  .rw [h1,Bool.true_and,<-h3]
  .rw [h1,Bool.false_and,<-h3]
 .rcases N with ⟨h1,h2,h3⟩ | ⟨h1,h2,h3⟩ <;> exact h2
theorem Aph (g:B7->Int) {l:List B7} {j:Nat} {x:B7} (h:l[j]? = some x):((l.take (j+1)).map g).sum=((l.take j).map g).sum+g x:=by rw [C8 h]; simp
theorem Api {l:List A7} {j:Nat} {x:A7} (h:l[j]? = some x):Cb (l.take (j+1))=Cb (l.take j)+x.Deg:=by unfold Cb; rw [C8 h]; simp
theorem A0q (hc:Qd data vars res) (hm:F6 data vars res b1) (m:Ba) (k:D9 m) (hp:Om data vars res m=true) : ∃p:Int×List (ByteArray×Int),Pq m b1 b2 data vars res.Kind res.Num res.Args=some p/\(decide (p.1>6) = !decide (D4 data vars res m.Factors+Cb m.Atoms<=6))/\F6 data vars res p.2:=by
 have B:=k.nf;have ha:=k.na;unfold Om at hp;rw [Dj,List.all_eq_true,List.all_eq_true] at hp;unfold Pq;refine Fe (λ(v5,u,g)=>∃j:Nat,u=j/\j<=m.Factors.length/\F6 data vars res g/\0<=v5/\v5<=12/\(v5=D4 data vars res (m.Factors.take j)\/(6<v5/\6<D4 data vars res (m.Factors.take j)))) (λ(_,u,_)=>m.Factors.length-u.toNat) (λ(v5,g)=>F6 data vars res g/\0<=v5/\v5<=12/\(v5=D4 data vars res m.Factors\/(6<v5/\6<D4 data vars res m.Factors))) ⟨0,rfl,ω,hm,ω,ω,.inl (by simp [D4])⟩ ?_ ?_
 .rintro ⟨v5,u,g⟩ ⟨j,rfl,hj,q,h0,h12,l⟩;rcases Nat.lt_or_ge j m.Factors.length with h | h
  .have hx:m.Factors[j]? = some m.Factors[j]:=Bv h;generalize m.Factors[j]=f at hx;have c:=Cd hx;have hd:=hp.1 f c;rw [decide_eq_true_eq] at hd;have A:=(Ah1 data vars res f).2;have es:D4 data vars res (m.Factors.take (j+1))=D4 data vars res (m.Factors.take j)+Ff data vars res f:=Aph _ hx;simp only [Aj (by omega:(j:Int)<(m.Factors.length:Int)),cond_true,Ce rfl hx,Ad,C6 h ω];by_cases s:v5<=6
   .have x:(tyX vars res f.Var).isSome=true:=by
     unfold Ff at hd;cases ht:tyX vars res f.Var with
     | none=>rw [ht] at hd; have hd:(0:Int)<=-1:=hd; omega
     | some t=>rfl
    obtain ⟨D,d1,d2⟩:=Ah2 b2 hc q f (k.fr f c).2 (k.fr f c).1 (k.fi f c) x;rw [Aj s];simp only [cond_true,d1,Ad];have b:Aa (v5+Ff data vars res f)=v5+Ff data vars res f:=(by rw [Aa,Bm] <;> omega);exact .inl ⟨_,rfl,⟨j+1,rfl,ω,d2,by simp only [b]; omega,by simp only [b]; omega,by simp only [b,es]; omega⟩,by simp; omega⟩
   .rw [An s];exact .inl ⟨_,rfl,⟨j+1,rfl,ω,q,h0,h12,by simp only [es]; omega⟩,by simp; omega⟩
  .have:j=m.Factors.length:=ω;subst this;rw [List.take_length] at l;exact .inr ⟨(v5,g),ψ,q,h0,h12,l⟩
 .rintro ⟨v5,g⟩ ⟨q,h0,h12,l⟩;simp only;refine Fe (λ(v,i)=>∃j:Nat,i=j/\j<=m.Atoms.length/\0<=v/\v<=13/\(v=D4 data vars res m.Factors+Cb (m.Atoms.take j)\/(6<v/\6<D4 data vars res m.Factors+Cb (m.Atoms.take j)))) (λ(_,i)=>m.Atoms.length-i.toNat) (λv=>(v=D4 data vars res m.Factors+Cb m.Atoms\/(6<v/\6<D4 data vars res m.Factors+Cb m.Atoms))) ⟨0,rfl,ω,h0,ω,by simpa [Cb] using l⟩ ?_ ?_
  .rintro ⟨v,i⟩ ⟨j,rfl,hj,g0,g13,z⟩;rcases Nat.lt_or_ge j m.Atoms.length with h | h
   .have hx:m.Atoms[j]? = some m.Atoms[j]:=Bv h;generalize m.Atoms[j]=a at hx;have hd:=hp.2 a (Cd hx);rw [Dj,decide_eq_true_eq] at hd;have es:=Api hx;simp only [Aj (by omega:(j:Int)<(m.Atoms.length:Int)),cond_true,Ce rfl hx,Ad,C6 h ω];by_cases s:v<=6
    .rw [Aj s];simp only [cond_true];by_cases y:7<a.Deg
     .rw [if_pos y];have b:Aa (v+7)=v+7:=(by rw [Aa,Bm] <;> omega);exact .inl ⟨_,rfl,⟨j+1,rfl,ω,by simp only [b]; omega,by simp only [b]; omega,by simp only [b,es]; omega⟩,by simp; omega⟩
     .rw [if_neg y];have b:Aa (v+a.Deg)=v+a.Deg:=(by rw [Aa,Bm] <;> omega);exact .inl ⟨_,rfl,⟨j+1,rfl,ω,by simp only [b]; omega,by simp only [b]; omega,by simp only [b,es]; omega⟩,by simp; omega⟩
    .rw [An s];exact .inl ⟨_,rfl,⟨j+1,rfl,ω,g0,g13,by simp only [es]; omega⟩,by simp; omega⟩
   .have:j=m.Atoms.length:=ω;subst this;rw [List.take_length] at z;exact .inr ⟨v,ψ,z⟩
  .intro v l;refine ⟨(v,g),rfl,?_,q⟩;by_cases h:D4 data vars res m.Factors+Cb m.Atoms<=6
   .rw [Aj h,An (by simp only; omega)]; rfl
   .rw [An h,Aj (by simp only; omega)]; rfl
end
end Go.Ab
