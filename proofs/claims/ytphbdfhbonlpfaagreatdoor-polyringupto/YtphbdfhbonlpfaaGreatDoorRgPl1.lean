/- Plain laws: what the plain functions answer. -/
import Derived.Test.YtphbdfhbonlpfaaGreatDoorRgPl0
import Derived.Lib.ItoaLen
open List
namespace Go.Ab
open Go
def isV (σ:List Af) (k n:Int):Bool:=k==4&&decide (0<=n)&&decide (n<(σ.length:Int))
mutual
def Dv (σ:List Af):Af->Af
 | ⟨k,n,l⟩=>match (if isV σ k n then σ[n.toNat]? else none) with
  | some s=>s
  | none=>⟨k,n,Qq σ l⟩
def Qq (σ:List Af):List Af->List Af
 | []=>[]
 | x::xs=>Dv σ x::Qq σ xs
end
variable {t:Af} {σ:List Af}
theorem A3r (σ l:List Af):Qq σ l=l.map (Dv σ):=by induction l with| nil=>rfl| cons x xs ih=>simp only[Qq,ih,map_cons]
theorem Afa {k n:Int} (h:isV σ k n=true):∃s,σ[n.toNat]? = some s/\Ag σ n=some s/\s∈σ:=by simp only[isV,Dz,D8]at h;have b:n.toNat < σ.length:=ω;refine⟨σ[n.toNat],B4 b,?_,getElem_mem b⟩;unfold Ag;rw[Aw ω,B4 b]
theorem Afb {s:Af} (h:isV σ t.G t.U=true) (b:σ[t.U.toNat]? = some s):Dv σ t=s:=by cases t;simp only[Dv]at *;simp[h,b]
theorem Akl (h:isV σ t.G t.U=false):Dv σ t=⟨t.G,t.U,t.R.map (Dv σ)⟩:=by cases t;simp only[Dv]at *;simp[h,A3r]
mutual
theorem Ar9:∀t:Af,Dv [] t=t
 | ⟨k,n,l⟩=>by
  have hv:isV [] k n=false:=by
   unfold isV
   by_cases h:0<=n
   .rw[As (by simp;omega:¬n<(([]:List Af).length:Int))];simp
   .rw[As h];simp
  simp only[Dv,hv,Asa l];rfl
theorem Asa:∀l:List Af,Qq [] l=l
 | []=>rfl
 | x::xs=>by simp only[Qq,Ar9 x,Asa xs]
end
mutual
theorem Akm (σ:List Af) (M:Nat) (hM:1<=M) (hσ:∀s∈σ,Bl s<=M):∀t:Af,Bl (Dv σ t)<=Bl t*M
 | ⟨k,n,l⟩=>by
  cases hv:isV σ k n with
  | true=>
   obtain⟨s,h1,_,h3⟩:=Afa hv
   rw[Afb (t:=⟨k,n,l⟩) hv h1]
   have:=hσ s h3
   have h2:=Ol ⟨k,n,l⟩
   calc Bl s<=1*M:=ω
    _<=_:=Nat.mul_le_mul_right M h2
  | false=>
   have:=Asb σ M hM hσ l
   simp only[Dv,hv,Bl]
   simp only[Bool.false_eq_true,if_false,Bl]
   rw[Nat.add_mul];omega
theorem Asb (σ:List Af) (M:Nat) (hM:1<=M) (hσ:∀s∈σ,Bl s<=M):∀l:List Af,Dd (Qq σ l)<=Dd l*M
 | []=>by simp[Qq,Dd]
 | x::xs=>by
  have h1:=Akm σ M hM hσ x
  have h2:=Asb σ M hM hσ xs
  simp only[Qq,Dd]
  rw[Nat.add_mul];omega
end
variable {a t:Af} {b:Bool} {l:List Af} {data:List Al} {r:List Bool} {j:Nat}
theorem Akn (σ:List Af) (t:Af):(bif t.G==(4:Int) then bif decide (t.U>=(0:Int)) then some (decide (t.U<(σ.length:Int))) else some false else some false)=some (isV σ t.G t.U):=by unfold isV;cases t.G==4 <;> simp;by_cases h:0<=t.U <;> simp[h]
theorem A3s:∀(k:Nat) (t:Af) (σ:List Af) (M:Nat),(∀s∈σ,Bl s<=M)->Bl t+M+1<=k->k<1099511627776->R6 k t σ=some (Dv σ t):=by
 intro k;induction k with
 | zero=>intro t σ M _ h;omega
 | succ k ih=>
  intro t σ M c h hk;have g:=Iq t;have f:=Jr t.R;rw[R6];rw[show (show OB from bif t.G==(4:Int) then bif decide (t.U>=(0:Int)) then some (decide (t.U<(σ.length:Int))) else some false else some false)=some (isV σ t.G t.U) from Akn σ t,Ad];cases b:isV σ t.G t.U with
  | true=>obtain⟨s,h1,h2,h3⟩:=Afa b;have:=c s h3;simp only[Ak,h2,Ad,Afb b h1,ih s [] 0 ψ ω ω,Ar9]
  | false=>
   rw[Akl b];simp only[Am];refine F2 t.R (λj=>((j:Int),(t.R.take j).map (Dv σ))) rfl ω ?_ ?_
   .intro j x hj hx h1 h2 h3;have:=Iw (Bq hx);simp only[h1,h2,h3,Ak,Ad,ih x σ M c ω ω];rw[Dn ζ,Ad,Db hx];simp
   .intro h1;exact⟨t.R.map (Dv σ),ψ,rfl⟩
theorem A3t:∀(k:Nat) (t:Af),Bl t<=k->k<1099511627776->Un k t=some t:=by
 intro k;induction k with
 | zero=>intro t h;have:=Ol t;omega
 | succ k ih=>
  intro t h hk;have c:=Iq t;have b:=Jr t.R;rw[Un];refine F2 t.R (λj=>((j:Int),(t.R.take j))) rfl ω ?_ ?_
  .intro j x hj hx h1 h2 h3;have:=Iw (Bq hx);simp only[h1,h2,h3,Ak,Ad,ih x ω ω];rw[Dn ζ,Ad,Db hx]
  .intro h1;exact⟨t.R,ψ,by cases t;rfl⟩
theorem A3u:∀(k:Nat) (t:Af) (σ:List Af) (M:Nat),(∀s∈σ,Bl s<=M)->M<=4000000->Bl t<=k->k<1099511627776->R4 k t σ=some (Dv σ t):=by
 intro k;induction k with
 | zero=>intro t σ M _ _ h;have:=Ol t;omega
 | succ k ih=>
  intro t σ M c i h hk;have g:=Iq t;have f:=Jr t.R;rw[R4];rw[show (show OB from bif t.G==(4:Int) then bif decide (t.U>=(0:Int)) then some (decide (t.U<(σ.length:Int))) else some false else some false)=some (isV σ t.G t.U) from Akn σ t,Ad];cases b:isV σ t.G t.U with
  | true=>obtain⟨s,h1,h2,h3⟩:=Afa b;have:=c s h3;simp only[Ak,h2,Ad,Afb b h1,A3t 4000000 s ω ω]
  | false=>
   rw[Akl b];simp only[Am];refine F2 t.R (λj=>((j:Int),(t.R.take j).map (Dv σ))) rfl ω ?_ ?_
   .intro j x hj hx h1 h2 h3;have:=Iw (Bq hx);simp only[h1,h2,h3,Ak,Ad,ih x σ M c i ω ω];rw[Dn ζ,Ad,Db hx];simp
   .intro h1;exact⟨t.R.map (Dv σ),ψ,rfl⟩
theorem A3v:∀(k:Nat) (t:Af),Bl t<=k->Bl t<1099511627776->Ul k t=some (Bl t:Int):=by
 intro k;induction k with
 | zero=>intro t h;have:=Ol t;omega
 | succ k ih=>
  intro t h ht;have b:=Iq t;have c:=Jr t.R;rw[Ul];refine F2 t.R (λj=>(1+(Dd (t.R.take j):Int),(j:Int))) rfl ω ?_ ?_
  .intro j x hj hx h1 h2 h3;have g:=Iw (Bq hx);have f:=Aaz t.R (j+1);have e:Dd (t.R.take (j+1))=Dd (t.R.take j)+Bl x:=(by rw[Db hx,Ae5];simp[Dd]);simp only[h1,h2,h3,Ak,Ad,ih x ω ω];rw[show Aa (1+(Dd (t.R.take j):Int)+(Bl x:Int))=1+(Dd (t.R.take (j+1)):Int) by rw[e,Aa,B6] <;> omega]
  .intro h1;exact⟨1+(Dd t.R:Int),ψ,by rw[b];simp⟩
theorem ξ {p:Prop} (h:p:=by rw[Aa,B6]<;>omega):p:=h
theorem A3w (σ:List Af) (M:Nat) (E:1<=M) (u:M<=1048576) (A:∀s∈σ,Bl s<=M):∀(k:Nat) (t:Af),Bl t<=k->Bl t<=1048576 -> ∃v:Nat,Um k t (σ.map λs=>(Bl s:Int))=some (v:Int)/\v<=Bl (Dv σ t)/\((v=Bl (Dv σ t))\/200<v):=by
 intro k;induction k with
 | zero=>intro t h;have:=Ol t;omega
 | succ k ih=>
  intro t h ht;have B:=Iq t;have z:=Jr t.R;have l:∀x,Bl x<=1048576->Bl (Dv σ x)<=1099511627776:=λx hx=>by have:=Akm σ M E A x;have:Bl x*M<=1048576*1048576:=Nat.mul_le_mul hx u;omega
  rw[Um];rw[show (show OB from bif t.G==(4:Int) then bif decide (t.U>=(0:Int)) then some (decide (t.U<((σ.map λs=>(Bl s:Int)).length:Int))) else some false else some false)=some (isV σ t.G t.U) by rw[Dc];exact Akn σ t,Ad];cases f:isV σ t.G t.U with
  | true=>obtain⟨s,h1,h2,h3⟩:=Afa f;have hi:Ag (σ.map λs=>(Bl s:Int)) t.U=some (Bl s:Int):=(by have:=G9 h2;rw[Br (n:=t.U.toNat) ω];simp[h1]);simp only[Ak,hi,Ad,Afb f h1];exact⟨Bl s,rfl,Nat.le_refl _,.inl rfl⟩
  | false=>
   have y:=l t ht;rw[Akl f]at y ⊢;simp only[Am];have g:Bl ⟨t.G,t.U,t.R.map (Dv σ)⟩=1+Dd (t.R.map (Dv σ)):=(by simp only[Bl]);rw[g]at y ⊢;refine Xj (λv:Nat=>(v:Int)) (Ey (λ(n,i)=>∃j:Nat,i=j/\j<=t.R.length/\n=1+(Dd ((t.R.map (Dv σ)).take j):Int)) (λ(_,i)=>t.R.length-i.toNat) (λn=>∃v:Nat,n=v/\v<=1+Dd (t.R.map (Dv σ))/\(v=1+Dd (t.R.map (Dv σ))\/200<v)) ⟨0,rfl,ω,by simp[Dd]⟩ ?_ ?_)
   .rintro⟨n,i⟩ ⟨j,rfl,hj,q⟩;have q:n=_:=q;subst q;rcases Cf j t.R.length with h'|h'
    .have hx:t.R[j]? = some t.R[j]:=B4 h';generalize t.R[j]=x at hx;have I:=Iw (Bq hx);obtain⟨v,b,v2,v3⟩:=ih x ω ω;have c:(t.R.map (Dv σ))[j]? = some (Dv σ x):=(by simp[hx]);have e:Dd ((t.R.map (Dv σ)).take (j+1))=Dd ((t.R.map (Dv σ)).take j)+Bl (Dv σ x):=(by rw[Db c,Ae5];simp[Dd]);have D:=Aaz (t.R.map (Dv σ)) (j+1);have G:Aa (1+(Dd ((t.R.map (Dv σ)).take j):Int)+(v:Int))=((1+Dd ((t.R.map (Dv σ)).take j)+v:Nat):Int):=ξ;simp only[Ao (ω:(j:Int)<(t.R.length:Int)),Ak,Br rfl hx,Ad,b,C5 h' ω,G];by_cases hb:1+Dd ((t.R.map (Dv σ)).take j)+v>200
     .rw[Ao ω];exact .inr ⟨_,rfl,_,rfl,ω,.inr hb⟩
     .rw[As ω];refine .inl ⟨_,rfl,⟨j+1,rfl,ω,?_⟩,ζ⟩;have:v=Bl (Dv σ x):=ω;subst this;rw[e];omega
    .have:j=t.R.length:=ω;subst this;refine .inr ⟨_,by simp;rfl,1+Dd (t.R.map (Dv σ)),?_,ω,.inl rfl⟩;rw[Im ψ];omega
   .rintro n ⟨v,rfl,b,v2⟩;exact⟨_,rfl,v,rfl,b,v2⟩
def Lr (data:List Al) (t:Af) (c:Int):Option (List Af) := if t.G=5 then match Ag data t.U with
  | none=>none
  | some x=>if (t.R.length:Int)=x.V then match Ag x.O c with
    | none=>none
    | some y=>if (y.R.map (Dv t.R)).all (λa=>decide (Bl a<=200)) then some (y.R.map (Dv t.R)) else none else none else none
def okL (o:Option (List Af)):List Af×Bool:=match o with|none=>([],false) | some l=>(l,true)
theorem A3x {R:Type} (data:List Al) (t:Af) (c:Int) (F:Al->Oe->Option R) (z:R) (X:Option R) (b:X=(match Ag data t.U with
   | none=>some z
   | some x=>match Ag x.O c with
    | none=>some z
    | some y=>if t.G=5/\(t.R.length:Int)=x.V then F x y else some z)):X=if t.G=5 then match Ag data t.U with
  | none=>some z
  | some x=>if (t.R.length:Int)=x.V then match Ag x.O c with
    | none=>some z
    | some y=>F x y else some z else some z:=by
 subst b;by_cases h:t.G=5
 .rw[Aw h];cases Ag data t.U with
  | none=>rfl
  | some x=>
   simp only;by_cases h':(t.R.length:Int)=x.V
   .rw[Aw h'];cases Ag x.O c with| none=>rfl| some y=>simp[h,h']
   .rw[Au h'];cases Ag x.O c with| none=>rfl| some y=>simp[h']
 .rw[Au h];cases Ag data t.U with
  | none=>rfl
  | some x=>simp only;cases Ag x.O c with| none=>rfl| some y=>simp[h]
def Szv (data:List Al):Prop:=∀x∈data,∀y∈x.O,y.R.length<=6/\∀a∈y.R,Bl a<=200
theorem Hx.szv (h:Hx data):Szv data:=by
 intro x hx y hy;obtain⟨d,hd⟩:=Hu hx;have h1:=h.2.1 d x hd;obtain⟨_,c2,c3⟩:=h1.2.2.2.2.2 y hy;refine⟨c2,λa ha=>?_⟩;have:=I5.1 c3 a ha;unfold Lq at this;rw[Bool.or_eq_true]at this;rcases this with h'|h'
 .exact (Ar2 hd h1.2.1 h').2
 .simp only[Dz,D8]at h';exact h'.2
theorem A3y (ht:Bl t<=200) (ha:Bl a<=200):Bl (Dv t.R a)<=40000:=by have h1:=Akm t.R 200 ω (λs b=>by have:=Iw b;have:=Iq t;omega) a;have:Bl a*200<=200*200:=Nat.mul_le_mul_right 200 ha;omega
theorem Asd (B:Szv data) (t:Af) (ht:Bl t<=200) (c:Int):Uh data t c=some (okL (Lr data t c)):=by
 have G:Uh data t c=_:=A3x data t c (λx y=>(An (S:=(Int×List Af)) (E:=((List Af×Bool)⊕List Af)) (λ(v22,f)=>
   bif v22<(y.R.length:Int) then (
   (Ag y.R v22).bind λv24=>
   (R4 (4000000) v24 t.R).bind λv26=>
   (Qd (4000000) v26).bind λv28=>
   bif v28>(200:Int) then some (.inr (.inl ([],false)))
   else (
   (Ca 40 f [v26]).bind λu=>
   some (.inl ((Aa (v22+1)),u))))
   else some (.inr (.inr f))) (0,[])).bind λz=>
   match z with
   | .inl (l,k)=>some (l,k)
   | .inr q=>some (q,true)) ([],false) _ (by
  unfold Uh
  by_cases hk:t.G=5
  .simp only[Ea hk,Am]
   cases hx:Ag data t.U with
   | none=>
    rcases Sd hx with h|h
    .simp only[Ao h,Ak,Ad]
    .by_cases h':t.U<0
     .simp only[Ao h',Ak,Ad]
     .simp only[As h',Ao (show t.U>=(data.length:Int) from h),Ak,Am,Ad]
   | some x=>
    obtain⟨a1,a2,_,_⟩:=G9 hx
    simp only[As (ω:¬t.U<0),As (ω:¬t.U>=(data.length:Int)),Am,Ad]
    by_cases b:(t.R.length:Int)=x.V
    .simp only[Ea b,Am]
     cases hy:Ag x.O c with
     | none=>
      rcases Sd hy with h|h
      .simp only[Ao h,Ak,Ad]
      .by_cases h':c<0
       .simp only[Ao h',Ak,Ad]
       .simp only[As h',Ao (show c>=(x.O.length:Int) from h),Ak,Am,Ad]
     | some y=>
      obtain⟨b1,b2,_,_⟩:=G9 hy
      simp only[As (ω:¬c<0),As (ω:¬c>=(x.O.length:Int)),Am,Ad,hk,b,and_self,if_true]
      rfl
    .simp only[D9 b,Ak,Ad]
     cases hy:Ag x.O c with
     | none=>rfl
     | some y=>simp[b]
  .simp only[D9 hk,Ak,Ad]
   cases hx:Ag data t.U with
   | none=>rfl
   | some x=>
    simp only
    cases hy:Ag x.O c with
    | none=>rfl
    | some y=>simp[hk])
 rw[G]
 unfold Lr
 by_cases hk:t.G=5
 .rw[Aw hk,Aw hk]
  cases hx:Ag data t.U with
  | none=>rfl
  | some x=>
   simp only
   by_cases b:(t.R.length:Int)=x.V
   .rw[Aw b,Aw b]
    cases hy:Ag x.O c with
    | none=>rfl
    | some y=>
     simp only
     obtain⟨I,i⟩:=B x (G9 hx).2.2.2 y (G9 hy).2.2.2
     refine (Sc (rt:=(y.R.map (Dv t.R),true)) (rf:=([],false)) y.R (λa=>decide (Bl (Dv t.R a)<=200)) (λj=>((j:Int),(y.R.take j).map (Dv t.R))) rfl ω ?_ ?_).trans ?_
     .intro j a ha h1 h2 h3
      have hj:=Eh ha
      have A:=i a (Bq ha)
      have J:=A3y ht A
      simp only[h1,h2,h3,Ak,Ad,A3u 4000000 a t.R 200 (λs D=>by have:=Iw D;have:=Iq t;omega) ω ω ω,Arv 4000000 (Dv t.R a) ω ω]
      by_cases hb:Bl (Dv t.R a)<=200
      .rw[Ao hb,As ω]
       refine⟨λ_=>?_,λh=>by cases h⟩
       rw[Dn ζ]
       simp only[Am,Ad]
       rw[Db ha];simp
      .rw[As hb,Ao ω]
       exact⟨nofun,λ_=>⟨_,rfl,rfl⟩⟩
     .intro h1
      exact⟨.inr (y.R.map (Dv t.R)),ψ,rfl⟩
     .rw[all_map]
      cases g:y.R.all ((λa=>decide (Bl a<=200)) ∘ Dv t.R) with
      | true=>rw[Aw rfl];rw[show (y.R.all λa=>decide (Bl (Dv t.R a)<=200))=true from g];rfl
      | false=>rw[show (y.R.all λa=>decide (Bl (Dv t.R a)<=200))=false from g];rfl
   .rw[Au b,Au b];rfl
 .rw[Au hk,Au hk];rfl
theorem Ako (B:Szv data) (t:Af) (ht:Bl t<=200) (c:Int):Ui data t c=some (okL (Lr data t c)):=by
 have D:=Iq t;have u:=Jr t.R;unfold Ui Lr;by_cases hk:t.G=5
 .simp only[Ea hk,Am,Aw hk];cases hx:Ag data t.U with
  | none=>
   rcases Sd hx with h|h
   .simp only[Ao h,Ak,Ad,okL]
   .by_cases h':t.U<0
    .simp only[Ao h',Ak,Ad,okL]
    .simp only[As h',Ao (show t.U>=(data.length:Int) from h),Ak,Am,Ad,okL]
  | some x=>
   obtain⟨a1,a2,_,hxm⟩:=G9 hx;simp only[As (ω:¬t.U<0),As (ω:¬t.U>=(data.length:Int)),Am,Ad];by_cases g:(t.R.length:Int)=x.V
   .simp only[Ea g,Am,Aw g];cases hy:Ag x.O c with
    | none=>
     rcases Sd hy with h|h
     .simp only[Ao h,Ak,Ad,okL]
     .by_cases h':c<0
      .simp only[Ao h',Ak,Ad,okL]
      .simp only[As h',Ao (show c>=(x.O.length:Int) from h),Ak,Am,Ad,okL]
    | some y=>
     obtain⟨b1,b2,_,k⟩:=G9 hy;obtain⟨I,b⟩:=B x hxm y k;simp only[As (ω:¬c<0),As (ω:¬c>=(x.O.length:Int)),Am,Ad];rw[Lm (n:=t.R.length) (c:=t.R.length) rfl rfl ω ω ω,Ad];refine F2 t.R (λj=>((j:Int),((t.R.take j).map λs=>(Bl s:Int))++replicate (t.R.length-j) 0)) rfl ω ?_ ?_
     .intro j s hj i h1 h2 h3;have:=Iw (Bq i);obtain⟨m,E⟩:∃m,t.R.length-j=m+1:=⟨t.R.length-j-1,ω⟩;have G:t.R.length-(j+1)=m:=ω;have l:j=((t.R.take j).map λs=>(Bl s:Int)).length:=ζ;simp only[h1,h2,h3,Ak,Ad,A3v 4000000 s ω ω,E,G,replicate_succ,Akg _ _ _ (j:Int) j rfl l,Akf _ _ _ _ (j:Int) j rfl l,Db i];simp
     .intro h1;refine⟨t.R.map λs=>(Bl s:Int),ψ,?_⟩;have q:∀s∈t.R,Bl s<=200:=λs i=>by have:=Iw i;omega
      refine (Sc (rt:=(y.R.map (Dv t.R),true)) (rf:=([],false)) y.R (λa=>decide (Bl (Dv t.R a)<=200)) (λj=>(j:Int)) rfl ω ?_ ?_).trans ?_
      .intro j a ha h1 h2 h3;have A:=b a (Bq ha);obtain⟨v,z,v2,v3⟩:=A3w t.R 200 ω ω q 4000000 a ω ω;simp only[h1,h2,h3,Ak,Ad,z];by_cases hb:Bl (Dv t.R a)<=200
       .rw[Ao hb,As ω];exact⟨λ_=>rfl,λh=>by cases h⟩
       .rw[As hb,Ao ω];exact⟨nofun,λ_=>⟨_,rfl,rfl⟩⟩
      .intro h1;refine⟨.inr (),ψ,?_⟩;simp only;refine F2 y.R (λj=>((j:Int),(y.R.take j).map (Dv t.R))) rfl ω ?_ ?_
       .intro j a hj ha h1 h2 h3;have A:=b a (Bq ha);simp only[h1,h2,h3,Ak,Ad,A3s 4000000 a t.R 200 q ω ω];rw[Dn ζ,Ad,Db ha];simp
       .intro h1;exact⟨y.R.map (Dv t.R),ψ,rfl⟩
      .rw[all_map];cases f:y.R.all ((λa=>decide (Bl a<=200)) ∘ Dv t.R) with| true=>rw[Aw rfl];rw[show (y.R.all λa=>decide (Bl (Dv t.R a)<=200))=true from f];rfl| false=>rw[show (y.R.all λa=>decide (Bl (Dv t.R a)<=200))=false from f];rfl
   .simp only[D9 g,Ak,Ad,Au g,okL]
 .simp only[D9 hk,Ak,Ad,Au hk,okL]
theorem Sf {c:Int} (h:Lr data t c=some l) : ∃x y,t.G=5/\Ag data t.U=some x/\(t.R.length:Int)=x.V/\Ag x.O c=some y/\l=y.R.map (Dv t.R)/\∀a∈l,Bl a<=200:=by
 unfold Lr at h;by_cases hk:t.G=5
 .rw[Aw hk]at h;cases hx:Ag data t.U with
  | none=>rw[hx]at h;cases h
  | some x=>
   rw[hx]at h;simp only at h;by_cases f:(t.R.length:Int)=x.V
   .rw[Aw f]at h;cases hy:Ag x.O c with
    | none=>rw[hy]at h;cases h
    | some y=>
     rw[hy]at h;simp only at h;by_cases b:(y.R.map (Dv t.R)).all (λa=>decide (Bl a<=200))=true
     .rw[Aw b]at h;cases h;refine⟨x,y,hk,rfl,f,hy,rfl,λa ha=>?_⟩;have:=I5.1 b a ha;simpa using this
     .rw[Au b]at h;cases h
   .rw[Au f]at h;cases h
 .rw[Au hk]at h;cases h
def Hq (l:List Af) (r:List Bool):List Af:=((l.zip r).filter λp=>!p.2).map (·.1)
def Gu (data:List Al) (t:Af) (c:Int):Option (List Af):=(Lr data t c).map λl=>Hq l (G8 data t.U c)
theorem Aa3 {c:Int} (h:Lr data t c=some l):(G8 data t.U c).length=l.length:=by obtain⟨x,y,_,hx,_,hy,rfl,_⟩:=Sf h;unfold G8;simp only[hx,hy,Dc]
theorem Afc (h1:l[j]? = some a) (h2:r[j]? = some b):Hq (l.take (j+1)) (r.take (j+1))=Hq (l.take j) (r.take j)++bif b then [] else [a]:=by unfold Hq;have f:=Eh h1;have c:=Eh h2;rw[Db h1,Db h2,zip_append ζ];cases b <;> simp
theorem Aa4 (l:List Af) (r:List Bool):(Hq l r).length<=l.length:=by unfold Hq;rw[Dc];refine Nat.le_trans (length_filter_le _ _) ?_;rw[length_zip];omega
theorem Afd (f:Szv data) (h:Kv data) (t:Af) (ht:Bl t<=200) (c:Int):W6 data t c=some (okL (Gu data t c)):=by
 unfold W6 Gu;rw[Ako f t ht c,Ad];cases hf:Lr data t c with
 | none=>rfl
 | some l=>
  have i:=Aa3 hf;obtain⟨x,y,_,hx,_,hy,q,_⟩:=Sf hf;obtain⟨g,_⟩:=f x (G9 hx).2.2.2 y (G9 hy).2.2.2;have k:l.length<=6:=(by rw[q];simpa using g);simp only[okL,Eg,Am,Ae8 data t.U c h,Ad,Option.map_some];refine F2 (G8 data t.U c) (λj=>((j:Int),Hq (l.take j) ((G8 data t.U c).take j))) (by simp[Hq]) ω ?_ ?_
  .intro j b hj hb h1 h2 h3;have ha:l[j]? = some l[j]:=B4 ω;generalize l[j]=a at ha;have s:=Aa4 (l.take j) ((G8 data t.U c).take j);have:(l.take j).length<=6:=ζ;simp only[h1,h2,h3,Ak,Ad,Br rfl ha,Afc ha hb];rw[Dn ζ];cases b <;> simp
  .intro h1;refine⟨Hq l (G8 data t.U c),?_,rfl⟩;simp only[h1];rw[Im ω,Im (Nat.le_refl _)];rfl
def Ng (r:List Bool):List Int:=(r.zipIdx.filter λp=>!p.1).map λp=>(p.2:Int)
def Ux (r:List Bool):List Int:=(r.zipIdx.filter λp=>p.1).map λp=>(p.2:Int)
theorem Akp (h:r[j]? = some b):(r.take (j+1)).zipIdx=(r.take j).zipIdx++[(b,j)]:=by have:=Eh h;rw[Db h,zipIdx_append];simp;omega
theorem A3z (f:Szv data) (h:Kv data) (t:Af) (ht:Bl t<=200) (c:Int) (hf:Lr data t c=some l):Aag data t c=some (Ng (G8 data t.U c),Ux (G8 data t.U c),true):=by
 unfold Aag;have i:=Aa3 hf;obtain⟨x,y,_,hx,_,hy,q,_⟩:=Sf hf;obtain⟨g,_⟩:=f x (G9 hx).2.2.2 y (G9 hy).2.2.2;have k:l.length<=6:=by rw[q];simpa using g
 rw[Asd f t ht c,hf,Ad];simp only[okL,Eg,Am,A2v data t.U c h,Ad];generalize G8 data t.U c=r at *;refine F2 r (λj=>((j:Int),Ng (r.take j),Ux (r.take j))) (by simp[Ng,Ux]) ω ?_ ?_
 .intro j b hj hb h1 h2 h3;have u:(Ng (r.take j)).length<=6:=(by unfold Ng;rw[Dc];refine Nat.le_trans (length_filter_le _ _) ?_;simp;omega);have s:(Ux (r.take j)).length<=6:=(by unfold Ux;rw[Dc];refine Nat.le_trans (length_filter_le _ _) ?_;simp;omega);simp only[h1,h2,h3,Ak,Ad];rw[Dn ζ,Dn ζ];unfold Ng Ux;rw[Akp hb];cases b <;> simp
 .intro h1;exact⟨(Ng r,Ux r),ψ,rfl⟩
theorem A30 (h:r.length=l.length):∀(j:Nat) (a:Int),(Ng r)[j]? = some a->∃x,Ag l a=some x/\(Hq l r)[j]? = some x:=by
 intro j a ha;have e:Hq l r=(r.zipIdx.filter λp=>!p.1).map λp=>(l[p.2]?).getD ⟨0,0,[]⟩:=by unfold Hq;have key:∀n,n<=r.length->(((l.take n).zip (r.take n)).filter λp=>!p.2).map (·.1)=((r.take n).zipIdx.filter λp=>!p.1).map λp=>(l[p.2]?).getD ⟨0,0,[]⟩:=(by intro n;induction n with| zero=>intro _;simp| succ n ih=>intro g;have h1:l[n]? = some l[n]:=B4 ω;have h2:r[n]? = some r[n]:=B4 ω;have:=Afc h1 h2;unfold Hq at this;rw[this,ih ω,Akp h2];cases r[n] <;> simp[h1]);have:=key r.length (Nat.le_refl _);rw[Im ω,Im (Nat.le_refl _)]at this;exact this
 unfold Ng at ha;rw[getElem?_map]at ha;cases hp:(r.zipIdx.filter λp=>!p.1)[j]? with| none=>rw[hp]at ha;cases ha| some p=>rw[hp]at ha;cases ha;have c:=Bq hp;rw[mem_filter]at c;have b:r[p.2]? = some p.1:=mk_mem_zipIdx_iff_getElem?.1 c.1;have f:=Eh b;have hx:l[p.2]? = some l[p.2]:=B4 ω;refine⟨l[p.2],Br rfl hx,?_⟩;rw[e,getElem?_map,hp];simp[hx]
theorem A31 (h:r.length=l.length):(Ng r).length=(Hq l r).length:=by
 unfold Ng Hq;simp only[Dc];have key:∀n,n<=r.length->(((l.take n).zip (r.take n)).filter λp=>!p.2).length=((r.take n).zipIdx.filter λp=>!p.1).length:=by intro n;induction n with| zero=>intro _;simp| succ n ih=>intro b;have h1:l[n]? = some l[n]:=B4 ω;have h2:r[n]? = some r[n]:=B4 ω;rw[Akp h2,Db h1,Db h2,zip_append ζ,filter_append,E4,ih ω,filter_append,E4];cases r[n] <;> simp
 have:=key r.length (Nat.le_refl _);rw[Im ω,Im (Nat.le_refl _)]at this;exact this.symm
theorem Afe (g:Szv data) (i:Kv data) (t:Af) (ht:Bl t<=200) (c:Int):W3 data t c=some (okL (Gu data t c)):=by
 unfold W3 Gu;rw[Asd g t ht c,Ad];cases hf:Lr data t c with
 | none=>rfl
 | some l=>
  have f:=Aa3 hf;obtain⟨x,y,_,hx,_,hy,s,_⟩:=Sf hf;obtain⟨h,_⟩:=g x (G9 hx).2.2.2 y (G9 hy).2.2.2;have q:l.length<=6:=(by rw[s];simpa using h);simp only[okL,Eg,Am,A3z g i t ht c hf,Ad,Option.map_some];generalize G8 data t.U c=r at *;have k:=A31 f;have u:=Aa4 l r;refine F2 (Ng r) (λj=>((j:Int),(Hq l r).take j)) ψ ω ?_ ?_
  .intro j b hj hb h1 h2 h3;obtain⟨a,a1,a2⟩:=A30 f j b hb;simp only[h1,h2,h3,Ak,Ad,a1];rw[Dn ζ,Ad,Db a2]
  .intro h1;refine⟨Hq l r,?_,rfl⟩;simp only[h1];rw[Im ω];rfl
theorem Aff {c:Int} (h:Gu data t c=some l):(∀a∈l,Bl a<=200)/\∃x,Ag data t.U=some x/\0<=c/\c<x.O.length:=by unfold Gu at h;cases hf:Lr data t c with| none=>rw[hf]at h;cases h| some m=>rw[hf]at h;cases h;obtain⟨x,y,_,hx,_,hy,_,f⟩:=Sf hf;refine⟨λa ha=>?_,x,hx,(G9 hy).1,(G9 hy).2.1⟩;unfold Hq at ha;obtain⟨p,b,rfl⟩:=mem_map.1 ha;exact f _ (of_mem_zip (mem_filter.1 b).1).1
mutual
def Bo:Ai->Nat
 | ⟨_,l⟩=>1+B7 l
def B7:List Ai->Nat
 | []=>0
 | x::xs=>Bo x+B7 xs
end
theorem Eb (t:Ai):Bo t=1+B7 t.K:=by cases t;simp only[Bo]
theorem Jt {l:List Ai} {a:Ai} (h:a∈l):Bo a<=B7 l:=by
 induction l with
 | nil=>cases h
 | cons x xs ih=>
  simp only[B7];rcases E8.1 h with rfl|h
  .omega
  .have:=ih h;omega
theorem L9 (l:List Ai):l.length<=B7 l:=by induction l with| nil=>simp| cons x xs ih=>simp only[B7,Ed];have:=Eb x;omega
mutual
def C3 (data:List Al):Ai->Af->Option Nat
 | ⟨n,kids⟩,t=>
  if t.G=6 then (if n=0 then Ch data kids t.R else none)
  else if t.G=7 then (if 0<=n/\n<=6/\kids.length=0 then some n.toNat else none)
  else if t.G=5 then (if n=0 then Fo data kids t else none)
  else if n=0/\kids.length=0 then some 0 else none
def Ch (data:List Al):List Ai->List Af->Option Nat
 | [],[]=>some 0
 | i::is,t::ts=>(C3 data i t).bind λa=>(Ch data is ts).map (a + ·)
 | [],_::_=>none
 | _::_,[]=>none
def Fo (data:List Al):List Ai->Af->Option Nat
 | [],_=>some 0
 | ⟨n,kids⟩::es,t=>(Gu data t n).bind λts=>(Ch data kids ts).bind λa=>(Fo data es t).map (1+a + ·)
end
variable {m n:Int} {data:List Al} {d:Nat}
theorem Kh (data:List Al) (i:Ai) (t:Af):C3 data i t=if t.G=6 then (if i.U=0 then Ch data i.K t.R else none) else if t.G=7 then (if 0<=i.U/\i.U<=6/\i.K.length=0 then some i.U.toNat else none) else if t.G=5 then (if i.U=0 then Fo data i.K t else none) else if i.U=0/\i.K.length=0 then some 0 else none:=by cases i;simp only[C3]
theorem Sg (data:List Al) (e:Ai) (es:List Ai) (t:Af):Fo data (e::es) t=(Gu data t e.U).bind λts=>(Ch data e.K ts).bind λa=>(Fo data es t).map (1+a + ·):=by cases e;simp only[Fo]
theorem Lt (data:List Al) (i:Ai) (is:List Ai) (t:Af) (ts:List Af):Ch data (i::is) (t::ts)=(C3 data i t).bind λa=>(Ch data is ts).map (a + ·):=by simp only[Ch]
theorem Afg (data:List Al):∀(is:List Ai) (ts:List Af),ts.length≠is.length->Ch data is ts=none
 | [],[],h=>absurd rfl h
 | i::is,t::ts,h=>by rw[Lt,Afg data is ts (by simpa using h)];cases C3 data i t <;> rfl
 | [],_::_,_=>by simp only[Ch]
 | _::_,[],_=>by simp only[Ch]
theorem Uy (data:List Al):∀(es:List Ai) (t:Af) (d:Nat),Fo data es t=some d->es.length<=d
 | [],_,_,_=>ψ
 | e::es,t,d,h=>by
  rw[Sg]at h;cases h1:Gu data t e.U with
  | none=>rw[h1]at h;cases h
  | some ts=>
   rw[h1,Ad]at h;cases h2:Ch data e.K ts with
   | none=>rw[h2]at h;cases h
   | some a=>rw[h2,Ad]at h;cases h3:Fo data es t with| none=>rw[h3]at h;cases h| some b=>rw[h3]at h;cases h;have:=Uy data es t b h3;simp only[Ed];omega
def Hy (o:Option Nat):Int:=match o with|some d=>if d<=6 then (d:Int) else -1|none => -1
theorem Qs (h:d<=6):Hy (some d)=d:=by simp[Hy,h]
theorem Akq (h:6<d):Hy (some d) = -1:=by simp only[Hy];rw[Au ω]
theorem Afh (o:Option Nat):(Hy o = -1/\∀d,o=some d->6<d)\/∃d,o=some d/\d<=6/\Hy o=d:=by
 cases o with
 | none=>exact .inl ⟨rfl,λd h=>by cases h⟩
 | some d=>
  rcases Cf 6 d with h|h
  .exact .inl ⟨Akq h,λe he=>by cases he;exact h⟩
  .exact .inr ⟨d,rfl,h,Qs h⟩
theorem Uz {o:Option Nat} (h:∀d,o=some d->6<d):Hy o = -1:=by cases o with| none=>rfl| some d=>exact Akq (h d rfl)
def Pr (p:Int×Bool) (o:Option Nat):Prop:=(p.2=true/\∃d:Nat,o=some d/\d<=6/\p.1=d)\/(p.2=false/\∀d,o=some d->6<d)
theorem Lu {α:Type} {l:List α} {j:Nat} {x:α} (h:l[j]? = some x):l.drop j=x::l.drop (j+1):=by have hj:=Eh h;rw[drop_eq_getElem_cons hj];rw[B4 hj]at h;rw[Ew h]
theorem A32 (J:Szv data) (L:Kv data):∀k:Nat, (∀(i:Ai) (t:Af),2*Bo i<=k->Bo i<=1048576->Bl t<=200->∃p,Ry k data t i=some p/\Pr p (C3 data i t)) /\ (∀(is:List Ai) (ts:List Af),2*B7 is+1<=k->B7 is<=1048576->(∀t∈ts,Bl t<=200)->∃p,R0 k data ts is=some p/\Pr p (Ch data is ts)):=by
 intro k;induction k with
 | zero=>exact⟨λi t h=>by have:=Eb i;omega,λis ts h=>ω⟩
 | succ k ih=>
  obtain⟨X,G⟩:=ih;constructor
  .intro i t hk hi ht;have a6:=Eb i;have Y:=L9 i.K;rw[Ry,Kh];by_cases N:t.G=6
   .simp only[Fm N,Ak,Aw N];by_cases h0:i.U=0
    .simp only[Ea h0,Am,Aw h0];obtain⟨p,p1,p2⟩:=G i.K t.R ω ω (λa ha=>by have:=Iw ha;have:=Iq t;omega);rw[p1];exact⟨p,rfl,p2⟩
    .simp only[D9 h0,Ak,Au h0];exact⟨_,rfl,.inr ⟨rfl,λd h=>by cases h⟩⟩
   .simp only[Cy N,Am,Au N];by_cases M:t.G=7
    .simp only[Fm M,Ak,Aw M];by_cases a1:0<=i.U
     .by_cases a2:i.U<=6
      .by_cases a3:i.K.length=0
       .rw[Ao (show i.U>=0 from a1),Ao a2,Aw ⟨a1,a2,a3⟩];exact⟨_,rfl,.inl ⟨by simp[a3],i.U.toNat,rfl,ω,ζ⟩⟩
       .rw[Ao (show i.U>=0 from a1),Ao a2,Au (λh=>a3 h.2.2)];exact⟨_,rfl,.inr ⟨Cy ω,λd h=>by cases h⟩⟩
      .rw[Ao (show i.U>=0 from a1),As a2,Au (λh=>a2 h.2.1)];exact⟨_,rfl,.inr ⟨rfl,λd h=>by cases h⟩⟩
     .rw[As (show ¬i.U>=0 from a1),Au (λh=>a1 h.1)];exact⟨_,rfl,.inr ⟨rfl,λd h=>by cases h⟩⟩
    .simp only[Cy M,Am,Au M];by_cases R:t.G=5
     .simp only[Fm R,Ak,Aw R];by_cases h0:i.U=0
      .simp only[Ea h0,Am,Aw h0];have key:∀(m j acc:Nat),j+m=i.K.length->acc<=6->∃z,An (S:=(Int×Int)) (E:=((Int×Bool)⊕Int)) (λ(v8,v9)=>
         bif v9<(i.K.length:Int) then ((Ag i.K v9).bind λl=> (W6 data t l.U).bind λv12=> bif (!v12.2) then some (.inr (.inl (0,false))) else ((R0 k data v12.1 l.K).bind λA=> bif (!A.2) then some (.inr (.inl (0,false))) else (bif (Aa (v8+(Aa (1+A.1))))>(6:Int) then some (.inr (.inl (0,false))) else some (.inl ((Aa (v8+(Aa (1+A.1)))),(Aa (v9+1))))))) else some (.inr (.inr v8))) ((acc:Int),(j:Int))=some z/\(match z with|.inl p=>p=(0,false)/\∀d,(Fo data (i.K.drop j) t).map (acc + ·)=some d->6<d | .inr v=>∃d:Nat,(Fo data (i.K.drop j) t).map (acc + ·)=some d/\d<=6/\v=d):=by
        intro m;induction m with
        | zero=>intro j acc hj c;have:j=i.K.length:=ω;subst this;exact⟨.inr (acc:Int),Fg ψ,acc,by simp[Fo],c,rfl⟩
        | succ m s=>
         intro j acc hj c;have he:i.K[j]? = some i.K[j]:=B4 ω;generalize i.K[j]=e at he;have Z:=Jt (Bq he);have a7:=Eb e;rw[Lu he,Sg];cases hp:Gu data t e.U with
         | none=>refine⟨.inl (0,false),Fg ?_,rfl,λd h=>by simp at h⟩;simp only[Ao (ω:(j:Int)<(i.K.length:Int)),Ak,Br rfl he,Ad,Afd J L t ht e.U,hp,okL,Bool.not_false]
         | some ts=>
          obtain⟨q,D,f⟩:=G e.K ts ω ω (Aff hp).1;rcases f with⟨f,a,x,q4,V⟩|⟨f,x⟩
          .have U:Aa ((acc:Int)+Aa (1+q.1))=((acc+(1+a):Nat):Int):=(by rw[V,show Aa (1+(a:Int))=((1+a:Nat):Int) by rw[Aa,B6] <;> omega,Aa,B6] <;> omega);by_cases hb:acc+(1+a)<=6
           .obtain⟨z,g,z2⟩:=s (j+1) (acc+(1+a)) ω hb;refine⟨z,?_,?_⟩
            .rw[Ks (s':=(((acc+(1+a):Nat):Int),((j+1:Nat):Int)))]
             .exact g
             .simp only[Ao (ω:(j:Int)<(i.K.length:Int)),Ak,Br rfl he,Ad,Afd J L t ht e.U,hp,okL,Eg,Am,D,f,U,As (ω:¬((acc+(1+a):Nat):Int)>6),C5 (show j<i.K.length by omega) ω]
            .have B:∀o:Option Nat,(((some a:Option Nat).bind λa=>o.map (1+a + ·)).map (acc + ·))=o.map (acc+(1+a) + ·):=(by intro o;cases o <;> simp[Nat.add_assoc]);rw[Ad,x,B];exact z2
           .refine⟨.inl (0,false),Fg ?_,rfl,λd h=>?_⟩
            .simp only[Ao (ω:(j:Int)<(i.K.length:Int)),Ak,Br rfl he,Ad,Afd J L t ht e.U,hp,okL,Eg,Am,D,f,U,Ao (ω:((acc+(1+a):Nat):Int)>6)]
            .rw[Ad,x,Ad]at h;cases y:Fo data (i.K.drop (j+1)) t with| none=>rw[y]at h;cases h| some b=>rw[y]at h;simp at h;omega
          .refine⟨.inl (0,false),Fg ?_,rfl,λd h=>?_⟩
           .simp only[Ao (ω:(j:Int)<(i.K.length:Int)),Ak,Br rfl he,Ad,Afd J L t ht e.U,hp,okL,Eg,Am,D,f,Bool.not_false]
           .rw[Ad]at h;cases ha:Ch data e.K ts with
            | none=>rw[ha]at h;cases h
            | some a=>rw[ha,Ad]at h;have:=x a ha;cases y:Fo data (i.K.drop (j+1)) t with| none=>rw[y]at h;cases h| some b=>rw[y]at h;simp at h;omega
       obtain⟨z,g,z2⟩:=key i.K.length 0 0 ω ω;have g:An _ ((0:Int),(0:Int))=some z:=g;rw[g,Ad];have B:∀o:Option Nat,o.map (0 + ·)=o:=(by intro o;cases o <;> simp);rw[drop_zero,B]at z2
       match z,z2 with| .inl p,z2=>exact⟨_,rfl,.inr ⟨by rw[z2.1],z2.2⟩⟩| .inr v,z2=>obtain⟨d,d1,d2,d3⟩:=z2;exact⟨_,rfl,.inl ⟨rfl,d,d1,d2,d3⟩⟩
      .simp only[D9 h0,Ak,Au h0];exact⟨_,rfl,.inr ⟨rfl,λd h=>by cases h⟩⟩
     .simp only[Cy R,Am,Au R];by_cases h0:i.U=0
      .simp only[Fm h0,Ak];by_cases a3:i.K.length=0
       .rw[Aw ⟨h0,a3⟩];exact⟨_,rfl,.inl ⟨by simp[a3],0,rfl,ω,rfl⟩⟩
       .rw[Au (λh=>a3 h.2)];exact⟨_,rfl,.inr ⟨Cy ω,λd h=>by cases h⟩⟩
      .simp only[Cy h0,Am];rw[Au (λh=>h0 h.1)];exact⟨_,rfl,.inr ⟨rfl,λd h=>by cases h⟩⟩
  .intro is ts hk hi ht;have Y:=L9 is;rw[R0];by_cases hl:ts.length=is.length
   .rw[Ea ω];simp only[Am];have key:∀(m j acc:Nat),j+m=is.length->acc<=6*j->∃z,An (S:=(Int×Int)) (E:=((Int×Bool)⊕Int)) (λ(v5,I)=>
      bif I<(ts.length:Int) then ((Ag ts I).bind λv7=> (Ag is I).bind λv9=> (Ry k data v7 v9).bind λl=> bif (!l.2) then some (.inr (.inl (0,false))) else some (.inl ((Aa (v5+l.1)),(Aa (I+1))))) else some (.inr (.inr v5))) ((acc:Int),(j:Int))=some z/\(match z with|.inl p=>p=(0,false)/\∀d,(Ch data (is.drop j) (ts.drop j)).map (acc + ·)=some d->6<d | .inr v=>∃d:Nat,(Ch data (is.drop j) (ts.drop j)).map (acc + ·)=some d/\v=d):=by
     intro m;induction m with
     | zero=>intro j acc hj c;have:j=ts.length:=ω;subst this;refine⟨.inr (acc:Int),Fg ψ,acc,?_,rfl⟩;rw[drop_of_length_le ω,drop_of_length_le ω];simp[Ch]
     | succ m s=>
      intro j acc hj c;have he:is[j]? = some is[j]:=B4 ω;generalize is[j]=e at he;have hu:ts[j]? = some ts[j]:=B4 ω;generalize ts[j]=u at hu;have Z:=Jt (Bq he);rw[Lu he,Lu hu,Lt];obtain⟨q,D,f⟩:=X e u ω ω (ht u (Bq hu));rcases f with⟨f,a,x,q4,V⟩|⟨f,x⟩
      .have U:Aa ((acc:Int)+q.1)=((acc+a:Nat):Int):=(by rw[V,Aa,B6] <;> omega);obtain⟨z,g,z2⟩:=s (j+1) (acc+a) ω ω;refine⟨z,?_,?_⟩
       .rw[Ks (s':=(((acc+a:Nat):Int),((j+1:Nat):Int)))]
        .exact g
        .simp only[Ao (ω:(j:Int)<(ts.length:Int)),Ak,Br rfl he,Br rfl hu,Ad,Eg,Am,D,f,U,C5 (show j<is.length by omega) ω]
       .have B:∀o:Option Nat,(((some a:Option Nat).bind λa=>o.map (a + ·)).map (acc + ·))=o.map (acc+a + ·):=(by intro o;cases o <;> simp[Nat.add_assoc]);rw[x,B];exact z2
      .refine⟨.inl (0,false),Fg ?_,rfl,λd h=>?_⟩
       .simp only[Ao (ω:(j:Int)<(ts.length:Int)),Ak,Br rfl he,Br rfl hu,Ad,D,f,Bool.not_false]
       .cases ha:C3 data e u with
        | none=>rw[ha]at h;cases h
        | some a=>rw[ha,Ad]at h;have:=x a ha;cases y:Ch data (is.drop (j+1)) (ts.drop (j+1)) with| none=>rw[y]at h;cases h| some b=>rw[y]at h;simp at h;omega
    obtain⟨z,g,z2⟩:=key is.length 0 0 ω ω;have g:An _ ((0:Int),(0:Int))=some z:=g;rw[g,Ad];have B:∀o:Option Nat,o.map (0 + ·)=o:=(by intro o;cases o <;> simp);rw[drop_zero,drop_zero,B]at z2
    match z,z2 with
    | .inl p,z2=>exact⟨_,rfl,.inr ⟨by rw[z2.1],z2.2⟩⟩
    | .inr v,z2=>
     obtain⟨d,d1,d3⟩:=z2;by_cases hd:d<=6
     .exact⟨_,rfl,.inl ⟨Ao ω,d,d1,hd,d3⟩⟩
     .exact⟨_,rfl,.inr ⟨As ω,λe he=>by rw[d1]at he;cases he;omega⟩⟩
   .rw[D9 ω,Afg data is ts hl];exact⟨_,rfl,.inr ⟨rfl,λd h=>by cases h⟩⟩
theorem A33 (M:Szv data) (N:Kv data) (h8:∀x∈data,x.O.length<=8):∀k:Nat, (∀(i:Ai) (t:Af),2*Bo i<=k->Bo i<=1048576->Bl t<=200->Rs k data t i=some (Hy (C3 data i t))) /\ (∀(is:List Ai) (ts:List Af),2*B7 is+1<=k->B7 is<=1048576->(∀t∈ts,Bl t<=200)->Rw k data ts is=some (Hy (Ch data is ts))):=by
 intro k;induction k with
 | zero=>exact⟨λi t h=>by have:=Eb i;omega,λis ts h=>ω⟩
 | succ k ih=>
  obtain⟨Z,I⟩:=ih;have D:∀o:Option Nat,o.map (0 + ·)=o:=(by intro o;cases o <;> simp);constructor
  .intro i t hk hi ht;have ad:=Eb i;have a6:=L9 i.K;rw[Rs,Kh];by_cases U:t.G=6
   .simp only[Fm U,Ak,Aw U];by_cases h0:i.U=0
    .simp only[Ea h0,Am,Aw h0];rw[I i.K t.R ω ω (λa ha=>by have:=Iw ha;have:=Iq t;omega)];rfl
    .simp only[D9 h0,Ak,Au h0];rfl
   .simp only[Cy U,Am,Au U];by_cases R:t.G=7
    .simp only[Fm R,Ak,Aw R];by_cases a1:0<=i.U
     .by_cases a2:i.U<=6
      .by_cases a3:i.K.length=0
       .rw[As ω,As ω,As ω,Aw ⟨a1,a2,a3⟩,Qs ω];simp;omega
       .rw[As ω,As ω,Ao ω,Au (λh=>a3 h.2.2)];rfl
      .rw[As ω,Ao ω,Au (λh=>a2 h.2.1)];rfl
     .rw[Ao ω,Au (λh=>a1 h.1)];rfl
    .simp only[Cy R,Am,Au R];by_cases V:t.G=5
     .simp only[Fm V,Ak,Aw V];by_cases h0:i.U=0
      .simp only[Ea h0,Am,Aw h0,Ad];by_cases J:(i.K.length:Int)>6
       .rw[Ao J];refine congrArg some (Uz λd hd=>?_).symm;have:=Uy data _ _ _ hd;omega
       rw[As J];simp only[Am];have key:∀(m j acc:Nat),j+m=i.K.length->acc<=6->∃z,An (S:=(Int×Int)) (E:=(Int⊕Int)) (λ(A,y)=>
         bif y<(i.K.length:Int) then ((Ag i.K y).bind λv12=> (show OB from bif v12.U<(0:Int) then some true else some (decide (v12.U>=(8:Int)))).bind λX=> bif X then some (.inr (.inl (-1))) else ((W3 data t v12.U).bind λG=> bif (!G.2) then some (.inr (.inl (-1))) else ((Rw k data G.1 v12.K).bind λs=> bif s<(0:Int) then some (.inr (.inl (-1))) else (bif (Aa ((Aa (A+1))+s))>(6:Int) then some (.inr (.inl (-1))) else some (.inl ((Aa (A+(Aa (1+s)))),(Aa (y+1))))))))
         else some (.inr (.inr A))) ((acc:Int),(j:Int))=some z/\(match z with|.inl v=>v | .inr v=>v)=Hy ((Fo data (i.K.drop j) t).map (acc + ·)):=by
        intro m;induction m with
        | zero=>intro j acc hj c;have:j=i.K.length:=ω;subst this;refine⟨.inr (acc:Int),Fg ψ,?_⟩;simp[Fo,Hy,c]
        | succ m l=>
         intro j acc hj c;have he:i.K[j]? = some i.K[j]:=B4 ω;generalize i.K[j]=e at he;have a7:=Jt (Bq he);have ae:=Eb e;rw[Lu he,Sg];have hb:(bif decide (e.U<(0:Int)) then some true else some (decide (e.U>=(8:Int))))=some (decide (e.U<0\/8<=e.U)):=(by by_cases g1:e.U<0 <;> by_cases g2:8<=e.U <;> simp[g1,g2]);cases hp:Gu data t e.U with
         | none=>refine⟨.inl (-1),Fg ?_,by simp[Hy]⟩;simp only[Ao (ω:(j:Int)<(i.K.length:Int)),Ak,Br rfl he,Ad,Afe M N t ht e.U,hp,okL,Bool.not_false,hb];cases decide (e.U<0\/8<=e.U) <;> rfl
         | some ts=>
          obtain⟨pz,x,Y,ab,aa⟩:=Aff hp;have ac:=h8 x (G9 Y).2.2.2;have g:=I e.K ts ω ω pz;have hb':decide (e.U<0\/8<=e.U)=false:=As ω;rcases Afh (Ch data e.K ts) with⟨c1,c2⟩|⟨a,c1,c2,c3⟩
          .rw[c1]at g;refine⟨.inl (-1),Fg ?_,?_⟩
           .simp only[Ao (ω:(j:Int)<(i.K.length:Int)),Ak,Br rfl he,Ad,Afe M N t ht e.U,hp,okL,Eg,Am,hb,hb',g];rfl
           .refine (Uz λd h=>?_).symm;rw[Ad]at h;cases ha:Ch data e.K ts with
            | none=>rw[ha]at h;cases h
            | some a=>rw[ha,Ad]at h;have:=c2 a ha;cases q:Fo data (i.K.drop (j+1)) t with| none=>rw[q]at h;cases h| some b=>rw[q]at h;simp at h;omega
          .rw[c3]at g;have L:Aa (Aa ((acc:Int)+1)+(a:Int))=((acc+(1+a):Nat):Int):=(by rw[show Aa ((acc:Int)+1)=((acc+1:Nat):Int) by rw[Aa,B6] <;> omega,Aa,B6] <;> omega);have a8:Aa ((acc:Int)+Aa (1+(a:Int)))=((acc+(1+a):Nat):Int):=(by rw[show Aa (1+(a:Int))=((1+a:Nat):Int) by rw[Aa,B6] <;> omega,Aa,B6] <;> omega);by_cases B:acc+(1+a)<=6
           .obtain⟨z,f,z2⟩:=l (j+1) (acc+(1+a)) ω B;refine⟨z,?_,?_⟩
            .rw[Ks (s':=(((acc+(1+a):Nat):Int),((j+1:Nat):Int)))]
             .exact f
             .simp only[Ao (ω:(j:Int)<(i.K.length:Int)),Ak,Br rfl he,Ad,Afe M N t ht e.U,hp,okL,Eg,Am,hb,hb',g,L,a8,As (ω:¬(a:Int)<0),As (ω:¬((acc+(1+a):Nat):Int)>6),C5 (show j<i.K.length by omega) ω]
            .have D:∀o:Option Nat,(((some a:Option Nat).bind λa=>o.map (1+a + ·)).map (acc + ·))=o.map (acc+(1+a) + ·):=(by intro o;cases o <;> simp[Nat.add_assoc]);rw[Ad,c1,D];exact z2
           .refine⟨.inl (-1),Fg ?_,?_⟩
            .simp only[Ao (ω:(j:Int)<(i.K.length:Int)),Ak,Br rfl he,Ad,Afe M N t ht e.U,hp,okL,Eg,Am,hb,hb',g,L,As (ω:¬(a:Int)<0),Ao (ω:((acc+(1+a):Nat):Int)>6)]
            .refine (Uz λd h=>?_).symm;rw[Ad,c1,Ad]at h;cases q:Fo data (i.K.drop (j+1)) t with| none=>rw[q]at h;cases h| some b=>rw[q]at h;simp at h;omega
       obtain⟨z,f,z2⟩:=key i.K.length 0 0 ω ω;have f:An _ ((0:Int),(0:Int))=some z:=f
       erw[f,Ad];rw[drop_zero,D]at z2;rw[<-z2];cases z <;> rfl
      .simp only[D9 h0,Ak,Au h0];rfl
     .simp only[Cy V,Am,Au V];by_cases h0:i.U=0
      .simp only[Ea h0,Am];by_cases a3:i.K.length=0
       .rw[Aw ⟨h0,a3⟩,As ω];rfl
       .rw[Au (λh=>a3 h.2),Ao ω];rfl
      .simp only[D9 h0,Ak];rw[Au (λh=>h0 h.1)];rfl
  .intro is ts hk hi ht;have a6:=L9 is;rw[Rw];by_cases hl:ts.length=is.length
   .rw[Ea ω];simp only[Am];have key:∀(m j acc:Nat),j+m=is.length->acc<=6->∃z,An (S:=(Int×Int)) (E:=(Int⊕Int)) (λ(v4,v5)=>
      bif v5<(ts.length:Int) then ((Ag ts v5).bind λv6=> (Ag is v5).bind λv7=> (Rs k data v6 v7).bind λv8=> bif v8<(0:Int) then some (.inr (.inl (-1))) else (bif (Aa (v4+v8))>(6:Int) then some (.inr (.inl (-1))) else some (.inl ((Aa (v4+v8)),(Aa (v5+1)))))) else some (.inr (.inr v4))) ((acc:Int),(j:Int))=some z/\(match z with|.inl v=>v | .inr v=>v)=Hy ((Ch data (is.drop j) (ts.drop j)).map (acc + ·)):=by
     intro m;induction m with
     | zero=>intro j acc hj c;have:j=ts.length:=ω;subst this;refine⟨.inr (acc:Int),Fg ψ,?_⟩;rw[drop_of_length_le ω,drop_of_length_le ω];simp[Ch,Hy,c]
     | succ m l=>
      intro j acc hj c;have he:is[j]? = some is[j]:=B4 ω;generalize is[j]=e at he;have hu:ts[j]? = some ts[j]:=B4 ω;generalize ts[j]=u at hu;have a7:=Jt (Bq he);rw[Lu he,Lu hu,Lt];have g:=Z e u ω ω (ht u (Bq hu));rcases Afh (C3 data e u) with⟨c1,c2⟩|⟨a,c1,c2,c3⟩
      .rw[c1]at g;refine⟨.inl (-1),Fg ?_,?_⟩
       .simp only[Ao (ω:(j:Int)<(ts.length:Int)),Ak,Br rfl he,Br rfl hu,Ad,g];rfl
       .refine (Uz λd h=>?_).symm;cases ha:C3 data e u with
        | none=>rw[ha]at h;cases h
        | some a=>rw[ha,Ad]at h;have:=c2 a ha;cases q:Ch data (is.drop (j+1)) (ts.drop (j+1)) with| none=>rw[q]at h;cases h| some b=>rw[q]at h;simp at h;omega
      .rw[c3]at g;have L:Aa ((acc:Int)+(a:Int))=((acc+a:Nat):Int):=ξ;by_cases B:acc+a<=6
       .obtain⟨z,f,z2⟩:=l (j+1) (acc+a) ω B;refine⟨z,?_,?_⟩
        .rw[Ks (s':=(((acc+a:Nat):Int),((j+1:Nat):Int)))]
         .exact f
         .simp only[Ao (ω:(j:Int)<(ts.length:Int)),Ak,Br rfl he,Br rfl hu,Ad,Am,g,L,As (ω:¬(a:Int)<0),As (ω:¬((acc+a:Nat):Int)>6),C5 (show j<is.length by omega) ω]
        .have D:∀o:Option Nat,(((some a:Option Nat).bind λa=>o.map (a + ·)).map (acc + ·))=o.map (acc+a + ·):=(by intro o;cases o <;> simp[Nat.add_assoc]);rw[c1,D];exact z2
       .refine⟨.inl (-1),Fg ?_,?_⟩
        .simp only[Ao (ω:(j:Int)<(ts.length:Int)),Ak,Br rfl he,Br rfl hu,Ad,Am,g,L,As (ω:¬(a:Int)<0),Ao (ω:((acc+a:Nat):Int)>6)]
        .refine (Uz λd h=>?_).symm;rw[c1,Ad]at h;cases q:Ch data (is.drop (j+1)) (ts.drop (j+1)) with| none=>rw[q]at h;cases h| some b=>rw[q]at h;simp at h;omega
    obtain⟨z,f,z2⟩:=key is.length 0 0 ω ω;have f:An _ ((0:Int),(0:Int))=some z:=f;rw[f,Ad];rw[drop_zero,drop_zero,D]at z2;rw[<-z2];cases z <;> rfl
   .rw[D9 ω,Afg data is ts hl];rfl
theorem Hx.cons8 (h:Hx data):∀x∈data,x.O.length<=8:=by intro x hx;obtain⟨d,hd⟩:=Hu hx;exact (h.2.1 d x hd).2.2.2.1
theorem A34 (b:Hx data) (c:Kv data) (t:Af) (i:Ai) (ht:Bl t<=200) (hi:Bo i<=1048576):Wp data t i=some (Hy (C3 data i t)):=by unfold Wp;rw[(A33 b.szv c b.cons8 4000000).1 i t ω hi ht];rfl
def Fh (n:Int):Prop:= -9223372036854775808<=n/\n<=9223372036854775807
def ti (n:Int):List Int:=(Lib.itoa n).map λc=>(c.toNat:Int)
def Qt (c:Int):Bool:=c==45||(decide (48<=c)&&decide (c<=57))
theorem Xl (h:d<10):(UInt8.ofNat (48+d)).toNat=48+d:=by rw[UInt8.toNat_ofNat'];omega
theorem Afi:∀(n u:Nat),u<=n->∀c∈Lib.decDigits u,48<=c.toNat/\c.toNat<=57:=by
 intro n;induction n with
 | zero=>intro u hu c hc;rw[Lib.decDigits,dif_pos ω]at hc;simp only[E3]at hc;subst hc;rw[Xl ω];omega
 | succ n ih=>
  intro u hu c hc;rw[Lib.decDigits]at hc;split at hc
  .simp only[E3]at hc;subst hc;rw[Xl ω];omega
  .rcases Ef.1 hc with h|h
   .exact ih (u / 10) ω c h
   .simp only[E3]at h;subst h;rw[Xl ω];omega
def Afj (l:List UInt8):Nat:=l.foldl (λa c=>10*a+(c.toNat-48)) 0
theorem Ase:∀(n u:Nat),u<=n->Afj (Lib.decDigits u)=u:=by
 intro n;induction n with
 | zero=>intro u hu;rw[Lib.decDigits,dif_pos ω];simp only[Afj,foldl_cons,foldl_nil];rw[Xl ω];omega
 | succ n ih=>
  intro u hu;rw[Lib.decDigits];split
  .simp only[Afj,foldl_cons,foldl_nil];rw[Xl ω];omega
  .have:=ih (u / 10) ω;unfold Afj at *;rw[foldl_append,this];simp only[foldl_cons,foldl_nil];rw[Xl ω];omega
theorem Asf {u v:Nat} (h:Lib.decDigits u=Lib.decDigits v):u=v:=by rw[<-Ase u u (Nat.le_refl _),h,Ase v v (Nat.le_refl _)]
theorem A35 (u:Nat):Lib.decDigits u≠[]:=by rw[Lib.decDigits];split <;> simp
theorem A36 (h:Lib.itoa m=Lib.itoa n):m=n:=by
 have b:∀u v:Nat,45::Lib.decDigits u≠Lib.decDigits v:=by intro u v e;have:=Afi v v (Nat.le_refl _) 45 (by rw[<-e];simp);exact absurd this δ
 unfold Lib.itoa at h;split at h <;> split at h
 .have:=Asf (List.cons.inj h).2;omega
 .exact absurd h (b _ _)
 .exact absurd h.symm (b _ _)
 .have:=Asf h;omega
theorem Jd (n:Int):∀c∈ti n,Qt c=true:=by
 intro c hc;unfold ti at hc;obtain⟨b,hb,rfl⟩:=mem_map.1 hc;have key:b=45\/(48<=b.toNat/\b.toNat<=57):=by
  unfold Lib.itoa at hb;split at hb
  .rcases E8.1 hb with h|h
   .exact .inl h
   .exact .inr (Afi _ _ (Nat.le_refl _) b h)
  .exact .inr (Afi _ _ (Nat.le_refl _) b hb)
 unfold Qt;rcases key with rfl|⟨h1,h2⟩
 .decide
 .rw[Bool.or_eq_true,Dz,D8,D8];right;omega
theorem Afk (n:Int):ti n≠[]:=by
 unfold ti Lib.itoa;split
 .simp
 .simpa using A35 _
theorem U1 (h:ti m=ti n):m=n:=by
 unfold ti at h;have:∀l m:List UInt8,l.map (λc=>(c.toNat:Int))=m.map (λc=>(c.toNat:Int))->l=m:=by
  intro l;induction l with
  | nil=>intro m h;cases m with|nil=>rfl|cons=>simp at h
  | cons x xs ih=>intro m h;cases m with| nil=>simp at h| cons y ys=>simp only[map_cons,List.cons.injEq]at h;rw[ih ys h.2,UInt8.toNat.inj (ω:x.toNat=y.toNat)]
 exact A36 (this _ _ h)
theorem Om (h:Fh n):(ti n).length<=21:=by unfold ti;rw[Dc];exact Lib.itoa_length_le n h.1 h.2
def Sh (X:List Int):Prop:=∀c m,X=c::m->Qt c=false/\c≠40
def Mq (X:List Int):Prop:=∀c m,X=c::m->Qt c=false
theorem Qu:∀(a b X Y:List Int),(∀c∈a,Qt c=true)->(∀c∈b,Qt c=true)->Mq X->Mq Y->a++X=b++Y->a=b/\X=Y
 | [],[],_,_,_,_,_,_,h=>⟨rfl,h⟩
 | [],y::b,X,Y,_,hb,g,_,h=>by have:=g y (b++Y) h;rw[hb y ψ]at this;cases this
 | x::a,[],X,Y,ha,_,_,f,h=>by have:=f x (a++X) h.symm;rw[ha x ψ]at this;cases this
 | x::a,y::b,X,Y,ha,hb,g,f,h=>by simp only[Eu,List.cons.injEq]at h;obtain⟨j,i⟩:=Qu a b X Y (λc hc=>ha c (by simp[hc])) (λc hc=>hb c (by simp[hc])) g f h.2;exact⟨by rw[h.1,j],i⟩
mutual
def wx:Ai->List Int
 | ⟨n,kids⟩=>ti n++(if kids.length=0 then [] else 40::(wxs kids++[41]))
def wxs:List Ai->List Int
 | []=>[]
 | x::xs=>wx x++44::wxs xs
end
theorem Afl (i:Ai):wx i=ti i.U++(if i.K.length=0 then [] else 40::(wxs i.K++[41])):=by cases i;simp only[wx]
theorem Asg (l m:List Ai):wxs (l++m)=wxs l++wxs m:=by induction l with| nil=>simp[wxs]| cons x xs ih=>simp only[Eu,wxs,ih,append_assoc]
theorem Ash (b:List Ai) (X:List Int) (f:Sh X):Mq ((if b.length=0 then [] else 40::(wxs b++[41]))++X):=by
 intro c m h;by_cases hk:b.length=0
 .rw[Aw hk,nil_append]at h;exact (f c m h).1
 .rw[Au hk,Eu]at h;cases h;decide
theorem Asi (X:List Int):Sh (44::X):=by intro c m h;cases h;exact⟨δ,δ⟩
theorem Afm:Sh []:=by intro c m h;cases h
mutual
theorem Afn:∀(i j:Ai) (X Y:List Int),Sh X->Sh Y->wx i++X=wx j++Y->i=j/\X=Y
 | ⟨n,k⟩,⟨n',k'⟩,X,Y,hX,hY,h=>by
  simp only[wx,append_assoc]at h
  obtain⟨e1,e2⟩:=Qu _ _ _ _ (Jd n) (Jd n') (Ash k X hX) (Ash k' Y hY) h
  have e1:=U1 e1
  subst e1
  by_cases hk:k.length=0
  .by_cases hk':k'.length=0
   .rw[Aw hk,Aw hk']at e2
    rw[Fu.1 hk,Fu.1 hk']
    exact⟨rfl,e2⟩
   .rw[Aw hk,Au hk',nil_append,Eu]at e2
    exact absurd rfl (hX _ _ e2).2
  .by_cases hk':k'.length=0
   .rw[Au hk,Aw hk',nil_append,Eu]at e2
    exact absurd rfl (hY _ _ e2.symm).2
   .rw[Au hk,Au hk',Eu,Eu,append_assoc,append_assoc]at e2
    obtain⟨e3,e4⟩:=Asj k k' X Y hX hY (List.cons.inj e2).2
    rw[e3];exact⟨rfl,e4⟩
theorem Asj:∀(l m:List Ai) (X Y:List Int),Sh X->Sh Y->wxs l++([41]++X)=wxs m++([41]++Y)->l=m/\X=Y
 | [],[],X,Y,_,_,h=>by
  simp only[wxs,nil_append,Eu,List.cons.injEq,true_and]at h
  exact⟨rfl,h⟩
 | [],y::ys,X,Y,_,_,h=>by
  exfalso
  cases ht:ti y.U with
  | nil=>exact Afk _ ht
  | cons c r=>
   have hc:=Jd y.U c (by rw[ht];simp)
   simp only[wxs,Afl y,ht,nil_append,Eu,List.cons.injEq]at h
   rw[<-h.1]at hc;exact absurd hc δ
 | x::xs,[],X,Y,_,_,h=>by
  exfalso
  cases ht:ti x.U with
  | nil=>exact Afk _ ht
  | cons c r=>
   have hc:=Jd x.U c (by rw[ht];simp)
   simp only[wxs,Afl x,ht,nil_append,Eu,List.cons.injEq]at h
   rw[h.1]at hc;exact absurd hc δ
 | x::xs,y::ys,X,Y,hX,hY,h=>by
  simp only[wxs,append_assoc,Eu]at h
  obtain⟨e1,e2⟩:=Afn x y _ _ (Asi _) (Asi _) h
  obtain⟨e3,e4⟩:=Asj xs ys X Y hX hY (by simpa using e2)
  exact⟨by rw[e1,e3],e4⟩
end
mutual
def iR:Ai->Prop
 | ⟨n,l⟩=>Fh n/\Fa l
def Fa:List Ai->Prop
 | []=>True
 | x::xs=>iR x/\Fa xs
end
theorem Pg (i:Ai):iR i↔Fh i.U/\Fa i.K:=by cases i;simp only[iR]
theorem Akr {l:List Ai} (h:Fa l) {a:Ai} (ha:a∈l):iR a:=by
 induction l with
 | nil=>cases ha
 | cons x xs ih=>
  simp only[Fa]at h;rcases E8.1 ha with rfl|ha
  .exact h.1
  .exact ih h.2 ha
mutual
theorem Aks:∀i:Ai,iR i->(wx i).length+1<=24*Bo i
 | ⟨n,l⟩,h=>by
  simp only[iR]at h
  have h1:=Afo l h.2
  have h2:=Om h.1
  simp only[wx,Bo,E4]
  by_cases hl:l.length=0
  .rw[Aw hl];simp;omega
  .rw[Au hl];simp;omega
theorem Afo:∀l:List Ai,Fa l->(wxs l).length<=24*B7 l
 | [],_=>by simp[wxs,B7]
 | x::xs,h=>by
  simp only[Fa]at h
  have h1:=Aks x h.1
  have h2:=Afo xs h.2
  have h3:=Eb x
  simp only[wxs,B7,E4,Ed];omega
end
theorem U2 (l m:List Ai):B7 (l++m)=B7 l+B7 m:=by induction l with| nil=>simp[B7]| cons x xs ih=>simp only[Eu,B7,ih];omega
theorem Akt (l m:List Ai):Fa (l++m)↔Fa l/\Fa m:=by induction l with| nil=>simp[Fa]| cons x xs ih=>simp only[Eu,Fa,ih,and_assoc]
theorem Aku {n:Int} (h:Fh n):Py n=some ⟨(Lib.itoa n).toArray⟩:=by unfold Py;rw[Aw (show _/\_ from h)]
theorem A37 (n:Int):N4 ⟨(Lib.itoa n).toArray⟩=ti n:=by unfold N4 ti;simp
theorem Ask:∀(k:Nat) (i:Ai) (b:List Int),Bo i<=k->iR i->b.length+24*Bo i<=1099511627776->O7 k i b=some (b++wx i):=by
 intro k;induction k with
 | zero=>intro i b h;have:=Eb i;omega
 | succ k ih=>
  intro i b h c hb;have hi:=Eb i;have A:=L9 i.K;have c:=(Pg i).1 c;have D:=Om c.1;rw[O7,Afl];simp only[Jc,Aku c.1,Ad,Hg,Xd,A37];rw[Dn ω];simp only[Ad];by_cases h0:i.K.length=0
  .rw[As ω,Aw h0];simp
  .rw[Ao ω,Au h0];simp only[Ak,Nb,Xd,Ad];rw[Dn ζ,Ad];have g:=Afo i.K c.2;have l:∀j,(wxs (i.K.take j)).length<=24*B7 i.K:=λj=>by have:=Asg (i.K.take j) (i.K.drop j);rw[take_append_drop]at this;rw[this,E4]at g;omega
   refine F2 i.K (λj=>((j:Int),b++ti i.U++[40]++wxs (i.K.take j))) (by simp[wxs]) ω ?_ ?_
   .intro j x hj hx h1 h2 h3;have B:=Jt (Bq hx);have f:=Akr c.2 (Bq hx);have z:=Aks x f;have q:=l (j+1);have e:wxs (i.K.take (j+1))=wxs (i.K.take j)++(wx x++[44]):=(by rw[Db hx,Asg];simp[wxs]);rw[e]at q;simp only[E4,Ed,length_nil]at q;simp only[h1,h2,h3,Ak,Ad];have y:B7 (i.K.take j)+Bo x<=B7 i.K:=(by have s:=U2 (i.K.take (j+1)) (i.K.drop (j+1));rw[take_append_drop,Db hx,U2]at s;simp only[B7]at s;omega);have u:(wxs (i.K.take j)).length<=24*B7 (i.K.take j):=Afo _ (by have:=(Akt (i.K.take j) (i.K.drop j)).1 (by rw[take_append_drop];exact c.2);exact this.1);rw[ih x _ ω f ζ];simp only[Ad];rw[Dn ζ,e];simp
   .intro h1;refine⟨b++ti i.U++[40]++wxs i.K,ψ,?_⟩;rw[Dn ζ];simp
def Kw (v:Int) (i:Ai):List Int:=118::(ti v++58::wx i)
def Ph (v:Int) (i:Ai):ByteArray:=⟨(Fk (Kw v i)).toArray⟩
mutual
theorem Akv:∀i:Ai,∀c∈wx i,0<=c/\c<256
 | ⟨n,l⟩,c,h=>by
  simp only[wx,Ef]at h
  rcases h with h|h
  .have:=Jd n c h
   simp only[Qt,Bool.or_eq_true,Dz,beq_iff_eq,D8]at this
   omega
  .by_cases hl:l.length=0
   .rw[Aw hl]at h;cases h
   .rw[Au hl]at h
    simp only[E8,Ef,not_mem_nil,or_false]at h
    rcases h with h|h|h
    .omega
    .exact Asl l c h
    .omega
theorem Asl:∀l:List Ai,∀c∈wxs l,0<=c/\c<256
 | [],c,h=>by simp[wxs]at h
 | x::xs,c,h=>by
  simp only[wxs,Ef,E8]at h
  rcases h with h|h|h
  .exact Akv x c h
  .omega
  .exact Asl xs c h
end
theorem Afp (v:Int) (i:Ai):∀c∈Kw v i,0<=c/\c<256:=by
 intro c h;simp only[Kw,E8,Ef]at h;rcases h with h|h|h|h
 .omega
 .have:=Jd v c h;simp only[Qt,Bool.or_eq_true,Dz,beq_iff_eq,D8]at this;omega
 .omega
 .exact Akv i c h
theorem Akw:∀l m:List Int,(∀c∈l,0<=c/\c<256)->(∀c∈m,0<=c/\c<256)->Fk l=Fk m->l=m
 | [],[],_,_,_=>rfl
 | [],_::_,_,_,h=>by simp[Fk]at h
 | _::_,[],_,_,h=>by simp[Fk]at h
 | x::xs,y::ys,h1,h2,h=>by simp only[Fk,map_cons,List.cons.injEq]at h;have hx:=h1 x ψ;have hy:=h2 y ψ;have e:x.toNat=y.toNat:=(by have:=congrArg UInt8.toNat h.1;rw[UInt8.toNat_ofNat',UInt8.toNat_ofNat']at this;omega);rw[Akw xs ys (λc hc=>h1 c (by simp[hc])) (λc hc=>h2 c (by simp[hc])) h.2,show x=y by omega]
theorem A38 {v w:Int} {i j:Ai} (h:Ph v i=Ph w j):v=w/\i=j:=by
 unfold Ph at h;have h1:(Fk (Kw v i)).toArray=(Fk (Kw w j)).toArray:=by injection h
 have h2:Fk (Kw v i)=Fk (Kw w j):=by simpa using congrArg Array.toList h1
 have h3:=Akw _ _ (Afp v i) (Afp w j) h2;simp only[Kw,List.cons.injEq,true_and]at h3;have b:∀X:List Int,Mq (58::X):=λX c m e=>by cases e;decide
 obtain⟨k,g⟩:=Qu _ _ _ _ (Jd v) (Jd w) (b _) (b _) h3;obtain⟨f,_⟩:=Afn i j [] [] Afm Afm (by simpa using (List.cons.inj g).2);exact⟨U1 k,f⟩
theorem A39 (l:List UInt8):N4 ⟨l.toArray⟩=l.map λb=>(b.toNat:Int):=by unfold N4;simp
theorem Afq (v:Int) (i:Ai) (c:Fh v) (g:iR i) (hi:Bo i<=1048576):Kt v i=some (Ph v i):=by
 have l:=Om c;have f:(Lib.itoa v).length=(ti v).length:=by unfold ti;simp
 unfold Kt;have k:Gq (ByteArray.mk #[118]) ⟨(Lib.itoa v).toArray⟩=some ⟨(118::Lib.itoa v).toArray⟩:=by
  unfold Gq;rw[Aw]
  .congr 1
  .show 1+(Lib.itoa v).toArray.size<=9223372036854775807;rw[size_toArray];omega
 have j:Gq ⟨(118::Lib.itoa v).toArray⟩ (ByteArray.mk #[58])=some ⟨(118::(Lib.itoa v++[58])).toArray⟩:=by
  unfold Gq;rw[Aw]
  .congr 1
  .show (118::Lib.itoa v).toArray.size+1<=9223372036854775807;rw[size_toArray,Ed];omega
 simp only[Jc,Aku c,Ad,k,j,Jo,Z0,A39];rw[Dn ζ];simp only[Ad];rw[Ask 4000000 i _ ω g ζ];simp only[Ad,L0];have h:([]++(118::(Lib.itoa v++[58])).map λb=>(b.toNat:Int))++wx i=Kw v i:=by unfold Kw ti;simp
 rw[h];unfold Yv Ph;rw[Aw (Afp v i)];rfl
mutual
theorem Asm (data:List Al):∀(i:Ai) (t:Af) (d:Nat),C3 data i t=some d->d<=6*Bo i
 | ⟨n,kids⟩,t,d,h=>by
  rw[Kh]at h
  simp only[Bo]
  simp only at h
  split at h
  .split at h
   .have:=Aa5 data kids _ d h;omega
   .cases h
  .split at h
   .split at h
    .cases h;omega
    .cases h
   .split at h
    .split at h
     .have:=Asn data kids _ d h;omega
     .cases h
    .split at h
     .cases h;omega
     .cases h
theorem Aa5 (data:List Al):∀(is:List Ai) (ts:List Af) (d:Nat),Ch data is ts=some d->d<=6*B7 is
 | [],[],d,h=>by simp only[Ch]at h;cases h;omega
 | i::is,t::ts,d,h=>by
  rw[Lt]at h
  cases h1:C3 data i t with
  | none=>rw[h1]at h;cases h
  | some a=>
   rw[h1,Ad]at h
   cases h2:Ch data is ts with
   | none=>rw[h2]at h;cases h
   | some b=>
    rw[h2]at h
    cases h
    have:=Asm data i t a h1
    have:=Aa5 data is ts b h2
    simp only[B7];omega
 | [],_::_,d,h=>by simp only[Ch]at h;cases h
 | _::_,[],d,h=>by simp only[Ch]at h;cases h
theorem Asn (data:List Al):∀(es:List Ai) (t:Af) (d:Nat),Fo data es t=some d->d<=6*B7 es
 | [],t,d,h=>by simp only[Fo]at h;cases h;omega
 | ⟨n,kids⟩::es,t,d,h=>by
  rw[Sg]at h
  simp only at h
  cases h1:Gu data t n with
  | none=>rw[h1]at h;cases h
  | some ts=>
   rw[h1,Ad]at h
   cases h2:Ch data kids ts with
   | none=>rw[h2]at h;cases h
   | some a=>
    rw[h2,Ad]at h
    cases h3:Fo data es t with
    | none=>rw[h3]at h;cases h
    | some b=>
     rw[h3]at h
     cases h
     have:=Aa5 data kids ts a h2
     have:=Asn data es t b h3
     simp only[B7,Bo];omega
end
variable {data:List Al} {o:Option Nat} {α:Type}
def Xm (data:List Al) (e:Ai) (t:Af):Option Nat:=(Gu data t e.U).bind λts=>(Ch data e.K ts).map (1 + ·)
theorem A4a (data:List Al) (e:Ai) (es:List Ai) (t:Af):Fo data (e::es) t=(Xm data e t).bind λa=>(Fo data es t).map (a + ·):=by rw[Sg];unfold Xm;cases Gu data t e.U with| none=>rfl| some ts=>simp only[Ad];cases Ch data e.K ts <;> rfl
theorem A4b (data:List Al) (e:Ai) (t:Af) (d:Nat) (h:Xm data e t=some d):d<=6*Bo e:=by
 unfold Xm at h;cases h1:Gu data t e.U with
 | none=>rw[h1]at h;cases h
 | some ts=>rw[h1,Ad]at h;cases h2:Ch data e.K ts with| none=>rw[h2]at h;cases h| some a=>rw[h2]at h;cases h;have:=Aa5 data _ ts a h2;have:=Eb e;show 1+a<=_;omega
def Dg (v:Int) (o:Option Nat):Prop:=(v = -1/\∀d,o=some d->6<d)\/∃d:Nat,o=some d/\v=d
theorem Dg.clip {v:Int} (h:Dg v o):(if v>6 then -1 else v)=Hy o:=by
 rcases h with⟨rfl,h⟩|⟨d,rfl,rfl⟩
 .rw[Au ω,Uz h]
 .by_cases hd:6<d
  .rw[Aw ω,Akq hd]
  .rw[Au ω,Qs ω]
theorem Afr {p:Option Nat} {acc:Nat} {d:Nat} (h:(o.bind λa=>p.map (a + ·)).map (acc + ·)=some d):∃a b,o=some a/\p=some b/\d=acc+(a+b):=by
 cases o with
 | none=>cases h
 | some a=>cases p with| none=>cases h| some b=>exact⟨a,b,rfl,rfl,by simp at h;omega⟩
theorem A4c (hz:Szv data) (hs:Kv data) (b1:List (ByteArray×Int)) (b2:List (ByteArray×List Av)) (vars:List Af) (L J:Int) (I:List Af):∀k:Nat, (∀(i:Ai) (t:Af),3*Bo i<=k->Bo i<=1048576->Bl t<=200->∃v,Ru k t i b1 b2 data vars L J I=some v/\Dg v (C3 data i t)) /\ (∀(is:List Ai) (ts:List Af),3*B7 is+1<=k->B7 is<=1048576->(∀t∈ts,Bl t<=200)->∃v,Ud k ts is b1 b2 data vars L J I=some v/\Dg v (Ch data is ts)) /\ (∀(e:Ai) (t:Af),3*Bo e<=k->Bo e<=1048576->Bl t<=200->∃v,Ue k t e b1 b2 data vars L J I=some v/\Dg v (Xm data e t)):=by
 intro k;induction k with
 | zero=>exact⟨λi t h=>by have:=Eb i;omega,λis ts h=>ω,λi t h=>by have:=Eb i;omega⟩
 | succ k ih=>
  obtain⟨Z,M,a6⟩:=ih;have A:∀o:Option Nat,o.map (0 + ·)=o:=(by intro o;cases o <;> simp);have c:∀d:Nat,(none:Option Nat)=some d->6<d:=λd h=>by cases h
  refine⟨?_,?_,?_⟩
  .intro i t hk hi ht;have ae:=Eb i;have N:=L9 i.K;rw[Ru,Kh];by_cases X:t.G=6
   .simp only[Fm X,Ak,Aw X];by_cases h0:i.U=0
    .simp only[Fm h0,Ak,Aw h0];obtain⟨p,p1,p2⟩:=M i.K t.R ω ω (λa ha=>by have:=Iw ha;have:=Iq t;omega);rw[p1];exact⟨p,rfl,p2⟩
    .simp only[Cy h0,Am,Au h0];exact⟨_,rfl,.inl ⟨rfl,c⟩⟩
   .simp only[Cy X,Am,Au X];by_cases V:t.G=7
    .simp only[Fm V,Ak,Aw V];by_cases a1:0<=i.U
     .by_cases a2:i.U<=6
      .by_cases a3:i.K.length=0
       .rw[Ao (show i.U>=0 from a1),Ao a2,Aw ⟨a1,a2,a3⟩,Fm ω];exact⟨_,rfl,.inr ⟨i.U.toNat,rfl,ω⟩⟩
       .rw[Ao (show i.U>=0 from a1),Ao a2,Au (λh=>a3 h.2.2),Cy ω];exact⟨_,rfl,.inl ⟨rfl,c⟩⟩
      .rw[Ao (show i.U>=0 from a1),As a2,Au (λh=>a2 h.2.1)];exact⟨_,rfl,.inl ⟨rfl,c⟩⟩
     .rw[As (show ¬i.U>=0 from a1),Au (λh=>a1 h.1)];exact⟨_,rfl,.inl ⟨rfl,c⟩⟩
    .simp only[Cy V,Am,Au V];by_cases Y:t.G=5
     .simp only[Fm Y,Ak,Aw Y];by_cases h0:i.U=0
      .simp only[Ea h0,Am,Aw h0];have key:∀(m j acc:Nat),j+m=i.K.length->acc<=10000000->∃z,An (S:=(Int×Int)) (E:=(Int⊕Int)) (λ(B,v8)=>
         bif v8<(i.K.length:Int) then ((Ag i.K v8).bind λv9=> (Ue k t v9 b1 b2 data vars L J I).bind λD=> bif D<(0:Int) then some (.inr (.inl (-1))) else (bif B>(6:Int) then some (.inr (.inl (-1))) else some (.inl ((Aa (B+D)),(Aa (v8+1)))))) else some (.inr (.inr B))) ((acc:Int),(j:Int))=some z/\Dg (match z with|.inl v=>v | .inr v=>v) ((Fo data (i.K.drop j) t).map (acc + ·)):=by
        intro m;induction m with
        | zero=>intro j acc hj q;have:j=i.K.length:=ω;subst this;exact⟨.inr (acc:Int),Fg ψ,.inr ⟨acc,by simp[Fo],rfl⟩⟩
        | succ m g=>
         intro j acc hj q;have he:i.K[j]? = some i.K[j]:=B4 ω;generalize i.K[j]=e at he;have ab:=Jt (Bq he);rw[Lu he,A4a];obtain⟨v,s,v2⟩:=a6 e t ω ω ht;rcases v2 with⟨rfl,v2⟩|⟨a,a1,rfl⟩
         .refine⟨.inl (-1),Fg ?_,.inl ⟨rfl,λd h=>?_⟩⟩
          .simp only[Ao (ω:(j:Int)<(i.K.length:Int)),Ak,Br rfl he,Ad,s];rfl
          .obtain⟨a,b,ha,hb,rfl⟩:=Afr h;have:=v2 a ha;omega
         .have R:=A4b data e t a a1;by_cases hb:acc>6
          .refine⟨.inl (-1),Fg ?_,.inl ⟨rfl,λd h=>?_⟩⟩
           .simp only[Ao (ω:(j:Int)<(i.K.length:Int)),Ak,Br rfl he,Ad,s,As (ω:¬(a:Int)<0),Ao (ω:(acc:Int)>6),Am]
           .obtain⟨a,b,ha,hb,rfl⟩:=Afr h;omega
          .have ew:Aa ((acc:Int)+(a:Int))=((acc+a:Nat):Int):=ξ;obtain⟨z,f,z2⟩:=g (j+1) (acc+a) ω ω;refine⟨z,?_,?_⟩
           .rw[Ks (s':=(((acc+a:Nat):Int),((j+1:Nat):Int)))]
            .exact f
            .simp only[Ao (ω:(j:Int)<(i.K.length:Int)),Ak,Br rfl he,Ad,s,As (ω:¬(a:Int)<0),As (ω:¬(acc:Int)>6),Am,ew,C5 (show j<i.K.length by omega) ω]
           .have A:∀o:Option Nat,(((some a:Option Nat).bind λa=>o.map (a + ·)).map (acc + ·))=o.map (acc+a + ·):=(by intro o;cases o <;> simp[Nat.add_assoc]);rw[a1,A];exact z2
       obtain⟨z,f,z2⟩:=key i.K.length 0 0 ω ω;have f:An _ ((0:Int),(0:Int))=some z:=f;rw[f,Ad];rw[drop_zero,A]at z2;cases z with| inl v=>exact⟨v,rfl,z2⟩| inr v=>exact⟨v,rfl,z2⟩
      .simp only[D9 h0,Ak,Au h0];exact⟨_,rfl,.inl ⟨rfl,c⟩⟩
     .simp only[Cy Y,Am,Au Y];by_cases h0:i.U=0
      .simp only[Fm h0,Ak];by_cases a3:i.K.length=0
       .rw[Aw ⟨h0,a3⟩,Fm ω];exact⟨_,rfl,.inr ⟨0,rfl,rfl⟩⟩
       .rw[Au (λh=>a3 h.2),Cy ω];exact⟨_,rfl,.inl ⟨rfl,c⟩⟩
      .simp only[Cy h0,Am];rw[Au (λh=>h0 h.1)];exact⟨_,rfl,.inl ⟨rfl,c⟩⟩
  .intro is ts hk hi ht;have N:=L9 is;rw[Ud];by_cases hl:ts.length=is.length
   .rw[Ea ω];simp only[Am];have key:∀(m j acc:Nat),j+m=is.length->acc<=10000000->∃z,An (S:=(Int×Int)) (E:=(Int⊕Int)) (λ(v5,U)=>
      bif U<(ts.length:Int) then ((Ag ts U).bind λB=> (Ag is U).bind λv9=> (Ru k B v9 b1 b2 data vars L J I).bind λG=> bif G<(0:Int) then some (.inr (.inl (-1))) else (bif v5>(6:Int) then some (.inr (.inl (-1))) else some (.inl ((Aa (v5+G)),(Aa (U+1)))))) else some (.inr (.inr v5))) ((acc:Int),(j:Int))=some z/\Dg (match z with|.inl v=>v | .inr v=>v) ((Ch data (is.drop j) (ts.drop j)).map (acc + ·)):=by
     intro m;induction m with
     | zero=>intro j acc hj q;have:j=ts.length:=ω;subst this;refine⟨.inr (acc:Int),Fg ψ,.inr ⟨acc,?_,rfl⟩⟩;rw[drop_of_length_le ω,drop_of_length_le ω];simp[Ch]
     | succ m g=>
      intro j acc hj q;have he:is[j]? = some is[j]:=B4 ω;generalize is[j]=e at he;have hu:ts[j]? = some ts[j]:=B4 ω;generalize ts[j]=u at hu;have ab:=Jt (Bq he);rw[Lu he,Lu hu,Lt];obtain⟨v,s,v2⟩:=Z e u ω ω (ht u (Bq hu));rcases v2 with⟨rfl,v2⟩|⟨a,a1,rfl⟩
      .refine⟨.inl (-1),Fg ?_,.inl ⟨rfl,λd h=>?_⟩⟩
       .simp only[Ao (ω:(j:Int)<(ts.length:Int)),Ak,Br rfl he,Br rfl hu,Ad,s];rfl
       .obtain⟨a,b,ha,hb,rfl⟩:=Afr h;have:=v2 a ha;omega
      .have R:=Asm data e u a a1;by_cases hb:acc>6
       .refine⟨.inl (-1),Fg ?_,.inl ⟨rfl,λd h=>?_⟩⟩
        .simp only[Ao (ω:(j:Int)<(ts.length:Int)),Ak,Br rfl he,Br rfl hu,Ad,s,As (ω:¬(a:Int)<0),Ao (ω:(acc:Int)>6),Am]
        .obtain⟨a,b,ha,hb,rfl⟩:=Afr h;omega
       .have ew:Aa ((acc:Int)+(a:Int))=((acc+a:Nat):Int):=ξ;obtain⟨z,f,z2⟩:=g (j+1) (acc+a) ω ω;refine⟨z,?_,?_⟩
        .rw[Ks (s':=(((acc+a:Nat):Int),((j+1:Nat):Int)))]
         .exact f
         .simp only[Ao (ω:(j:Int)<(ts.length:Int)),Ak,Br rfl he,Br rfl hu,Ad,s,As (ω:¬(a:Int)<0),As (ω:¬(acc:Int)>6),Am,ew,C5 (show j<is.length by omega) ω]
        .have A:∀o:Option Nat,(((some a:Option Nat).bind λa=>o.map (a + ·)).map (acc + ·))=o.map (acc+a + ·):=(by intro o;cases o <;> simp[Nat.add_assoc]);rw[a1,A];exact z2
    obtain⟨z,f,z2⟩:=key is.length 0 0 ω ω;have f:An _ ((0:Int),(0:Int))=some z:=f;rw[f,Ad];rw[drop_zero,drop_zero,A]at z2;cases z with| inl v=>exact⟨v,rfl,z2⟩| inr v=>exact⟨v,rfl,z2⟩
   .rw[D9 ω,Afg data is ts hl];exact⟨_,rfl,.inl ⟨rfl,c⟩⟩
  .intro e t hk he ht;have af:=Eb e;rw[Ue];unfold Xm Gu;rw[Ako hz t ht e.U,Ad];cases hf:Lr data t e.U with
   | none=>exact⟨-1,rfl,.inl ⟨rfl,c⟩⟩
   | some l=>
    have ac:=Aa3 hf;obtain⟨x,y,_,hx,_,hy,hl,aa⟩:=Sf hf;obtain⟨y6,_⟩:=hz x (G9 hx).2.2.2 y (G9 hy).2.2.2;have ad:l.length<=6:=(by rw[hl];simpa using y6);have a8:∀a∈Hq l (G8 data t.U e.U),Bl a<=200:=(Aff (show Gu data t e.U=some _ by unfold Gu;rw[hf];rfl)).1;obtain⟨v,s,v2⟩:=M e.K (Hq l (G8 data t.U e.U)) ω ω a8;have hd:Dg (if v<0 then -1 else 1+v) (((some l).map λl=>Hq l (G8 data t.U e.U)).bind λts=>(Ch data e.K ts).map (1 + ·)):=by
     rw[Option.map_some,Ad];rcases v2 with⟨rfl,v2⟩|⟨a,a1,rfl⟩
     .refine .inl ⟨rfl,λd h=>?_⟩;cases ha:Ch data e.K (Hq l (G8 data t.U e.U)) with| none=>rw[ha]at h;cases h| some a=>rw[ha]at h;have:=v2 a ha;simp at h;omega
     .rw[a1,Au ω];exact .inr ⟨1+a,rfl,ω⟩
    have a7:v = -1\/(0<=v/\v<=10000000):=by
     rcases v2 with⟨rfl,v2⟩|⟨a,a1,rfl⟩
     .exact .inl rfl
     .have:=Aa5 data _ _ a a1;right;omega
    refine⟨_,?_,hd⟩;simp only[okL,Eg,Am,Ae8 data t.U e.U hs,Ad];refine F2 (G8 data t.U e.U) (λj=>((j:Int),Hq (l.take j) ((G8 data t.U e.U).take j))) (by simp[Hq]) ω ?_ ?_
    .intro j b hj hb h1 h2 h3;have ha:l[j]? = some l[j]:=B4 ω;generalize l[j]=a at ha;have N:=Aa4 (l.take j) ((G8 data t.U e.U).take j);have:(l.take j).length<=6:=ζ;simp only[h1,h2,h3,Ak,Ad,Br rfl ha,Afc ha hb];rw[Dn ζ];cases b <;> simp
    .intro h1;refine⟨Hq l (G8 data t.U e.U),?_,?_⟩
     .simp only[h1];rw[Im ω,Im (Nat.le_refl _)];rfl
     .rw[s,Ad];rcases a7 with h|h
      .subst h;rfl
      .rw[As ω,Au ω];simp only[Am];rw[Aa,B6] <;> omega
def Em (vars:List Af) (res:Af) (v:Int):Option Af:=if v = -1 then some res else Ag vars v
def D0 (data:List Al) (vars:List Af) (res:Af) (o:List (ByteArray×Int)):Prop:=∀p∈o,∀v i t,p.1=Ph v i->Em vars res v=some t->p.2=Hy (C3 data i t)
theorem Akx {α:Type}:∀(o:List (ByteArray×α)) (s:ByteArray) (v:α),∀p∈Gt o s v,p∈o\/p=(s,v)
 | [],s,v,p,h=>by simp only[Gt,E3]at h;exact .inr h
 | q::o,s,v,p,h=>by
  unfold Gt at h;cases hq:(s==q.1) with
  | true=>
   rw[hq]at h;simp only[Ak,E8]at h;rcases h with h|h
   .exact .inr h
   .exact .inl (by simp[h])
  | false=>
   rw[hq]at h;simp only[Am,E8]at h;rcases h with h|h
   .exact .inl (by simp[h])
   .rcases Akx o s v p h with h|h
    .exact .inl (by simp[h])
    .exact .inr h
theorem A4d (D:Szv data) (G:Kv data) (b1:List (ByteArray×Int)) (b2:List (ByteArray×List Av)) (vars:List Af) (res:Af) (f:D0 data vars res b1) (v:Int) (i:Ai) (t:Af) (ht:Em vars res v=some t) (b:Bl t<=200) (E:Fh v) (I:iR i) (hi:Bo i<=1048576) : ∃s,M9 v i b1 b2 data vars res.G res.U res.R=some (Hy (C3 data i t),s)/\D0 data vars res s:=by
 unfold M9;rw[Afq v i E I hi,Ad];cases g:E7 b1 (Ph v i) with
 | true=>refine⟨b1,?_,f⟩;have:Ik b1 (Ph v i) 0=Hy (C3 data i t):=(by unfold Ik;unfold E7 at g;rw[any_eq_true]at g;obtain⟨p,A,z⟩:=g;cases hf:b1.find? (λp=>Ph v i==p.1) with| none=>exact absurd z (by have:=find?_eq_none.1 hf p A;simpa using this)| some q=>have hq:=find?_some hf;exact f q (mem_of_find?_eq_some hf) v i t ((Nf _ _).1 hq).symm ht);simp only[Ak,Ad,Eg,Am,this]
 | false=>
  obtain⟨w,x,u⟩:=(A4c D G b1 b2 vars res.G res.U res.R 4000000).1 i t ω hi b;have c:Ob v b1 b2 data vars res.G res.U res.R=some t:=by
   unfold Ob;unfold Em at ht;by_cases h:v = -1
   .rw[Aw h]at ht;cases ht;have J:(Af.mk res.G res.U res.R)=res:=(by cases res;rfl);rw[Fm h,J];rfl
   .rw[Au h]at ht;rw[Cy h,ht];rfl
  have j:(bif decide (w>6) then some (-1) else some w:Option Int)=some (Hy (C3 data i t)):=by
   rw[<-u.clip];by_cases h:w>6
   .rw[Ao h,Aw h];rfl
   .rw[As h,Au h];rfl
  refine⟨Gt b1 (Ph v i) (Hy (C3 data i t)),?_,?_⟩
  .simp only[Am,Ad,Bool.not_false,Ak,c,x,j]
  .intro p hp y B t' l k;rcases Akx _ _ _ p hp with h|h
   .exact f p h y B t' l k
   .subst h;obtain⟨rfl,rfl⟩:=A38 l;rw[ht]at k;cases k;rfl
def Fi (a b:Int):Int:=if a<b then -1 else if a>b then 1 else 0
def Ev (a b:Int):Int:=if a=0 then b else a
theorem Hr {a b:Int}:Fi a b=0↔a=b:=by unfold Fi;split <;> (try split) <;> omega
theorem Qv (a b:Int):M8 a b=some (Fi a b):=by
 unfold M8 Z3 Fi;simp only[Ad,bne_self_eq_false,Am];by_cases h:a<b
 .rw[Ao h,Aw h];rfl
 .rw[As h,Au h];by_cases h':a>b
  .rw[Ao h',Aw h'];rfl
  .rw[As h',Au h'];rfl
theorem Aso (a b:Int):Zt a b=some (Fi a b):=Qv a b
theorem Xn (a b:Int):O6 [a,b]=some (Ev a b):=by
 unfold O6 Ev;by_cases ha:a=0
 .rw[Aw ha];by_cases hb:b=0
  .refine Lp 2 (λj=>(j:Int)) rfl ?_ ⟨.inr (),rfl,by rw[hb]⟩;intro j hj
   match j,hj with| 0,_=>subst ha;rfl| 1,_=>subst hb;rfl
  .refine Lp 1 (λj=>(j:Int)) rfl ?_ ⟨.inl b,?_,rfl⟩
   .intro j hj
    match j,hj with| 0,_=>subst ha;rfl
   .show (bif (b != 0) then _ else _)=_;rw[D9 hb];rfl
 .rw[Au ha];refine Lp 0 (λj=>(j:Int)) rfl (λj hj=>ω) ⟨.inl a,?_,rfl⟩;show (bif (a != 0) then _ else _)=_;rw[D9 ha];rfl
theorem Afs (a b:Int) (h:a≠b):Wx (decide (a<b))=some (Fi a b):=by
 unfold Wx Fi;by_cases h':a<b
 .rw[Ao h',Aw h'];rfl
 .rw[As h',Au h',Aw ω];rfl
theorem Aft (a b:Int) (h:a≠b):Tz (decide (a<b))=some (Fi a b):=Afs a b h
theorem Afu (a b:Int) (h:a≠b):Tu (decide (a<b))=some (Fi a b):=Afs a b h
def F4 {α:Type} (g:α->α->Int):List α->List α->Int
 | x::xs,y::ys=>Ev (g x y) (F4 g xs ys)
 | _,_=>0
theorem Aa6 (g:α->α->Int) (l m:List α) {step:Int->Option (Int⊕(Int⊕Unit))} (f:l.length=m.length) (hb:l.length<4611686018427387904) (c:∀(j:Nat) (x y:α),l[j]? = some x->m[j]? = some y->decide ((j:Int)<(l.length:Int))=true->Ag l (j:Int)=some x->Ag m (j:Int)=some y->decide ((j:Int)>=(m.length:Int))=false->Aa ((j:Int)+1)=((j+1:Nat):Int) -> step (j:Int)=if g x y=0 then some (.inl ((j+1:Nat):Int)) else some (.inr (.inl (g x y)))) (he:decide ((l.length:Int)<(l.length:Int))=false->step (l.length:Int)=some (.inr (.inr ()))) : ∃z,An step 0=some z/\(match z with|.inl r=>r=F4 g l m/\r≠0 | .inr _=>F4 g l m=0):=by
 have key:∀(n j:Nat),j+n=l.length->∃z,An step (j:Int)=some z/\(match z with|.inl r=>r=F4 g (l.drop j) (m.drop j)/\r≠0 | .inr _=>F4 g (l.drop j) (m.drop j)=0):=by
  intro n;induction n with
  | zero=>intro j hj;have:j=l.length:=ω;subst this;refine⟨.inr (),Fg (he ψ),?_⟩;rw[drop_of_length_le ω];simp[F4]
  | succ n ih=>
   intro j hj;have hx:l[j]? = some l[j]:=B4 ω;have hy:m[j]? = some m[j]:=B4 ω;generalize l[j]=x at hx;generalize m[j]=y at hy;have h:=c j x y hx hy (Ao ω) (Br rfl hx) (Br rfl hy) (As ω) (C5 (show j<l.length by omega) hb);rw[Lu hx,Lu hy];by_cases hg:g x y=0
   .rw[Aw hg]at h;obtain⟨z,b,z2⟩:=ih (j+1) ω;refine⟨z,by rw[Ks h];exact b,?_⟩;have e:F4 g (x::l.drop (j+1)) (y::m.drop (j+1))=F4 g (l.drop (j+1)) (m.drop (j+1)):=(by simp only[F4,Ev,hg,if_true]);cases z with| inl r=>simp only[e];exact z2| inr u=>simp only[e];exact z2
   .rw[Au hg]at h;refine⟨.inl (g x y),Fg h,?_,hg⟩;simp only[F4,Ev,hg,if_false]
 exact key l.length 0 ω
theorem Afv (f:α->α->Option Int) (g:α->α->Int) (l m:List α) (s:l.length=m.length) (hb:l.length<4611686018427387904) (hf:∀(j:Nat) (x y:α),l[j]? = some x->m[j]? = some y->f x y=some (g x y)) : ((An (S:=Int) (E:=(Int⊕Unit)) (λb=> bif b<(l.length:Int) then ((Ag l b).bind λq=> bif b>=(m.length:Int) then some (.inr (.inl 1)) else ((Ag m b).bind λv9=> (f q v9).bind λc=> bif (c != (0:Int)) then some (.inr (.inl c)) else some (.inl (Aa (b+1))))) else some (.inr (.inr ()))) 0).bind λz=> match z with
   | .inl i=>some i
   | .inr _=>bif (l.length:Int)<(m.length:Int) then some (-1) else some 0)=some (F4 g l m):=by
 refine Aaw (Aa6 g l m s hb ?_ (λh=>by simp only[h];rfl)) ?_
 .intro j x y hx hy h1 h2 h3 B A;simp only[h1,h2,h3,B,A,Ak,Am,Ad,hf j x y hx hy];by_cases hg:g x y=0
  .rw[Ea hg,Aw hg];rfl
  .rw[D9 hg,Au hg];rfl
 .rintro (r|u) k
  .rw[k.1]
  .simp only;rw[As ω,show F4 g l m=0 from k];rfl
def Nh (x y:Ek):Int:=Ev (Fi x.v y.v) (Fi x.C y.C)
def G3 (a b:Bz):Int:=if a.T.length=b.T.length then Ev (F4 Nh a.T b.T) (Fi a.Q b.Q) else Fi a.T.length b.T.length
theorem Afw (a b:Bz) (ha:a.T.length<1099511627776):M7 a b=some (G3 a b):=by
 unfold M7 G3;rw[Qv,Ad];by_cases h:a.T.length=b.T.length
 .rw[Ea (Hr.2 ω),Aw h];simp only[Am];have:=Afv Zs Nh a.T b.T h ω (λj x y _ _=>by unfold Zs Nh;rw[Qv,Aso];simp only[Ad,Xn]);rw[show Ad2 a.T b.T=_ from this,Ad,Aso];simp only[Ad,Xn]
 .rw[D9 (λe=>h (by have:=Hr.1 e;omega)),Au h];rfl
theorem Asp (a b:Bz) (ha:a.T.length<1099511627776):Qf a b=some (G3 a b):=by
 unfold Qf G3;by_cases h:a.T.length=b.T.length
 .rw[Ea ω,Aw h];simp only[Am];refine Aaw (Aa6 Nh a.T b.T h ω ?_ (λh=>by simp only[h];rfl)) ?_
  .intro j x y hx hy h1 h2 h3 i g;simp only[h1,h2,h3,g,Ak,Ad];by_cases c:x.v=y.v
   .rw[Ea c];by_cases hc:x.C=y.C
    .rw[Ea hc];rw[Aw (by unfold Nh;rw[Hr.2 c,Hr.2 hc];rfl)];rfl
    .rw[D9 hc,Aft _ _ hc];have e:Nh x y=Fi x.C y.C:=(by unfold Nh;rw[Hr.2 c];rfl);rw[e,Au (λe=>hc (Hr.1 e))];rfl
   .rw[D9 c,Aft _ _ c];have e:Nh x y=Fi x.v y.v:=(by unfold Nh Ev;rw[Au (λe=>c (Hr.1 e))]);rw[e,Au (λe=>c (Hr.1 e))];rfl
  .rintro (r|u) f
   .obtain⟨rfl,h0⟩:=f;unfold Ev;rw[Au h0]
   .have f:F4 Nh a.T b.T=0:=f;rw[f];simp only[Ev,if_true];by_cases hc:a.Q=b.Q
    .rw[Ea hc,Hr.2 hc];rfl
    .rw[D9 hc,Aft _ _ hc];rfl
 .rw[D9 ω,Au h,Aft _ _ ω];rfl
mutual
def F5:Ai->Ai->Int
 | ⟨n,k⟩,j=>if n=j.U then (if k.length=j.K.length then U3 k j.K else Fi k.length j.K.length) else Fi n j.U
def U3:List Ai->List Ai->Int
 | x::xs,y::ys=>Ev (F5 x y) (U3 xs ys)
 | [],_=>0
 | _::_,[]=>0
end
theorem Aky (i j:Ai):F5 i j=if i.U=j.U then (if i.K.length=j.K.length then U3 i.K j.K else Fi i.K.length j.K.length) else Fi i.U j.U:=by cases i;simp only[F5]
theorem Afx:∀l m:List Ai,U3 l m=F4 F5 l m
 | x::xs,y::ys=>by simp only[U3,F4,Afx xs ys]
 | [],_=>by simp[U3,F4]
 | _::_,[]=>by simp[U3,F4]
theorem Asq:∀(n k:Nat) (i j:Ai),Bo i<=n->2*n<=k->n<1099511627776->Qh k i j=some (F5 i j):=by
 intro n;induction n with
 | zero=>intro k i j h;have:=Eb i;omega
 | succ n ih=>
  intro k i j h hk c;obtain⟨k,rfl⟩:∃b,k=b+2:=⟨k-2,ω⟩;have hi:=Eb i;have f:=L9 i.K;rw[Qh,Aky,Qv,Qv];simp only[Ad,Xn];by_cases h1:i.U=j.U
  .rw[Aw h1];by_cases h2:i.K.length=j.K.length
   .rw[Aw h2,Ea (by unfold Ev;rw[Hr.2 h1,Hr.2 ω];rfl),Afx];simp only[Am];have:=Afv (Qh k) F5 i.K j.K h2 ω (λq x y hx hy=>ih k x y (by have:=Jt (Bq hx);omega) ω ω);rw[Z4];refine Eq.trans (congrArg (λq=>Option.bind q _) this) rfl
   .have e:Ev (Fi i.U j.U) (Fi (i.K.length:Int) (j.K.length:Int))=Fi i.K.length j.K.length:=(by unfold Ev;rw[Hr.2 h1];rfl);rw[Au h2,e,D9 (λe=>h2 (by have:=Hr.1 e;omega))];rfl
  .have e:Ev (Fi i.U j.U) (Fi (i.K.length:Int) (j.K.length:Int))=Fi i.U j.U:=(by unfold Ev;rw[Au (λe=>h1 (Hr.1 e))]);rw[Au h1,e,D9 (λe=>h1 (Hr.1 e))];rfl
theorem A4e:∀(n k:Nat) (i j:Ai),Bo i<=n->2*n<=k->n<1099511627776->Rr k i j=some (F5 i j):=by
 intro n;induction n with
 | zero=>intro k i j h;have:=Eb i;omega
 | succ n ih=>
  intro k i j h hk s;obtain⟨k,rfl⟩:∃g,k=g+2:=⟨k-2,ω⟩;have hi:=Eb i;have A:=L9 i.K;rw[Rr,Aky];by_cases h1:i.U=j.U
  .rw[Aw h1,Ea h1];simp only[Am];rw[Zw];by_cases h2:i.K.length=j.K.length
   .rw[Aw h2,Ea ω,Afx];simp only[Am];have:=Aa6 F5 i.K j.K h2 ω (step:=λv5=>bif v5<(i.K.length:Int) then ((Ag i.K v5).bind λf=>(Ag j.K v5).bind λc=>(Rr k f c).bind λv8=>bif (v8 != (0:Int)) then some (.inr (.inl v8)) else some (.inl (Aa (v5+1)))) else some (.inr (.inr ()))) (λq x y hx hy h1 h2 h3 B l=>by
     simp only[h1,h2,h3,l,Ak,Ad,ih k x y (by have:=Jt (Bq hx);omega) ω ω];by_cases hg:F5 x y=0
     .rw[Ea hg,Aw hg];rfl
     .rw[D9 hg,Au hg];rfl) (λh=>by simp only[h];rfl);obtain⟨z,b,z2⟩:=this;rw[b,Ad];cases z with| inl r=>rw[z2.1];rfl| inr u=>rw[show F4 F5 i.K j.K=0 from z2];rfl
   .rw[Au h2,D9 ω,Afs _ _ ω];rfl
  .rw[Au h1,D9 h1,Afs _ _ h1];rfl
def Ni (x y:Bf):Int:=Ev (Fi x.v y.v) (F5 x.I y.I)
def On (x y:Bi):Int:=Ev (G3 x.L y.L) (Fi x.P y.P)
def Ei (a b:Bd):Int := if a.F.length=b.F.length then Ev (F4 Ni a.F b.F) (if a.A.length=b.A.length then F4 On a.A b.A else Fi a.A.length b.A.length) else Fi a.F.length b.F.length
structure MSz (m:Bd):Prop where
 nf:m.F.length<=1048576
 na:m.A.length<=1048576
 fi:∀f∈m.F,Bo f.I<=1048576
 fr:∀f∈m.F,iR f.I/\Fh f.v
 al:∀a∈m.A,a.L.T.length<=1048576
theorem Asr (a b:Bd) (ha:MSz a):Rm a b=some (Ei a b):=by
 have h1:=ha.nf;have h2:=ha.na;unfold Rm Ei;rw[Qv,Ad];by_cases h:a.F.length=b.F.length
 .rw[Ea (Hr.2 ω),Aw h];simp only[Am];have:=Afv Zp Ni a.F b.F h ω (λj x y hx hy=>by unfold Zp Ni;rw[Qv,Asq 1048576 4000000 x.I y.I (ha.fi x (Bq hx)) ω ω];simp only[Ad,Xn]);rw[show Ady a.F b.F=_ from this,Ad,Qv];simp only[Ad,Xn];by_cases h0:F4 Ni a.F b.F=0
  .simp only[h0,Ev,if_true];by_cases h':a.A.length=b.A.length
   .rw[Ea (Hr.2 ω),Aw h'];simp only[Am];have:=Afv Zq On a.A b.A h' ω (λj x y hx hy=>by unfold Zq On;rw[Qv,Afw x.L y.L (by have:=ha.al x (Bq hx);omega)];simp only[Ad,Xn]);rw[show Adz a.A b.A=_ from this];rfl
   .rw[D9 (λe=>h' (by have:=Hr.1 e;omega)),Au h'];rfl
  .simp only[Ev,Au h0];rw[D9 h0];rfl
 .rw[D9 (λe=>h (by have:=Hr.1 e;omega)),Au h];rfl
theorem A4f (a b:Bd) (ha:MSz a):Wd a b=some (Ei a b):=by
 have h1:=ha.nf;have h2:=ha.na;unfold Wd Ei;by_cases h:a.F.length=b.F.length
 .rw[Ea ω,Aw h];simp only[Am];refine Aaw (Aa6 Ni a.F b.F h ω ?_ (λh=>by simp only[h];rfl)) ?_
  .intro j x y hx hy h1 h2 h3 i g;simp only[h1,h2,h3,g,Ak,Ad,A4e 1048576 4000000 x.I y.I (ha.fi x (Bq hx)) ω ω];by_cases c:x.v=y.v
   .rw[Ea c];have e:Ni x y=F5 x.I y.I:=(by unfold Ni Ev;rw[Aw (Hr.2 c)]);rw[e];by_cases hc:F5 x.I y.I=0
    .rw[Ea hc,Aw hc];rfl
    .rw[D9 hc,Au hc];rfl
   .rw[D9 c,Afu _ _ c];have e:Ni x y=Fi x.v y.v:=(by unfold Ni Ev;rw[Au (λe=>c (Hr.1 e))]);rw[e,Au (λe=>c (Hr.1 e))];rfl
  .rintro (r|u) f
   .obtain⟨rfl,h0⟩:=f;unfold Ev;rw[Au h0]
   .have f:F4 Ni a.F b.F=0:=f;rw[f];simp only[Ev,if_true];by_cases h':a.A.length=b.A.length
    .rw[Ea ω,Aw h'];simp only[Am];refine Aaw (Aa6 On a.A b.A h' ω ?_ (λh=>by simp only[h];rfl)) ?_
     .intro j x y hx hy h1 h2 h3 i g;simp only[h1,h2,h3,g,Ak,Ad,Asp x.L y.L (by have:=ha.al x (Bq hx);omega)];by_cases c:G3 x.L y.L=0
      .rw[Ea c];have e:On x y=Fi x.P y.P:=(by unfold On Ev;rw[Aw c]);rw[e];by_cases hc:x.P=y.P
       .rw[Ea hc,Aw (Hr.2 hc)];rfl
       .rw[D9 hc,Afu _ _ hc,Au (λe=>hc (Hr.1 e))];rfl
      .have e:On x y=G3 x.L y.L:=(by unfold On Ev;rw[Au c]);rw[D9 c,e,Au c];rfl
     .rintro (r|u) f
      .rw[f.1]
      .rw[show F4 On a.A b.A=0 from f]
    .rw[D9 ω,Au h',Afu _ _ ω];rfl
 .rw[D9 ω,Au h,Afu _ _ ω];rfl
def Kx {α:Type} (f:α->Int) (l:List α) (x:α) (j:Nat):Bool:=j==0||(match l[j-1]? with|some y=>decide (f y<f x) | none=>false)
def Xo (l:List Ek) (x:Ek) (j:Nat):Bool:=decide (-1<=x.v/\x.v<3000/\x.C≠0/\-1048576<=x.C/\x.C<=1048576)&&Kx (·.v) l x j
def Ic (a:Bz):Bool:=decide (-1048576<=a.Q/\a.Q<=1048576/\a.T.length<=16)&&a.T.zipIdx.all (λq=>Xo a.T q.1 q.2)
theorem Ass (n:Int):Wv n=some (decide (-1048576<=n/\n<=1048576)):=by unfold Wv;by_cases h:(-1048576:Int)<=n <;> simp[h]
theorem A4g (n:Int):Zv n=some (decide (-1<=n/\n<3000)):=by unfold Zv;by_cases h:(-1:Int)<=n <;> simp[h]
theorem Akz {α S E:Type} (f:α->Int) (l:List α) {x:α} {j:Nat} (hx:l[j]? = some x) (i:l.length<4611686018427387904) (c b:Option (S⊕E)) : (bif decide ((j:Int)>0) then ((Ag l (Aa ((j:Int)-1))).bind λg=>bif decide (f g>=f x) then c else b) else b)=bif Kx f l x j then b else c:=by
 have hj:=Eh hx;unfold Kx;by_cases h:j=0
 .subst h;rfl
 .rw[Ao ω];have e:Aa ((j:Int)-1)=((j-1:Nat):Int):=ξ;have hy:l[j-1]? = some l[j-1]:=B4 ω;rw[e,Br rfl hy,hy];have h0:(j==0)=false:=(by simpa using h);simp only[Ak,Ad,h0,Bool.false_or];by_cases hc:f l[j-1]<f x
  .rw[As ω,Ao hc];rfl
  .rw[Ao ω,As hc];rfl
theorem Ast (a:Bz):Qc a=some (Ic a):=by
 unfold Qc Ic;rw[Ass];simp only[Ad];by_cases h1 : -1048576<=a.Q/\a.Q<=1048576
 .rw[Ao h1];by_cases h2:a.T.length<=16
  .rw[As (ω:¬(a.T.length:Int)>16),Ao ⟨h1.1,h1.2,h2⟩];simp only[Eg,Am,Ad,Bool.true_and];refine (Uu a.T (λq=>Xo a.T q.1 q.2) (λj=>(j:Int)) rfl ω (rt:=true) (rf:=false) ?_ ?_).trans (by rw[Qm])
   .intro j x hx _ h1 h2 h3;simp only[h1,h2,h3,Ak,Ad,A4g,Ass,Akz (·.v) a.T hx ω,Xo];by_cases g1 : -1<=x.v/\x.v<3000
    .by_cases g2:x.C=0
     .rw[Ao g1,Fm g2,As (λh=>h.2.2.1 g2)];exact⟨nofun,λ_=>⟨.inl false,rfl,rfl⟩⟩
     .by_cases g3 : -1048576<=x.C/\x.C<=1048576
      .rw[Ao g1,Cy g2,Ao g3,Ao ⟨g1.1,g1.2,g2,g3.1,g3.2⟩];cases Kx (·.v) a.T x j with| true=>exact⟨λ_=>rfl,λh=>by cases h⟩| false=>exact⟨nofun,λ_=>⟨.inl false,rfl,rfl⟩⟩
      .rw[Ao g1,Cy g2,As g3,As (λh=>g3 h.2.2.2)];exact⟨nofun,λ_=>⟨.inl false,rfl,rfl⟩⟩
    .rw[As g1,As (λh=>g1 ⟨h.1,h.2.1⟩)];exact⟨nofun,λ_=>⟨.inl false,rfl,rfl⟩⟩
   .intro h _;exact⟨.inr (),by simp only[h];rfl,rfl⟩
  .rw[Ao (ω:(a.T.length:Int)>16),As (λh=>h2 h.2.2)];rfl
 .rw[As h1,As (λh : -1048576<=a.Q/\a.Q<=1048576/\a.T.length<=16=>h1 ⟨h.1,h.2.1⟩)];rfl
theorem A4h (a:Bz):Ts a=some (Ic a):=by
 unfold Ts Ic;by_cases h2:a.T.length<=16
 .rw[As (ω:¬(a.T.length:Int)>16)];by_cases h1 : -1048576<=a.Q
  .rw[As (ω:¬a.Q < -1048576)];by_cases h3:a.Q<=1048576
   .rw[As (ω:¬a.Q>1048576),Ao ⟨h1,h3,h2⟩];simp only[Am,Ad,Bool.true_and];refine (Uu a.T (λq=>Xo a.T q.1 q.2) (λj=>(j:Int)) rfl ω (rt:=true) (rf:=false) ?_ ?_).trans (by rw[Qm])
    .intro j x hx _ h1 h2 h3;simp only[h1,h2,h3,Ak,Ad,Akz (·.v) a.T hx ω,Xo];by_cases g1:x.v < -1
     .rw[Ao g1,As (λh=>ω)];exact⟨nofun,λ_=>⟨.inl false,rfl,rfl⟩⟩
     by_cases g2:x.v>=3000
     .rw[As g1,Ao g2,As (λh=>ω)];exact⟨nofun,λ_=>⟨.inl false,rfl,rfl⟩⟩
     by_cases g3:x.C=0
     .rw[As g1,As g2,Fm g3,As (λh=>ω)];exact⟨nofun,λ_=>⟨.inl false,rfl,rfl⟩⟩
     by_cases g4:x.C < -1048576
     .rw[As g1,As g2,Cy g3,Ao g4,As (λh=>ω)];exact⟨nofun,λ_=>⟨.inl false,rfl,rfl⟩⟩
     by_cases g5:x.C>1048576
     .rw[As g1,As g2,Cy g3,As g4,Ao g5,As (λh=>ω)];exact⟨nofun,λ_=>⟨.inl false,rfl,rfl⟩⟩
     rw[As g1,As g2,Cy g3,As g4,As g5,Ao ω];cases Kx (·.v) a.T x j with| true=>exact⟨λ_=>rfl,λh=>by cases h⟩| false=>exact⟨nofun,λ_=>⟨.inl false,rfl,rfl⟩⟩
    .intro h _;exact⟨.inr (),by simp only[h];rfl,rfl⟩
   .rw[Ao (ω:a.Q>1048576),As (λh : -1048576<=a.Q/\a.Q<=1048576/\a.T.length<=16=>ω)];rfl
  .rw[Ao (ω:a.Q < -1048576),As (λh : -1048576<=a.Q/\a.Q<=1048576/\a.T.length<=16=>ω)];rfl
 .rw[Ao (ω:(a.T.length:Int)>16),As (λh : -1048576<=a.Q/\a.Q<=1048576/\a.T.length<=16=>ω)];rfl
structure Ky (data:List Al) (vars:List Af) (res:Af):Prop where
 vd:Hx data
 sh:Kv data
 sz:∀v t,Em vars res v=some t->Bl t<=200
 nv:vars.length<=3000
theorem Asu (vars:List Af) (res:Af) (v:Int):(Em vars res v).isSome=decide (-1<=v/\v<vars.length):=by
 unfold Em;by_cases h:v = -1
 .rw[Aw h];subst h;rw[Ao ω];rfl
 .rw[Au h];cases hx:Ag vars v with
  | none=>rcases Sd hx with h'|h' <;> rw[As ω] <;> rfl
  | some t=>have:=G9 hx;rw[Ao ω];rfl
section
variable (b1:List (ByteArray×Int)) (b2:List (ByteArray×List Av)) (data:List Al) (vars:List Af) (res:Af)
theorem Asv (v:Int) (f c:Int) (b:List Af):Tx v b1 b2 data vars f c b=some (Em vars res v).isSome:=by
 rw[Asu];unfold Tx;by_cases h:v>=-1
 .rw[Ao h];by_cases h':v<(vars.length:Int)
  .rw[Ao h',Ao ⟨h,h'⟩];rfl
  .rw[As h',As (λg=>h' g.2)];rfl
 .rw[As h,As (λg : -1<=v/\v<(vars.length:Int)=>h g.1)];rfl
theorem Asw {v:Int} {t:Af} (ht:Em vars res v=some t):Ob v b1 b2 data vars res.G res.U res.R=some t:=by
 unfold Ob;unfold Em at ht;by_cases h:v = -1
 .rw[Aw h]at ht;cases ht;have b:(Af.mk res.G res.U res.R)=res:=(by cases res;rfl);rw[Fm h,b];rfl
 .rw[Au h]at ht;rw[Cy h,ht];rfl
def Xp (t:Ek):Bool:=match Em vars res t.v with|some u=>u.G==1|none=>false
def Ju (l:Bz):Bool:=l.T.all (Xp vars res)
theorem A4i (l:Bz) (c:l.T.length<=1048576):To l b1 b2 data vars res.G res.U res.R=some (Ju vars res l):=by
 unfold To Ad5 Aec;have key:=Arr l.T (λt=>!Xp vars res t) ω (J:=λz=>match z with|.inl b=>some b | .inr _=>some (-1)) (step:=λv3=>bif v3<(l.T.length:Int) then ((Ag l.T v3).bind λv4=>(Ww v4 b1 b2 data vars res.G res.U res.R).bind λv5=>bif v5 then some (.inr (.inl v3)) else some (.inl (Aa (v3+1)))) else some (.inr (.inr ()))) (by intro j x hx h1 h2 h3;have e:Ww x b1 b2 data vars res.G res.U res.R=some (!Xp vars res x):=(by unfold Ww Xp;rw[Asv b1 b2 data vars res,Ad];cases ht:Em vars res x.v with| none=>rfl| some t=>rw[Asw b1 b2 data vars res ht];rfl);simp only[h1,h2,h3,Ak,Ad,e]) (λh=>by simp only[h];rfl) (λ_=>rfl) rfl
 obtain⟨i,i1,i2⟩:=key
 erw[i1];simp only[Ad,i2];congr 1;unfold Ju;rw[any_eq_not_all_not];simp
theorem Asx (x:Bs) (v:Int):Tq x v=some (match Em x.V x.E v with|some t=>(t,true) | none=>(⟨0,0,[]⟩,false)):=by
 unfold Tq Em;by_cases h:v = -1
 .rw[Fm h,Aw h];rfl
 .rw[Cy h,Au h];cases hx:Ag x.V v with
  | none=>
   rcases Sd hx with h'|h'
   .simp only[Ao h',Ak,Am,Ad]
   .by_cases h0:v<0
    .simp only[Ao h0,Ak,Am,Ad]
    .simp only[As h0,Ao (show v>=(x.V.length:Int) from h'),Ak,Am,Ad]
  | some t=>obtain⟨a1,a2,_⟩:=G9 hx;simp only[As (ω:¬v<0),As (ω:¬v>=(x.V.length:Int)),Am,Ad]
theorem A4j (x:Bs) (l:Bz) (b:l.T.length<=1048576):Tt x l=some (Ju x.V x.E l):=by
 unfold Tt;refine (Sc l.T (Xp x.V x.E) (λj=>(j:Int)) rfl ω (rt:=true) (rf:=false) ?_ ?_).trans (by rw[Qm];rfl)
 .intro j t ht h1 h2 h3;simp only[h1,h2,h3,Ak,Ad,Asx];unfold Xp;cases hu:Em x.V x.E t.v with
  | none=>exact⟨nofun,λ_=>⟨.inl false,rfl,rfl⟩⟩
  | some u=>
   simp only[Eg,Am];by_cases hk:u.G=1
   .rw[Fm hk,Ea hk];exact⟨λ_=>rfl,λh=>by cases h⟩
   .rw[Cy hk,D9 hk];exact⟨nofun,λ_=>⟨.inl false,rfl,rfl⟩⟩
 .intro h;exact⟨.inr (),by simp only[h];rfl,rfl⟩
def D3 (f:Bf):Int:=match Em vars res f.v with|some t=>Hy (C3 data f.I t) | none => -1
theorem Afy (f:Bf) : -1<=D3 data vars res f/\D3 data vars res f<=6:=by
 unfold D3;cases Em vars res f.v with
 | none=>simp
 | some t=>rcases Afh (C3 data f.I t) with⟨h,_⟩|⟨d,_,h2,h⟩ <;> simp only[h] <;> omega
def Mr (m:Bd):Bool:=m.F.all (λf=>decide (0<=D3 data vars res f))&&m.A.all (λa=>decide (0<=a.P)&&Ju vars res a.L)
def Bw (l:List Bf):Int:=(l.map (D3 data vars res)).sum
def Dk (l:List Bi):Int:=(l.map (·.P)).sum
def Pi (l:List Bi) (x:Bi) (j:Nat):Bool:=j==0||(match l[j-1]? with|some y=>decide (G3 y.L x.L<0) | none=>false)
def Ma (l:List Bf) (f:Bf) (j:Nat):Bool:=decide (1<=D3 data vars res f)&&Kx (·.v) l f j
def Ki (l:List Bi) (a:Bi) (j:Nat):Bool:=decide (1<=a.P)&&Ic a.L && !(a.L.T.length==0)&&Ju vars res a.L&&Pi l a j
def Ix (m:Bd):Bool:=m.F.zipIdx.all (λq=>Ma data vars res m.F q.1 q.2)&&m.A.zipIdx.all (λq=>Ki vars res m.A q.1 q.2)&&decide (Bw data vars res m.F+Dk m.A<=6)
variable {b1 data vars res}
theorem Aa7 (hc:Ky data vars res) (i:D0 data vars res b1) (f:Bf) (g:Fh f.v) (h:iR f.I) (hi:Bo f.I<=1048576) (b:(Em vars res f.v).isSome=true) : ∃c,M9 f.v f.I b1 b2 data vars res.G res.U res.R=some (D3 data vars res f,c)/\D0 data vars res c:=by cases ht:Em vars res f.v with| none=>rw[ht]at b;cases b| some t=>obtain⟨c,h1,h2⟩:=A4d hc.vd.szv hc.sh b1 b2 vars res i f.v f.I t ht (hc.sz _ _ ht) g h hi;refine⟨c,?_,h2⟩;rw[h1];unfold D3;rw[ht]
theorem A4k (hc:Ky data vars res) (V:D0 data vars res b1) (m:Bd) (l:MSz m) :
  ∃s,Zz m b1 b2 data vars res.G res.U res.R=some (Mr data vars res m,s)/\D0 data vars res s:=by
 have hf:=l.nf
 have ha:=l.na
 unfold Zz
 refine Xj (λs=>(Mr data vars res m,s)) ?_
 obtain⟨r,U,N⟩:=Aax (M:=List (ByteArray×Int)) (R:=Bool×List (ByteArray×Int)) m.F (λq=>decide (0<=D3 data vars res q.1)) (λj o=>((j:Int),o)) (D0 data vars res)
  (λr=>D0 data vars res r.2/\r.1=m.A.all (λa=>decide (0<=a.P)&&Ju vars res a.L)) (λr=>D0 data vars res r.2/\r.1=false) b1
  (s0:=((0:Int),b1))
  (step:=(λ(A,x)=>
   bif A<(m.F.length:Int) then (
   (Ag m.F A).bind λv8=>
   (Tx v8.v x b2 data vars res.G res.U res.R).bind λB=>
   bif (!B) then some (.inr (.inl (false,x)))
   else (
   (M9 v8.v v8.I x b2 data vars res.G res.U res.R).bind λg=>
   bif g.1<(0:Int) then some (.inr (.inl (false,g.2)))
   else some (.inl ((Aa (A+1)),g.2))))
   else some (.inr (.inr x)):Int×List (ByteArray×Int)->Option ((Int×List (ByteArray×Int))⊕((Bool×List (ByteArray×Int))⊕List (ByteArray×Int)))))
  (J:=(λz=>match z with
   | .inl (L,I)=>some (L,I)
   | .inr b=>(An (S:=Int) (E:=((Bool×List (ByteArray×Int))⊕Unit)) (λc=>
     bif c<(m.A.length:Int) then (
     (Ag m.A c).bind λu=>
     bif u.P<(0:Int) then some (.inr (.inl (false,b)))
     else (
     (To u.L b b2 data vars res.G res.U res.R).bind λv21=>
     bif (!v21) then some (.inr (.inl (false,b)))
     else some (.inl (Aa (c+1)))))
     else some (.inr (.inr ()))) 0).bind λz=>match z with
      | .inl (G,D)=>some (G,D)
      | .inr _=>some (true,b)))
  rfl V ω (by
   intro j f o y hx _ h1 h2 h3
   have k:=Bq hx
   simp only[h1,h2,h3,Ak,Ad,Asv o b2 data vars res]
   cases i:(Em vars res f.v).isSome with
   | false=>
    have e:D3 data vars res f = -1:=by
     unfold D3
     cases ht:Em vars res f.v with
     | none=>rfl
     | some t=>rw[ht]at i;cases i
    rw[e]
    exact⟨nofun,λ_=>⟨_,rfl,_,rfl,y,rfl⟩⟩
   | true=>
    obtain⟨s,d1,d2⟩:=Aa7 b2 hc y f (l.fr f k).2 (l.fr f k).1 (l.fi f k) i
    simp only[Eg,Am,d1,Ad]
    by_cases h0:0<=D3 data vars res f
    .rw[Ao h0,As ω]
     exact⟨λ_=>⟨s,rfl,d2⟩,λh=>by cases h⟩
    .rw[As h0,Ao ω]
     exact⟨nofun,λ_=>⟨_,rfl,_,rfl,d2,rfl⟩⟩) (by
   intro o y h1 _
   refine⟨.inr o,by simp only[h1];rfl,?_⟩
   refine⟨(m.A.all (λa=>decide (0<=a.P)&&Ju vars res a.L),o),?_,y,rfl⟩
   refine (Sc m.A (λa=>decide (0<=a.P)&&Ju vars res a.L) (λj=>(j:Int)) rfl ω (rt:=(true,o)) (rf:=(false,o)) ?_ ?_).trans (by cases m.A.all (λa=>decide (0<=a.P)&&Ju vars res a.L) <;> rfl)
   .intro j a hx h1 h2 h3
    simp only[h1,h2,h3,Ak,Ad,A4i o b2 data vars res a.L (l.al a (Bq hx))]
    by_cases h0:0<=a.P
    .rw[Ao h0,As ω]
     cases Ju vars res a.L with
     | true=>exact⟨λ_=>rfl,λh=>by cases h⟩
     | false=>exact⟨nofun,λ_=>⟨_,rfl,rfl⟩⟩
    .rw[As h0,Ao ω]
     exact⟨nofun,λ_=>⟨_,rfl,rfl⟩⟩
   .intro h;exact⟨.inr (),by simp only[h];rfl,rfl⟩)
 refine⟨r,U,r.2,?_,?_⟩
 .unfold Mr
  rw[<-Ae4]
  rcases N with⟨h1,h2,h3⟩|⟨h1,h2,h3⟩
  .rw[h1,Bool.true_and,<-h3]
  .rw[h1,Bool.false_and,<-h3]
 .rcases N with⟨h1,h2,h3⟩|⟨h1,h2,h3⟩ <;> exact h2
theorem Ak0 (g:Bf->Int) {l:List Bf} {j:Nat} {x:Bf} (h:l[j]? = some x):((l.take (j+1)).map g).sum=((l.take j).map g).sum+g x:=by rw[Db h];simp
theorem Ak1 {l:List Bi} {j:Nat} {x:Bi} (h:l[j]? = some x):Dk (l.take (j+1))=Dk (l.take j)+x.P:=by unfold Dk;rw[Db h];simp
theorem A4l (hc:Ky data vars res) (z:D0 data vars res b1) (m:Bd) (k:MSz m) (hp:Mr data vars res m=true) : ∃p:Int×List (ByteArray×Int),O4 m b1 b2 data vars res.G res.U res.R=some p/\(decide (p.1>6) = !decide (Bw data vars res m.F+Dk m.A<=6))/\D0 data vars res p.2:=by
 have hf:=k.nf;have ha:=k.na;unfold Mr at hp;rw[Dz,I5,I5]at hp;unfold O4;refine Ey (λ(v5,u,g)=>∃j:Nat,u=j/\j<=m.F.length/\D0 data vars res g/\0<=v5/\v5<=12/\(v5=Bw data vars res (m.F.take j)\/(6<v5/\6<Bw data vars res (m.F.take j)))) (λ(_,u,_)=>m.F.length-u.toNat) (λ(v5,g)=>D0 data vars res g/\0<=v5/\v5<=12/\(v5=Bw data vars res m.F\/(6<v5/\6<Bw data vars res m.F))) ⟨0,rfl,ω,z,ω,ω,.inl (by simp[Bw])⟩ ?_ ?_
 .rintro⟨v5,u,g⟩ ⟨j,rfl,hj,q,h0,h12,l⟩;rcases Cf j m.F.length with h|h
  .have hx:m.F[j]? = some m.F[j]:=B4 h;generalize m.F[j]=f at hx;have c:=Bq hx;have hd:=hp.1 f c;rw[D8]at hd;have A:=(Afy data vars res f).2;have es:Bw data vars res (m.F.take (j+1))=Bw data vars res (m.F.take j)+D3 data vars res f:=Ak0 _ hx;simp only[Ao (ω:(j:Int)<(m.F.length:Int)),Ak,Br rfl hx,Ad,C5 h ω];by_cases s:v5<=6
   .have x:(Em vars res f.v).isSome=true:=by
     unfold D3 at hd;cases ht:Em vars res f.v with
     | none=>rw[ht]at hd;have hd:(0:Int)<=-1:=hd;omega
     | some t=>rfl
    obtain⟨B,d1,d2⟩:=Aa7 b2 hc q f (k.fr f c).2 (k.fr f c).1 (k.fi f c) x;rw[Ao s];simp only[Ak,d1,Ad];have b:Aa (v5+D3 data vars res f)=v5+D3 data vars res f:=ξ;exact .inl ⟨_,rfl,⟨j+1,rfl,ω,d2,by simp only[b];omega,by simp only[b];omega,by simp only[b,es];omega⟩,ζ⟩
   .rw[As s];exact .inl ⟨_,rfl,⟨j+1,rfl,ω,q,h0,h12,by simp only[es];omega⟩,ζ⟩
  .have:j=m.F.length:=ω;subst this;rw[Dq]at l;exact .inr ⟨(v5,g),ψ,q,h0,h12,l⟩
 .rintro⟨v5,g⟩ ⟨q,h0,h12,l⟩;simp only;refine Ey (λ(v,i)=>∃j:Nat,i=j/\j<=m.A.length/\0<=v/\v<=13/\(v=Bw data vars res m.F+Dk (m.A.take j)\/(6<v/\6<Bw data vars res m.F+Dk (m.A.take j)))) (λ(_,i)=>m.A.length-i.toNat) (λv=>(v=Bw data vars res m.F+Dk m.A\/(6<v/\6<Bw data vars res m.F+Dk m.A))) ⟨0,rfl,ω,h0,ω,by simpa[Dk] using l⟩ ?_ ?_
  .rintro⟨v,i⟩ ⟨j,rfl,hj,g0,g13,gv⟩;rcases Cf j m.A.length with h|h
   .have hx:m.A[j]? = some m.A[j]:=B4 h;generalize m.A[j]=a at hx;have hd:=hp.2 a (Bq hx);rw[Dz,D8]at hd;have es:=Ak1 hx;simp only[Ao (ω:(j:Int)<(m.A.length:Int)),Ak,Br rfl hx,Ad,C5 h ω];by_cases s:v<=6
    .rw[Ao s];simp only[Ak];by_cases y:7<a.P
     .rw[Aw y];have b:Aa (v+7)=v+7:=ξ;exact .inl ⟨_,rfl,⟨j+1,rfl,ω,by simp only[b];omega,by simp only[b];omega,by simp only[b,es];omega⟩,ζ⟩
     .rw[Au y];have b:Aa (v+a.P)=v+a.P:=ξ;exact .inl ⟨_,rfl,⟨j+1,rfl,ω,by simp only[b];omega,by simp only[b];omega,by simp only[b,es];omega⟩,ζ⟩
    .rw[As s];exact .inl ⟨_,rfl,⟨j+1,rfl,ω,g0,g13,by simp only[es];omega⟩,ζ⟩
   .have:j=m.A.length:=ω;subst this;rw[Dq]at gv;exact .inr ⟨v,ψ,gv⟩
  .intro v l;refine⟨(v,g),rfl,?_,q⟩;by_cases h:Bw data vars res m.F+Dk m.A<=6
   .rw[Ao h,As (by simp only;omega)];rfl
   .rw[As h,Ao (by simp only;omega)];rfl
end
end Go.Ab
