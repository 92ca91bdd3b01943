/- Plain laws. -/
import Derived.Test.YtadpefofplenmaaGreatDoorWrPl0
import Derived.Lib.ItoaLen
open List
namespace Go.Ab
open Go
def isV(σ:A1)(k n:Int):Bool:=k==4&&decide (0<=n)&&decide (n<(σ.length:Int))
mutual
def Ea(σ:List Ai):Ai->Ai
 |⟨k,n,l⟩=>match(if isV σ k n then σ[n.toNat]? else none)with
  |some s=>s
  |none=>⟨k,n,Rs σ l⟩
def Rs(σ:List Ai):List Ai->List Ai
 |[]=>[]
 |x::xs=>Ea σ x::Rs σ xs
end
variable{t:Ai}{σ:A1}
theorem A6t(σ l:A1):Rs σ l=l.map (Ea σ):=by induction l with|nil=>rfl|cons x xs ih=>simp only[Rs,ih,map_cons]
theorem Ag3{k n:Int}(h:isV σ k n=true):∃s,σ[n.toNat]?=some s/\Af σ n=some s/\s∈σ:=by simp only[isV,Dr,Eh]at h;have b:n.toNat < σ.length:=ω;refine⟨σ[n.toNat],Bn b,?_,getElem_mem b⟩;unfold Af;rw[Ar ω,Bn b]
theorem Ag4{s:Ai}(h:isV σ t.G t.U=true)(b:σ[t.U.toNat]?=some s):Ea σ t=s:=by cases t;simp only[Ea]at *;simp[h,b]
theorem Al5(h:isV σ t.G t.U=false):Ea σ t=⟨t.G,t.U,t.R.map (Ea σ)⟩:=by cases t;simp only[Ea]at *;simp[h,A6t]
mutual
theorem At7:∀t:Ai,Ea [] t=t
 |⟨k,n,l⟩=>by
  have e:isV [] k n=false:=by
   unfold isV
   by_cases h:0<=n
   .rw[Am (by simp;omega:¬n<(([]:List Ai).length:Int))];simp
   .rw[Am h];simp
  simp only[Ea,e,At8 l];rfl
theorem At8:∀l:List Ai,Rs [] l=l
 |[]=>rfl
 |x::xs=>by simp only[Rs,At7 x,At8 xs]
end
mutual
theorem Al6(σ:List Ai)(M:Nat)(h:1<=M)(g:∀s∈σ,B2 s<=M):∀t:Ai,B2 (Ea σ t)<=B2 t*M
 |⟨k,n,l⟩=>by
  cases e:isV σ k n with
  |true=>
   obtain⟨s,i,_,p⟩:=Ag3 e
   rw[Ag4 (t:=⟨k,n,l⟩) e i]
   have:=g s p
   have q:=Qi ⟨k,n,l⟩
   calc B2 s<=1*M:=ω
    _<=_:=Nat.mul_le_mul_right M q
  |false=>
   have:=At9 σ M h g l
   simp only[Ea,e,B2]
   simp only[Bool.false_eq_true,if_false,B2]
   rw[Nat.add_mul];omega
theorem At9(σ:List Ai)(M:Nat)(e:1<=M)(g:∀s∈σ,B2 s<=M):∀l:List Ai,Dk (Rs σ l)<=Dk l*M
 |[]=>by simp[Rs,Dk]
 |x::xs=>by
  have h:=Al6 σ M e g x
  have i:=At9 σ M e g xs
  simp only[Rs,Dk]
  rw[Nat.add_mul];omega
end
variable{a t:Ai}{b:Bool}{Δ:A0}{l:A1}{r:In}{j:Nat}
theorem Al7(σ:A1)(t:Ai):(bif t.G==(4:Int)then bif decide (t.U>=(0:Int))then some (decide (t.U<(σ.length:Int)))else some false else some false)=some (isV σ t.G t.U):=by unfold isV;cases t.G==4<;>simp;by_cases h:0<=t.U<;>simp[h]
theorem A6u:∀(k:Nat)(t:Ai)(σ:A1)(M:Nat),(∀s∈σ,B2 s<=M)->B2 t+M+1<=k->k<1099511627776->Tb k t σ=some (Ea σ t):=by intro k;induction k with|zero=>intro t σ M _ h;omega|succ k ih=>intro t σ M c h u;have g:=J3 t;have f:=Lw t.R;rw[Tb];rw[show(show OB from bif t.G==(4:Int)then bif decide (t.U>=(0:Int))then some (decide (t.U<(σ.length:Int)))else some false else some false)=some (isV σ t.G t.U)from Al7 σ t,Ac];cases b:isV σ t.G t.U with|true=>obtain⟨s,e,i,p⟩:=Ag3 b;have:=c s p;simp only[Ak,i,Ac,Ag4 b e,ih s [] 0 ψ ω ω,At7]|false=>rw[Al5 b];simp only[Aj];refine H5 t.R (λj=>((j:Int),(t.R.take j).map (Ea σ))) rfl ω ?_ ?_;intro j x v q e i p;have:=Kd (B5 q);simp only[e,i,p,Ak,Ac,ih x σ M c ω ω];rw[Di ζ,Ac,C4 q];simp;intro e;exact⟨t.R.map (Ea σ),ψ,rfl⟩
theorem A6v:∀(k:Nat)(t:Ai),B2 t<=k->k<1099511627776->V2 k t=some t:=by intro k;induction k with|zero=>intro t h;have:=Qi t;omega|succ k ih=>intro t h q;have c:=J3 t;have b:=Lw t.R;rw[V2];refine H5 t.R (λj=>((j:Int),t.R.take j)) rfl ω ?_ ?_;intro j x s e g i p;have:=Kd (B5 e);simp only[g,i,p,Ak,Ac,ih x ω ω];rw[Di ζ,Ac,C4 e];intro g;exact⟨t.R,ψ,by cases t;rfl⟩
theorem A6w:∀(k:Nat)(t:Ai)(σ:A1)(M:Nat),(∀s∈σ,B2 s<=M)->M<=4000000->B2 t<=k->k<1099511627776->Tc k t σ=some (Ea σ t):=by intro k;induction k with|zero=>intro t σ M _ _ h;have:=Qi t;omega|succ k ih=>intro t σ M c i h v;have g:=J3 t;have f:=Lw t.R;rw[Tc];rw[show(show OB from bif t.G==(4:Int)then bif decide (t.U>=(0:Int))then some (decide (t.U<(σ.length:Int)))else some false else some false)=some (isV σ t.G t.U)from Al7 σ t,Ac];cases b:isV σ t.G t.U with|true=>obtain⟨s,e,p,q⟩:=Ag3 b;have:=c s q;simp only[Ak,p,Ac,Ag4 b e,A6v 4000000 s ω ω]|false=>rw[Al5 b];simp only[Aj];refine H5 t.R (λj=>((j:Int),(t.R.take j).map (Ea σ))) rfl ω ?_ ?_;intro j x w u e p q;have:=Kd (B5 u);simp only[e,p,q,Ak,Ac,ih x σ M c i ω ω];rw[Di ζ,Ac,C4 u];simp;intro e;exact⟨t.R.map (Ea σ),ψ,rfl⟩
theorem A6x:∀(k:Nat)(t:Ai),B2 t<=k->B2 t<1099511627776->Vz k t=some (B2 t:Int):=by intro k;induction k with|zero=>intro t h;have:=Qi t;omega|succ k ih=>intro t h s;have b:=J3 t;have c:=Lw t.R;rw[Vz];refine H5 t.R (λj=>(1+(Dk (t.R.take j):Int),(j:Int))) rfl ω ?_ ?_;intro j x u g i p q;have v:=Kd (B5 g);have f:=Ac6 t.R (j+1);have e:Dk (t.R.take (j+1))=Dk (t.R.take j)+B2 x:=(by rw[C4 g,Agz];simp[Dk]);simp only[i,p,q,Ak,Ac,ih x ω ω];rw[show Aa (1+(Dk (t.R.take j):Int)+(B2 x:Int))=1+(Dk (t.R.take (j+1)):Int)by rw[e,Aa,Bm]<;>omega];intro i;exact⟨1+(Dk t.R:Int),ψ,by rw[b];simp⟩
theorem ξ{p:Prop}(h:p:=by rw[Aa,Bm]<;>omega):p:=h
theorem A6y(σ:A1)(M:Nat)(D:1<=M)(q:M<=1048576)(z:∀s∈σ,B2 s<=M):∀(k:Nat)(t:Ai),B2 t<=k->B2 t<=1048576->∃v:Nat,V1 k t (σ.map λs=>(B2 s:Int))=some (v:Int)/\v<=B2 (Ea σ t)/\((v=B2 (Ea σ t))\/200<v):=by intro k;induction k with|zero=>intro t h;have:=Qi t;omega|succ k ih=>intro t h H;have A:=J3 t;have y:=Lw t.R;(have l:∀x,B2 x<=1048576->B2 (Ea σ x)<=1099511627776:=λx p=>by have:=Al6 σ M D z x;have:B2 x*M<=1048576*1048576:=Nat.mul_le_mul p q;omega);rw[V1];rw[show(show OB from bif t.G==(4:Int)then bif decide (t.U>=(0:Int))then some (decide (t.U<((σ.map λs=>(B2 s:Int)).length:Int)))else some false else some false)=some (isV σ t.G t.U)by rw[Lt];exact Al7 σ t,Ac];cases f:isV σ t.G t.U with|true=>obtain⟨s,F,I,L⟩:=Ag3 f;have J:Af (σ.map λs=>(B2 s:Int)) t.U=some (B2 s:Int):=(by have:=Ih I;rw[B1 (n:=t.U.toNat) ω];simp[F]);simp only[Ak,J,Ac,Ag4 f F];exact⟨B2 s,rfl,Nat.le_refl _,.inl rfl⟩|false=>have u:=l t H;rw[Al5 f]at u⊢;simp only[Aj];have g:B2 ⟨t.G,t.U,t.R.map (Ea σ)⟩=1+Dk (t.R.map (Ea σ)):=(by simp only[B2]);rw[g]at u⊢;refine Ags (λv:Nat=>(v:Int)) (Fz (λ(n,i)=>∃j:Nat,i=j/\j<=t.R.length/\n=1+(Dk ((t.R.map (Ea σ)).take j):Int)) (λ(_,i)=>t.R.length-i.toNat) (λn=>∃v:Nat,n=v/\v<=1+Dk (t.R.map (Ea σ))/\(v=1+Dk (t.R.map (Ea σ))\/200<v)) ⟨0,rfl,ω,by simp[Dk]⟩ ?_ ?_);rintro⟨n,i⟩ ⟨j,rfl,N,w⟩;have w:n=_:=w;subst w;rcases Cb j t.R.length with C|C;have p:t.R[j]?=some t.R[j]:=Bn C;generalize t.R[j]=x at p;have P:=Kd (B5 p);obtain⟨v,b,G,Q⟩:=ih x ω ω;have c:(t.R.map (Ea σ))[j]?=some (Ea σ x):=(by simp[p]);have e:Dk ((t.R.map (Ea σ)).take (j+1))=Dk ((t.R.map (Ea σ)).take j)+B2 (Ea σ x):=(by rw[C4 c,Agz];simp[Dk]);have B:=Ac6 (t.R.map (Ea σ)) (j+1);have E:Aa (1+(Dk ((t.R.map (Ea σ)).take j):Int)+(v:Int))=((1+Dk ((t.R.map (Ea σ)).take j)+v:Nat):Int):=ξ;simp only[Al (ω:(j:Int)<(t.R.length:Int)),Ak,B1 rfl p,Ac,b,Dd C ω,E];by_cases K:1+Dk ((t.R.map (Ea σ)).take j)+v>200;rw[Al ω];exact .inr ⟨_,rfl,_,rfl,ω,.inr K⟩;rw[Am ω];refine .inl ⟨_,rfl,⟨j+1,rfl,ω,?_⟩,ζ⟩;have:v=B2 (Ea σ x):=ω;subst this;rw[e];omega;have:j=t.R.length:=ω;subst this;refine .inr ⟨_,by simp;rfl,1+Dk (t.R.map (Ea σ)),?_,ω,.inl rfl⟩;rw[J1 ψ];omega;rintro n ⟨v,rfl,b,G⟩;exact⟨_,rfl,v,rfl,b,G⟩
def Ob(Δ:A0)(t:Ai)(c:Int):Ο (List Ai):=if t.G=5 then match Af Δ t.U with
  |none=>none
  |some x=>if(t.R.length:Int)=x.V then match Af x.O c with
    |none=>none
    |some y=>if(y.R.map (Ea t.R)).all (λa=>decide (B2 a<=200))then some (y.R.map (Ea t.R))else none else none else none
def okL(o:Ο (List Ai)):List Ai×Bool:=match o with|none=>([],false)|some l=>(l,true)
theorem A6z{R:Type}(Δ:A0)(t:Ai)(c:Int)(F:A4->Pb->Ο R)(z:R)(X:Ο R)(b:X=(match Af Δ t.U with
   |none=>some z
   |some x=>match Af x.O c with
    |none=>some z
    |some y=>if t.G=5/\(t.R.length:Int)=x.V then F x y else some z)):X=if t.G=5 then match Af Δ t.U with
  |none=>some z
  |some x=>if(t.R.length:Int)=x.V then match Af x.O c with
    |none=>some z
    |some y=>F x y else some z else some z:=by
 subst b;by_cases h:t.G=5
 .rw[Ar h];cases Af Δ t.U with
  |none=>rfl
  |some x=>
   simp only;by_cases e:(t.R.length:Int)=x.V
   .rw[Ar e];cases Af x.O c with|none=>rfl|some y=>simp[h,e]
   .rw[Au e];cases Af x.O c with|none=>rfl|some y=>simp[e]
 .rw[Au h];cases Af Δ t.U with
  |none=>rfl
  |some x=>simp only;cases Af x.O c with|none=>rfl|some y=>simp[h]
def Szv(Δ:A0):Prop:=∀x∈Δ,∀y∈x.O,y.R.length<=6/\∀a∈y.R,B2 a<=200
theorem Ld.szv(h:Ld Δ):Szv Δ:=by intro x hx y hy;obtain⟨d,hd⟩:=Fo hx;have h1:=h.2.1 d x hd;obtain⟨_,e,g⟩:=h1.2.2.2.2.2 y hy;refine⟨e,λa ha=>?_⟩;have:=Gu.1 g a ha;unfold Lx at this;rw[Bool.or_eq_true]at this;rcases this with h'|h';exact(Atz hd h1.2.1 h').2;simp only[Dr,Eh]at h';exact h'.2
theorem A60(g:B2 t<=200)(e:B2 a<=200):B2 (Ea t.R a)<=40000:=by have h:=Al6 t.R 200 ω (λs b=>by have:=Kd b;have:=J3 t;omega) a;have:B2 a*200<=200*200:=Nat.mul_le_mul_right 200 e;omega
theorem Aua(B:Szv Δ)(t:Ai)(P:B2 t<=200)(c:Int):Vx Δ t c=some (okL (Ob Δ t c)):=by
 have G:Vx Δ t c=_:=A6z Δ t c (λx y=>(Ao (S:=(Int×List Ai)) (E:=((List Ai×Bool)⊕List Ai)) (λ(p,f)=>
   bif p<(y.R.length:Int)then(
   (Af y.R p).bind λH=>
   (Tc (4000000) H t.R).bind λw=>
   (Rj (4000000) w).bind λK=>
   bif K>(200:Int)then some (.inr (.inl ([],false)))
   else(
   (Cj 40 f [w]).bind λu=>
   some (.inl (Aa (p+1),u))))
   else some (.inr (.inr f))) (0,[])).bind λz=>
   match z with
   |.inl (l,k)=>some (l,k)
   |.inr q=>some (q,true)) ([],false) _ (by
  unfold Vx
  by_cases e:t.G=5
  .simp only[Dv e,Aj]
   cases C:Af Δ t.U with
   |none=>
    rcases Tl C with h|h
    .simp only[Al h,Ak,Ac]
    .by_cases F:t.U<0
     .simp only[Al F,Ak,Ac]
     .simp only[Am F,Al (show t.U>=(Δ.length:Int)from h),Ak,Aj,Ac]
   |some x=>
    obtain⟨T,U,_,_⟩:=Ih C
    simp only[Am (ω:¬t.U<0),Am (ω:¬t.U>=(Δ.length:Int)),Aj,Ac]
    by_cases b:(t.R.length:Int)=x.V
    .simp only[Dv b,Aj]
     cases v:Af x.O c with
     |none=>
      rcases Tl v with h|h
      .simp only[Al h,Ak,Ac]
      .by_cases F:c<0
       .simp only[Al F,Ak,Ac]
       .simp only[Am F,Al (show c>=(x.O.length:Int)from h),Ak,Aj,Ac]
     |some y=>
      obtain⟨b1,b2,_,_⟩:=Ih v
      simp only[Am (ω:¬c<0),Am (ω:¬c>=(x.O.length:Int)),Aj,Ac,e,b,and_self,if_true]
      rfl
    .simp only[D5 b,Ak,Ac]
     cases v:Af x.O c with
     |none=>rfl
     |some y=>simp[b]
  .simp only[D5 e,Ak,Ac]
   cases C:Af Δ t.U with
   |none=>rfl
   |some x=>
    simp only
    cases v:Af x.O c with
    |none=>rfl
    |some y=>simp[e])
 rw[G];unfold Ob;by_cases e:t.G=5;rw[Ar e,Ar e];(cases C:Af Δ t.U with|none=>rfl|some x=>simp only;by_cases b:(t.R.length:Int)=x.V;rw[Ar b,Ar b];(cases v:Af x.O c with|none=>rfl|some y=>simp only;obtain⟨I,i⟩:=B x (Ih C).2.2.2 y (Ih v).2.2.2;refine(Kv (rt:=(y.R.map (Ea t.R),true)) (rf:=([],false)) y.R (λa=>decide (B2 (Ea t.R a)<=200)) (λj=>((j:Int),(y.R.take j).map (Ea t.R))) rfl ω ?_ ?_).trans ?_;intro j a L M Q R;have V:=D8 L;have A:=i a (B5 L);have J:=A60 P A;simp only[M,Q,R,Ak,Ac,A6w 4000000 a t.R 200 (λs D=>by have:=Kd D;have:=J3 t;omega) ω ω ω,Atr 4000000 (Ea t.R a) ω ω];by_cases N:B2 (Ea t.R a)<=200;rw[Al N,Am ω];refine⟨λ_=>?_,λh=>by cases h⟩;rw[Di ζ];simp only[Aj,Ac];rw[C4 L];simp;rw[Am N,Al ω];exact⟨nofun,λ_=>⟨_,rfl,rfl⟩⟩;intro M;exact⟨.inr (y.R.map (Ea t.R)),ψ,rfl⟩;rw[all_map];cases g:y.R.all ((λa=>decide (B2 a<=200))∘Ea t.R)with|true=>rw[Ar rfl];rw[show(y.R.all λa=>decide (B2 (Ea t.R a)<=200))=true from g];rfl|false=>rw[show(y.R.all λa=>decide (B2 (Ea t.R a)<=200))=false from g];rfl);rw[Au b,Au b];rfl);rw[Au e,Au e];rfl
theorem A61(B:Szv Δ)(t:Ai)(P:B2 t<=200)(c:Int):Acl Δ t c=some (okL (Ob Δ t c)):=by have D:=J3 t;have u:=Lw t.R;unfold Acl Ob;by_cases F:t.G=5;simp only[Dv F,Aj,Ar F];(cases J:Af Δ t.U with|none=>(rcases Tl J with h|h;simp only[Al h,Ak,Ac,okL];by_cases p:t.U<0;simp only[Al p,Ak,Ac,okL];simp only[Am p,Al (show t.U>=(Δ.length:Int)from h),Ak,Aj,Ac,okL])|some x=>obtain⟨Q,R,_,I⟩:=Ih J;simp only[Am (ω:¬t.U<0),Am (ω:¬t.U>=(Δ.length:Int)),Aj,Ac];by_cases g:(t.R.length:Int)=x.V;simp only[Dv g,Aj,Ar g];(cases K:Af x.O c with|none=>(rcases Tl K with h|h;simp only[Al h,Ak,Ac,okL];by_cases p:c<0;simp only[Al p,Ak,Ac,okL];simp only[Am p,Al (show c>=(x.O.length:Int)from h),Ak,Aj,Ac,okL])|some y=>obtain⟨b1,b2,_,k⟩:=Ih K;obtain⟨G,b⟩:=B x I y k;simp only[Am (ω:¬c<0),Am (ω:¬c>=(x.O.length:Int)),Aj,Ac];rw[Lu (n:=t.R.length) (c:=t.R.length) rfl rfl ω ω ω,Ac];refine H5 t.R (λj=>((j:Int),((t.R.take j).map λs=>(B2 s:Int))++replicate (t.R.length-j) 0)) rfl ω ?_ ?_;intro j s M i e w C;have:=Kd (B5 i);obtain⟨m,N⟩:∃m,t.R.length-j=m+1:=⟨t.R.length-j-1,ω⟩;have E:t.R.length-(j+1)=m:=ω;have l:j=((t.R.take j).map λs=>(B2 s:Int)).length:=ζ;simp only[e,w,C,Ak,Ac,A6x 4000000 s ω ω,N,E,replicate_succ,Al1 _ _ _ (j:Int) j rfl l,Al0 _ _ _ _ (j:Int) j rfl l,C4 i];simp;intro e;refine⟨t.R.map λs=>(B2 s:Int),ψ,?_⟩;(have q:∀s∈t.R,B2 s<=200:=λs i=>by have:=Kd i;omega);refine(Kv (rt:=(y.R.map (Ea t.R),true)) (rf:=([],false)) y.R (λa=>decide (B2 (Ea t.R a)<=200)) (λj=>(j:Int)) rfl ω ?_ ?_).trans ?_;intro j a H e w C;have A:=b a (B5 H);obtain⟨v,z,S,T⟩:=A6y t.R 200 ω ω q 4000000 a ω ω;simp only[e,w,C,Ak,Ac,z];by_cases L:B2 (Ea t.R a)<=200;rw[Al L,Am ω];exact⟨λ_=>rfl,λh=>by cases h⟩;rw[Am L,Al ω];exact⟨nofun,λ_=>⟨_,rfl,rfl⟩⟩;intro e;refine⟨.inr (),ψ,?_⟩;simp only;refine H5 y.R (λj=>((j:Int),(y.R.take j).map (Ea t.R))) rfl ω ?_ ?_;intro j a M H e w C;have A:=b a (B5 H);simp only[e,w,C,Ak,Ac,A6u 4000000 a t.R 200 q ω ω];rw[Di ζ,Ac,C4 H];simp;intro e;exact⟨y.R.map (Ea t.R),ψ,rfl⟩;rw[all_map];cases f:y.R.all ((λa=>decide (B2 a<=200))∘Ea t.R)with|true=>rw[Ar rfl];rw[show(y.R.all λa=>decide (B2 (Ea t.R a)<=200))=true from f];rfl|false=>rw[show(y.R.all λa=>decide (B2 (Ea t.R a)<=200))=false from f];rfl);simp only[D5 g,Ak,Ac,Au g,okL]);simp only[D5 F,Ak,Ac,Au F,okL]
theorem Ada{c:Int}(h:Ob Δ t c=some l):∃x y,t.G=5/\Af Δ t.U=some x/\(t.R.length:Int)=x.V/\Af x.O c=some y/\l=y.R.map (Ea t.R)/\∀a∈l,B2 a<=200:=by unfold Ob at h;by_cases e:t.G=5;rw[Ar e]at h;(cases i:Af Δ t.U with|none=>rw[i]at h;cases h|some x=>rw[i]at h;simp only at h;by_cases f:(t.R.length:Int)=x.V;rw[Ar f]at h;(cases g:Af x.O c with|none=>rw[g]at h;cases h|some y=>rw[g]at h;simp only at h;by_cases b:(y.R.map (Ea t.R)).all (λa=>decide (B2 a<=200))=true;rw[Ar b]at h;cases h;refine⟨x,y,e,rfl,f,g,rfl,λa k=>?_⟩;have:=Gu.1 b a k;simpa using this;rw[Au b]at h;cases h);rw[Au f]at h;cases h);rw[Au e]at h;cases h
def Ja(l:A1)(r:In):A1:=((l.zip r).filter λp=>!p.2).map (·.1)
def Iz(Δ:A0)(t:Ai)(c:Int):Ο (List Ai):=(Ob Δ t c).map λl=>Ja l (I9 Δ t.U c)
theorem Al8{c:Int}(h:Ob Δ t c=some l):(I9 Δ t.U c).length=l.length:=by obtain⟨x,y,_,e,_,g,rfl,_⟩:=Ada h;unfold I9;simp only[e,g,Lt]
theorem Aub(e:l[j]?=some a)(g:r[j]?=some b):Ja (l.take (j+1)) (r.take (j+1))=Ja (l.take j) (r.take j)++bif b then[]else[a]:=by unfold Ja;have f:=D8 e;have c:=D8 g;rw[C4 e,C4 g,zip_append ζ];cases b<;>simp
theorem Auc(l:A1)(r:In):(Ja l r).length<=l.length:=by unfold Ja;rw[Lt];refine Nat.le_trans (length_filter_le _ _) ?_;rw[length_zip];omega
def Oc(r:In):Ag:=(r.zipIdx.filter λp=>!p.1).map λp=>(p.2:Int)
def Wc(r:In):Ag:=(r.zipIdx.filter λp=>p.1).map λp=>(p.2:Int)
theorem Al9(h:r[j]?=some b):(r.take (j+1)).zipIdx=(r.take j).zipIdx++[(b,j)]:=by have:=D8 h;rw[C4 h,zipIdx_append];simp;omega
theorem A62(g:Szv Δ)(i:Pd Δ)(t:Ai)(p:B2 t<=200)(c:Int)(f:Ob Δ t c=some l):Aco Δ t c=some (Oc (I9 Δ t.U c),Wc (I9 Δ t.U c),true):=by unfold Aco;have k:=Al8 f;obtain⟨x,y,_,v,_,w,s,_⟩:=Ada f;obtain⟨h,_⟩:=g x (Ih v).2.2.2 y (Ih w).2.2.2;(have q:l.length<=6:=by rw[s];simpa using h);rw[Aua g t p c,f,Ac];simp only[okL,Ds,Aj,A5x Δ t.U c i,Ac];generalize I9 Δ t.U c=r at *;refine H5 r (λj=>((j:Int),Oc (r.take j),Wc (r.take j))) (by simp[Oc,Wc]) ω ?_ ?_;intro j b D A e B C;have z:(Oc (r.take j)).length<=6:=(by unfold Oc;rw[Lt];refine Nat.le_trans (length_filter_le _ _) ?_;simp;omega);have u:(Wc (r.take j)).length<=6:=(by unfold Wc;rw[Lt];refine Nat.le_trans (length_filter_le _ _) ?_;simp;omega);simp only[e,B,C,Ak,Ac];rw[Di ζ,Di ζ];unfold Oc Wc;rw[Al9 A];cases b<;>simp;intro e;exact⟨(Oc r,Wc r),ψ,rfl⟩
theorem A63(h:r.length=l.length):∀(j:Nat)(a:Int),(Oc r)[j]?=some a->∃x,Af l a=some x/\(Ja l r)[j]?=some x:=by intro j a g;(have e:Ja l r=(r.zipIdx.filter λp=>!p.1).map λp=>(l[p.2]?).getD ⟨0,0,[]⟩:=by unfold Ja;have i:∀n,n<=r.length->(((l.take n).zip (r.take n)).filter λp=>!p.2).map (·.1)=((r.take n).zipIdx.filter λp=>!p.1).map λp=>(l[p.2]?).getD ⟨0,0,[]⟩:=(by intro n;induction n with|zero=>intro _;simp|succ n ih=>intro v;have k:l[n]?=some l[n]:=Bn ω;have q:r[n]?=some r[n]:=Bn ω;have:=Aub k q;unfold Ja at this;rw[this,ih ω,Al9 q];cases r[n]<;>simp[k]);have:=i r.length (Nat.le_refl _);rw[J1 ω,J1 (Nat.le_refl _)]at this;exact this);unfold Oc at g;rw[getElem?_map]at g;cases hp:(r.zipIdx.filter λp=>!p.1)[j]? with|none=>rw[hp]at g;cases g|some p=>rw[hp]at g;cases g;have s:=B5 hp;rw[mem_filter]at s;have b:r[p.2]?=some p.1:=mk_mem_zipIdx_iff_getElem?.1 s.1;have c:=D8 b;have u:l[p.2]?=some l[p.2]:=Bn ω;refine⟨l[p.2],B1 rfl u,?_⟩;rw[e,getElem?_map,hp];simp[u]
theorem A64(h:r.length=l.length):(Oc r).length=(Ja l r).length:=by unfold Oc Ja;simp only[Lt];(have e:∀n,n<=r.length->(((l.take n).zip (r.take n)).filter λp=>!p.2).length=((r.take n).zipIdx.filter λp=>!p.1).length:=by intro n;induction n with|zero=>intro _;simp|succ n ih=>intro k;have i:l[n]?=some l[n]:=Bn ω;have g:r[n]?=some r[n]:=Bn ω;rw[Al9 g,C4 i,C4 g,zip_append ζ,filter_append,Fe,ih ω,filter_append,Fe];cases r[n]<;>simp);have:=e r.length (Nat.le_refl _);rw[J1 ω,J1 (Nat.le_refl _)]at this;exact this.symm
theorem Ag5(g:Szv Δ)(k:Pd Δ)(t:Ai)(p:B2 t<=200)(c:Int):Yx Δ t c=some (okL (Iz Δ t c)):=by unfold Yx Iz;rw[Aua g t p c,Ac];cases h:Ob Δ t c with|none=>rfl|some l=>have f:=Al8 h;obtain⟨x,y,_,v,_,w,u,_⟩:=Ada h;obtain⟨i,_⟩:=g x (Ih v).2.2.2 y (Ih w).2.2.2;have s:l.length<=6:=(by rw[u];simpa using i);simp only[okL,Ds,Aj,A62 g k t p c h,Ac,Option.map_some];generalize I9 Δ t.U c=r at *;have q:=A64 f;have z:=Auc l r;refine H5 (Oc r) (λj=>((j:Int),(Ja l r).take j)) ψ ω ?_ ?_;intro j b F A e B C;obtain⟨a,D,E⟩:=A63 f j b A;simp only[e,B,C,Ak,Ac,D];rw[Di ζ,Ac,C4 E];intro e;refine⟨Ja l r,?_,rfl⟩;simp only[e];rw[J1 ω];rfl
theorem Aud{c:Int}(h:Iz Δ t c=some l):(∀a∈l,B2 a<=200)/\∃x,Af Δ t.U=some x/\0<=c/\c<x.O.length:=by unfold Iz at h;cases b:Ob Δ t c with|none=>rw[b]at h;cases h|some m=>rw[b]at h;cases h;obtain⟨x,y,_,k,_,e,_,g⟩:=Ada b;refine⟨λa i=>?_,x,k,(Ih e).1,(Ih e).2.1⟩;unfold Ja at i;obtain⟨p,f,rfl⟩:=mem_map.1 i;exact g _ (of_mem_zip (mem_filter.1 f).1).1
mutual
def Cz:Ay->Nat
 |⟨_,l⟩=>1+Ez l
def Ez:List Ay->Nat
 |[]=>0
 |x::xs=>Cz x+Ez xs
end
theorem Gn(t:Ay):Cz t=1+Ez t.K:=by cases t;simp only[Cz]
theorem Nl{l:Bg}{a:Ay}(h:a∈l):Cz a<=Ez l:=by induction l with|nil=>cases h|cons x xs ih=>simp only[Ez];rcases Ed.1 h with rfl|h;omega;have:=ih h;omega
theorem Od(l:Bg):l.length<=Ez l:=by induction l with|nil=>simp|cons x xs ih=>simp only[Ez,Fd];have:=Gn x;omega
mutual
def Ei(Δ:List A4):Ay->Ai->Option Nat
 |⟨n,e⟩,t=>
  if t.G=6 then(if n=0 then Dx Δ e t.R else none)
  else if t.G=7 then(if 0<=n/\n<=6/\e.length=0 then some n.toNat else none)
  else if t.G=5 then(if n=0 then I0 Δ e t else none)
  else if n=0/\e.length=0 then some 0 else none
def Dx(Δ:List A4):List Ay->List Ai->Option Nat
 |[],[]=>some 0
 |i::is,t::ts=>(Ei Δ i t).bind λa=>(Dx Δ is ts).map (a + ·)
 |[],_::_=>none
 |_::_,[]=>none
def I0(Δ:List A4):List Ay->Ai->Option Nat
 |[],_=>some 0
 |⟨n,e⟩::g,t=>(Iz Δ t n).bind λts=>(Dx Δ e ts).bind λa=>(I0 Δ g t).map (1+a + ·)
end
variable{m n:Int}{Δ:A0}{d:Nat}
theorem Oe(Δ:A0)(i:Ay)(t:Ai):Ei Δ i t=if t.G=6 then(if i.U=0 then Dx Δ i.K t.R else none)else if t.G=7 then(if 0<=i.U/\i.U<=6/\i.K.length=0 then some i.U.toNat else none)else if t.G=5 then(if i.U=0 then I0 Δ i.K t else none)else if i.U=0/\i.K.length=0 then some 0 else none:=by cases i;simp only[Ei]
theorem Adb(Δ:A0)(e:Ay)(es:Bg)(t:Ai):I0 Δ (e::es) t=(Iz Δ t e.U).bind λts=>(Dx Δ e.K ts).bind λa=>(I0 Δ es t).map (1+a + ·):=by cases e;simp only[I0]
theorem Rt(Δ:A0)(i:Ay)(is:Bg)(t:Ai)(ts:A1):Dx Δ (i::is) (t::ts)=(Ei Δ i t).bind λa=>(Dx Δ is ts).map (a + ·):=by simp only[Dx]
theorem Ama(Δ:A0):∀(is:Bg)(ts:A1),ts.length≠is.length->Dx Δ is ts=none
 |[],[],h=>absurd rfl h
 |i::is,t::ts,h=>by rw[Rt,Ama Δ is ts (by simpa using h)];cases Ei Δ i t<;>rfl
 |[],_::_,_=>by simp only[Dx]
 |_::_,[],_=>by simp only[Dx]
theorem Aue(Δ:A0):∀(es:Bg)(t:Ai)(d:Nat),I0 Δ es t=some d->es.length<=d
 |[],_,_,_=>ψ
 |e::es,t,d,h=>by rw[Adb]at h;cases i:Iz Δ t e.U with|none=>rw[i]at h;cases h|some ts=>rw[i,Ac]at h;cases k:Dx Δ e.K ts with|none=>rw[k]at h;cases h|some a=>rw[k,Ac]at h;cases g:I0 Δ es t with|none=>rw[g]at h;cases h|some b=>rw[g]at h;cases h;have:=Aue Δ es t b g;simp only[Fd];omega
def Ho(o:Cp):Int:=match o with|some d=>if d<=6 then(d:Int)else -1|none => -1
theorem Amb(h:d<=6):Ho (some d)=d:=by simp[Ho,h]
theorem Amc(h:6<d):Ho (some d) = -1:=by simp only[Ho];rw[Au ω]
theorem Ag6(o:Cp):(Ho o = -1/\∀d,o=some d->6<d)\/∃d,o=some d/\d<=6/\Ho o=d:=by cases o with|none=>exact .inl ⟨rfl,λd h=>by cases h⟩|some d=>rcases Cb 6 d with h|h;exact .inl ⟨Amc h,λe g=>by cases g;exact h⟩;exact .inr ⟨d,rfl,h,Amb h⟩
theorem Y9{o:Cp}(h:∀d,o=some d->6<d):Ho o = -1:=by cases o with|none=>rfl|some d=>exact Amc (h d rfl)
theorem J5{α:Type}{l:Λ α}{j:Nat}{x:α}(h:l[j]?=some x):l.drop j=x::l.drop (j+1):=by have e:=D8 h;rw[drop_eq_getElem_cons e];rw[Bn e]at h;rw[Fv h]
theorem A65(M:Szv Δ)(N:Pd Δ)(h8:∀x∈Δ,x.O.length<=8):∀k:Nat, (∀(i:Ay)(t:Ai),2*Cz i<=k->Cz i<=1048576->B2 t<=200->S6 k Δ t i=some (Ho (Ei Δ i t)))/\(∀(is:Bg)(ts:A1),2*Ez is+1<=k->Ez is<=1048576->(∀t∈ts,B2 t<=200)->S9 k Δ ts is=some (Ho (Dx Δ is ts))):=by intro k;induction k with|zero=>exact⟨λi t h=>by have:=Gn i;omega,λis ts h=>ω⟩|succ k ih=>obtain⟨Z,I⟩:=ih;have D:∀o:Cp,o.map (0 + ·)=o:=(by intro o;cases o<;>simp);constructor;intro i t hk hi W;have ad:=Gn i;have a6:=Od i.K;rw[S6,Oe];by_cases U:t.G=6;simp only[Es U,Ak,Ar U];by_cases w:i.U=0;simp only[Dv w,Aj,Ar w];rw[I i.K t.R ω ω (λa F=>by have:=Kd F;have:=J3 t;omega)];rfl;simp only[D5 w,Ak,Au w];rfl;simp only[Ck U,Aj,Au U];by_cases R:t.G=7;simp only[Es R,Ak,Ar R];by_cases a1:0<=i.U;by_cases a2:i.U<=6;by_cases a3:i.K.length=0;rw[Am ω,Am ω,Am ω,Ar ⟨a1,a2,a3⟩,Amb ω];simp;omega;rw[Am ω,Am ω,Al ω,Au λh=>a3 h.2.2];rfl;rw[Am ω,Al ω,Au λh=>a2 h.2.1];rfl;rw[Al ω,Au λh=>a1 h.1];rfl;simp only[Ck R,Aj,Au R];by_cases V:t.G=5;simp only[Es V,Ak,Ar V];by_cases w:i.U=0;simp only[Dv w,Aj,Ar w,Ac];by_cases J:(i.K.length:Int)>6;rw[Al J];refine congrArg some (Y9 λd hd=>?_).symm;have:=Aue Δ _ _ _ hd;omega;rw[Am J];simp only[Aj];(have Q:∀(m j p:Nat),j+m=i.K.length->p<=6->∃z,Ao (S:=(Int×Int)) (E:=(Int⊕Int)) (λ(A,y)=>bif y<(i.K.length:Int)then((Af i.K y).bind λH=>(show OB from bif H.U<(0:Int)then some true else some (decide (H.U>=(8:Int)))).bind λX=>bif X then some (.inr (.inl (-1)))else((Yx Δ t H.U).bind λG=>bif(!G.2)then some (.inr (.inl (-1)))else((S9 k Δ G.1 H.K).bind λs=>bif s<(0:Int)then some (.inr (.inl (-1)))else(bif(Aa ((Aa (A+1))+s))>(6:Int)then some (.inr (.inl (-1)))else some (.inl (Aa (A+(Aa (1+s))),Aa (y+1)))))))else some (.inr (.inr A))) ((p:Int),(j:Int))=some z/\(match z with|.inl v=>v|.inr v=>v)=Ho ((I0 Δ (i.K.drop j) t).map (p + ·)):=by intro m;induction m with|zero=>intro j p hj c;have:j=i.K.length:=ω;subst this;refine⟨.inr (p:Int),Cr ψ,?_⟩;simp[I0,Ho,c]|succ m l=>intro j p hj c;have C:i.K[j]?=some i.K[j]:=Bn ω;generalize i.K[j]=e at C;have a7:=Nl (B5 C);have ae:=Gn e;rw[J5 C,Adb];have hb:(bif decide (e.U<(0:Int))then some true else some (decide (e.U>=(8:Int))))=some (decide (e.U<0\/8<=e.U)):=(by by_cases g1:e.U<0<;>by_cases g2:8<=e.U<;>simp[g1,g2]);cases hp:Iz Δ t e.U with|none=>refine⟨.inl (-1),Cr ?_,by simp[Ho]⟩;simp only[Al (ω:(j:Int)<(i.K.length:Int)),Ak,B1 rfl C,Ac,Ag5 M N t W e.U,hp,okL,Bool.not_false,hb];cases decide (e.U<0\/8<=e.U)<;>rfl|some ts=>obtain⟨pz,x,Y,ab,aa⟩:=Aud hp;have ac:=h8 x (Ih Y).2.2.2;have g:=I e.K ts ω ω pz;have T:decide (e.U<0\/8<=e.U)=false:=Am ω;(rcases Ag6 (Dx Δ e.K ts)with⟨K,c2⟩|⟨a,K,c2,c3⟩);rw[K]at g;refine⟨.inl (-1),Cr ?_,?_⟩;simp only[Al (ω:(j:Int)<(i.K.length:Int)),Ak,B1 rfl C,Ac,Ag5 M N t W e.U,hp,okL,Ds,Aj,hb,T,g];rfl;refine(Y9 λd h=>?_).symm;rw[Ac]at h;(cases F:Dx Δ e.K ts with|none=>rw[F]at h;cases h|some a=>rw[F,Ac]at h;have:=c2 a F;cases q:I0 Δ (i.K.drop (j+1)) t with|none=>rw[q]at h;cases h|some b=>rw[q]at h;simp at h;omega);rw[c3]at g;have L:Aa (Aa ((p:Int)+1)+(a:Int))=((p+(1+a):Nat):Int):=(by rw[show Aa ((p:Int)+1)=((p+1:Nat):Int)by rw[Aa,Bm]<;>omega,Aa,Bm]<;>omega);have a8:Aa ((p:Int)+Aa (1+(a:Int)))=((p+(1+a):Nat):Int):=(by rw[show Aa (1+(a:Int))=((1+a:Nat):Int)by rw[Aa,Bm]<;>omega,Aa,Bm]<;>omega);by_cases B:p+(1+a)<=6;obtain⟨z,f,P⟩:=l (j+1) (p+(1+a)) ω B;refine⟨z,?_,?_⟩;rw[Fh (s':=(((p+(1+a):Nat):Int),((j+1:Nat):Int)))];exact f;simp only[Al (ω:(j:Int)<(i.K.length:Int)),Ak,B1 rfl C,Ac,Ag5 M N t W e.U,hp,okL,Ds,Aj,hb,T,g,L,a8,Am (ω:¬(a:Int)<0),Am (ω:¬((p+(1+a):Nat):Int)>6),Dd (show j<i.K.length by omega) ω];have D:∀o:Cp,(((some a:Cp).bind λa=>o.map (1+a + ·)).map (p + ·))=o.map (p+(1+a) + ·):=(by intro o;cases o<;>simp[Nat.add_assoc]);rw[Ac,K,D];exact P;refine⟨.inl (-1),Cr ?_,?_⟩;simp only[Al (ω:(j:Int)<(i.K.length:Int)),Ak,B1 rfl C,Ac,Ag5 M N t W e.U,hp,okL,Ds,Aj,hb,T,g,L,Am (ω:¬(a:Int)<0),Al (ω:((p+(1+a):Nat):Int)>6)];refine(Y9 λd h=>?_).symm;rw[Ac,K,Ac]at h;cases q:I0 Δ (i.K.drop (j+1)) t with|none=>rw[q]at h;cases h|some b=>rw[q]at h;simp at h;omega);obtain⟨z,f,P⟩:=Q i.K.length 0 0 ω ω;have f:Ao _ ((0:Int),(0:Int))=some z:=f;erw[f,Ac];rw[drop_zero,D]at P;rw[<-P];cases z<;>rfl;simp only[D5 w,Ak,Au w];rfl;simp only[Ck V,Aj,Au V];by_cases w:i.U=0;simp only[Dv w,Aj];by_cases a3:i.K.length=0;rw[Ar ⟨w,a3⟩,Am ω];rfl;rw[Au λh=>a3 h.2,Al ω];rfl;simp only[D5 w,Ak];rw[Au λh=>w h.1];rfl;intro is ts hk hi W;have a6:=Od is;rw[S9];by_cases hl:ts.length=is.length;rw[Dv ω];simp only[Aj];(have Q:∀(m j p:Nat),j+m=is.length->p<=6->∃z,Ao (S:=(Int×Int)) (E:=(Int⊕Int)) (λ(v4,v5)=>bif v5<(ts.length:Int)then((Af ts v5).bind λv6=>(Af is v5).bind λv7=>(S6 k Δ v6 v7).bind λv8=>bif v8<(0:Int)then some (.inr (.inl (-1)))else(bif(Aa (v4+v8))>(6:Int)then some (.inr (.inl (-1)))else some (.inl (Aa (v4+v8),Aa (v5+1)))))else some (.inr (.inr v4))) ((p:Int),(j:Int))=some z/\(match z with|.inl v=>v|.inr v=>v)=Ho ((Dx Δ (is.drop j) (ts.drop j)).map (p + ·)):=by intro m;induction m with|zero=>intro j p hj c;have:j=ts.length:=ω;subst this;refine⟨.inr (p:Int),Cr ψ,?_⟩;rw[drop_of_length_le ω,drop_of_length_le ω];simp[Dx,Ho,c]|succ m l=>intro j p hj c;have C:is[j]?=some is[j]:=Bn ω;generalize is[j]=e at C;have hu:ts[j]?=some ts[j]:=Bn ω;generalize ts[j]=u at hu;have a7:=Nl (B5 C);rw[J5 C,J5 hu,Rt];have g:=Z e u ω ω (W u (B5 hu));(rcases Ag6 (Ei Δ e u)with⟨K,c2⟩|⟨a,K,c2,c3⟩);rw[K]at g;refine⟨.inl (-1),Cr ?_,?_⟩;simp only[Al (ω:(j:Int)<(ts.length:Int)),Ak,B1 rfl C,B1 rfl hu,Ac,g];rfl;refine(Y9 λd h=>?_).symm;(cases F:Ei Δ e u with|none=>rw[F]at h;cases h|some a=>rw[F,Ac]at h;have:=c2 a F;cases q:Dx Δ (is.drop (j+1)) (ts.drop (j+1))with|none=>rw[q]at h;cases h|some b=>rw[q]at h;simp at h;omega);rw[c3]at g;have L:Aa ((p:Int)+(a:Int))=((p+a:Nat):Int):=ξ;by_cases B:p+a<=6;obtain⟨z,f,P⟩:=l (j+1) (p+a) ω B;refine⟨z,?_,?_⟩;rw[Fh (s':=(((p+a:Nat):Int),((j+1:Nat):Int)))];exact f;simp only[Al (ω:(j:Int)<(ts.length:Int)),Ak,B1 rfl C,B1 rfl hu,Ac,Aj,g,L,Am (ω:¬(a:Int)<0),Am (ω:¬((p+a:Nat):Int)>6),Dd (show j<is.length by omega) ω];have D:∀o:Cp,(((some a:Cp).bind λa=>o.map (a + ·)).map (p + ·))=o.map (p+a + ·):=(by intro o;cases o<;>simp[Nat.add_assoc]);rw[K,D];exact P;refine⟨.inl (-1),Cr ?_,?_⟩;simp only[Al (ω:(j:Int)<(ts.length:Int)),Ak,B1 rfl C,B1 rfl hu,Ac,Aj,g,L,Am (ω:¬(a:Int)<0),Al (ω:((p+a:Nat):Int)>6)];refine(Y9 λd h=>?_).symm;rw[K,Ac]at h;cases q:Dx Δ (is.drop (j+1)) (ts.drop (j+1))with|none=>rw[q]at h;cases h|some b=>rw[q]at h;simp at h;omega);obtain⟨z,f,P⟩:=Q is.length 0 0 ω ω;have f:Ao _ ((0:Int),(0:Int))=some z:=f;rw[f,Ac];rw[drop_zero,drop_zero,D]at P;rw[<-P];cases z<;>rfl;rw[D5 ω,Ama Δ is ts hl];rfl
theorem Ld.cons8(h:Ld Δ):∀x∈Δ,x.O.length<=8:=by intro x hx;obtain⟨d,hd⟩:=Fo hx;exact(h.2.1 d x hd).2.2.2.1
theorem Auf(b:Ld Δ)(c:Pd Δ)(t:Ai)(i:Ay)(e:B2 t<=200)(hi:Cz i<=1048576):Vc Δ t i=some (Ho (Ei Δ i t)):=by unfold Vc;rw[(A65 b.szv c b.cons8 4000000).1 i t ω hi e];rfl
def I64(n:Int):Prop:= -9223372036854775808<=n/\n<=9223372036854775807
def ti(n:Int):Ag:=(Lib.itoa n).map λc=>(c.toNat:Int)
def Ru(c:Int):Bool:=c==45||(decide (48<=c)&&decide (c<=57))
theorem Za(h:d<10):(UInt8.ofNat (48+d)).toNat=48+d:=by rw[UInt8.toNat_ofNat'];omega
theorem Ag7:∀(n u:Nat),u<=n->∀c∈Lib.decDigits u,48<=c.toNat/\c.toNat<=57:=by intro n;induction n with|zero=>intro u g c e;rw[Lib.decDigits,dif_pos ω]at e;simp only[De]at e;subst e;rw[Za ω];omega|succ n ih=>intro u g c e;rw[Lib.decDigits]at e;split at e;simp only[De]at e;subst e;rw[Za ω];omega;rcases Ef.1 e with h|h;exact ih (u/10) ω c h;simp only[De]at h;subst h;rw[Za ω];omega
def Ag8(l:Λ UInt8):Nat:=l.foldl (λa c=>10*a+(c.toNat-48)) 0
theorem Aug:∀(n u:Nat),u<=n->Ag8 (Lib.decDigits u)=u:=by intro n;induction n with|zero=>intro u e;rw[Lib.decDigits,dif_pos ω];simp only[Ag8,foldl_cons,foldl_nil];rw[Za ω];omega|succ n ih=>intro u e;rw[Lib.decDigits];split;simp only[Ag8,foldl_cons,foldl_nil];rw[Za ω];omega;have:=ih (u/10) ω;unfold Ag8 at *;rw[foldl_append,this];simp only[foldl_cons,foldl_nil];rw[Za ω];omega
theorem Auh{u v:Nat}(h:Lib.decDigits u=Lib.decDigits v):u=v:=by rw[<-Aug u u (Nat.le_refl _),h,Aug v v (Nat.le_refl _)]
theorem A66(u:Nat):Lib.decDigits u≠[]:=by rw[Lib.decDigits];split<;>simp
theorem A67(h:Lib.itoa m=Lib.itoa n):m=n:=by(have b:∀u v:Nat,45::Lib.decDigits u≠Lib.decDigits v:=by intro u v e;have:=Ag7 v v (Nat.le_refl _) 45 (by rw[<-e];simp);exact absurd this δ);unfold Lib.itoa at h;split at h<;>split at h;have:=Auh (List.cons.inj h).2;omega;exact absurd h (b _ _);exact absurd h.symm (b _ _);have:=Auh h;omega
theorem Jn(n:Int):∀c∈ti n,Ru c=true:=by intro c i;unfold ti at i;obtain⟨b,e,rfl⟩:=mem_map.1 i;(have g:b=45\/(48<=b.toNat/\b.toNat<=57):=by unfold Lib.itoa at e;split at e;rcases Ed.1 e with h|h;exact .inl h;exact .inr (Ag7 _ _ (Nat.le_refl _) b h);exact .inr (Ag7 _ _ (Nat.le_refl _) b e));unfold Ru;rcases g with rfl|⟨k,p⟩;decide;rw[Bool.or_eq_true,Dr,Eh,Eh];right;omega
theorem Amd(n:Int):ti n≠[]:=by unfold ti Lib.itoa;split;simp;simpa using A66 _
theorem Wd(h:ti m=ti n):m=n:=by unfold ti at h;(have:∀l m:Λ UInt8,l.map (λc=>(c.toNat:Int))=m.map (λc=>(c.toNat:Int))->l=m:=by intro l;induction l with|nil=>(intro m h;cases m with|nil=>rfl|cons=>simp at h)|cons x xs ih=>intro m h;cases m with|nil=>simp at h|cons y e=>simp only[map_cons,List.cons.injEq]at h;rw[ih e h.2,UInt8.toNat.inj (ω:x.toNat=y.toNat)]);exact A67 (this _ _ h)
theorem Pe(h:I64 n):(ti n).length<=21:=by unfold ti;rw[Lt];exact Lib.itoa_length_le n h.1 h.2
def To(X:Ag):Prop:=∀c m,X=c::m->Ru c=false/\c≠40
def Nm(X:Ag):Prop:=∀c m,X=c::m->Ru c=false
theorem Rv:∀(a b X Y:Ag),(∀c∈a,Ru c=true)->(∀c∈b,Ru c=true)->Nm X->Nm Y->a++X=b++Y->a=b/\X=Y
 |[],[],_,_,_,_,_,_,h=>⟨rfl,h⟩
 |[],y::b,X,Y,_,e,g,_,h=>by have:=g y (b++Y) h;rw[e y ψ]at this;cases this
 |x::a,[],X,Y,k,_,_,f,h=>by have:=f x (a++X) h.symm;rw[k x ψ]at this;cases this
 |x::a,y::b,X,Y,k,e,g,f,h=>by simp only[Er,List.cons.injEq]at h;obtain⟨j,i⟩:=Rv a b X Y (λc p=>k c (by simp[p])) (λc p=>e c (by simp[p])) g f h.2;exact⟨by rw[h.1,j],i⟩
mutual
def wx:Ay->List Int
 |⟨n,e⟩=>ti n++(if e.length=0 then[]else 40::(wxs e++[41]))
def wxs:List Ay->List Int
 |[]=>[]
 |x::xs=>wx x++44::wxs xs
end
theorem Ame(i:Ay):wx i=ti i.U++(if i.K.length=0 then[]else 40::(wxs i.K++[41])):=by cases i;simp only[wx]
theorem Aui(l m:Bg):wxs (l++m)=wxs l++wxs m:=by induction l with|nil=>simp[wxs]|cons x xs ih=>simp only[Er,wxs,ih,append_assoc]
theorem Auj(b:Bg)(X:Ag)(f:To X):Nm ((if b.length=0 then[]else 40::(wxs b++[41]))++X):=by intro c m h;by_cases e:b.length=0;rw[Ar e,nil_append]at h;exact(f c m h).1;rw[Au e,Er]at h;cases h;decide
theorem Auk(X:Ag):To (44::X):=by intro c m h;cases h;exact⟨δ,δ⟩
theorem Aul:To []:=by intro c m h;cases h
mutual
theorem Amf:∀(i j:Ay)(X Y:List Int),To X->To Y->wx i++X=wx j++Y->i=j/\X=Y
 |⟨n,k⟩,⟨w,q⟩,X,Y,s,u,h=>by
  simp only[wx,append_assoc]at h
  obtain⟨v,g⟩:=Rv _ _ _ _ (Jn n) (Jn w) (Auj k X s) (Auj q Y u) h
  have v:=Wd v
  subst v
  by_cases p:k.length=0
  .by_cases e:q.length=0
   .rw[Ar p,Ar e]at g
    rw[Fm.1 p,Fm.1 e]
    exact⟨rfl,g⟩
   .rw[Ar p,Au e,nil_append,Er]at g
    exact absurd rfl (s _ _ g).2
  .by_cases e:q.length=0
   .rw[Au p,Ar e,nil_append,Er]at g
    exact absurd rfl (u _ _ g.symm).2
   .rw[Au p,Au e,Er,Er,append_assoc,append_assoc]at g
    obtain⟨x,y⟩:=Aum k q X Y s u (List.cons.inj g).2
    rw[x];exact⟨rfl,y⟩
theorem Aum:∀(l m:List Ay)(X Y:List Int),To X->To Y->wxs l++([41]++X)=wxs m++([41]++Y)->l=m/\X=Y
 |[],[],X,Y,_,_,h=>by
  simp only[wxs,nil_append,Er,List.cons.injEq,true_and]at h
  exact⟨rfl,h⟩
 |[],y::i,X,Y,_,_,h=>by
  exfalso
  cases e:ti y.U with
  |nil=>exact Amd _ e
  |cons c r=>
   have g:=Jn y.U c (by rw[e];simp)
   simp only[wxs,Ame y,e,nil_append,Er,List.cons.injEq]at h
   rw[<-h.1]at g;exact absurd g δ
 |x::xs,[],X,Y,_,_,h=>by
  exfalso
  cases e:ti x.U with
  |nil=>exact Amd _ e
  |cons c r=>
   have g:=Jn x.U c (by rw[e];simp)
   simp only[wxs,Ame x,e,nil_append,Er,List.cons.injEq]at h
   rw[h.1]at g;exact absurd g δ
 |x::xs,y::i,X,Y,k,p,h=>by
  simp only[wxs,append_assoc,Er]at h
  obtain⟨q,s⟩:=Amf x y _ _ (Auk _) (Auk _) h
  obtain⟨u,v⟩:=Aum xs i X Y k p (by simpa using s)
  exact⟨by rw[q,u],v⟩
end
mutual
def iR:Ay->Prop
 |⟨n,l⟩=>I64 n/\iRs l
def iRs:List Ay->Prop
 |[]=>True
 |x::xs=>iR x/\iRs xs
end
theorem A68(i:Ay):iR i↔I64 i.U/\iRs i.K:=by cases i;simp only[iR]
theorem A69{l:Bg}(h:iRs l){a:Ay}(e:a∈l):iR a:=by induction l with|nil=>cases e|cons x xs ih=>simp only[iRs]at h;rcases Ed.1 e with rfl|e;exact h.1;exact ih h.2 e
mutual
theorem Amg:∀i:Ay,iR i->(wx i).length+1<=24*Cz i
 |⟨n,l⟩,h=>by
  simp only[iR]at h
  have g:=Ag9 l h.2
  have k:=Pe h.1
  simp only[wx,Cz,Fe]
  by_cases e:l.length=0
  .rw[Ar e];simp;omega
  .rw[Au e];simp;omega
theorem Ag9:∀l:List Ay,iRs l->(wxs l).length<=24*Ez l
 |[],_=>by simp[wxs,Ez]
 |x::xs,h=>by
  simp only[iRs]at h
  have e:=Amg x h.1
  have g:=Ag9 xs h.2
  have i:=Gn x
  simp only[wxs,Ez,Fe,Fd];omega
end
theorem Amh(l m:Bg):Ez (l++m)=Ez l+Ez m:=by induction l with|nil=>simp[Ez]|cons x xs ih=>simp only[Er,Ez,ih];omega
theorem A7a(l m:Bg):iRs (l++m)↔iRs l/\iRs m:=by induction l with|nil=>simp[iRs]|cons x xs ih=>simp only[Er,iRs,ih,and_assoc]
theorem Ami{n:Int}(h:I64 n):Qy n=some ⟨(Lib.itoa n).toArray⟩:=by unfold Qy;rw[Ar (show _/\_ from h)]
theorem A7b(n:Int):O0 ⟨(Lib.itoa n).toArray⟩=ti n:=by unfold O0 ti;simp
theorem A7c:∀(k:Nat)(i:Ay)(b:Ag),Cz i<=k->iR i->b.length+24*Cz i<=1099511627776->Ve k i b=some (b++wx i):=by intro k;induction k with|zero=>intro i b h;have:=Gn i;omega|succ k ih=>intro i b h c E;have F:=Gn i;have A:=Od i.K;have c:=(A68 i).1 c;have B:=Pe c.1;rw[Ve,Ame];simp only[Jy,Ami c.1,Ac,H4,Y5,A7b];rw[Di ω];simp only[Ac];by_cases v:i.K.length=0;rw[Am ω,Ar v];simp;rw[Al ω,Au v];simp only[Ak,Yo,Y5,Ac];rw[Di ζ,Ac];have g:=Ag9 i.K c.2;(have l:∀j,(wxs (i.K.take j)).length<=24*Ez i.K:=λj=>by have:=Aui (i.K.take j) (i.K.drop j);rw[take_append_drop]at this;rw[this,Fe]at g;omega);refine H5 i.K (λj=>((j:Int),b++ti i.U++[40]++wxs (i.K.take j))) (by simp[wxs]) ω ?_ ?_;intro j x G p w C D;have H:=Nl (B5 p);have f:=A69 c.2 (B5 p);have z:=Amg x f;have q:=l (j+1);have e:wxs (i.K.take (j+1))=wxs (i.K.take j)++(wx x++[44]):=(by rw[C4 p,Aui];simp[wxs]);rw[e]at q;simp only[Fe,Fd,length_nil]at q;simp only[w,C,D,Ak,Ac];have y:Ez (i.K.take j)+Cz x<=Ez i.K:=(by have s:=Amh (i.K.take (j+1)) (i.K.drop (j+1));rw[take_append_drop,C4 p,Amh]at s;simp only[Ez]at s;omega);have u:(wxs (i.K.take j)).length<=24*Ez (i.K.take j):=Ag9 _ (by have:=(A7a (i.K.take j) (i.K.drop j)).1 (by rw[take_append_drop];exact c.2);exact this.1);rw[ih x _ ω f ζ];simp only[Ac];rw[Di ζ,e];simp;intro w;refine⟨b++ti i.U++[40]++wxs i.K,ψ,?_⟩;rw[Di ζ];simp
def Kx(v:Int)(i:Ay):Ag:=118::(ti v++58::wx i)
def Jo(v:Int)(i:Ay):Β:=⟨(Fu (Kx v i)).toArray⟩
mutual
theorem Aun:∀i:Ay,∀c∈wx i,0<=c/\c<256
 |⟨n,l⟩,c,h=>by
  simp only[wx,Ef]at h
  rcases h with h|h
  .have:=Jn n c h
   simp only[Ru,Bool.or_eq_true,Dr,beq_iff_eq,Eh]at this
   omega
  .by_cases e:l.length=0
   .rw[Ar e]at h;cases h
   .rw[Au e]at h
    simp only[Ed,Ef,not_mem_nil,or_false]at h
    rcases h with h|h|h
    .omega
    .exact Auo l c h
    .omega
theorem Auo:∀l:List Ay,∀c∈wxs l,0<=c/\c<256
 |[],c,h=>by simp[wxs]at h
 |x::xs,c,h=>by
  simp only[wxs,Ef,Ed]at h
  rcases h with h|h|h
  .exact Aun x c h
  .omega
  .exact Auo xs c h
end
theorem Aha(v:Int)(i:Ay):∀c∈Kx v i,0<=c/\c<256:=by intro c h;simp only[Kx,Ed,Ef]at h;rcases h with h|h|h|h;omega;have:=Jn v c h;simp only[Ru,Bool.or_eq_true,Dr,beq_iff_eq,Eh]at this;omega;omega;exact Aun i c h
theorem Amj:∀l m:Ag,(∀c∈l,0<=c/\c<256)->(∀c∈m,0<=c/\c<256)->Fu l=Fu m->l=m
 |[],[],_,_,_=>rfl
 |[],_::_,_,_,h=>by simp[Fu]at h
 |_::_,[],_,_,h=>by simp[Fu]at h
 |x::xs,y::p,i,k,h=>by simp only[Fu,map_cons,List.cons.injEq]at h;have q:=i x ψ;have s:=k y ψ;have e:x.toNat=y.toNat:=(by have:=congrArg UInt8.toNat h.1;rw[UInt8.toNat_ofNat',UInt8.toNat_ofNat']at this;omega);rw[Amj xs p (λc g=>i c (by simp[g])) (λc g=>k c (by simp[g])) h.2,show x=y by omega]
theorem Aup{v w:Int}{i j:Ay}(h:Jo v i=Jo w j):v=w/\i=j:=by unfold Jo at h;(have q:(Fu (Kx v i)).toArray=(Fu (Kx w j)).toArray:=by injection h);(have s:Fu (Kx v i)=Fu (Kx w j):=by simpa using congrArg Array.toList q);have p:=Amj _ _ (Aha v i) (Aha w j) s;simp only[Kx,List.cons.injEq,true_and]at p;(have b:∀X:Ag,Nm (58::X):=λX c m e=>by cases e;decide);obtain⟨k,g⟩:=Rv _ _ _ _ (Jn v) (Jn w) (b _) (b _) p;obtain⟨f,_⟩:=Amf i j [] [] Aul Aul (by simpa using(List.cons.inj g).2);exact⟨Wd k,f⟩
theorem A7d(l:Λ UInt8):O0 ⟨l.toArray⟩=l.map λb=>(b.toNat:Int):=by unfold O0;simp
theorem Amk(v:Int)(i:Ay)(c:I64 v)(g:iR i)(hi:Cz i<=1048576):P9 v i=some (Jo v i):=by have l:=Pe c;(have f:(Lib.itoa v).length=(ti v).length:=by unfold ti;simp);unfold P9;(have k:Gt (ByteArray.mk #[118]) ⟨(Lib.itoa v).toArray⟩=some ⟨(118::Lib.itoa v).toArray⟩:=by unfold Gt;rw[Ar];congr 1;show 1+(Lib.itoa v).toArray.size<=9223372036854775807;rw[size_toArray];omega);(have j:Gt ⟨(118::Lib.itoa v).toArray⟩ (ByteArray.mk #[58])=some ⟨(118::(Lib.itoa v++[58])).toArray⟩:=by unfold Gt;rw[Ar];congr 1;show(118::Lib.itoa v).toArray.size+1<=9223372036854775807;rw[size_toArray,Fd];omega);simp only[Jy,Ami c,Ac,k,j,Kt,Abv,A7d];rw[Di ζ];simp only[Ac];rw[A7c 4000000 i _ ω g ζ];simp only[Ac,Nb];(have h:([]++(118::(Lib.itoa v++[58])).map λb=>(b.toNat:Int))++wx i=Kx v i:=by unfold Kx ti;simp);rw[h];unfold Aam Jo;rw[Ar (Aha v i)];rfl
mutual
theorem Auq(Δ:List A4):∀(i:Ay)(t:Ai)(d:Nat),Ei Δ i t=some d->d<=6*Cz i
 |⟨n,e⟩,t,d,h=>by
  rw[Oe]at h
  simp only[Cz]
  simp only at h
  split at h
  .split at h
   .have:=Adc Δ e _ d h;omega
   .cases h
  .split at h
   .split at h
    .cases h;omega
    .cases h
   .split at h
    .split at h
     .have:=Aur Δ e _ d h;omega
     .cases h
    .split at h
     .cases h;omega
     .cases h
theorem Adc(Δ:List A4):∀(is:List Ay)(ts:List Ai)(d:Nat),Dx Δ is ts=some d->d<=6*Ez is
 |[],[],d,h=>by simp only[Dx]at h;cases h;omega
 |i::is,t::ts,d,h=>by
  rw[Rt]at h
  cases e:Ei Δ i t with
  |none=>rw[e]at h;cases h
  |some a=>
   rw[e,Ac]at h
   cases g:Dx Δ is ts with
   |none=>rw[g]at h;cases h
   |some b=>
    rw[g]at h
    cases h
    have:=Auq Δ i t a e
    have:=Adc Δ is ts b g
    simp only[Ez];omega
 |[],_::_,d,h=>by simp only[Dx]at h;cases h
 |_::_,[],d,h=>by simp only[Dx]at h;cases h
theorem Aur(Δ:List A4):∀(es:List Ay)(t:Ai)(d:Nat),I0 Δ es t=some d->d<=6*Ez es
 |[],t,d,h=>by simp only[I0]at h;cases h;omega
 |⟨n,e⟩::es,t,d,h=>by
  rw[Adb]at h
  simp only at h
  cases k:Iz Δ t n with
  |none=>rw[k]at h;cases h
  |some ts=>
   rw[k,Ac]at h
   cases g:Dx Δ e ts with
   |none=>rw[g]at h;cases h
   |some a=>
    rw[g,Ac]at h
    cases i:I0 Δ es t with
    |none=>rw[i]at h;cases h
    |some b=>
     rw[i]at h
     cases h
     have:=Adc Δ e ts a g
     have:=Aur Δ es t b i
     simp only[Ez,Cz];omega
end
variable{Δ:A0}{o:Cp}{α:Type}
def Zb(Δ:A0)(e:Ay)(t:Ai):Cp:=(Iz Δ t e.U).bind λts=>(Dx Δ e.K ts).map (1 + ·)
theorem A7e(Δ:A0)(e:Ay)(es:Bg)(t:Ai):I0 Δ (e::es) t=(Zb Δ e t).bind λa=>(I0 Δ es t).map (a + ·):=by rw[Adb];unfold Zb;cases Iz Δ t e.U with|none=>rfl|some ts=>simp only[Ac];cases Dx Δ e.K ts<;>rfl
theorem A7f(Δ:A0)(e:Ay)(t:Ai)(d:Nat)(h:Zb Δ e t=some d):d<=6*Cz e:=by unfold Zb at h;cases i:Iz Δ t e.U with|none=>rw[i]at h;cases h|some ts=>rw[i,Ac]at h;cases g:Dx Δ e.K ts with|none=>rw[g]at h;cases h|some a=>rw[g]at h;cases h;have:=Adc Δ _ ts a g;have:=Gn e;show 1+a<=_;omega
def Dg(v:Int)(o:Cp):Prop:=(v = -1/\∀d,o=some d->6<d)\/∃d:Nat,o=some d/\v=d
theorem Dg.clip{v:Int}(h:Dg v o):(if v>6 then -1 else v)=Ho o:=by(rcases h with⟨rfl,h⟩|⟨d,rfl,rfl⟩);rw[Au ω,Y9 h];by_cases hd:6<d;rw[Ar ω,Amc hd];rw[Au ω,Amb ω]
theorem Ahb{p:Cp}{acc:Nat}{d:Nat}(h:(o.bind λa=>p.map (a + ·)).map (acc + ·)=some d):∃a b,o=some a/\p=some b/\d=acc+(a+b):=by cases o with|none=>cases h|some a=>cases p with|none=>cases h|some b=>exact⟨a,b,rfl,rfl,by simp at h;omega⟩
theorem A7g(hz:Szv Δ)(hs:Pd Δ)(b1:At)(b2:As)(Ξ:A1)(L J:Int)(I:A1):∀k:Nat, (∀(i:Ay)(t:Ai),3*Cz i<=k->Cz i<=1048576->B2 t<=200->∃v,S8 k t i b1 b2 Δ Ξ L J I=some v/\Dg v (Ei Δ i t))/\(∀(is:Bg)(ts:A1),3*Ez is+1<=k->Ez is<=1048576->(∀t∈ts,B2 t<=200)->∃v,Vt k ts is b1 b2 Δ Ξ L J I=some v/\Dg v (Dx Δ is ts))/\(∀(e:Ay)(t:Ai),3*Cz e<=k->Cz e<=1048576->B2 t<=200->∃v,Vu k t e b1 b2 Δ Ξ L J I=some v/\Dg v (Zb Δ e t)):=by intro k;induction k with|zero=>exact⟨λi t h=>by have:=Gn i;omega,λis ts h=>ω,λi t h=>by have:=Gn i;omega⟩|succ k ih=>obtain⟨Z,M,a6⟩:=ih;have A:∀o:Cp,o.map (0 + ·)=o:=(by intro o;cases o<;>simp);(have c:∀d:Nat,(none:Cp)=some d->6<d:=λd h=>by cases h);refine⟨?_,?_,?_⟩;intro i t hk hi ht;have ae:=Gn i;have N:=Od i.K;rw[S8,Oe];by_cases X:t.G=6;simp only[Es X,Ak,Ar X];by_cases H:i.U=0;simp only[Es H,Ak,Ar H];obtain⟨p,p1,p2⟩:=M i.K t.R ω ω (λa F=>by have:=Kd F;have:=J3 t;omega);rw[p1];exact⟨p,rfl,p2⟩;simp only[Ck H,Aj,Au H];exact⟨_,rfl,.inl ⟨rfl,c⟩⟩;simp only[Ck X,Aj,Au X];by_cases V:t.G=7;simp only[Es V,Ak,Ar V];by_cases C:0<=i.U;by_cases a2:i.U<=6;by_cases a3:i.K.length=0;rw[Al (show i.U>=0 from C),Al a2,Ar ⟨C,a2,a3⟩,Es ω];exact⟨_,rfl,.inr ⟨i.U.toNat,rfl,ω⟩⟩;rw[Al (show i.U>=0 from C),Al a2,Au λh=>a3 h.2.2,Ck ω];exact⟨_,rfl,.inl ⟨rfl,c⟩⟩;rw[Al (show i.U>=0 from C),Am a2,Au λh=>a2 h.2.1];exact⟨_,rfl,.inl ⟨rfl,c⟩⟩;rw[Am (show ¬i.U>=0 from C),Au λh=>C h.1];exact⟨_,rfl,.inl ⟨rfl,c⟩⟩;simp only[Ck V,Aj,Au V];by_cases Y:t.G=5;simp only[Es Y,Ak,Ar Y];by_cases H:i.U=0;simp only[Dv H,Aj,Ar H];(have T:∀(m j w:Nat),j+m=i.K.length->w<=10000000->∃z,Ao (S:=(Int×Int)) (E:=(Int⊕Int)) (λ(B,v8)=>bif v8<(i.K.length:Int)then((Af i.K v8).bind λv9=>(Vu k t v9 b1 b2 Δ Ξ L J I).bind λD=>bif D<(0:Int)then some (.inr (.inl (-1)))else(bif B>(6:Int)then some (.inr (.inl (-1)))else some (.inl (Aa (B+D),Aa (v8+1)))))else some (.inr (.inr B))) ((w:Int),(j:Int))=some z/\Dg (match z with|.inl v=>v|.inr v=>v) ((I0 Δ (i.K.drop j) t).map (w + ·)):=by intro m;induction m with|zero=>intro j w hj q;have:j=i.K.length:=ω;subst this;exact⟨.inr (w:Int),Cr ψ,.inr ⟨w,by simp[I0],rfl⟩⟩|succ m g=>intro j w hj q;have K:i.K[j]?=some i.K[j]:=Bn ω;generalize i.K[j]=e at K;have ab:=Nl (B5 K);rw[J5 K,A7e];obtain⟨v,s,P⟩:=a6 e t ω ω ht;(rcases P with⟨rfl,P⟩|⟨a,C,rfl⟩);refine⟨.inl (-1),Cr ?_,.inl ⟨rfl,λd h=>?_⟩⟩;simp only[Al (ω:(j:Int)<(i.K.length:Int)),Ak,B1 rfl K,Ac,s];rfl;obtain⟨a,b,F,W,rfl⟩:=Ahb h;have:=P a F;omega;have R:=A7f Δ e t a C;by_cases W:w>6;refine⟨.inl (-1),Cr ?_,.inl ⟨rfl,λd h=>?_⟩⟩;simp only[Al (ω:(j:Int)<(i.K.length:Int)),Ak,B1 rfl K,Ac,s,Am (ω:¬(a:Int)<0),Al (ω:(w:Int)>6),Aj];obtain⟨a,b,F,W,rfl⟩:=Ahb h;omega;have ew:Aa ((w:Int)+(a:Int))=((w+a:Nat):Int):=ξ;obtain⟨z,f,Q⟩:=g (j+1) (w+a) ω ω;refine⟨z,?_,?_⟩;rw[Fh (s':=(((w+a:Nat):Int),((j+1:Nat):Int)))];exact f;simp only[Al (ω:(j:Int)<(i.K.length:Int)),Ak,B1 rfl K,Ac,s,Am (ω:¬(a:Int)<0),Am (ω:¬(w:Int)>6),Aj,ew,Dd (show j<i.K.length by omega) ω];have A:∀o:Cp,(((some a:Cp).bind λa=>o.map (a + ·)).map (w + ·))=o.map (w+a + ·):=(by intro o;cases o<;>simp[Nat.add_assoc]);rw[C,A];exact Q);obtain⟨z,f,Q⟩:=T i.K.length 0 0 ω ω;have f:Ao _ ((0:Int),(0:Int))=some z:=f;rw[f,Ac];rw[drop_zero,A]at Q;(cases z with|inl v=>exact⟨v,rfl,Q⟩|inr v=>exact⟨v,rfl,Q⟩);simp only[D5 H,Ak,Au H];exact⟨_,rfl,.inl ⟨rfl,c⟩⟩;simp only[Ck Y,Aj,Au Y];by_cases H:i.U=0;simp only[Es H,Ak];by_cases a3:i.K.length=0;rw[Ar ⟨H,a3⟩,Es ω];exact⟨_,rfl,.inr ⟨0,rfl,rfl⟩⟩;rw[Au λh=>a3 h.2,Ck ω];exact⟨_,rfl,.inl ⟨rfl,c⟩⟩;simp only[Ck H,Aj];rw[Au λh=>H h.1];exact⟨_,rfl,.inl ⟨rfl,c⟩⟩;intro is ts hk hi ht;have N:=Od is;rw[Vt];by_cases hl:ts.length=is.length;rw[Dv ω];simp only[Aj];(have T:∀(m j w:Nat),j+m=is.length->w<=10000000->∃z,Ao (S:=(Int×Int)) (E:=(Int⊕Int)) (λ(v5,U)=>bif U<(ts.length:Int)then((Af ts U).bind λB=>(Af is U).bind λv9=>(S8 k B v9 b1 b2 Δ Ξ L J I).bind λG=>bif G<(0:Int)then some (.inr (.inl (-1)))else(bif v5>(6:Int)then some (.inr (.inl (-1)))else some (.inl (Aa (v5+G),Aa (U+1)))))else some (.inr (.inr v5))) ((w:Int),(j:Int))=some z/\Dg (match z with|.inl v=>v|.inr v=>v) ((Dx Δ (is.drop j) (ts.drop j)).map (w + ·)):=by intro m;induction m with|zero=>intro j w hj q;have:j=ts.length:=ω;subst this;refine⟨.inr (w:Int),Cr ψ,.inr ⟨w,?_,rfl⟩⟩;rw[drop_of_length_le ω,drop_of_length_le ω];simp[Dx]|succ m g=>intro j w hj q;have K:is[j]?=some is[j]:=Bn ω;generalize is[j]=e at K;have hu:ts[j]?=some ts[j]:=Bn ω;generalize ts[j]=u at hu;have ab:=Nl (B5 K);rw[J5 K,J5 hu,Rt];obtain⟨v,s,P⟩:=Z e u ω ω (ht u (B5 hu));(rcases P with⟨rfl,P⟩|⟨a,C,rfl⟩);refine⟨.inl (-1),Cr ?_,.inl ⟨rfl,λd h=>?_⟩⟩;simp only[Al (ω:(j:Int)<(ts.length:Int)),Ak,B1 rfl K,B1 rfl hu,Ac,s];rfl;obtain⟨a,b,F,W,rfl⟩:=Ahb h;have:=P a F;omega;have R:=Auq Δ e u a C;by_cases W:w>6;refine⟨.inl (-1),Cr ?_,.inl ⟨rfl,λd h=>?_⟩⟩;simp only[Al (ω:(j:Int)<(ts.length:Int)),Ak,B1 rfl K,B1 rfl hu,Ac,s,Am (ω:¬(a:Int)<0),Al (ω:(w:Int)>6),Aj];obtain⟨a,b,F,W,rfl⟩:=Ahb h;omega;have ew:Aa ((w:Int)+(a:Int))=((w+a:Nat):Int):=ξ;obtain⟨z,f,Q⟩:=g (j+1) (w+a) ω ω;refine⟨z,?_,?_⟩;rw[Fh (s':=(((w+a:Nat):Int),((j+1:Nat):Int)))];exact f;simp only[Al (ω:(j:Int)<(ts.length:Int)),Ak,B1 rfl K,B1 rfl hu,Ac,s,Am (ω:¬(a:Int)<0),Am (ω:¬(w:Int)>6),Aj,ew,Dd (show j<is.length by omega) ω];have A:∀o:Cp,(((some a:Cp).bind λa=>o.map (a + ·)).map (w + ·))=o.map (w+a + ·):=(by intro o;cases o<;>simp[Nat.add_assoc]);rw[C,A];exact Q);obtain⟨z,f,Q⟩:=T is.length 0 0 ω ω;have f:Ao _ ((0:Int),(0:Int))=some z:=f;rw[f,Ac];rw[drop_zero,drop_zero,A]at Q;(cases z with|inl v=>exact⟨v,rfl,Q⟩|inr v=>exact⟨v,rfl,Q⟩);rw[D5 ω,Ama Δ is ts hl];exact⟨_,rfl,.inl ⟨rfl,c⟩⟩;intro e t hk K ht;have af:=Gn e;rw[Vu];unfold Zb Iz;rw[A61 hz t ht e.U,Ac];cases hf:Ob Δ t e.U with|none=>exact⟨-1,rfl,.inl ⟨rfl,c⟩⟩|some l=>have ac:=Al8 hf;obtain⟨x,y,_,hx,_,hy,hl,aa⟩:=Ada hf;obtain⟨y6,_⟩:=hz x (Ih hx).2.2.2 y (Ih hy).2.2.2;have ad:l.length<=6:=(by rw[hl];simpa using y6);have a8:∀a∈Ja l (I9 Δ t.U e.U),B2 a<=200:=(Aud (show Iz Δ t e.U=some _ by unfold Iz;rw[hf];rfl)).1;obtain⟨v,s,P⟩:=M e.K (Ja l (I9 Δ t.U e.U)) ω ω a8;(have hd:Dg (if v<0 then -1 else 1+v) (((some l).map λl=>Ja l (I9 Δ t.U e.U)).bind λts=>(Dx Δ e.K ts).map (1 + ·)):=by rw[Option.map_some,Ac];(rcases P with⟨rfl,P⟩|⟨a,C,rfl⟩);refine .inl ⟨rfl,λd h=>?_⟩;(cases F:Dx Δ e.K (Ja l (I9 Δ t.U e.U))with|none=>rw[F]at h;cases h|some a=>rw[F]at h;have:=P a F;simp at h;omega);rw[C,Au ω];exact .inr ⟨1+a,rfl,ω⟩);(have a7:v = -1\/(0<=v/\v<=10000000):=by(rcases P with⟨rfl,P⟩|⟨a,C,rfl⟩);exact .inl rfl;have:=Adc Δ _ _ a C;right;omega);refine⟨_,?_,hd⟩;simp only[okL,Ds,Aj,Atv Δ t.U e.U hs,Ac];refine H5 (I9 Δ t.U e.U) (λj=>((j:Int),Ja (l.take j) ((I9 Δ t.U e.U).take j))) (by simp[Ja]) ω ?_ ?_;intro j b hj W h1 h2 h3;have F:l[j]?=some l[j]:=Bn ω;generalize l[j]=a at F;have N:=Auc (l.take j) ((I9 Δ t.U e.U).take j);have:(l.take j).length<=6:=ζ;simp only[h1,h2,h3,Ak,Ac,B1 rfl F,Aub F W];rw[Di ζ];cases b<;>simp;intro h1;refine⟨Ja l (I9 Δ t.U e.U),?_,?_⟩;simp only[h1];rw[J1 ω,J1 (Nat.le_refl _)];rfl;rw[s,Ac];rcases a7 with h|h;subst h;rfl;rw[Am ω,Au ω];simp only[Aj];rw[Aa,Bm]<;>omega
def E2(Ξ:A1)(Θ:Ai)(v:Int):Ο Ai:=if v = -1 then some Θ else Af Ξ v
def Fa(Δ:A0)(Ξ:A1)(Θ:Ai)(o:At):Prop:=∀p∈o,∀v i t,p.1=Jo v i->E2 Ξ Θ v=some t->p.2=Ho (Ei Δ i t)
theorem Aml{α:Type}:∀(o:Λ (Β×α))(s:Β)(v:α),∀p∈G1 o s v,p∈o\/p=(s,v)
 |[],s,v,p,h=>by simp only[G1,De]at h;exact .inr h
 |q::o,s,v,p,h=>by unfold G1 at h;cases e:(s==q.1)with|true=>(rw[e]at h;simp only[Ak,Ed]at h;rcases h with h|h;exact .inr h;exact .inl (by simp[h]))|false=>rw[e]at h;simp only[Aj,Ed]at h;rcases h with h|h;exact .inl (by simp[h]);rcases Aml o s v p h with h|h;exact .inl (by simp[h]);exact .inr h
theorem A7h(E:Szv Δ)(I:Pd Δ)(b1:At)(b2:As)(Ξ:A1)(Θ:Ai)(C:Fa Δ Ξ Θ b1)(v:Int)(i:Ay)(t:Ai)(e:E2 Ξ Θ v=some t)(b:B2 t<=200)(G:I64 v)(J:iR i)(hi:Cz i<=1048576):∃s,O8 v i b1 b2 Δ Ξ Θ.G Θ.U Θ.R=some (Ho (Ei Δ i t),s)/\Fa Δ Ξ Θ s:=by unfold O8;rw[Amk v i G J hi,Ac];cases f:Gd b1 (Jo v i)with|true=>refine⟨b1,?_,C⟩;have:Jk b1 (Jo v i) 0=Ho (Ei Δ i t):=(by unfold Jk;unfold Gd at f;rw[any_eq_true]at f;obtain⟨p,B,A⟩:=f;cases g:b1.find? (λp=>Jo v i==p.1)with|none=>exact absurd A (by have:=find?_eq_none.1 g p B;simpa using this)|some q=>have F:=find?_some g;exact C q (mem_of_find?_eq_some g) v i t ((Tn _ _).1 F).symm e);simp only[Ak,Ac,Ds,Aj,this]|false=>obtain⟨w,x,u⟩:=(A7g E I b1 b2 Ξ Θ.G Θ.U Θ.R 4000000).1 i t ω hi b;(have c:Pa v b1 b2 Δ Ξ Θ.G Θ.U Θ.R=some t:=by unfold Pa;unfold E2 at e;by_cases h:v = -1;rw[Ar h]at e;cases e;have L:(Ai.mk Θ.G Θ.U Θ.R)=Θ:=(by cases Θ;rfl);rw[Es h,L];rfl;rw[Au h]at e;rw[Ck h,e];rfl);(have j:(bif decide (w>6)then some (-1)else some w:A5)=some (Ho (Ei Δ i t)):=by rw[<-u.clip];by_cases h:w>6;rw[Al h,Ar h];rfl;rw[Am h,Au h];rfl);refine⟨G1 b1 (Jo v i) (Ho (Ei Δ i t)),?_,?_⟩;simp only[Aj,Ac,Bool.not_false,Ak,c,x,j];intro p hp y D z l k;rcases Aml _ _ _ p hp with h|h;exact C p h y D z l k;subst h;obtain⟨rfl,rfl⟩:=Aup l;rw[e]at k;cases k;rfl
def E6(a b:Int):Int:=if a<b then -1 else if a>b then 1 else 0
def E7(a b:Int):Int:=if a=0 then b else a
theorem Hq{a b:Int}:E6 a b=0↔a=b:=by unfold E6;split<;>(try split)<;>omega
theorem Qk(a b:Int):Nc a b=some (E6 a b):=by unfold Nc Vj E6;simp only[Ac,bne_self_eq_false,Aj];by_cases h:a<b;rw[Al h,Ar h];rfl;rw[Am h,Au h];by_cases e:a>b;rw[Al e,Ar e];rfl;rw[Am e,Au e];rfl
theorem Aus(a b:Int):Ab1 a b=some (E6 a b):=Qk a b
theorem Zc(a b:Int):Qa [a,b]=some (E7 a b):=by unfold Qa E7;by_cases e:a=0;rw[Ar e];by_cases h:b=0;refine Jt 2 (λj=>(j:Int)) rfl ?_ ⟨.inr (),rfl,by rw[h]⟩;intro j g;(match j,g with|0,_=>subst e;rfl|1,_=>subst h;rfl);refine Jt 1 (λj=>(j:Int)) rfl ?_ ⟨.inl b,?_,rfl⟩;intro j g;(match j,g with|0,_=>subst e;rfl);show(bif(b != 0)then _ else _)=_;rw[D5 h];rfl;rw[Au e];refine Jt 0 (λj=>(j:Int)) rfl (λj g=>ω) ⟨.inl a,?_,rfl⟩;show(bif(a != 0)then _ else _)=_;rw[D5 e];rfl
theorem Ahc(a b:Int)(h:a≠b):X0 (decide (a<b))=some (E6 a b):=by unfold X0 E6;by_cases e:a<b;rw[Al e,Ar e];rfl;rw[Am e,Au e,Ar ω];rfl
theorem Ahd(a b:Int)(h:a≠b):U7 (decide (a<b))=some (E6 a b):=Ahc a b h
theorem Ahe(a b:Int)(h:a≠b):U2 (decide (a<b))=some (E6 a b):=Ahc a b h
def F7{α:Type}(g:α->α->Int):Λ α->Λ α->Int
 |x::xs,y::e=>E7 (g x y) (F7 g xs e)
 |_,_=>0
theorem Add(g:α->α->Int)(l m:Λ α){step:Int->Ο (Int⊕(Int⊕Unit))}(f:l.length=m.length)(hb:l.length<4611686018427387904)(c:∀(j:Nat)(x y:α),l[j]?=some x->m[j]?=some y->decide ((j:Int)<(l.length:Int))=true->Af l (j:Int)=some x->Af m (j:Int)=some y->decide ((j:Int)>=(m.length:Int))=false->Aa ((j:Int)+1)=((j+1:Nat):Int)->step (j:Int)=if g x y=0 then some (.inl ((j+1:Nat):Int))else some (.inr (.inl (g x y))))(v:decide ((l.length:Int)<(l.length:Int))=false->step (l.length:Int)=some (.inr (.inr ()))):∃z,Ao step 0=some z/\(match z with|.inl r=>r=F7 g l m/\r≠0|.inr _=>F7 g l m=0):=by(have q:∀(n j:Nat),j+n=l.length->∃z,Ao step (j:Int)=some z/\(match z with|.inl r=>r=F7 g (l.drop j) (m.drop j)/\r≠0|.inr _=>F7 g (l.drop j) (m.drop j)=0):=by intro n;induction n with|zero=>intro j w;have:j=l.length:=ω;subst this;refine⟨.inr (),Cr (v ψ),?_⟩;rw[drop_of_length_le ω];simp[F7]|succ n ih=>intro j w;have k:l[j]?=some l[j]:=Bn ω;have p:m[j]?=some m[j]:=Bn ω;generalize l[j]=x at k;generalize m[j]=y at p;have h:=c j x y k p (Al ω) (B1 rfl k) (B1 rfl p) (Am ω) (Dd (show j<l.length by omega) hb);rw[J5 k,J5 p];by_cases i:g x y=0;rw[Ar i]at h;obtain⟨z,b,s⟩:=ih (j+1) ω;refine⟨z,by rw[Fh h];exact b,?_⟩;have e:F7 g (x::l.drop (j+1)) (y::m.drop (j+1))=F7 g (l.drop (j+1)) (m.drop (j+1)):=(by simp only[F7,E7,i,if_true]);(cases z with|inl r=>simp only[e];exact s|inr u=>simp only[e];exact s);rw[Au i]at h;refine⟨.inl (g x y),Cr h,?_,i⟩;simp only[F7,E7,i,if_false]);exact q l.length 0 ω
theorem Ahf(f:α->α->A5)(g:α->α->Int)(l m:Λ α)(s:l.length=m.length)(hb:l.length<4611686018427387904)(A:∀(j:Nat)(x y:α),l[j]?=some x->m[j]?=some y->f x y=some (g x y)):((Ao (S:=Int) (E:=(Int⊕Unit)) (λb=>bif b<(l.length:Int)then((Af l b).bind λq=>bif b>=(m.length:Int)then some (.inr (.inl 1))else((Af m b).bind λp=>(f q p).bind λc=>bif(c != (0:Int))then some (.inr (.inl c))else some (.inl (Aa (b+1)))))else some (.inr (.inr ()))) 0).bind λz=>match z with|.inl i=>some i|.inr _=>bif(l.length:Int)<(m.length:Int)then some (-1)else some 0)=some (F7 g l m):=by refine Ac3 (Add g l m s hb ?_ (λh=>by simp only[h];rfl)) ?_;intro j x y v w C F G D B;simp only[C,F,G,D,B,Ak,Aj,Ac,A j x y v w];by_cases e:g x y=0;rw[Dv e,Ar e];rfl;rw[D5 e,Au e];rfl;rintro(r|u) k;rw[k.1];simp only;rw[Am ω,show F7 g l m=0 from k];rfl
def Of(x y:Bh):Int:=E7 (E6 x.v y.v) (E6 x.C y.C)
def Dh(a b:Aq):Int:=if a.T.length=b.T.length then E7 (F7 Of a.T b.T) (E6 a.Q b.Q)else E6 a.T.length b.T.length
theorem Ahg(a b:Aq)(g:a.T.length<1099511627776):O7 a b=some (Dh a b):=by unfold O7 Dh;rw[Qk,Ac];by_cases h:a.T.length=b.T.length;rw[Dv (Hq.2 ω),Ar h];simp only[Aj];have:=Ahf Ab0 Of a.T b.T h ω (λj x y _ _=>by unfold Ab0 Of;rw[Qk,Aus];simp only[Ac,Zc]);rw[show Af0 a.T b.T=_ from this,Ac,Aus];simp only[Ac,Zc];rw[D5 λe=>h (by have:=Hq.1 e;omega),Au h];rfl
theorem Zd(a b:Aq)(w:a.T.length<1099511627776):I8 a b=some (Dh a b):=by unfold I8 Dh;by_cases h:a.T.length=b.T.length;rw[Dv ω,Ar h];simp only[Aj];refine Ac3 (Add Of a.T b.T h ω ?_ (λh=>by simp only[h];rfl)) ?_;intro j x y A B p q s i g;simp only[p,q,s,g,Ak,Ac];by_cases c:x.v=y.v;rw[Dv c];by_cases k:x.C=y.C;rw[Dv k];rw[Ar (by unfold Of;rw[Hq.2 c,Hq.2 k];rfl)];rfl;rw[D5 k,Ahd _ _ k];have e:Of x y=E6 x.C y.C:=(by unfold Of;rw[Hq.2 c];rfl);rw[e,Au λe=>k (Hq.1 e)];rfl;rw[D5 c,Ahd _ _ c];have e:Of x y=E6 x.v y.v:=(by unfold Of E7;rw[Au λe=>c (Hq.1 e)]);rw[e,Au λe=>c (Hq.1 e)];rfl;rintro(r|u) f;obtain⟨rfl,v⟩:=f;unfold E7;rw[Au v];have f:F7 Of a.T b.T=0:=f;rw[f];simp only[E7,if_true];by_cases k:a.Q=b.Q;rw[Dv k,Hq.2 k];rfl;rw[D5 k,Ahd _ _ k];rfl;rw[D5 ω,Au h,Ahd _ _ ω];rfl
mutual
def Ky:Ay->Ay->Int
 |⟨n,k⟩,j=>if n=j.U then(if k.length=j.K.length then We k j.K else E6 k.length j.K.length)else E6 n j.U
def We:List Ay->List Ay->Int
 |x::xs,y::e=>E7 (Ky x y) (We xs e)
 |[],_=>0
 |_::_,[]=>0
end
theorem Amm(i j:Ay):Ky i j=if i.U=j.U then(if i.K.length=j.K.length then We i.K j.K else E6 i.K.length j.K.length)else E6 i.U j.U:=by cases i;simp only[Ky]
theorem Ahh:∀l m:Bg,We l m=F7 Ky l m
 |x::xs,y::e=>by simp only[We,F7,Ahh xs e]
 |[],_=>by simp[We,F7]
 |_::_,[]=>by simp[We,F7]
theorem A7i:∀(n k:Nat)(i j:Ay),Cz i<=n->2*n<=k->n<1099511627776->Sx k i j=some (Ky i j):=by intro n;induction n with|zero=>intro k i j h;have:=Gn i;omega|succ n ih=>intro k i j h u v;obtain⟨k,rfl⟩:∃b,k=b+2:=⟨k-2,ω⟩;have w:=Gn i;have c:=Od i.K;rw[Sx,Amm,Qk,Qk];simp only[Ac,Zc];by_cases g:i.U=j.U;rw[Ar g];by_cases p:i.K.length=j.K.length;rw[Ar p,Dv (by unfold E7;rw[Hq.2 g,Hq.2 ω];rfl),Ahh];simp only[Aj];have:=Ahf (Sx k) Ky i.K j.K p ω λq x y s A=>ih k x y (by have:=Nl (B5 s);omega) ω ω;rw[Abz];refine Eq.trans (congrArg (λq=>Option.bind q _) this) rfl;have e:E7 (E6 i.U j.U) (E6 (i.K.length:Int) (j.K.length:Int))=E6 i.K.length j.K.length:=(by unfold E7;rw[Hq.2 g];rfl);rw[Au p,e,D5 λe=>p (by have:=Hq.1 e;omega)];rfl;have e:E7 (E6 i.U j.U) (E6 (i.K.length:Int) (j.K.length:Int))=E6 i.U j.U:=(by unfold E7;rw[Au λe=>g (Hq.1 e)]);rw[Au g,e,D5 λe=>g (Hq.1 e)];rfl
theorem A7j:∀(n k:Nat)(i j:Ay),Cz i<=n->2*n<=k->n<1099511627776->So k i j=some (Ky i j):=by intro n;induction n with|zero=>intro k i j h;have:=Gn i;omega|succ n ih=>intro k i j h F G;obtain⟨k,rfl⟩:∃g,k=g+2:=⟨k-2,ω⟩;have H:=Gn i;have s:=Od i.K;rw[So,Amm];by_cases e:i.U=j.U;rw[Ar e,Dv e];simp only[Aj];rw[Abe];by_cases p:i.K.length=j.K.length;rw[Ar p,Dv ω,Ahh];simp only[Aj];have:=Add Ky i.K j.K p ω (step:=λv=>bif v<(i.K.length:Int)then((Af i.K v).bind λf=>(Af j.K v).bind λc=>(So k f c).bind λB=>bif(B != (0:Int))then some (.inr (.inl B))else some (.inl (Aa (v+1))))else some (.inr (.inr ()))) (λq x y D I e p E A l=>by simp only[e,p,E,l,Ak,Ac,ih k x y (by have:=Nl (B5 D);omega) ω ω];by_cases w:Ky x y=0;rw[Dv w,Ar w];rfl;rw[D5 w,Au w];rfl) (λh=>by simp only[h];rfl);obtain⟨z,b,C⟩:=this;rw[b,Ac];(cases z with|inl r=>rw[C.1];rfl|inr u=>rw[show F7 Ky i.K j.K=0 from C];rfl);rw[Au p,D5 ω,Ahc _ _ ω];rfl;rw[Au e,D5 e,Ahc _ _ e];rfl
def Og(x y:Bl):Int:=E7 (E6 x.v y.v) (Ky x.I y.I)
def Pf(x y:A6):Int:=E7 (Dh x.L y.L) (E6 x.P y.P)
def Dn(a b:Aw):Int:=if a.F.length=b.F.length then E7 (F7 Og a.F b.F) (if a.A.length=b.A.length then F7 Pf a.A b.A else E6 a.A.length b.A.length)else E6 a.F.length b.F.length
structure Eo(m:Aw):Prop where
 nf:m.F.length<=1048576
 na:m.A.length<=1048576
 fi:∀f∈m.F,Cz f.I<=1048576
 fr:∀f∈m.F,iR f.I/\I64 f.v
 al:∀a∈m.A,a.L.T.length<=1048576
theorem Aut(a b:Aw)(g:Eo a):Sq a b=some (Dn a b):=by have s:=g.nf;have u:=g.na;unfold Sq Dn;rw[Qk,Ac];by_cases h:a.F.length=b.F.length;rw[Dv (Hq.2 ω),Ar h];simp only[Aj];have:=Ahf Abl Og a.F b.F h ω (λj x y k q=>by unfold Abl Og;rw[Qk,A7i 1048576 4000000 x.I y.I (g.fi x (B5 k)) ω ω];simp only[Ac,Zc]);rw[show Afu a.F b.F=_ from this,Ac,Qk];simp only[Ac,Zc];by_cases p:F7 Og a.F b.F=0;simp only[p,E7,if_true];by_cases i:a.A.length=b.A.length;rw[Dv (Hq.2 ω),Ar i];simp only[Aj];have:=Ahf Abm Pf a.A b.A i ω (λj x y k q=>by unfold Abm Pf;rw[Qk,Ahg x.L y.L (by have:=g.al x (B5 k);omega)];simp only[Ac,Zc]);rw[show Afv a.A b.A=_ from this];rfl;rw[D5 λe=>i (by have:=Hq.1 e;omega),Au i];rfl;simp only[E7,Au p];rw[D5 p];rfl;rw[D5 λe=>h (by have:=Hq.1 e;omega),Au h];rfl
theorem Ade(a b:Aw)(p:Eo a):N2 a b=some (Dn a b):=by have q:=p.nf;have s:=p.na;unfold N2 Dn;by_cases h:a.F.length=b.F.length;rw[Dv ω,Ar h];simp only[Aj];refine Ac3 (Add Og a.F b.F h ω ?_ (λh=>by simp only[h];rfl)) ?_;intro j x y v B q s w i g;simp only[q,s,w,g,Ak,Ac,A7j 1048576 4000000 x.I y.I (p.fi x (B5 v)) ω ω];by_cases c:x.v=y.v;rw[Dv c];have e:Og x y=Ky x.I y.I:=(by unfold Og E7;rw[Ar (Hq.2 c)]);rw[e];by_cases k:Ky x.I y.I=0;rw[Dv k,Ar k];rfl;rw[D5 k,Au k];rfl;rw[D5 c,Ahe _ _ c];have e:Og x y=E6 x.v y.v:=(by unfold Og E7;rw[Au λe=>c (Hq.1 e)]);rw[e,Au λe=>c (Hq.1 e)];rfl;rintro(r|u) f;obtain⟨rfl,C⟩:=f;unfold E7;rw[Au C];have f:F7 Og a.F b.F=0:=f;rw[f];simp only[E7,if_true];by_cases A:a.A.length=b.A.length;rw[Dv ω,Ar A];simp only[Aj];refine Ac3 (Add Pf a.A b.A A ω ?_ (λh=>by simp only[h];rfl)) ?_;intro j x y v B q s w i g;simp only[q,s,w,g,Ak,Ac,Zd x.L y.L (by have:=p.al x (B5 v);omega)];by_cases c:Dh x.L y.L=0;rw[Dv c];have e:Pf x y=E6 x.P y.P:=(by unfold Pf E7;rw[Ar c]);rw[e];by_cases k:x.P=y.P;rw[Dv k,Ar (Hq.2 k)];rfl;rw[D5 k,Ahe _ _ k,Au λe=>k (Hq.1 e)];rfl;have e:Pf x y=Dh x.L y.L:=(by unfold Pf E7;rw[Au c]);rw[D5 c,e,Au c];rfl;rintro(r|u) f;rw[f.1];rw[show F7 Pf a.A b.A=0 from f];rw[D5 ω,Au A,Ahe _ _ ω];rfl;rw[D5 ω,Au h,Ahe _ _ ω];rfl
def Lf{α:Type}(f:α->Int)(l:Λ α)(x:α)(j:Nat):Bool:=j==0||(match l[j-1]? with|some y=>decide (f y<f x)|none=>false)
def Ql(l:A7)(x:Bh)(j:Nat):Bool:=decide (-1<=x.v/\x.v<3000/\x.C≠0/\-1048576<=x.C/\x.C<=1048576)&&Lf (·.v) l x j
def Co(a:Aq):Bool:=decide (-1048576<=a.Q/\a.Q<=1048576/\a.T.length<=16)&&a.T.zipIdx.all (λq=>Ql a.T q.1 q.2)
theorem Auu(n:Int):X2 n=some (decide (-1048576<=n/\n<=1048576)):=by unfold X2;by_cases h:(-1048576:Int)<=n<;>simp[h]
theorem A7k(n:Int):Abh n=some (decide (-1<=n/\n<3000)):=by unfold Abh;by_cases h:(-1:Int)<=n<;>simp[h]
theorem Amn{α S E:Type}(f:α->Int)(l:Λ α){x:α}{j:Nat}(q:l[j]?=some x)(i:l.length<4611686018427387904)(c b:Ο (S⊕E)):(bif decide ((j:Int)>0)then((Af l (Aa ((j:Int)-1))).bind λg=>bif decide (f g>=f x)then c else b)else b)=bif Lf f l x j then b else c:=by have u:=D8 q;unfold Lf;by_cases h:j=0;subst h;rfl;rw[Al ω];have e:Aa ((j:Int)-1)=((j-1:Nat):Int):=ξ;have k:l[j-1]?=some l[j-1]:=Bn ω;rw[e,B1 rfl k,k];have s:(j==0)=false:=(by simpa using h);simp only[Ak,Ac,s,Bool.false_or];by_cases p:f l[j-1]<f x;rw[Am ω,Al p];rfl;rw[Al ω,Am p];rfl
theorem Ml(a:Aq):Ks a=some (Co a):=by unfold Ks Co;rw[Auu];simp only[Ac];by_cases e : -1048576<=a.Q/\a.Q<=1048576;rw[Al e];by_cases p:a.T.length<=16;rw[Am (ω:¬(a.T.length:Int)>16),Al ⟨e.1,e.2,p⟩];simp only[Ds,Aj,Ac,Bool.true_and];refine(Ro a.T (λq=>Ql a.T q.1 q.2) (λj=>(j:Int)) rfl ω (rt:=true) (rf:=false) ?_ ?_).trans (by rw[Kw]);intro j x s _ e p u;simp only[e,p,u,Ak,Ac,A7k,Auu,Amn (·.v) a.T s ω,Ql];by_cases g : -1<=x.v/\x.v<3000;by_cases i:x.C=0;rw[Al g,Es i,Am λh=>h.2.2.1 i];exact⟨nofun,λ_=>⟨.inl false,rfl,rfl⟩⟩;by_cases k : -1048576<=x.C/\x.C<=1048576;rw[Al g,Ck i,Al k,Al ⟨g.1,g.2,i,k.1,k.2⟩];(cases Lf (·.v) a.T x j with|true=>exact⟨λ_=>rfl,λh=>by cases h⟩|false=>exact⟨nofun,λ_=>⟨.inl false,rfl,rfl⟩⟩);rw[Al g,Ck i,Am k,Am λh=>k h.2.2.2];exact⟨nofun,λ_=>⟨.inl false,rfl,rfl⟩⟩;rw[Am g,Am λh=>g ⟨h.1,h.2.1⟩];exact⟨nofun,λ_=>⟨.inl false,rfl,rfl⟩⟩;intro h _;exact⟨.inr (),by simp only[h];rfl,rfl⟩;rw[Al (ω:(a.T.length:Int)>16),Am λh=>p h.2.2];rfl;rw[Am e,Am λh : -1048576<=a.Q/\a.Q<=1048576/\a.T.length<=16=>e ⟨h.1,h.2.1⟩];rfl
theorem Pg(a:Aq):Lb a=some (Co a):=by unfold Lb Co;by_cases k:a.T.length<=16;rw[Am (ω:¬(a.T.length:Int)>16)];by_cases p : -1048576<=a.Q;rw[Am (ω:¬a.Q < -1048576)];by_cases s:a.Q<=1048576;rw[Am (ω:¬a.Q>1048576),Al ⟨p,s,k⟩];simp only[Aj,Ac,Bool.true_and];refine(Ro a.T (λq=>Ql a.T q.1 q.2) (λj=>(j:Int)) rfl ω (rt:=true) (rf:=false) ?_ ?_).trans (by rw[Kw]);intro j x w _ p k s;simp only[p,k,s,Ak,Ac,Amn (·.v) a.T w ω,Ql];by_cases e:x.v < -1;rw[Al e,Am λh=>ω];exact⟨nofun,λ_=>⟨.inl false,rfl,rfl⟩⟩;by_cases g:x.v>=3000;rw[Am e,Al g,Am λh=>ω];exact⟨nofun,λ_=>⟨.inl false,rfl,rfl⟩⟩;by_cases i:x.C=0;rw[Am e,Am g,Es i,Am λh=>ω];exact⟨nofun,λ_=>⟨.inl false,rfl,rfl⟩⟩;by_cases u:x.C < -1048576;rw[Am e,Am g,Ck i,Al u,Am λh=>ω];exact⟨nofun,λ_=>⟨.inl false,rfl,rfl⟩⟩;by_cases v:x.C>1048576;rw[Am e,Am g,Ck i,Am u,Al v,Am λh=>ω];exact⟨nofun,λ_=>⟨.inl false,rfl,rfl⟩⟩;rw[Am e,Am g,Ck i,Am u,Am v,Al ω];(cases Lf (·.v) a.T x j with|true=>exact⟨λ_=>rfl,λh=>by cases h⟩|false=>exact⟨nofun,λ_=>⟨.inl false,rfl,rfl⟩⟩);intro h _;exact⟨.inr (),by simp only[h];rfl,rfl⟩;rw[Al (ω:a.Q>1048576),Am λh : -1048576<=a.Q/\a.Q<=1048576/\a.T.length<=16=>ω];rfl;rw[Al (ω:a.Q < -1048576),Am λh : -1048576<=a.Q/\a.Q<=1048576/\a.T.length<=16=>ω];rfl;rw[Al (ω:(a.T.length:Int)>16),Am λh : -1048576<=a.Q/\a.Q<=1048576/\a.T.length<=16=>ω];rfl
structure Mm(Δ:List A4)(Ξ:List Ai)(Θ:Ai):Prop where
 vd:Ld Δ
 sh:Pd Δ
 sz:∀v t,E2 Ξ Θ v=some t->B2 t<=200
 nv:Ξ.length<=3000
theorem Auv(Ξ:A1)(Θ:Ai)(v:Int):(E2 Ξ Θ v).isSome=decide (-1<=v/\v<Ξ.length):=by unfold E2;by_cases h:v = -1;rw[Ar h];subst h;rw[Al ω];rfl;rw[Au h];cases e:Af Ξ v with|none=>(rcases Tl e with g|g<;>rw[Am ω]<;>rfl)|some t=>have:=Ih e;rw[Al ω];rfl
section
variable(b1:At)(b2:As)(Δ:A0)(Ξ:A1)(Θ:Ai)
theorem Auw(v:Int)(f c:Int)(b:A1):Vp v b1 b2 Δ Ξ f c b=some (E2 Ξ Θ v).isSome:=by rw[Auv];unfold Vp;by_cases h:v>=-1;rw[Al h];by_cases e:v<(Ξ.length:Int);rw[Al e,Al ⟨h,e⟩];rfl;rw[Am e,Am λg=>e g.2];rfl;rw[Am h,Am λg : -1<=v/\v<(Ξ.length:Int)=>h g.1];rfl
theorem Aux{v:Int}{t:Ai}(e:E2 Ξ Θ v=some t):Pa v b1 b2 Δ Ξ Θ.G Θ.U Θ.R=some t:=by unfold Pa;unfold E2 at e;by_cases h:v = -1;rw[Ar h]at e;cases e;have b:(Ai.mk Θ.G Θ.U Θ.R)=Θ:=(by cases Θ;rfl);rw[Es h,b];rfl;rw[Au h]at e;rw[Ck h,e];rfl
def Ii(t:Bh):Bool:=match E2 Ξ Θ t.v with|some u=>u.G==1|none=>false
def Ej(l:Aq):Bool:=l.T.all (Ii Ξ Θ)
theorem Auy(l:Aq)(c:l.T.length<=1048576):Vl l b1 b2 Δ Ξ Θ.G Θ.U Θ.R=some (Ej Ξ Θ l):=by unfold Vl Af8 Agc;have k:=Atn l.T (λt=>!Ii Ξ Θ t) ω (J:=λz=>match z with|.inl b=>some b|.inr _=>some (-1)) (step:=λg=>bif g<(l.T.length:Int)then((Af l.T g).bind λp=>(Ys p b1 b2 Δ Ξ Θ.G Θ.U Θ.R).bind λq=>bif q then some (.inr (.inl g))else some (.inl (Aa (g+1))))else some (.inr (.inr ()))) (by intro j x B s u v;have e:Ys x b1 b2 Δ Ξ Θ.G Θ.U Θ.R=some (!Ii Ξ Θ x):=(by unfold Ys Ii;rw[Auw b1 b2 Δ Ξ Θ,Ac];cases w:E2 Ξ Θ x.v with|none=>rfl|some t=>rw[Aux b1 b2 Δ Ξ Θ w];rfl);simp only[s,u,v,Ak,Ac,e]) (λh=>by simp only[h];rfl) (λ_=>rfl) rfl;obtain⟨i,y,A⟩:=k;erw[y];simp only[Ac,A];congr 1;unfold Ej;rw[any_eq_not_all_not];simp
theorem Amo(x:A8)(v:Int):S4 x v=some (match E2 x.V x.E v with|some t=>(t,true)|none=>(⟨0,0,[]⟩,false)):=by unfold S4 E2;by_cases h:v = -1;rw[Es h,Ar h];rfl;rw[Ck h,Au h];cases g:Af x.V v with|none=>(rcases Tl g with e|e;simp only[Al e,Ak,Aj,Ac];by_cases i:v<0;simp only[Al i,Ak,Aj,Ac];simp only[Am i,Al (show v>=(x.V.length:Int)from e),Ak,Aj,Ac])|some t=>obtain⟨k,p,_⟩:=Ih g;simp only[Am (ω:¬v<0),Am (ω:¬v>=(x.V.length:Int)),Aj,Ac]
theorem Ahi(x:A8)(l:Aq)(b:l.T.length<=1048576):Rk x l=some (Ej x.V x.E l):=by unfold Rk;refine(Kv l.T (Ii x.V x.E) (λj=>(j:Int)) rfl ω (rt:=true) (rf:=false) ?_ ?_).trans (by rw[Kw];rfl);intro j t p g i k;simp only[g,i,k,Ak,Ac,Amo];unfold Ii;(cases q:E2 x.V x.E t.v with|none=>exact⟨nofun,λ_=>⟨.inl false,rfl,rfl⟩⟩|some u=>simp only[Ds,Aj];by_cases e:u.G=1;rw[Es e,Dv e];exact⟨λ_=>rfl,λh=>by cases h⟩;rw[Ck e,D5 e];exact⟨nofun,λ_=>⟨.inl false,rfl,rfl⟩⟩);intro h;exact⟨.inr (),by simp only[h];rfl,rfl⟩
def Ee(f:Bl):Int:=match E2 Ξ Θ f.v with|some t=>Ho (Ei Δ f.I t)|none => -1
theorem Ahj(f:Bl) : -1<=Ee Δ Ξ Θ f/\Ee Δ Ξ Θ f<=6:=by unfold Ee;cases E2 Ξ Θ f.v with|none=>simp|some t=>rcases Ag6 (Ei Δ f.I t)with⟨h,_⟩|⟨d,_,e,h⟩<;>simp only[h]<;>omega
def Nn(m:Aw):Bool:=m.F.all (λf=>decide (0<=Ee Δ Ξ Θ f))&&m.A.all (λa=>decide (0<=a.P)&&Ej Ξ Θ a.L)
def B6(l:Be):Int:=(l.map (Ee Δ Ξ Θ)).sum
def Bq(l:A2):Int:=(l.map (·.P)).sum
def Qm(l:A2)(x:A6)(j:Nat):Bool:=j==0||(match l[j-1]? with|some y=>decide (Dh y.L x.L<0)|none=>false)
def Mn(l:Be)(f:Bl)(j:Nat):Bool:=decide (1<=Ee Δ Ξ Θ f)&&Lf (·.v) l f j
def Kf(l:A2)(a:A6)(j:Nat):Bool:=decide (1<=a.P)&&Co a.L && !(a.L.T.length==0)&&Ej Ξ Θ a.L&&Qm l a j
def It(m:Aw):Bool:=m.F.zipIdx.all (λq=>Mn Δ Ξ Θ m.F q.1 q.2)&&m.A.zipIdx.all (λq=>Kf Ξ Θ m.A q.1 q.2)&&decide (B6 Δ Ξ Θ m.F+Bq m.A<=6)
variable{b1 Δ Ξ Θ}
theorem Adf(i:Mm Δ Ξ Θ)(k:Fa Δ Ξ Θ b1)(f:Bl)(g:I64 f.v)(h:iR f.I)(hi:Cz f.I<=1048576)(b:(E2 Ξ Θ f.v).isSome=true):∃c,O8 f.v f.I b1 b2 Δ Ξ Θ.G Θ.U Θ.R=some (Ee Δ Ξ Θ f,c)/\Fa Δ Ξ Θ c:=by cases e:E2 Ξ Θ f.v with|none=>rw[e]at b;cases b|some t=>obtain⟨c,p,q⟩:=A7h i.vd.szv i.sh b1 b2 Ξ Θ k f.v f.I t e (i.sz _ _ e) g h hi;refine⟨c,?_,q⟩;rw[p];unfold Ee;rw[e]
theorem A7l(P:Mm Δ Ξ Θ)(Q:Fa Δ Ξ Θ b1)(m:Aw)(l:Eo m) :
  ∃s,Abu m b1 b2 Δ Ξ Θ.G Θ.U Θ.R=some (Nn Δ Ξ Θ m,s)/\Fa Δ Ξ Θ s:=by
 have V:=l.nf
 have W:=l.na
 unfold Abu
 refine Ags (λs=>(Nn Δ Ξ Θ m,s)) ?_
 obtain⟨r,U,N⟩:=Ac4 (M:=List (Β×Int)) (R:=Bool×List (Β×Int)) m.F (λq=>decide (0<=Ee Δ Ξ Θ q.1)) (λj o=>((j:Int),o)) (Fa Δ Ξ Θ)
  (λr=>Fa Δ Ξ Θ r.2/\r.1=m.A.all λa=>decide (0<=a.P)&&Ej Ξ Θ a.L) (λr=>Fa Δ Ξ Θ r.2/\r.1=false) b1
  (s0:=((0:Int),b1))
  (step:=(λ(A,x)=>
   bif A<(m.F.length:Int)then(
   (Af m.F A).bind λF=>
   (Vp F.v x b2 Δ Ξ Θ.G Θ.U Θ.R).bind λB=>
   bif(!B)then some (.inr (.inl (false,x)))
   else(
   (O8 F.v F.I x b2 Δ Ξ Θ.G Θ.U Θ.R).bind λg=>
   bif g.1<(0:Int)then some (.inr (.inl (false,g.2)))
   else some (.inl (Aa (A+1),g.2))))
   else some (.inr (.inr x)):Int×List (Β×Int)->Br))
  (J:=(λz=>match z with
   |.inl (L,I)=>some (L,I)
   |.inr b=>(Ao (S:=Int) (E:=((Bool×List (Β×Int))⊕Unit)) (λc=>
     bif c<(m.A.length:Int)then(
     (Af m.A c).bind λu=>
     bif u.P<(0:Int)then some (.inr (.inl (false,b)))
     else(
     (Vl u.L b b2 Δ Ξ Θ.G Θ.U Θ.R).bind λH=>
     bif(!H)then some (.inr (.inl (false,b)))
     else some (.inl (Aa (c+1)))))
     else some (.inr (.inr ()))) 0).bind λz=>match z with
      |.inl (G,D)=>some (G,D)
      |.inr _=>some (true,b)))
  rfl Q ω (by
   intro j f o y K _ p w v
   have k:=B5 K
   simp only[p,w,v,Ak,Ac,Auw o b2 Δ Ξ Θ]
   cases i:(E2 Ξ Θ f.v).isSome with
   |false=>
    have e:Ee Δ Ξ Θ f = -1:=by
     unfold Ee
     cases T:E2 Ξ Θ f.v with
     |none=>rfl
     |some t=>rw[T]at i;cases i
    rw[e]
    exact⟨nofun,λ_=>⟨_,rfl,_,rfl,y,rfl⟩⟩
   |true=>
    obtain⟨s,d1,d2⟩:=Adf b2 P y f (l.fr f k).2 (l.fr f k).1 (l.fi f k) i
    simp only[Ds,Aj,d1,Ac]
    by_cases C:0<=Ee Δ Ξ Θ f
    .rw[Al C,Am ω]
     exact⟨λ_=>⟨s,rfl,d2⟩,λh=>by cases h⟩
    .rw[Am C,Al ω]
     exact⟨nofun,λ_=>⟨_,rfl,_,rfl,d2,rfl⟩⟩) (by
   intro o y p _
   refine⟨.inr o,by simp only[p];rfl,?_⟩
   refine⟨(m.A.all λa=>decide (0<=a.P)&&Ej Ξ Θ a.L,o),?_,y,rfl⟩
   refine(Kv m.A (λa=>decide (0<=a.P)&&Ej Ξ Θ a.L) (λj=>(j:Int)) rfl ω (rt:=(true,o)) (rf:=(false,o)) ?_ ?_).trans (by cases m.A.all (λa=>decide (0<=a.P)&&Ej Ξ Θ a.L)<;>rfl)
   .intro j a K p w v
    simp only[p,w,v,Ak,Ac,Auy o b2 Δ Ξ Θ a.L (l.al a (B5 K))]
    by_cases C:0<=a.P
    .rw[Al C,Am ω]
     cases Ej Ξ Θ a.L with
     |true=>exact⟨λ_=>rfl,λh=>by cases h⟩
     |false=>exact⟨nofun,λ_=>⟨_,rfl,rfl⟩⟩
    .rw[Am C,Al ω]
     exact⟨nofun,λ_=>⟨_,rfl,rfl⟩⟩
   .intro h;exact⟨.inr (),by simp only[h];rfl,rfl⟩)
 refine⟨r,U,r.2,?_,?_⟩
 .unfold Nn
  rw[<-Agy]
  rcases N with⟨p,w,v⟩|⟨p,w,v⟩
  .rw[p,Bool.true_and,<-v]
  .rw[p,Bool.false_and,<-v]
 .rcases N with⟨p,w,v⟩|⟨p,w,v⟩<;>exact w
theorem Amp(g:Bl->Int){l:Be}{j:Nat}{x:Bl}(h:l[j]?=some x):((l.take (j+1)).map g).sum=((l.take j).map g).sum+g x:=by rw[C4 h];simp
theorem Amq{l:A2}{j:Nat}{x:A6}(h:l[j]?=some x):Bq (l.take (j+1))=Bq (l.take j)+x.P:=by unfold Bq;rw[C4 h];simp
theorem A7m(H:Mm Δ Ξ Θ)(I:Fa Δ Ξ Θ b1)(m:Aw)(k:Eo m)(hp:Nn Δ Ξ Θ m=true):∃p:Int×List (Β×Int),N6 m b1 b2 Δ Ξ Θ.G Θ.U Θ.R=some p/\(decide (p.1>6) = !decide (B6 Δ Ξ Θ m.F+Bq m.A<=6))/\Fa Δ Ξ Θ p.2:=by have A:=k.nf;have M:=k.na;unfold Nn at hp;rw[Dr,Gu,Gu]at hp;unfold N6;refine Fz (λ(e,u,g)=>∃j:Nat,u=j/\j<=m.F.length/\Fa Δ Ξ Θ g/\0<=e/\e<=12/\(e=B6 Δ Ξ Θ (m.F.take j)\/(6<e/\6<B6 Δ Ξ Θ (m.F.take j)))) (λ(_,u,_)=>m.F.length-u.toNat) (λ(e,g)=>Fa Δ Ξ Θ g/\0<=e/\e<=12/\(e=B6 Δ Ξ Θ m.F\/(6<e/\6<B6 Δ Ξ Θ m.F))) ⟨0,rfl,ω,I,ω,ω,.inl (by simp[B6])⟩ ?_ ?_;rintro⟨e,u,g⟩ ⟨j,rfl,J,q,F,C,l⟩;rcases Cb j m.F.length with h|h;have w:m.F[j]?=some m.F[j]:=Bn h;generalize m.F[j]=f at w;have c:=B5 w;have D:=hp.1 f c;rw[Eh]at D;have z:=(Ahj Δ Ξ Θ f).2;have E:B6 Δ Ξ Θ (m.F.take (j+1))=B6 Δ Ξ Θ (m.F.take j)+Ee Δ Ξ Θ f:=Amp _ w;simp only[Al (ω:(j:Int)<(m.F.length:Int)),Ak,B1 rfl w,Ac,Dd h ω];by_cases s:e<=6;(have x:(E2 Ξ Θ f.v).isSome=true:=by unfold Ee at D;cases K:E2 Ξ Θ f.v with|none=>rw[K]at D;have D:(0:Int)<=-1:=D;omega|some t=>rfl);obtain⟨B,d1,d2⟩:=Adf b2 H q f (k.fr f c).2 (k.fr f c).1 (k.fi f c) x;rw[Al s];simp only[Ak,d1,Ac];have b:Aa (e+Ee Δ Ξ Θ f)=e+Ee Δ Ξ Θ f:=ξ;exact .inl ⟨_,rfl,⟨j+1,rfl,ω,d2,by simp only[b];omega,by simp only[b];omega,by simp only[b,E];omega⟩,ζ⟩;rw[Am s];exact .inl ⟨_,rfl,⟨j+1,rfl,ω,q,F,C,by simp only[E];omega⟩,ζ⟩;have:j=m.F.length:=ω;subst this;rw[Du]at l;exact .inr ⟨(e,g),ψ,q,F,C,l⟩;rintro⟨e,g⟩ ⟨q,F,C,l⟩;simp only;refine Fz (λ(v,i)=>∃j:Nat,i=j/\j<=m.A.length/\0<=v/\v<=13/\(v=B6 Δ Ξ Θ m.F+Bq (m.A.take j)\/(6<v/\6<B6 Δ Ξ Θ m.F+Bq (m.A.take j)))) (λ(_,i)=>m.A.length-i.toNat) (λv=>(v=B6 Δ Ξ Θ m.F+Bq m.A\/(6<v/\6<B6 Δ Ξ Θ m.F+Bq m.A))) ⟨0,rfl,ω,F,ω,by simpa[Bq]using l⟩ ?_ ?_;rintro⟨v,i⟩ ⟨j,rfl,J,L,G,gv⟩;rcases Cb j m.A.length with h|h;have w:m.A[j]?=some m.A[j]:=Bn h;generalize m.A[j]=a at w;have D:=hp.2 a (B5 w);rw[Dr,Eh]at D;have E:=Amq w;simp only[Al (ω:(j:Int)<(m.A.length:Int)),Ak,B1 rfl w,Ac,Dd h ω];by_cases s:v<=6;rw[Al s];simp only[Ak];by_cases y:7<a.P;rw[Ar y];have b:Aa (v+7)=v+7:=ξ;exact .inl ⟨_,rfl,⟨j+1,rfl,ω,by simp only[b];omega,by simp only[b];omega,by simp only[b,E];omega⟩,ζ⟩;rw[Au y];have b:Aa (v+a.P)=v+a.P:=ξ;exact .inl ⟨_,rfl,⟨j+1,rfl,ω,by simp only[b];omega,by simp only[b];omega,by simp only[b,E];omega⟩,ζ⟩;rw[Am s];exact .inl ⟨_,rfl,⟨j+1,rfl,ω,L,G,by simp only[E];omega⟩,ζ⟩;have:j=m.A.length:=ω;subst this;rw[Du]at gv;exact .inr ⟨v,ψ,gv⟩;intro v l;refine⟨(v,g),rfl,?_,q⟩;by_cases h:B6 Δ Ξ Θ m.F+Bq m.A<=6;rw[Al h,Am (by simp only;omega)];rfl;rw[Am h,Al (by simp only;omega)];rfl
end
theorem Auz{S E:Type}(F:Aq->Aq->A5)(l:A2)(g:∀y∈l,∀x,F y.L x=some (Dh y.L x)){x:A6}{j:Nat}(s:l[j]?=some x)(i:l.length<4611686018427387904)(c b:Ο (S⊕E)):(bif decide ((j:Int)>0)then((Af l (Aa ((j:Int)-1))).bind λf=>(F f.L x.L).bind λk=>bif decide (k>=0)then c else b)else b)=bif Qm l x j then b else c:=by have v:=D8 s;unfold Qm;by_cases h:j=0;subst h;rfl;rw[Al ω];have e:Aa ((j:Int)-1)=((j-1:Nat):Int):=ξ;have p:l[j-1]?=some l[j-1]:=Bn ω;rw[e,B1 rfl p,p];have u:(j==0)=false:=(by simpa using h);simp only[Ak,Ac,u,Bool.false_or,g _ (getElem_mem (ω:j-1<l.length))];by_cases q:Dh l[j-1].L x.L<0;rw[Am ω,Al q];rfl;rw[Al ω,Am q];rfl
section
variable{b1:At}(b2:As){Δ:A0}{Ξ:A1}{Θ:Ai}
def Adg(Δ:A0)(Ξ:A1)(Θ:Ai)(l:Be)(f:Bl)(j:Nat):Bool:=!(Ee Δ Ξ Θ f==0)&&Lf (·.v) l f j
def Tp(l:A2)(a:A6)(j:Nat):Bool:=!(a.P==0)&&Co a.L && !(a.L.T.length==0)&&Qm l a j
theorem A7n(m:Aw):It Δ Ξ Θ m=(Nn Δ Ξ Θ m&&decide (B6 Δ Ξ Θ m.F+Bq m.A<=6)&&m.F.zipIdx.all (λq=>Adg Δ Ξ Θ m.F q.1 q.2)&&m.A.zipIdx.all λq=>Tp m.A q.1 q.2):=by rw[Bool.eq_iff_iff];unfold It Nn;rw[<-Agy m.F λf=>decide (0<=Ee Δ Ξ Θ f),<-Agy m.A λa=>decide (0<=a.P)&&Ej Ξ Θ a.L];simp only[Dr,Gu,Mn,Kf,Adg,Tp,Eh,Bool.not_eq_true',beq_eq_false_iff_ne,ne_eq];constructor;rintro⟨⟨h,i⟩,k⟩;refine⟨⟨⟨⟨λq e=>?_,λq e=>?_⟩,k⟩,λq e=>?_⟩,λq e=>?_⟩;have:=(h q e).1;omega;have:=i q e;exact⟨ω,this.1.2⟩;have:=h q e;exact⟨ω,this.2⟩;have:=i q e;exact⟨⟨⟨ω,this.1.1.1.2⟩,this.1.1.2⟩,this.2⟩;rintro⟨⟨⟨⟨h,i⟩,k⟩,c⟩,b⟩;refine⟨⟨λq e=>?_,λq e=>?_⟩,k⟩;have:=h q e;have g:=c q e;exact⟨ω,g.2⟩;have:=i q e;have g:=b q e;exact⟨⟨⟨⟨ω,g.1.1.2⟩,g.1.2⟩,this.2⟩,g.2⟩
theorem A7o(Q:Mm Δ Ξ Θ)(hm:Fa Δ Ξ Θ b1)(m:Aw)(i:Eo m) :
  ∃A,X5 m b1 b2 Δ Ξ Θ.G Θ.U Θ.R=some (It Δ Ξ Θ m,A)/\Fa Δ Ξ Θ A:=by
 have hf:=i.nf
 have ha:=i.na
 rw[A7n]
 unfold X5
 obtain⟨b,p1,Z⟩:=A7l b2 Q hm m i
 rw[p1]
 cases hp:Nn Δ Ξ Θ m with
 |false=>exact⟨b,rfl,Z⟩
 |true=>
  obtain⟨q,q1,q2,Y⟩:=A7m b2 Q Z m i hp
  simp only[Ac,Ds,Aj,q1,q2]
  cases hs:decide (B6 Δ Ξ Θ m.F+Bq m.A<=6)with
  |false=>exact⟨q.2,rfl,Y⟩
  |true=>
   simp only[Ds,Aj,Bool.true_and]
   have U:∀f∈m.F,(E2 Ξ Θ f.v).isSome=true:=by
    intro f c
    unfold Nn at hp
    rw[Dr,Gu]at hp
    have K:=hp.1 f c
    rw[Eh]at K
    unfold Ee at K
    cases ht:E2 Ξ Θ f.v with
    |none=>rw[ht]at K;have K:(0:Int)<=-1:=K;omega
    |some t=>rfl
   obtain⟨r,r1,X⟩:=Ac4 (M:=List (Β×Int)) (R:=Bool×List (Β×Int)) m.F (λq=>Adg Δ Ξ Θ m.F q.1 q.2) (λj o=>((j:Int),o)) (Fa Δ Ξ Θ)
    (λr=>Fa Δ Ξ Θ r.2/\r.1=m.A.zipIdx.all λq=>Tp m.A q.1 q.2) (λr=>Fa Δ Ξ Θ r.2/\r.1=false) q.2
    (s0:=((0:Int),q.2))
    (step:=(λ(H,s)=>
     bif H<(m.F.length:Int)then(
     (Af m.F H).bind λk=>
     (O8 k.v k.I s b2 Δ Ξ Θ.G Θ.U Θ.R).bind λg=>
     bif(g.1==(0:Int))then some (.inr (.inl (false,g.2)))
     else(
     bif H>(0:Int)then(
     (Af m.F (Aa (H-1))).bind λD=>
     bif D.v>=k.v then some (.inr (.inl (false,g.2)))
     else some (.inl (Aa (H+1),g.2)))
     else some (.inl (Aa (H+1),g.2))))
     else some (.inr (.inr s)):Int×List (Β×Int)->Br))
    (J:=(λz=>match z with
     |.inl (N,L)=>some (N,L)
     |.inr l=>(Ao (S:=Int) (E:=((Bool×List (Β×Int))⊕Unit)) (λp=>
       bif p<(m.A.length:Int)then(
       (Af m.A p).bind λw=>
       (show OB from
       bif(w.P==(0:Int))then some true
       else(
       (Ks w.L).bind λT=>
       bif(!T)then some true
       else some ((w.L.T.length:Int)==(0:Int)))).bind λW=>
       bif W then some (.inr (.inl (false,l)))
       else(
       bif p>(0:Int)then(
       (Af m.A (Aa (p-1))).bind λB=>
       (O7 B.L w.L).bind λa0=>
       bif a0>=(0:Int)then some (.inr (.inl (false,l)))
       else some (.inl (Aa (p+1))))
       else some (.inl (Aa (p+1)))))
       else some (.inr (.inr ()))) 0).bind λz=>match z with
        |.inl (I,G)=>some (I,G)
        |.inr _=>some (true,l)))
    rfl Y ω (by
     intro j f o V P _ v F C
     have c:=B5 P
     obtain⟨A,d1,d2⟩:=Adf b2 Q V f (i.fr f c).2 (i.fr f c).1 (i.fi f c) (U f c)
     simp only[v,F,C,Ak,Ac,d1,Amn (·.v) m.F P ω,Adg]
     cases(Ee Δ Ξ Θ f==0)with
     |true=>exact⟨nofun,λ_=>⟨_,rfl,_,rfl,d2,rfl⟩⟩
     |false=>
      cases Lf (·.v) m.F f j with
      |true=>exact⟨λ_=>⟨A,rfl,d2⟩,λh=>by cases h⟩
      |false=>exact⟨nofun,λ_=>⟨_,rfl,_,rfl,d2,rfl⟩⟩) (by
     intro o V v _
     refine⟨.inr o,by simp only[v];rfl,?_⟩
     refine⟨(m.A.zipIdx.all λq=>Tp m.A q.1 q.2,o),?_,V,rfl⟩
     refine(Ro m.A (λq=>Tp m.A q.1 q.2) (λj=>(j:Int)) rfl ω (rt:=(true,o)) (rf:=(false,o)) ?_ ?_).trans (by cases m.A.zipIdx.all (λq=>Tp m.A q.1 q.2)<;>rfl)
     .intro j a P _ v F C
      have u:((a.L.T.length:Int)==(0:Int))=(a.L.T.length==0):=Ato a.L.T 0
      simp only[v,F,C,Ak,Ac,Ml,Auz O7 m.A (λy hy x=>Ahg y.L x (by have:=i.al y hy;omega)) P ω,Tp,u]
      cases(a.P==0)with
      |true=>exact⟨nofun,λ_=>⟨_,rfl,rfl⟩⟩
      |false=>
       cases Co a.L with
       |false=>exact⟨nofun,λ_=>⟨_,rfl,rfl⟩⟩
       |true=>
        cases(a.L.T.length==0)with
        |true=>exact⟨nofun,λ_=>⟨_,rfl,rfl⟩⟩
        |false=>
         cases Qm m.A a j with
         |true=>exact⟨λ_=>rfl,λh=>by cases h⟩
         |false=>exact⟨nofun,λ_=>⟨_,rfl,rfl⟩⟩
     .intro h _;exact⟨.inr (),by simp only[h];rfl,rfl⟩)
   refine⟨r.2,?_,?_⟩
   .have e:some r=some (m.F.zipIdx.all (λq=>Adg Δ Ξ Θ m.F q.1 q.2)&&m.A.zipIdx.all λq=>Tp m.A q.1 q.2,r.2):=by
     rcases X with⟨v,F,C⟩|⟨v,F,C⟩
     .rw[v,Bool.true_and,<-C]
     .rw[v,Bool.false_and,<-C]
    rw[<-e]
    exact r1
   .rcases X with⟨v,F,C⟩|⟨v,F,C⟩<;>exact F
theorem Au0(l:Be):B6 Δ Ξ Θ l<=6*l.length/\-(l.length:Int)<=B6 Δ Ξ Θ l:=by induction l with|nil=>simp[B6]|cons x xs ih=>have:=Ahj Δ Ξ Θ x;unfold B6 at *;simp only[map_cons,sum_cons,Fd];omega
theorem Au1(l:Be)(h:∀f∈l,0<=Ee Δ Ξ Θ f):0<=B6 Δ Ξ Θ l:=by induction l with|nil=>simp[B6]|cons x xs ih=>have e:=h x ψ;have g:=ih λf b=>h f (by simp[b]);unfold B6 at *;simp only[map_cons,sum_cons];omega
theorem Adh(l:A2)(h:∀a∈l,0<=a.P):0<=Bq l/\((∀a∈l,a.P<=6)->Bq l<=6*l.length)/\∀a∈l,a.P<=Bq l:=by induction l with|nil=>simp[Bq]|cons x xs ih=>have p:=h x ψ;obtain⟨q,i,k⟩:=ih λf b=>h f (by simp[b]);unfold Bq at *;simp only[map_cons,sum_cons,Fd];refine⟨ω,λg=>?_,λa e=>?_⟩;have:=g x ψ;have:=i λa e=>g a (by simp[e]);omega;rcases Ed.1 e with rfl|e;omega;have:=k a e;omega
end
theorem A7p{x:A8}(hc:Mm x.D x.V x.E)(m:Aw)(I:Eo m):∃v,O5 x m=some v/\decide (v<0) = !It x.D x.V x.E m:=by
 have hf:=I.nf;have ha:=I.na;unfold O5;(have V:∀n,m.F.zipIdx.all (λq=>Mn x.D x.V x.E m.F q.1 q.2)=true->0<=B6 x.D x.V x.E (m.F.take n):=by intro n h;refine Au1 _ (λf hf=>?_);obtain⟨j,T⟩:=Fo (mem_of_mem_take hf);have:=Ju h T;simp only[Mn,Dr,Eh]at this;omega);have X:m.F.zipIdx.all (λq=>Mn x.D x.V x.E m.F q.1 q.2)=false->It x.D x.V x.E m=false:=by intro h;unfold It;rw[h];rfl
 obtain⟨r,r1,r2⟩:=Ac4 (M:=Unit) (R:=Int) m.F (λq=>Mn x.D x.V x.E m.F q.1 q.2) (λj _=>(B6 x.D x.V x.E (m.F.take j),(j:Int))) (λ_=>True)
  (λv=>decide (v<0) = !It x.D x.V x.E m) (λv=>v = -1) ()
  (s0:=((0:Int),(0:Int)))
  (step:=(λ(v9,c)=>
   bif c<(m.F.length:Int)then(
   (Af m.F c).bind λu=>
   (S4 x u.v).bind λG=>
   (show OB from
   bif(!G.2)then some true
   else(
   bif c>(0:Int)then(
   (Af m.F (Aa (c-1))).bind λs=>
   some (decide (s.v>=u.v)))
   else some false)).bind λa1=>
   bif a1 then some (.inr (.inl (-1)))
   else(
   (Vc x.D G.1 u.I).bind λa2=>
   bif a2<(1:Int)then some (.inr (.inl (-1)))
   else some (.inl (Aa (v9+a2),Aa (c+1)))))
   else some (.inr (.inr v9)):Int×Int->D6))
  (J:=(λz=>match z with
   |.inl a6=>some a6
   |.inr Z=>(Ao (S:=(Int×Int)) (E:=(Int⊕Int)) (λ(F,C)=>
     bif C<(m.A.length:Int)then(
     (Af m.A C).bind λp=>
     (Lb p.L).bind λW=>
     bif(!W)then some (.inr (.inl (-1)))
     else(
     bif((p.L.T.length:Int)==(0:Int))then some (.inr (.inl (-1)))
     else(
     (Rk x p.L).bind λl=>
     bif(!l)then some (.inr (.inl (-1)))
     else(
     bif C>(0:Int)then(
     (Af m.A (Aa (C-1))).bind λk=>
     (I8 k.L p.L).bind λa0=>
     bif a0>=(0:Int)then some (.inr (.inl (-1)))
     else(
     bif p.P<(1:Int)then some (.inr (.inl (-1)))
     else(
     bif p.P>(6:Int)then some (.inr (.inl (-1)))
     else some (.inl (Aa (F+p.P),Aa (C+1))))))
     else(
     bif p.P<(1:Int)then some (.inr (.inl (-1)))
     else(
     bif p.P>(6:Int)then some (.inr (.inl (-1)))
     else some (.inl (Aa (F+p.P),Aa (C+1)))))))))
     else some (.inr (.inr F))) (Z,0)).bind λz=>match z with
      |.inl A=>some A
      |.inr H=>bif H>(6:Int)then some (-1)else some H))
  (by simp[B6]) trivial ω (by
   intro j f _ _ hx _ K h2 h3
   have ab:=B5 hx
   have T:=D8 hx
   have a7:(bif decide ((j:Int)>0)then((Af m.F (Aa ((j:Int)-1))).bind λs=>some (decide (s.v>=f.v)))else some false)=some (!Lf (·.v) m.F f j):=by
    unfold Lf
    by_cases h:j=0
    .subst h;rfl
    .rw[Al ω]
     have e:Aa ((j:Int)-1)=((j-1:Nat):Int):=by rw[Aa,Bm]<;>omega
     have hy:m.F[j-1]?=some m.F[j-1]:=Bn ω
     rw[e,B1 rfl hy,hy]
     have h0:(j==0)=false:=by simpa using h
     simp only[Ak,Ac,h0,Bool.false_or]
     by_cases hc:m.F[j-1].v<f.v
     .rw[Am ω,Al hc];rfl
     .rw[Al ω,Am hc];rfl
   have es:B6 x.D x.V x.E (m.F.take (j+1))=B6 x.D x.V x.E (m.F.take j)+Ee x.D x.V x.E f:=Amp _ hx
   have P:=Au0 (Δ:=x.D) (Ξ:=x.V) (Θ:=x.E) (m.F.take j)
   have ag:(m.F.take j).length<=1048576:=by simp;omega
   have ae:=Ahj x.D x.V x.E f
   simp only[K,h2,h3,Ak,Ac,Amo,Mn,es]
   cases ht:E2 x.V x.E f.v with
   |none=>
    have e:Ee x.D x.V x.E f = -1:=by unfold Ee;rw[ht]
    rw[e]
    exact⟨nofun,λ_=>⟨.inl (-1),rfl,_,rfl,rfl⟩⟩
   |some t=>
    have e:Ee x.D x.V x.E f=Ho (Ei x.D f.I t):=by unfold Ee;rw[ht]
    simp only[Ds,Aj,a7,Ac,Auf hc.vd hc.sh t f.I (hc.sz _ _ ht) (I.fi f ab),<-e]
    cases ac:Lf (·.v) m.F f j with
    |false=>exact⟨(λh=>by simp at h),λ_=>⟨.inl (-1),rfl,_,rfl,rfl⟩⟩
    |true=>
     simp only[Ds,Aj,Bool.and_true]
     by_cases K:1<=Ee x.D x.V x.E f
     .rw[Al K,Am ω]
      refine⟨λ_=>⟨(),?_,trivial⟩,λh=>by cases h⟩
      simp only[Aj]
      rw[show Aa (B6 x.D x.V x.E (m.F.take j)+Ee x.D x.V x.E f)=B6 x.D x.V x.E (m.F.take j)+Ee x.D x.V x.E f by rw[Aa,Bm]<;>omega]
     .rw[Am K,Al ω]
      exact⟨nofun,λ_=>⟨.inl (-1),rfl,_,rfl,rfl⟩⟩) (by
   intro _ _ K g
   have aa:=V m.F.length g
   have af:=Au0 (Δ:=x.D) (Ξ:=x.V) (Θ:=x.E) m.F
   rw[Du]at aa
   refine⟨.inr (B6 x.D x.V x.E m.F),ψ,?_⟩
   obtain⟨w,w1,w2⟩:=Ac4 (M:=Unit) (R:=Int) m.A (λq=>Kf x.V x.E m.A q.1 q.2&&decide (q.1.P<=6)) (λj _=>(B6 x.D x.V x.E m.F+Bq (m.A.take j),(j:Int))) (λ_=>True)
    (λv=>decide (v<0) = !decide (B6 x.D x.V x.E m.F+Bq m.A<=6)) (λv=>v = -1) ()
    (s0:=(B6 x.D x.V x.E m.F,(0:Int)))
    (step:=(λ(F,C)=>
     bif C<(m.A.length:Int)then(
     (Af m.A C).bind λp=>
     (Lb p.L).bind λW=>
     bif(!W)then some (.inr (.inl (-1)))
     else(
     bif((p.L.T.length:Int)==(0:Int))then some (.inr (.inl (-1)))
     else(
     (Rk x p.L).bind λl=>
     bif(!l)then some (.inr (.inl (-1)))
     else(
     bif C>(0:Int)then(
     (Af m.A (Aa (C-1))).bind λk=>
     (I8 k.L p.L).bind λa0=>
     bif a0>=(0:Int)then some (.inr (.inl (-1)))
     else(
     bif p.P<(1:Int)then some (.inr (.inl (-1)))
     else(
     bif p.P>(6:Int)then some (.inr (.inl (-1)))
     else some (.inl (Aa (F+p.P),Aa (C+1))))))
     else(
     bif p.P<(1:Int)then some (.inr (.inl (-1)))
     else(
     bif p.P>(6:Int)then some (.inr (.inl (-1)))
     else some (.inl (Aa (F+p.P),Aa (C+1)))))))))
     else some (.inr (.inr F)):Int×Int->D6))
    (J:=(λz=>match z with
      |.inl A=>some A
      |.inr H=>bif H>(6:Int)then some (-1)else some H))
    (by simp[Bq]) trivial ω (by
     intro j a _ _ hx B K h2 h3
     have L:((a.L.T.length:Int)==(0:Int))=(a.L.T.length==0):=Ato a.L.T 0
     have es:=Amq hx
     have ah:0<=Bq (m.A.take j)/\Bq (m.A.take j)<=6*1048576:=by
      have N:∀b∈m.A.take j,1<=b.P/\b.P<=6:=by
       intro b P
       obtain⟨i,hi⟩:=Fo P
       have a8:=D8 hi
       have U:i<j:=by simp at a8;omega
       rw[getElem?_take_of_lt U]at hi
       have:=B i b U hi
       simp only[Kf,Dr,Eh]at this
       omega
      obtain⟨k1,k2,_⟩:=Adh (m.A.take j) (λb P=>by have:=N b P;omega)
      have:=k2 (λb P=>(N b P).2)
      have hl:(m.A.take j).length<=1048576:=by simp;omega
      omega
     simp only[K,h2,h3,Ak,Ac,Pg,Ahi x a.L (I.al a (B5 hx)),Auz I8 m.A (λy hy x=>Zd y.L x (by have:=I.al y hy;omega)) hx ω,Kf,L,es]
     cases Co a.L with
     |false=>exact⟨(λh=>by simp at h),λ_=>⟨.inl (-1),rfl,_,rfl,rfl⟩⟩
     |true=>
      cases(a.L.T.length==0)with
      |true=>exact⟨(λh=>by simp at h),λ_=>⟨.inl (-1),rfl,_,rfl,rfl⟩⟩
      |false=>
       cases Ej x.V x.E a.L with
       |false=>exact⟨(λh=>by simp at h),λ_=>⟨.inl (-1),rfl,_,rfl,rfl⟩⟩
       |true=>
        simp only[Ds,Aj,Bool.not_false,Bool.and_true]
        cases Qm m.A a j with
        |false=>exact⟨(λh=>by simp at h),λ_=>⟨.inl (-1),rfl,_,rfl,rfl⟩⟩
        |true=>
         simp only[Ak,Bool.and_true]
         by_cases Q:a.P<1
         .rw[Al Q,Am (ω:¬1<=a.P)]
          exact⟨(λh=>by simp at h),λ_=>⟨.inl (-1),rfl,_,rfl,rfl⟩⟩
         .by_cases g2:a.P>6
          .rw[Am Q,Al g2,Am (ω:¬a.P<=6)]
           exact⟨(λh=>by simp at h),λ_=>⟨.inl (-1),rfl,_,rfl,rfl⟩⟩
          .rw[Am Q,Am g2,Al (ω:a.P<=6),Al (ω:1<=a.P)]
           refine⟨λ_=>⟨(),?_,trivial⟩,λh=>by cases h⟩
           simp only[Aj]
           rw[show Aa (B6 x.D x.V x.E m.F+Bq (m.A.take j)+a.P)=B6 x.D x.V x.E m.F+(Bq (m.A.take j)+a.P)by rw[Aa,Bm]<;>omega]) (by
     intro _ _ K D
     refine⟨.inr (B6 x.D x.V x.E m.F+Bq m.A),ψ,?_⟩
     have ai:0<=Bq m.A:=(Adh m.A (λb P=>by
      obtain⟨i,hi⟩:=Fo P
      have:=Ju D hi
      simp only[Kf,Dr,Eh]at this
      omega)).1
     simp only
     by_cases h6:B6 x.D x.V x.E m.F+Bq m.A<=6
     .rw[Am ω,Al h6]
      exact⟨_,rfl,Am ω⟩
     .rw[Al ω,Am h6]
      exact⟨_,rfl,rfl⟩)
   refine⟨w,w1,?_⟩
   unfold It
   rw[g,Bool.true_and]
   rcases w2 with⟨Q,g2⟩|⟨Q,g2⟩
   .have Y:m.A.zipIdx.all (λq=>Kf x.V x.E m.A q.1 q.2)=true:=Agx λj a T=>by
     have:=Ju Q T
     simp only[Dr]at this
     exact this.1
    rw[Y,Bool.true_and,g2]
   .rw[g2]
    cases Y:m.A.zipIdx.all (λq=>Kf x.V x.E m.A q.1 q.2)with
    |false=>rfl
    |true=>
     have a4:¬B6 x.D x.V x.E m.F+Bq m.A<=6:=by
      intro ad
      have:m.A.zipIdx.all (λq=>Kf x.V x.E m.A q.1 q.2&&decide (q.1.P<=6))=true:=Agx λj a T=>by
       have gj:=Ju Y T
       have a3:∀b∈m.A,0<=b.P:=λb P=>by
        obtain⟨i,hi⟩:=Fo P
        have:=Ju Y hi
        simp only[Kf,Dr,Eh]at this
        omega
       have:=(Adh m.A a3).2.2 a (B5 T)
       simp only[gj,Bool.true_and,Eh]
       omega
      rw[this]at Q;cases Q
     rw[Am a4];rfl)
 refine⟨r,r1,?_⟩;(rcases r2 with⟨K,h2⟩|⟨K,h2⟩);exact h2;rw[h2,X K];rfl
theorem Tq(l:Ag)(b:l.length<4611686018427387904):Mf l=some (Ix l):=by unfold Mf;refine Jm (λv=>∃k:Nat,v=k/\k<=l.length/\Ix (l.take k)=Ix l) (λv=>v.toNat) (λv=>∃k:Nat,v=k/\k<=l.length/\l.take k=Ix l) ⟨l.length,rfl,Nat.le_refl _,ψ⟩ ?_ ?_;rintro v ⟨k,rfl,i,e⟩;(cases k with|zero=>exact .inr ⟨0,rfl,0,rfl,ω,by simpa[Ix]using e⟩|succ j=>have p:Aa (((j+1:Nat):Int)-1)=(j:Int):=ξ;have h:j<l.length:=ω;have hp:decide (((j+1:Nat):Int)>0)=true:=Al ω;simp only[hp,Ak,p,Eu rfl h,Ac];rw[take_succ_eq_append_getElem h]at e;by_cases g:l[j]=0;rw[g,A5n]at e;exact .inl ⟨j,by rw[Es g];rfl,⟨j,rfl,ω,e⟩,ω⟩;rw[A5o g]at e;exact .inr ⟨((j+1:Nat):Int),by rw[Ck g];rfl,j+1,rfl,ω,by rw[take_succ_eq_append_getElem h];exact e⟩);rintro v ⟨k,rfl,i,e⟩;rw[Ac1 rfl i,e];rfl
theorem Au2(l:Ag)(p:Ni l)(A:l.length<1099511627776):X4 l=some (Ah (Ap l).toNat):=by unfold X4;(have f:Aa ((l.length:Int)+1)=((l.length+1:Nat):Int):=by rw[Aa,Bm]<;>omega);rw[f,Alv rfl ω ω];simp only[Ac];refine Jm (λ(c,i,o)=>∃k:Nat,i=k/\k<=l.length/\o.length=k/\Cg o/\0<=c/\c<5/\Ap o+1000000000^k*c=Ap (l.take k)) (λ(_,i,_)=>l.length-i.toNat) (λ(c,o)=>o.length=l.length/\Cg o/\0<=c/\c<5/\Ap o+1000000000^l.length*c=Ap l) ⟨0,rfl,ω,rfl,Cg.nil,ω,ω,by simp[Ap]⟩ ?_ ?_;rintro⟨c,i,o⟩ ⟨k,rfl,F,g,b,q,e,u⟩;rcases Cb k l.length with h|h;have G:=p l[k] (getElem_mem h);refine .inl ⟨((l[k]+c)/1000000000,((k+1:Nat):Int),o++[(l[k]+c)%1000000000]),?_,⟨k+1,rfl,ω,by simp[g],b.snoc ω ω,ω,ω,?_⟩,ζ⟩;have z:Bd l[k]=l[k]:=D7 ω ω;have y:Bd (l[k]+c)=l[k]+c:=D7 ω ω;have s:Cy ((l[k]+c)%1000000000)=(l[k]+c)%1000000000:=G8 ω ω;have w:Aa ((k:Int)+1)=((k+1:Nat):Int):=ξ;have x:decide ((k:Int)<(l.length:Int))=true:=(by simpa using h);simp only[x,Ak,Eu rfl h,Ac,z,y,Mh (show 0<=l[k]+c by omega) (show(0:Int)<1000000000 by decide),s,Di (show(o.length+[(l[k]+c)%1000000000].length)*4<=_ by simp;omega),Nh (show 0<=l[k]+c by omega) (show l[k]+c<=_ by omega) (show(0:Int)<1000000000 by decide),w];rw[G9 l h,<-u,Mi,g,Int.pow_succ];have:=Int.mul_ediv_add_emod (l[k]+c) 1000000000;grind;have j:k=l.length:=ω;subst j;refine .inr ⟨(c,o),ψ,g,b,q,e,by simpa using u⟩;rintro⟨c,o⟩ ⟨C,v,E,D,B⟩;have H:=Ig p;by_cases e:c>0;have s:Cy c=c:=G8 ω ω;simp only[decide_eq_true e,Ak,s,Di (show(o.length+[c].length)*4<=_ by simp;omega),Ac,Tq (o++[c]) ζ];rw[Nj (v.snoc ω ω) (n:=(Ap l).toNat) (by rw[Mi,C];omega)];have:c=0:=ω;subst this;simp only[Int.lt_irrefl,gt_iff_lt,decide_false,Aj,Tq o ω,Ac];rw[Nj v (n:=(Ap l).toNat) ω]
end Go.Ab
