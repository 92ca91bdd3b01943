/- Plain laws. -/
import Derived.Test.YtgfjdimemmhmeaaGreatDoorMuPl0
import Derived.Lib.ItoaLen
open List
namespace Go.Ab
open Go
def isV(σ:A1)(k n:Int):Bool:=k==4&&decide (0<=n)&&decide (n<(σ.length:Int))
mutual
def D9(σ:List Ah):Ah->Ah
 |⟨k,n,l⟩=>match(if isV σ k n then σ[n.toNat]? else none)with
  |some s=>s
  |none=>⟨k,n,R8 σ l⟩
def R8(σ:List Ah):List Ah->List Ah
 |[]=>[]
 |x::xs=>D9 σ x::R8 σ xs
end
variable{t:Ah}{σ:A1}
theorem A7h(σ l:A1):R8 σ l=l.map (D9 σ):=by induction l with|nil=>rfl|cons x xs ih=>simp only[R8,ih,map_cons]
theorem Ahz{k n:Int}(h:isV σ k n=true):∃s,σ[n.toNat]?=some s/\Ag σ n=some s/\s∈σ:=by simp only[isV,Ec,Es]at h;have b:n.toNat < σ.length:=ω;refine⟨σ[n.toNat],Bi b,?_,getElem_mem b⟩;unfold Ag;rw[Av ω,Bi b]
theorem Ah0{s:Ah}(h:isV σ t.G t.U=true)(b:σ[t.U.toNat]?=some s):D9 σ t=s:=by cases t;simp only[D9]at *;simp[h,b]
theorem Ang(h:isV σ t.G t.U=false):D9 σ t=⟨t.G,t.U,t.R.map (D9 σ)⟩:=by cases t;simp only[D9]at *;simp[h,A7h]
mutual
theorem Avd:∀t:Ah,D9 [] t=t
 |⟨k,n,l⟩=>by
  have e:isV [] k n=false:=by
   unfold isV
   by_cases h:0<=n
   .rw[Au (by simp;omega:¬n<(([]:List Ah).length:Int))];simp
   .rw[Au h];simp
  simp only[D9,e,Ave l];rfl
theorem Ave:∀l:List Ah,R8 [] l=l
 |[]=>rfl
 |x::xs=>by simp only[R8,Avd x,Ave xs]
end
mutual
theorem Anh(σ:List Ah)(M:Nat)(h:1<=M)(g:∀s∈σ,Bu s<=M):∀t:Ah,Bu (D9 σ t)<=Bu t*M
 |⟨k,n,l⟩=>by
  cases e:isV σ k n with
  |true=>
   obtain⟨s,i,_,p⟩:=Ahz e
   rw[Ah0 (t:=⟨k,n,l⟩) e i]
   have:=g s p
   have q:=Pq ⟨k,n,l⟩
   calc Bu s<=1*M:=ω
    _<=_:=Nat.mul_le_mul_right M q
  |false=>
   have:=Avf σ M h g l
   simp only[D9,e,Bu]
   simp only[Bool.false_eq_true,if_false,Bu]
   rw[Nat.add_mul];omega
theorem Avf(σ:List Ah)(M:Nat)(e:1<=M)(g:∀s∈σ,Bu s<=M):∀l:List Ah,Dr (R8 σ l)<=Dr l*M
 |[]=>by simp[R8,Dr]
 |x::xs=>by
  have h:=Anh σ M e g x
  have i:=Avf σ M e g xs
  simp only[R8,Dr]
  rw[Nat.add_mul];omega
end
variable{a t:Ah}{b:Bool}{l:A1}{Δ:Ad}{r:Id}{j:Nat}
theorem Ani(σ:A1)(t:Ah):(bif t.G==(4:Int)then bif decide (t.U>=(0:Int))then some (decide (t.U<(σ.length:Int)))else some false else some false)=some (isV σ t.G t.U):=by unfold isV;cases t.G==4<;>simp;by_cases h:0<=t.U<;>simp[h]
theorem A7i:∀(k:Nat)(t:Ah)(σ:A1)(M:Nat),(∀s∈σ,Bu s<=M)->Bu t+M+1<=k->k<1099511627776->T3 k t σ=some (D9 σ t):=by intro k;induction k with|zero=>intro t σ M _ h;omega|succ k ih=>intro t σ M c h u;have g:=I0 t;have f:=Kb t.R;rw[T3];rw[show(show OB from bif t.G==(4:Int)then bif decide (t.U>=(0:Int))then some (decide (t.U<(σ.length:Int)))else some false else some false)=some (isV σ t.G t.U)from Ani σ t,Ac];cases b:isV σ t.G t.U with|true=>obtain⟨s,e,i,p⟩:=Ahz b;have:=c s p;simp only[Ak,i,Ac,Ah0 b e,ih s [] 0 ψ ω ω,Avd]|false=>rw[Ang b];simp only[Al];refine Fi t.R (λj=>((j:Int),(t.R.take j).map (D9 σ))) rfl ω ?_ ?_;intro j x v q e i p;have:=I9 (Bm q);simp only[e,i,p,Ak,Ac,ih x σ M c ω ω];rw[Dj ζ,Ac,Cs q];simp;intro e;exact⟨t.R.map (D9 σ),ψ,rfl⟩
theorem A7j:∀(k:Nat)(t:Ah),Bu t<=k->k<1099511627776->Wq k t=some t:=by intro k;induction k with|zero=>intro t h;have:=Pq t;omega|succ k ih=>intro t h q;have c:=I0 t;have b:=Kb t.R;rw[Wq];refine Fi t.R (λj=>((j:Int),t.R.take j)) rfl ω ?_ ?_;intro j x s e g i p;have:=I9 (Bm e);simp only[g,i,p,Ak,Ac,ih x ω ω];rw[Dj ζ,Ac,Cs e];intro g;exact⟨t.R,ψ,by cases t;rfl⟩
theorem A7k:∀(k:Nat)(t:Ah)(σ:A1)(M:Nat),(∀s∈σ,Bu s<=M)->M<=4000000->Bu t<=k->k<1099511627776->T5 k t σ=some (D9 σ t):=by intro k;induction k with|zero=>intro t σ M _ _ h;have:=Pq t;omega|succ k ih=>intro t σ M c i h v;have g:=I0 t;have f:=Kb t.R;rw[T5];rw[show(show OB from bif t.G==(4:Int)then bif decide (t.U>=(0:Int))then some (decide (t.U<(σ.length:Int)))else some false else some false)=some (isV σ t.G t.U)from Ani σ t,Ac];cases b:isV σ t.G t.U with|true=>obtain⟨s,e,p,q⟩:=Ahz b;have:=c s q;simp only[Ak,p,Ac,Ah0 b e,A7j 4000000 s ω ω]|false=>rw[Ang b];simp only[Al];refine Fi t.R (λj=>((j:Int),(t.R.take j).map (D9 σ))) rfl ω ?_ ?_;intro j x w u e p q;have:=I9 (Bm u);simp only[e,p,q,Ak,Ac,ih x σ M c i ω ω];rw[Dj ζ,Ac,Cs u];simp;intro e;exact⟨t.R.map (D9 σ),ψ,rfl⟩
theorem A7l:∀(k:Nat)(t:Ah),Bu t<=k->Bu t<1099511627776->Wo k t=some (Bu t:Int):=by intro k;induction k with|zero=>intro t h;have:=Pq t;omega|succ k ih=>intro t h u;have b:=I0 t;have c:=Kb t.R;rw[Wo];refine Fi t.R (λj=>(1+(Dr (t.R.take j):Int),(j:Int))) rfl ω ?_ ?_;intro j x v i p q s;have g:=I9 (Bm i);have f:=Adf t.R (j+1);have e:Dr (t.R.take (j+1))=Dr (t.R.take j)+Bu x:=(by rw[Cs i,Ahu];simp[Dr]);simp only[p,q,s,Ak,Ac,ih x ω ω];rw[show Aa (1+(Dr (t.R.take j):Int)+(Bu x:Int))=1+(Dr (t.R.take (j+1)):Int)by rw[e,Aa,Bz]<;>omega];intro p;exact⟨1+(Dr t.R:Int),ψ,by rw[b];simp⟩
theorem ξ{p:Prop}(h:p:=by rw[Aa,Bz]<;>omega):p:=h
theorem A7m(σ:A1)(M:Nat)(D:1<=M)(q:M<=1048576)(z:∀s∈σ,Bu s<=M):∀(k:Nat)(t:Ah),Bu t<=k->Bu t<=1048576->∃v:Nat,Wp k t (σ.map λs=>(Bu s:Int))=some (v:Int)/\v<=Bu (D9 σ t)/\((v=Bu (D9 σ t))\/200<v):=by intro k;induction k with|zero=>intro t h;have:=Pq t;omega|succ k ih=>intro t h I;have A:=I0 t;have y:=Kb t.R;(have l:∀x,Bu x<=1048576->Bu (D9 σ x)<=1099511627776:=λx p=>by have:=Anh σ M D z x;have:Bu x*M<=1048576*1048576:=Nat.mul_le_mul p q;omega);rw[Wp];rw[show(show OB from bif t.G==(4:Int)then bif decide (t.U>=(0:Int))then some (decide (t.U<((σ.map λs=>(Bu s:Int)).length:Int)))else some false else some false)=some (isV σ t.G t.U)by rw[C3];exact Ani σ t,Ac];cases f:isV σ t.G t.U with|true=>obtain⟨s,F,J,N⟩:=Ahz f;have K:Ag (σ.map λs=>(Bu s:Int)) t.U=some (Bu s:Int):=(by have:=Hb J;rw[Bq (n:=t.U.toNat) ω];simp[F]);simp only[Ak,K,Ac,Ah0 f F];exact⟨Bu s,rfl,Nat.le_refl _,.inl rfl⟩|false=>have u:=l t I;rw[Ang f]at u⊢;simp only[Al];have g:Bu ⟨t.G,t.U,t.R.map (D9 σ)⟩=1+Dr (t.R.map (D9 σ)):=(by simp only[Bu]);rw[g]at u⊢;refine Adb (λv:Nat=>(v:Int)) (Ft (λ(n,i)=>∃j:Nat,i=j/\j<=t.R.length/\n=1+(Dr ((t.R.map (D9 σ)).take j):Int)) (λ(_,i)=>t.R.length-i.toNat) (λn=>∃v:Nat,n=v/\v<=1+Dr (t.R.map (D9 σ))/\(v=1+Dr (t.R.map (D9 σ))\/200<v)) ⟨0,rfl,ω,by simp[Dr]⟩ ?_ ?_);rintro⟨n,i⟩ ⟨j,rfl,P,w⟩;have w:n=_:=w;subst w;rcases Cj j t.R.length with C|C;have p:t.R[j]?=some t.R[j]:=Bi C;generalize t.R[j]=x at p;have G:=I9 (Bm p);obtain⟨v,b,H,Q⟩:=ih x ω ω;have c:(t.R.map (D9 σ))[j]?=some (D9 σ x):=(by simp[p]);have e:Dr ((t.R.map (D9 σ)).take (j+1))=Dr ((t.R.map (D9 σ)).take j)+Bu (D9 σ x):=(by rw[Cs c,Ahu];simp[Dr]);have B:=Adf (t.R.map (D9 σ)) (j+1);have E:Aa (1+(Dr ((t.R.map (D9 σ)).take j):Int)+(v:Int))=((1+Dr ((t.R.map (D9 σ)).take j)+v:Nat):Int):=ξ;simp only[An (ω:(j:Int)<(t.R.length:Int)),Ak,Bq rfl p,Ac,b,Dl C ω,E];by_cases L:1+Dr ((t.R.map (D9 σ)).take j)+v>200;rw[An ω];exact .inr ⟨_,rfl,_,rfl,ω,.inr L⟩;rw[Au ω];refine .inl ⟨_,rfl,⟨j+1,rfl,ω,?_⟩,ζ⟩;have:v=Bu (D9 σ x):=ω;subst this;rw[e];omega;have:j=t.R.length:=ω;subst this;refine .inr ⟨_,by simp;rfl,1+Dr (t.R.map (D9 σ)),?_,ω,.inl rfl⟩;rw[Hs ψ];omega;rintro n ⟨v,rfl,b,H⟩;exact⟨_,rfl,v,rfl,b,H⟩
def Lx(Δ:Ad)(t:Ah)(c:Int):If:=if t.G=5 then match Ag Δ t.U with
  |none=>none
  |some x=>if(t.R.length:Int)=x.V then match Ag x.O c with
    |none=>none
    |some y=>if(y.R.map (D9 t.R)).all (λa=>decide (Bu a<=200))then some (y.R.map (D9 t.R))else none else none else none
def okL(o:If):List Ah×Bool:=match o with|none=>([],false)|some l=>(l,true)
theorem A7n{R:Type}(Δ:Ad)(t:Ah)(c:Int)(F:Ao->Pm->Ο R)(z:R)(X:Ο R)(b:X=(match Ag Δ t.U with
   |none=>some z
   |some x=>match Ag x.O c with
    |none=>some z
    |some y=>if t.G=5/\(t.R.length:Int)=x.V then F x y else some z)):X=if t.G=5 then match Ag Δ t.U with
  |none=>some z
  |some x=>if(t.R.length:Int)=x.V then match Ag x.O c with
    |none=>some z
    |some y=>F x y else some z else some z:=by
 subst b;by_cases h:t.G=5
 .rw[Av h];cases Ag Δ t.U with
  |none=>rfl
  |some x=>
   simp only;by_cases e:(t.R.length:Int)=x.V
   .rw[Av e];cases Ag x.O c with|none=>rfl|some y=>simp[h,e]
   .rw[As e];cases Ag x.O c with|none=>rfl|some y=>simp[e]
 .rw[As h];cases Ag Δ t.U with
  |none=>rfl
  |some x=>simp only;cases Ag x.O c with|none=>rfl|some y=>simp[h]
def Szv(Δ:Ad):Prop:=∀x∈Δ,∀y∈x.O,y.R.length<=6/\∀a∈y.R,Bu a<=200
theorem Ih.szv(h:Ih Δ):Szv Δ:=by intro x hx y hy;obtain⟨d,hd⟩:=Gl hx;have h1:=h.2.1 d x hd;obtain⟨_,c2,c3⟩:=h1.2.2.2.2.2 y hy;refine⟨c2,λa ha=>?_⟩;have:=Jq.1 c3 a ha;unfold Mm at this;rw[Bool.or_eq_true]at this;rcases this with h'|h';exact(Au6 hd h1.2.1 h').2;simp only[Ec,Es]at h';exact h'.2
theorem A7o(g:Bu t<=200)(e:Bu a<=200):Bu (D9 t.R a)<=40000:=by have h:=Anh t.R 200 ω (λs b=>by have:=I9 b;have:=I0 t;omega) a;have:Bu a*200<=200*200:=Nat.mul_le_mul_right 200 e;omega
theorem Avg(B:Szv Δ)(t:Ah)(P:Bu t<=200)(c:Int):Wl Δ t c=some (okL (Lx Δ t c)):=by
 have G:Wl Δ t c=_:=A7n Δ t c (λx y=>(Am (S:=(Int×List Ah)) (E:=((List Ah×Bool)⊕List Ah)) (λ(p,f)=>
   bif p<(y.R.length:Int)then(
   (Ag y.R p).bind λH=>
   (T5 (4000000) H t.R).bind λw=>
   (R0 (4000000) w).bind λK=>
   bif K>(200:Int)then some (.inr (.inl ([],false)))
   else(
   (B5 40 f [w]).bind λu=>
   some (.inl (Aa (p+1),u))))
   else some (.inr (.inr f))) (0,[])).bind λz=>
   match z with
   |.inl (l,k)=>some (l,k)
   |.inr q=>some (q,true)) ([],false) _ (by
  unfold Wl
  by_cases e:t.G=5
  .simp only[Et e,Al]
   cases C:Ag Δ t.U with
   |none=>
    rcases Ud C with h|h
    .simp only[An h,Ak,Ac]
    .by_cases F:t.U<0
     .simp only[An F,Ak,Ac]
     .simp only[Au F,An (show t.U>=(Δ.length:Int)from h),Ak,Al,Ac]
   |some x=>
    obtain⟨T,U,_,_⟩:=Hb C
    simp only[Au (ω:¬t.U<0),Au (ω:¬t.U>=(Δ.length:Int)),Al,Ac]
    by_cases b:(t.R.length:Int)=x.V
    .simp only[Et b,Al]
     cases v:Ag x.O c with
     |none=>
      rcases Ud v with h|h
      .simp only[An h,Ak,Ac]
      .by_cases F:c<0
       .simp only[An F,Ak,Ac]
       .simp only[Au F,An (show c>=(x.O.length:Int)from h),Ak,Al,Ac]
     |some y=>
      obtain⟨b1,b2,_,_⟩:=Hb v
      simp only[Au (ω:¬c<0),Au (ω:¬c>=(x.O.length:Int)),Al,Ac,e,b,and_self,if_true]
      rfl
    .simp only[Ep b,Ak,Ac]
     cases v:Ag x.O c with
     |none=>rfl
     |some y=>simp[b]
  .simp only[Ep e,Ak,Ac]
   cases C:Ag Δ t.U with
   |none=>rfl
   |some x=>
    simp only
    cases v:Ag x.O c with
    |none=>rfl
    |some y=>simp[e])
 rw[G];unfold Lx;by_cases e:t.G=5;rw[Av e,Av e];(cases C:Ag Δ t.U with|none=>rfl|some x=>simp only;by_cases b:(t.R.length:Int)=x.V;rw[Av b,Av b];(cases v:Ag x.O c with|none=>rfl|some y=>simp only;obtain⟨I,i⟩:=B x (Hb C).2.2.2 y (Hb v).2.2.2;refine(Uc (rt:=(y.R.map (D9 t.R),true)) (rf:=([],false)) y.R (λa=>decide (Bu (D9 t.R a)<=200)) (λj=>((j:Int),(y.R.take j).map (D9 t.R))) rfl ω ?_ ?_).trans ?_;intro j a L M Q R;have V:=Dq L;have A:=i a (Bm L);have J:=A7o P A;simp only[M,Q,R,Ak,Ac,A7k 4000000 a t.R 200 (λs D=>by have:=I9 D;have:=I0 t;omega) ω ω ω,Auz 4000000 (D9 t.R a) ω ω];by_cases N:Bu (D9 t.R a)<=200;rw[An N,Au ω];refine⟨λ_=>?_,λh=>by cases h⟩;rw[Dj ζ];simp only[Al,Ac];rw[Cs L];simp;rw[Au N,An ω];exact⟨nofun,λ_=>⟨_,rfl,rfl⟩⟩;intro M;exact⟨.inr (y.R.map (D9 t.R)),ψ,rfl⟩;rw[all_map];cases g:y.R.all ((λa=>decide (Bu a<=200))∘D9 t.R)with|true=>rw[Av rfl];rw[show(y.R.all λa=>decide (Bu (D9 t.R a)<=200))=true from g];rfl|false=>rw[show(y.R.all λa=>decide (Bu (D9 t.R a)<=200))=false from g];rfl);rw[As b,As b];rfl);rw[As e,As e];rfl
theorem Anj(B:Szv Δ)(t:Ah)(P:Bu t<=200)(c:Int):Wj Δ t c=some (okL (Lx Δ t c)):=by have D:=I0 t;have u:=Kb t.R;unfold Wj Lx;by_cases F:t.G=5;simp only[Et F,Al,Av F];(cases K:Ag Δ t.U with|none=>(rcases Ud K with h|h;simp only[An h,Ak,Ac,okL];by_cases p:t.U<0;simp only[An p,Ak,Ac,okL];simp only[Au p,An (show t.U>=(Δ.length:Int)from h),Ak,Al,Ac,okL])|some x=>obtain⟨Q,R,_,J⟩:=Hb K;simp only[Au (ω:¬t.U<0),Au (ω:¬t.U>=(Δ.length:Int)),Al,Ac];by_cases g:(t.R.length:Int)=x.V;simp only[Et g,Al,Av g];(cases L:Ag x.O c with|none=>(rcases Ud L with h|h;simp only[An h,Ak,Ac,okL];by_cases p:c<0;simp only[An p,Ak,Ac,okL];simp only[Au p,An (show c>=(x.O.length:Int)from h),Ak,Al,Ac,okL])|some y=>obtain⟨b1,b2,_,k⟩:=Hb L;obtain⟨I,b⟩:=B x J y k;simp only[Au (ω:¬c<0),Au (ω:¬c>=(x.O.length:Int)),Al,Ac];rw[Mj (n:=t.R.length) (c:=t.R.length) rfl rfl ω ω ω,Ac];refine Fi t.R (λj=>((j:Int),((t.R.take j).map λs=>(Bu s:Int))++replicate (t.R.length-j) 0)) rfl ω ?_ ?_;intro j s N i e w C;have:=I9 (Bm i);obtain⟨m,E⟩:∃m,t.R.length-j=m+1:=⟨t.R.length-j-1,ω⟩;have G:t.R.length-(j+1)=m:=ω;have l:j=((t.R.take j).map λs=>(Bu s:Int)).length:=ζ;simp only[e,w,C,Ak,Ac,A7l 4000000 s ω ω,E,G,replicate_succ,Ana _ _ _ (j:Int) j rfl l,Am9 _ _ _ _ (j:Int) j rfl l,Cs i];simp;intro e;refine⟨t.R.map λs=>(Bu s:Int),ψ,?_⟩;(have q:∀s∈t.R,Bu s<=200:=λs i=>by have:=I9 i;omega);refine(Uc (rt:=(y.R.map (D9 t.R),true)) (rf:=([],false)) y.R (λa=>decide (Bu (D9 t.R a)<=200)) (λj=>(j:Int)) rfl ω ?_ ?_).trans ?_;intro j a H e w C;have A:=b a (Bm H);obtain⟨v,z,S,T⟩:=A7m t.R 200 ω ω q 4000000 a ω ω;simp only[e,w,C,Ak,Ac,z];by_cases M:Bu (D9 t.R a)<=200;rw[An M,Au ω];exact⟨λ_=>rfl,λh=>by cases h⟩;rw[Au M,An ω];exact⟨nofun,λ_=>⟨_,rfl,rfl⟩⟩;intro e;refine⟨.inr (),ψ,?_⟩;simp only;refine Fi y.R (λj=>((j:Int),(y.R.take j).map (D9 t.R))) rfl ω ?_ ?_;intro j a N H e w C;have A:=b a (Bm H);simp only[e,w,C,Ak,Ac,A7i 4000000 a t.R 200 q ω ω];rw[Dj ζ,Ac,Cs H];simp;intro e;exact⟨y.R.map (D9 t.R),ψ,rfl⟩;rw[all_map];cases f:y.R.all ((λa=>decide (Bu a<=200))∘D9 t.R)with|true=>rw[Av rfl];rw[show(y.R.all λa=>decide (Bu (D9 t.R a)<=200))=true from f];rfl|false=>rw[show(y.R.all λa=>decide (Bu (D9 t.R a)<=200))=false from f];rfl);simp only[Ep g,Ak,Ac,As g,okL]);simp only[Ep F,Ak,Ac,As F,okL]
theorem R9{c:Int}(h:Lx Δ t c=some l):∃x y,t.G=5/\Ag Δ t.U=some x/\(t.R.length:Int)=x.V/\Ag x.O c=some y/\l=y.R.map (D9 t.R)/\∀a∈l,Bu a<=200:=by unfold Lx at h;by_cases e:t.G=5;rw[Av e]at h;(cases i:Ag Δ t.U with|none=>rw[i]at h;cases h|some x=>rw[i]at h;simp only at h;by_cases f:(t.R.length:Int)=x.V;rw[Av f]at h;(cases g:Ag x.O c with|none=>rw[g]at h;cases h|some y=>rw[g]at h;simp only at h;by_cases b:(y.R.map (D9 t.R)).all (λa=>decide (Bu a<=200))=true;rw[Av b]at h;cases h;refine⟨x,y,e,rfl,f,g,rfl,λa k=>?_⟩;have:=Jq.1 b a k;simpa using this;rw[As b]at h;cases h);rw[As f]at h;cases h);rw[As e]at h;cases h
def H7(l:A1)(r:Id):A1:=((l.zip r).filter λp=>!p.2).map (·.1)
def Gz(Δ:Ad)(t:Ah)(c:Int):If:=(Lx Δ t c).map λl=>H7 l (Ha Δ t.U c)
theorem Adj{c:Int}(h:Lx Δ t c=some l):(Ha Δ t.U c).length=l.length:=by obtain⟨x,y,_,e,_,g,rfl,_⟩:=R9 h;unfold Ha;simp only[e,g,C3]
theorem Ah1(e:l[j]?=some a)(g:r[j]?=some b):H7 (l.take (j+1)) (r.take (j+1))=H7 (l.take j) (r.take j)++bif b then[]else[a]:=by unfold H7;have f:=Dq e;have c:=Dq g;rw[Cs e,Cs g,zip_append ζ];cases b<;>simp
theorem Zn(l:A1)(r:Id):(H7 l r).length<=l.length:=by unfold H7;rw[C3];refine Nat.le_trans (length_filter_le _ _) ?_;rw[length_zip];omega
theorem Ah2(f:Szv Δ)(h:Kk Δ)(t:Ah)(v:Bu t<=200)(c:Int):Y9 Δ t c=some (okL (Gz Δ t c)):=by unfold Y9 Gz;rw[Anj f t v c,Ac];cases u:Lx Δ t c with|none=>rfl|some l=>have i:=Adj u;obtain⟨x,y,_,w,_,A,q,_⟩:=R9 u;obtain⟨g,_⟩:=f x (Hb w).2.2.2 y (Hb A).2.2.2;have k:l.length<=6:=(by rw[q];simpa using g);simp only[okL,Fc,Al,Ahx Δ t.U c h,Ac,Option.map_some];refine Fi (Ha Δ t.U c) (λj=>((j:Int),H7 (l.take j) ((Ha Δ t.U c).take j))) (by simp[H7]) ω ?_ ?_;intro j b E B e C D;have p:l[j]?=some l[j]:=Bi ω;generalize l[j]=a at p;have s:=Zn (l.take j) ((Ha Δ t.U c).take j);have:(l.take j).length<=6:=ζ;simp only[e,C,D,Ak,Ac,Bq rfl p,Ah1 p B];rw[Dj ζ];cases b<;>simp;intro e;refine⟨H7 l (Ha Δ t.U c),?_,rfl⟩;simp only[e];rw[Hs ω,Hs (Nat.le_refl _)];rfl
def Og(r:Id):Ae:=(r.zipIdx.filter λp=>!p.1).map λp=>(p.2:Int)
def W0(r:Id):Ae:=(r.zipIdx.filter λp=>p.1).map λp=>(p.2:Int)
theorem Ank(h:r[j]?=some b):(r.take (j+1)).zipIdx=(r.take j).zipIdx++[(b,j)]:=by have:=Dq h;rw[Cs h,zipIdx_append];simp;omega
theorem A7p(f:Szv Δ)(h:Kk Δ)(t:Ah)(v:Bu t<=200)(c:Int)(e:Lx Δ t c=some l):Ac2 Δ t c=some (Og (Ha Δ t.U c),W0 (Ha Δ t.U c),true):=by unfold Ac2;have i:=Adj e;obtain⟨x,y,_,w,_,A,q,_⟩:=R9 e;obtain⟨g,_⟩:=f x (Hb w).2.2.2 y (Hb A).2.2.2;(have k:l.length<=6:=by rw[q];simpa using g);rw[Avg f t v c,e,Ac];simp only[okL,Fc,Al,A6l Δ t.U c h,Ac];generalize Ha Δ t.U c=r at *;refine Fi r (λj=>((j:Int),Og (r.take j),W0 (r.take j))) (by simp[Og,W0]) ω ?_ ?_;intro j b E B p C D;have u:(Og (r.take j)).length<=6:=(by unfold Og;rw[C3];refine Nat.le_trans (length_filter_le _ _) ?_;simp;omega);have s:(W0 (r.take j)).length<=6:=(by unfold W0;rw[C3];refine Nat.le_trans (length_filter_le _ _) ?_;simp;omega);simp only[p,C,D,Ak,Ac];rw[Dj ζ,Dj ζ];unfold Og W0;rw[Ank B];cases b<;>simp;intro p;exact⟨(Og r,W0 r),ψ,rfl⟩
theorem A7q(h:r.length=l.length):∀(j:Nat)(a:Int),(Og r)[j]?=some a->∃x,Ag l a=some x/\(H7 l r)[j]?=some x:=by intro j a g;(have e:H7 l r=(r.zipIdx.filter λp=>!p.1).map λp=>(l[p.2]?).getD ⟨0,0,[]⟩:=by unfold H7;have i:∀n,n<=r.length->(((l.take n).zip (r.take n)).filter λp=>!p.2).map (·.1)=((r.take n).zipIdx.filter λp=>!p.1).map λp=>(l[p.2]?).getD ⟨0,0,[]⟩:=(by intro n;induction n with|zero=>intro _;simp|succ n ih=>intro u;have k:l[n]?=some l[n]:=Bi ω;have q:r[n]?=some r[n]:=Bi ω;have:=Ah1 k q;unfold H7 at this;rw[this,ih ω,Ank q];cases r[n]<;>simp[k]);have:=i r.length (Nat.le_refl _);rw[Hs ω,Hs (Nat.le_refl _)]at this;exact this);unfold Og at g;rw[getElem?_map]at g;cases hp:(r.zipIdx.filter λp=>!p.1)[j]? with|none=>rw[hp]at g;cases g|some p=>rw[hp]at g;cases g;have c:=Bm hp;rw[mem_filter]at c;have b:r[p.2]?=some p.1:=mk_mem_zipIdx_iff_getElem?.1 c.1;have f:=Dq b;have s:l[p.2]?=some l[p.2]:=Bi ω;refine⟨l[p.2],Bq rfl s,?_⟩;rw[e,getElem?_map,hp];simp[s]
theorem A7r(h:r.length=l.length):(Og r).length=(H7 l r).length:=by unfold Og H7;simp only[C3];(have e:∀n,n<=r.length->(((l.take n).zip (r.take n)).filter λp=>!p.2).length=((r.take n).zipIdx.filter λp=>!p.1).length:=by intro n;induction n with|zero=>intro _;simp|succ n ih=>intro k;have i:l[n]?=some l[n]:=Bi ω;have g:r[n]?=some r[n]:=Bi ω;rw[Ank g,Cs i,Cs g,zip_append ζ,filter_append,Fe,ih ω,filter_append,Fe];cases r[n]<;>simp);have:=e r.length (Nat.le_refl _);rw[Hs ω,Hs (Nat.le_refl _)]at this;exact this.symm
theorem Adk(g:Szv Δ)(i:Kk Δ)(t:Ah)(v:Bu t<=200)(c:Int):Wi Δ t c=some (okL (Gz Δ t c)):=by unfold Wi Gz;rw[Avg g t v c,Ac];cases e:Lx Δ t c with|none=>rfl|some l=>have f:=Adj e;obtain⟨x,y,_,w,_,A,s,_⟩:=R9 e;obtain⟨h,_⟩:=g x (Hb w).2.2.2 y (Hb A).2.2.2;have q:l.length<=6:=(by rw[s];simpa using h);simp only[okL,Fc,Al,A7p g i t v c e,Ac,Option.map_some];generalize Ha Δ t.U c=r at *;have k:=A7r f;have u:=Zn l r;refine Fi (Og r) (λj=>((j:Int),(H7 l r).take j)) ψ ω ?_ ?_;intro j b G B p C D;obtain⟨a,E,F⟩:=A7q f j b B;simp only[p,C,D,Ak,Ac,E];rw[Dj ζ,Ac,Cs F];intro p;refine⟨H7 l r,?_,rfl⟩;simp only[p];rw[Hs ω];rfl
theorem Adl{c:Int}(h:Gz Δ t c=some l):(∀a∈l,Bu a<=200)/\∃x,Ag Δ t.U=some x/\0<=c/\c<x.O.length:=by unfold Gz at h;cases e:Lx Δ t c with|none=>rw[e]at h;cases h|some m=>rw[e]at h;cases h;obtain⟨x,y,_,k,_,g,_,f⟩:=R9 e;refine⟨λa i=>?_,x,k,(Hb g).1,(Hb g).2.1⟩;unfold H7 at i;obtain⟨p,b,rfl⟩:=mem_map.1 i;exact f _ (of_mem_zip (mem_filter.1 b).1).1
mutual
def Br:Af->Nat
 |⟨_,l⟩=>1+Bv l
def Bv:List Af->Nat
 |[]=>0
 |x::xs=>Br x+Bv xs
end
theorem Dy(t:Af):Br t=1+Bv t.K:=by cases t;simp only[Br]
theorem Jh{l:A2}{a:Af}(h:a∈l):Br a<=Bv l:=by induction l with|nil=>cases h|cons x xs ih=>simp only[Bv];rcases En.1 h with rfl|h;omega;have:=ih h;omega
theorem Ly(l:A2):l.length<=Bv l:=by induction l with|nil=>simp|cons x xs ih=>simp only[Bv,Eo];have:=Dy x;omega
mutual
def C7(Δ:List Ao):Af->Ah->Option Nat
 |⟨n,e⟩,t=>
  if t.G=6 then(if n=0 then Cg Δ e t.R else none)
  else if t.G=7 then(if 0<=n/\n<=6/\e.length=0 then some n.toNat else none)
  else if t.G=5 then(if n=0 then Fo Δ e t else none)
  else if n=0/\e.length=0 then some 0 else none
def Cg(Δ:List Ao):List Af->List Ah->Option Nat
 |[],[]=>some 0
 |i::is,t::ts=>(C7 Δ i t).bind λa=>(Cg Δ is ts).map (a + ·)
 |[],_::_=>none
 |_::_,[]=>none
def Fo(Δ:List Ao):List Af->Ah->Option Nat
 |[],_=>some 0
 |⟨n,e⟩::g,t=>(Gz Δ t n).bind λts=>(Cg Δ e ts).bind λa=>(Fo Δ g t).map (1+a + ·)
end
variable{m n:Int}{Δ:Ad}{d:Nat}
theorem Lg(Δ:Ad)(i:Af)(t:Ah):C7 Δ i t=if t.G=6 then(if i.U=0 then Cg Δ i.K t.R else none)else if t.G=7 then(if 0<=i.U/\i.U<=6/\i.K.length=0 then some i.U.toNat else none)else if t.G=5 then(if i.U=0 then Fo Δ i.K t else none)else if i.U=0/\i.K.length=0 then some 0 else none:=by cases i;simp only[C7]
theorem Uf(Δ:Ad)(e:Af)(es:A2)(t:Ah):Fo Δ (e::es) t=(Gz Δ t e.U).bind λts=>(Cg Δ e.K ts).bind λa=>(Fo Δ es t).map (1+a + ·):=by cases e;simp only[Fo]
theorem Mn(Δ:Ad)(i:Af)(is:A2)(t:Ah)(ts:A1):Cg Δ (i::is) (t::ts)=(C7 Δ i t).bind λa=>(Cg Δ is ts).map (a + ·):=by simp only[Cg]
theorem Ah3(Δ:Ad):∀(is:A2)(ts:A1),ts.length≠is.length->Cg Δ is ts=none
 |[],[],h=>absurd rfl h
 |i::is,t::ts,h=>by rw[Mn,Ah3 Δ is ts (by simpa using h)];cases C7 Δ i t<;>rfl
 |[],_::_,_=>by simp only[Cg]
 |_::_,[],_=>by simp only[Cg]
theorem Sa(Δ:Ad):∀(es:A2)(t:Ah)(d:Nat),Fo Δ es t=some d->es.length<=d
 |[],_,_,_=>ψ
 |e::es,t,d,h=>by rw[Uf]at h;cases i:Gz Δ t e.U with|none=>rw[i]at h;cases h|some ts=>rw[i,Ac]at h;cases k:Cg Δ e.K ts with|none=>rw[k]at h;cases h|some a=>rw[k,Ac]at h;cases g:Fo Δ es t with|none=>rw[g]at h;cases h|some b=>rw[g]at h;cases h;have:=Sa Δ es t b g;simp only[Eo];omega
def G0(o:B2):Int:=match o with|some d=>if d<=6 then(d:Int)else -1|none => -1
theorem Sb(h:d<=6):G0 (some d)=d:=by simp[G0,h]
theorem Anl(h:6<d):G0 (some d) = -1:=by simp only[G0];rw[As ω]
theorem Ah4(o:B2):(G0 o = -1/\∀d,o=some d->6<d)\/∃d,o=some d/\d<=6/\G0 o=d:=by cases o with|none=>exact .inl ⟨rfl,λd h=>by cases h⟩|some d=>rcases Cj 6 d with h|h;exact .inl ⟨Anl h,λe g=>by cases g;exact h⟩;exact .inr ⟨d,rfl,h,Sb h⟩
theorem W1{o:B2}(h:∀d,o=some d->6<d):G0 o = -1:=by cases o with|none=>rfl|some d=>exact Anl (h d rfl)
def Pr(p:Int×Bool)(o:B2):Prop:=(p.2=true/\∃d:Nat,o=some d/\d<=6/\p.1=d)\/(p.2=false/\∀d,o=some d->6<d)
theorem Mo{α:Type}{l:Λ α}{j:Nat}{x:α}(h:l[j]?=some x):l.drop j=x::l.drop (j+1):=by have e:=Dq h;rw[drop_eq_getElem_cons e];rw[Bi e]at h;rw[E6 h]
theorem A7s(I:Szv Δ)(J:Kk Δ):∀k:Nat, (∀(i:Af)(t:Ah),2*Br i<=k->Br i<=1048576->Bu t<=200->∃p,Tv k Δ t i=some p/\Pr p (C7 Δ i t))/\(∀(is:A2)(ts:A1),2*Bv is+1<=k->Bv is<=1048576->(∀t∈ts,Bu t<=200)->∃p,Ty k Δ ts is=some p/\Pr p (Cg Δ is ts)):=by intro k;induction k with|zero=>exact⟨λi t h=>by have:=Dy i;omega,λis ts h=>ω⟩|succ k ih=>obtain⟨V,D⟩:=ih;constructor;intro i t hk hi W;have a6:=Dy i;have X:=Ly i.K;rw[Tv,Lg];by_cases M:t.G=6;simp only[Ew M,Ak,Av M];by_cases H:i.U=0;simp only[Et H,Al,Av H];obtain⟨p,p1,p2⟩:=D i.K t.R ω ω (λa K=>by have:=I9 K;have:=I0 t;omega);rw[p1];exact⟨p,rfl,p2⟩;simp only[Ep H,Ak,As H];exact⟨_,rfl,.inr ⟨rfl,λd h=>by cases h⟩⟩;simp only[Cx M,Al,As M];by_cases L:t.G=7;simp only[Ew L,Ak,Av L];by_cases a1:0<=i.U;by_cases a2:i.U<=6;by_cases Q:i.K.length=0;rw[An (show i.U>=0 from a1),An a2,Av ⟨a1,a2,Q⟩];exact⟨_,rfl,.inl ⟨by simp[Q],i.U.toNat,rfl,ω,ζ⟩⟩;rw[An (show i.U>=0 from a1),An a2,As λh=>Q h.2.2];exact⟨_,rfl,.inr ⟨Cx ω,λd h=>by cases h⟩⟩;rw[An (show i.U>=0 from a1),Au a2,As λh=>a2 h.2.1];exact⟨_,rfl,.inr ⟨rfl,λd h=>by cases h⟩⟩;rw[Au (show ¬i.U>=0 from a1),As λh=>a1 h.1];exact⟨_,rfl,.inr ⟨rfl,λd h=>by cases h⟩⟩;simp only[Cx L,Al,As L];by_cases N:t.G=5;simp only[Ew N,Ak,Av N];by_cases H:i.U=0;simp only[Et H,Al,Av H];(have T:∀(m j w:Nat),j+m=i.K.length->w<=6->∃z,Am (S:=(Int×Int)) (E:=((Int×Bool)⊕Int)) (λ(v8,v9)=>bif v9<(i.K.length:Int)then((Ag i.K v9).bind λl=>(Y9 Δ t l.U).bind λa0=>bif(!a0.2)then some (.inr (.inl (0,false)))else((Ty k Δ a0.1 l.K).bind λy=>bif(!y.2)then some (.inr (.inl (0,false)))else(bif(Aa (v8+(Aa (1+y.1))))>(6:Int)then some (.inr (.inl (0,false)))else some (.inl (Aa (v8+(Aa (1+y.1))),Aa (v9+1))))))else some (.inr (.inr v8))) ((w:Int),(j:Int))=some z/\(match z with|.inl p=>p=(0,false)/\∀d,(Fo Δ (i.K.drop j) t).map (w + ·)=some d->6<d|.inr v=>∃d:Nat,(Fo Δ (i.K.drop j) t).map (w + ·)=some d/\d<=6/\v=d):=by intro m;induction m with|zero=>intro j w hj c;have:j=i.K.length:=ω;subst this;exact⟨.inr (w:Int),Ej ψ,w,by simp[Fo],c,rfl⟩|succ m s=>intro j w hj c;have F:i.K[j]?=some i.K[j]:=Bi ω;generalize i.K[j]=e at F;have Y:=Jh (Bm F);have a7:=Dy e;rw[Mo F,Uf];cases hp:Gz Δ t e.U with|none=>refine⟨.inl (0,false),Ej ?_,rfl,λd h=>by simp at h⟩;simp only[An (ω:(j:Int)<(i.K.length:Int)),Ak,Bq rfl F,Ac,Ah2 I J t W e.U,hp,okL,Bool.not_false]|some ts=>obtain⟨q,B,f⟩:=D e.K ts ω ω (Adl hp).1;(rcases f with⟨f,a,x,q4,U⟩|⟨f,x⟩);have R:Aa ((w:Int)+Aa (1+q.1))=((w+(1+a):Nat):Int):=(by rw[U,show Aa (1+(a:Int))=((1+a:Nat):Int)by rw[Aa,Bz]<;>omega,Aa,Bz]<;>omega);by_cases hb:w+(1+a)<=6;obtain⟨z,g,C⟩:=s (j+1) (w+(1+a)) ω hb;refine⟨z,?_,?_⟩;rw[Ks (s':=(((w+(1+a):Nat):Int),((j+1:Nat):Int)))];exact g;simp only[An (ω:(j:Int)<(i.K.length:Int)),Ak,Bq rfl F,Ac,Ah2 I J t W e.U,hp,okL,Fc,Al,B,f,R,Au (ω:¬((w+(1+a):Nat):Int)>6),Dl (show j<i.K.length by omega) ω];have A:∀o:B2,(((some a:B2).bind λa=>o.map (1+a + ·)).map (w + ·))=o.map (w+(1+a) + ·):=(by intro o;cases o<;>simp[Nat.add_assoc]);rw[Ac,x,A];exact C;refine⟨.inl (0,false),Ej ?_,rfl,λd h=>?_⟩;simp only[An (ω:(j:Int)<(i.K.length:Int)),Ak,Bq rfl F,Ac,Ah2 I J t W e.U,hp,okL,Fc,Al,B,f,R,An (ω:((w+(1+a):Nat):Int)>6)];rw[Ac,x,Ac]at h;(cases P:Fo Δ (i.K.drop (j+1)) t with|none=>rw[P]at h;cases h|some b=>rw[P]at h;simp at h;omega);refine⟨.inl (0,false),Ej ?_,rfl,λd h=>?_⟩;simp only[An (ω:(j:Int)<(i.K.length:Int)),Ak,Bq rfl F,Ac,Ah2 I J t W e.U,hp,okL,Fc,Al,B,f,Bool.not_false];rw[Ac]at h;cases K:Cg Δ e.K ts with|none=>rw[K]at h;cases h|some a=>rw[K,Ac]at h;have:=x a K;cases P:Fo Δ (i.K.drop (j+1)) t with|none=>rw[P]at h;cases h|some b=>rw[P]at h;simp at h;omega);obtain⟨z,g,C⟩:=T i.K.length 0 0 ω ω;have g:Am _ ((0:Int),(0:Int))=some z:=g;rw[g,Ac];have A:∀o:B2,o.map (0 + ·)=o:=(by intro o;cases o<;>simp);rw[drop_zero,A]at C;(match z,C with|.inl p,C=>exact⟨_,rfl,.inr ⟨by rw[C.1],C.2⟩⟩|.inr v,C=>obtain⟨d,d1,d2,d3⟩:=C;exact⟨_,rfl,.inl ⟨rfl,d,d1,d2,d3⟩⟩);simp only[Ep H,Ak,As H];exact⟨_,rfl,.inr ⟨rfl,λd h=>by cases h⟩⟩;simp only[Cx N,Al,As N];by_cases H:i.U=0;simp only[Ew H,Ak];by_cases Q:i.K.length=0;rw[Av ⟨H,Q⟩];exact⟨_,rfl,.inl ⟨by simp[Q],0,rfl,ω,rfl⟩⟩;rw[As λh=>Q h.2];exact⟨_,rfl,.inr ⟨Cx ω,λd h=>by cases h⟩⟩;simp only[Cx H,Al];rw[As λh=>H h.1];exact⟨_,rfl,.inr ⟨rfl,λd h=>by cases h⟩⟩;intro is ts hk hi W;have X:=Ly is;rw[Ty];by_cases hl:ts.length=is.length;rw[Et ω];simp only[Al];(have T:∀(m j w:Nat),j+m=is.length->w<=6*j->∃z,Am (S:=(Int×Int)) (E:=((Int×Bool)⊕Int)) (λ(v5,G)=>bif G<(ts.length:Int)then((Ag ts G).bind λZ=>(Ag is G).bind λv9=>(Tv k Δ Z v9).bind λl=>bif(!l.2)then some (.inr (.inl (0,false)))else some (.inl (Aa (v5+l.1),Aa (G+1))))else some (.inr (.inr v5))) ((w:Int),(j:Int))=some z/\(match z with|.inl p=>p=(0,false)/\∀d,(Cg Δ (is.drop j) (ts.drop j)).map (w + ·)=some d->6<d|.inr v=>∃d:Nat,(Cg Δ (is.drop j) (ts.drop j)).map (w + ·)=some d/\v=d):=by intro m;induction m with|zero=>intro j w hj c;have:j=ts.length:=ω;subst this;refine⟨.inr (w:Int),Ej ψ,w,?_,rfl⟩;rw[drop_of_length_le ω,drop_of_length_le ω];simp[Cg]|succ m s=>intro j w hj c;have F:is[j]?=some is[j]:=Bi ω;generalize is[j]=e at F;have hu:ts[j]?=some ts[j]:=Bi ω;generalize ts[j]=u at hu;have Y:=Jh (Bm F);rw[Mo F,Mo hu,Mn];obtain⟨q,B,f⟩:=V e u ω ω (W u (Bm hu));(rcases f with⟨f,a,x,q4,U⟩|⟨f,x⟩);have R:Aa ((w:Int)+q.1)=((w+a:Nat):Int):=(by rw[U,Aa,Bz]<;>omega);obtain⟨z,g,C⟩:=s (j+1) (w+a) ω ω;refine⟨z,?_,?_⟩;rw[Ks (s':=(((w+a:Nat):Int),((j+1:Nat):Int)))];exact g;simp only[An (ω:(j:Int)<(ts.length:Int)),Ak,Bq rfl F,Bq rfl hu,Ac,Fc,Al,B,f,R,Dl (show j<is.length by omega) ω];have A:∀o:B2,(((some a:B2).bind λa=>o.map (a + ·)).map (w + ·))=o.map (w+a + ·):=(by intro o;cases o<;>simp[Nat.add_assoc]);rw[x,A];exact C;refine⟨.inl (0,false),Ej ?_,rfl,λd h=>?_⟩;simp only[An (ω:(j:Int)<(ts.length:Int)),Ak,Bq rfl F,Bq rfl hu,Ac,B,f,Bool.not_false];cases K:C7 Δ e u with|none=>rw[K]at h;cases h|some a=>rw[K,Ac]at h;have:=x a K;cases P:Cg Δ (is.drop (j+1)) (ts.drop (j+1))with|none=>rw[P]at h;cases h|some b=>rw[P]at h;simp at h;omega);obtain⟨z,g,C⟩:=T is.length 0 0 ω ω;have g:Am _ ((0:Int),(0:Int))=some z:=g;rw[g,Ac];have A:∀o:B2,o.map (0 + ·)=o:=(by intro o;cases o<;>simp);rw[drop_zero,drop_zero,A]at C;(match z,C with|.inl p,C=>exact⟨_,rfl,.inr ⟨by rw[C.1],C.2⟩⟩|.inr v,C=>obtain⟨d,d1,d3⟩:=C;by_cases hd:d<=6;exact⟨_,rfl,.inl ⟨An ω,d,d1,hd,d3⟩⟩;exact⟨_,rfl,.inr ⟨Au ω,λe F=>by rw[d1]at F;cases F;omega⟩⟩);rw[Ep ω,Ah3 Δ is ts hl];exact⟨_,rfl,.inr ⟨rfl,λd h=>by cases h⟩⟩
theorem A7t(L:Szv Δ)(M:Kk Δ)(h8:∀x∈Δ,x.O.length<=8):∀k:Nat, (∀(i:Af)(t:Ah),2*Br i<=k->Br i<=1048576->Bu t<=200->Ts k Δ t i=some (G0 (C7 Δ i t)))/\(∀(is:A2)(ts:A1),2*Bv is+1<=k->Bv is<=1048576->(∀t∈ts,Bu t<=200)->Tx k Δ ts is=some (G0 (Cg Δ is ts))):=by intro k;induction k with|zero=>exact⟨λi t h=>by have:=Dy i;omega,λis ts h=>ω⟩|succ k ih=>obtain⟨Y,G⟩:=ih;have B:∀o:B2,o.map (0 + ·)=o:=(by intro o;cases o<;>simp);constructor;intro i t hk hi ht;have ac:=Dy i;have Z:=Ly i.K;rw[Ts,Lg];by_cases R:t.G=6;simp only[Ew R,Ak,Av R];by_cases w:i.U=0;simp only[Et w,Al,Av w];rw[G i.K t.R ω ω (λa H=>by have:=I9 H;have:=I0 t;omega)];rfl;simp only[Ep w,Ak,As w];rfl;simp only[Cx R,Al,As R];by_cases N:t.G=7;simp only[Ew N,Ak,Av N];by_cases a1:0<=i.U;by_cases a2:i.U<=6;by_cases a3:i.K.length=0;rw[Au ω,Au ω,Au ω,Av ⟨a1,a2,a3⟩,Sb ω];simp;omega;rw[Au ω,Au ω,An ω,As λh=>a3 h.2.2];rfl;rw[Au ω,An ω,As λh=>a2 h.2.1];rfl;rw[An ω,As λh=>a1 h.1];rfl;simp only[Cx N,Al,As N];by_cases U:t.G=5;simp only[Ew U,Ak,Av U];by_cases w:i.U=0;simp only[Et w,Al,Av w,Ac];by_cases I:(i.K.length:Int)>6;rw[An I];refine congrArg some (W1 λd hd=>?_).symm;have:=Sa Δ _ _ _ hd;omega;rw[Au I];simp only[Al];(have T:∀(m j p:Nat),j+m=i.K.length->p<=6->∃z,Am (S:=(Int×Int)) (E:=(Int⊕Int)) (λ(y,s)=>bif s<(i.K.length:Int)then((Ag i.K s).bind λK=>(show OB from bif K.U<(0:Int)then some true else some (decide (K.U>=(8:Int)))).bind λV=>bif V then some (.inr (.inl (-1)))else((Wi Δ t K.U).bind λD=>bif(!D.2)then some (.inr (.inl (-1)))else((Tx k Δ D.1 K.K).bind λq=>bif q<(0:Int)then some (.inr (.inl (-1)))else(bif(Aa ((Aa (y+1))+q))>(6:Int)then some (.inr (.inl (-1)))else some (.inl (Aa (y+(Aa (1+q))),Aa (s+1)))))))else some (.inr (.inr y))) ((p:Int),(j:Int))=some z/\(match z with|.inl v=>v|.inr v=>v)=G0 ((Fo Δ (i.K.drop j) t).map (p + ·)):=by intro m;induction m with|zero=>intro j p hj c;have:j=i.K.length:=ω;subst this;refine⟨.inr (p:Int),Ej ψ,?_⟩;simp[Fo,G0,c]|succ m l=>intro j p hj c;have C:i.K[j]?=some i.K[j]:=Bi ω;generalize i.K[j]=e at C;have a6:=Jh (Bm C);have ad:=Dy e;rw[Mo C,Uf];have hb:(bif decide (e.U<(0:Int))then some true else some (decide (e.U>=(8:Int))))=some (decide (e.U<0\/8<=e.U)):=(by by_cases g1:e.U<0<;>by_cases g2:8<=e.U<;>simp[g1,g2]);cases hp:Gz Δ t e.U with|none=>refine⟨.inl (-1),Ej ?_,by simp[G0]⟩;simp only[An (ω:(j:Int)<(i.K.length:Int)),Ak,Bq rfl C,Ac,Adk L M t ht e.U,hp,okL,Bool.not_false,hb];cases decide (e.U<0\/8<=e.U)<;>rfl|some ts=>obtain⟨pz,x,X,aa,a8⟩:=Adl hp;have ab:=h8 x (Hb X).2.2.2;have g:=G e.K ts ω ω pz;have W:decide (e.U<0\/8<=e.U)=false:=Au ω;(rcases Ah4 (Cg Δ e.K ts)with⟨P,c2⟩|⟨a,P,c2,c3⟩);rw[P]at g;refine⟨.inl (-1),Ej ?_,?_⟩;simp only[An (ω:(j:Int)<(i.K.length:Int)),Ak,Bq rfl C,Ac,Adk L M t ht e.U,hp,okL,Fc,Al,hb,W,g];rfl;refine(W1 λd h=>?_).symm;rw[Ac]at h;(cases H:Cg Δ e.K ts with|none=>rw[H]at h;cases h|some a=>rw[H,Ac]at h;have:=c2 a H;cases F:Fo Δ (i.K.drop (j+1)) t with|none=>rw[F]at h;cases h|some b=>rw[F]at h;simp at h;omega);rw[c3]at g;have J:Aa (Aa ((p:Int)+1)+(a:Int))=((p+(1+a):Nat):Int):=(by rw[show Aa ((p:Int)+1)=((p+1:Nat):Int)by rw[Aa,Bz]<;>omega,Aa,Bz]<;>omega);have a7:Aa ((p:Int)+Aa (1+(a:Int)))=((p+(1+a):Nat):Int):=(by rw[show Aa (1+(a:Int))=((1+a:Nat):Int)by rw[Aa,Bz]<;>omega,Aa,Bz]<;>omega);by_cases A:p+(1+a)<=6;obtain⟨z,f,Q⟩:=l (j+1) (p+(1+a)) ω A;refine⟨z,?_,?_⟩;rw[Ks (s':=(((p+(1+a):Nat):Int),((j+1:Nat):Int)))];exact f;simp only[An (ω:(j:Int)<(i.K.length:Int)),Ak,Bq rfl C,Ac,Adk L M t ht e.U,hp,okL,Fc,Al,hb,W,g,J,a7,Au (ω:¬(a:Int)<0),Au (ω:¬((p+(1+a):Nat):Int)>6),Dl (show j<i.K.length by omega) ω];have B:∀o:B2,(((some a:B2).bind λa=>o.map (1+a + ·)).map (p + ·))=o.map (p+(1+a) + ·):=(by intro o;cases o<;>simp[Nat.add_assoc]);rw[Ac,P,B];exact Q;refine⟨.inl (-1),Ej ?_,?_⟩;simp only[An (ω:(j:Int)<(i.K.length:Int)),Ak,Bq rfl C,Ac,Adk L M t ht e.U,hp,okL,Fc,Al,hb,W,g,J,Au (ω:¬(a:Int)<0),An (ω:((p+(1+a):Nat):Int)>6)];refine(W1 λd h=>?_).symm;rw[Ac,P,Ac]at h;cases F:Fo Δ (i.K.drop (j+1)) t with|none=>rw[F]at h;cases h|some b=>rw[F]at h;simp at h;omega);obtain⟨z,f,Q⟩:=T i.K.length 0 0 ω ω;have f:Am _ ((0:Int),(0:Int))=some z:=f;erw[f,Ac];rw[drop_zero,B]at Q;rw[<-Q];cases z<;>rfl;simp only[Ep w,Ak,As w];rfl;simp only[Cx U,Al,As U];by_cases w:i.U=0;simp only[Et w,Al];by_cases a3:i.K.length=0;rw[Av ⟨w,a3⟩,Au ω];rfl;rw[As λh=>a3 h.2,An ω];rfl;simp only[Ep w,Ak];rw[As λh=>w h.1];rfl;intro is ts hk hi ht;have Z:=Ly is;rw[Tx];by_cases hl:ts.length=is.length;rw[Et ω];simp only[Al];(have T:∀(m j p:Nat),j+m=is.length->p<=6->∃z,Am (S:=(Int×Int)) (E:=(Int⊕Int)) (λ(v4,v5)=>bif v5<(ts.length:Int)then((Ag ts v5).bind λv6=>(Ag is v5).bind λv7=>(Ts k Δ v6 v7).bind λv8=>bif v8<(0:Int)then some (.inr (.inl (-1)))else(bif(Aa (v4+v8))>(6:Int)then some (.inr (.inl (-1)))else some (.inl (Aa (v4+v8),Aa (v5+1)))))else some (.inr (.inr v4))) ((p:Int),(j:Int))=some z/\(match z with|.inl v=>v|.inr v=>v)=G0 ((Cg Δ (is.drop j) (ts.drop j)).map (p + ·)):=by intro m;induction m with|zero=>intro j p hj c;have:j=ts.length:=ω;subst this;refine⟨.inr (p:Int),Ej ψ,?_⟩;rw[drop_of_length_le ω,drop_of_length_le ω];simp[Cg,G0,c]|succ m l=>intro j p hj c;have C:is[j]?=some is[j]:=Bi ω;generalize is[j]=e at C;have hu:ts[j]?=some ts[j]:=Bi ω;generalize ts[j]=u at hu;have a6:=Jh (Bm C);rw[Mo C,Mo hu,Mn];have g:=Y e u ω ω (ht u (Bm hu));(rcases Ah4 (C7 Δ e u)with⟨P,c2⟩|⟨a,P,c2,c3⟩);rw[P]at g;refine⟨.inl (-1),Ej ?_,?_⟩;simp only[An (ω:(j:Int)<(ts.length:Int)),Ak,Bq rfl C,Bq rfl hu,Ac,g];rfl;refine(W1 λd h=>?_).symm;(cases H:C7 Δ e u with|none=>rw[H]at h;cases h|some a=>rw[H,Ac]at h;have:=c2 a H;cases F:Cg Δ (is.drop (j+1)) (ts.drop (j+1))with|none=>rw[F]at h;cases h|some b=>rw[F]at h;simp at h;omega);rw[c3]at g;have J:Aa ((p:Int)+(a:Int))=((p+a:Nat):Int):=ξ;by_cases A:p+a<=6;obtain⟨z,f,Q⟩:=l (j+1) (p+a) ω A;refine⟨z,?_,?_⟩;rw[Ks (s':=(((p+a:Nat):Int),((j+1:Nat):Int)))];exact f;simp only[An (ω:(j:Int)<(ts.length:Int)),Ak,Bq rfl C,Bq rfl hu,Ac,Al,g,J,Au (ω:¬(a:Int)<0),Au (ω:¬((p+a:Nat):Int)>6),Dl (show j<is.length by omega) ω];have B:∀o:B2,(((some a:B2).bind λa=>o.map (a + ·)).map (p + ·))=o.map (p+a + ·):=(by intro o;cases o<;>simp[Nat.add_assoc]);rw[P,B];exact Q;refine⟨.inl (-1),Ej ?_,?_⟩;simp only[An (ω:(j:Int)<(ts.length:Int)),Ak,Bq rfl C,Bq rfl hu,Ac,Al,g,J,Au (ω:¬(a:Int)<0),An (ω:((p+a:Nat):Int)>6)];refine(W1 λd h=>?_).symm;rw[P,Ac]at h;cases F:Cg Δ (is.drop (j+1)) (ts.drop (j+1))with|none=>rw[F]at h;cases h|some b=>rw[F]at h;simp at h;omega);obtain⟨z,f,Q⟩:=T is.length 0 0 ω ω;have f:Am _ ((0:Int),(0:Int))=some z:=f;rw[f,Ac];rw[drop_zero,drop_zero,B]at Q;rw[<-Q];cases z<;>rfl;rw[Ep ω,Ah3 Δ is ts hl];rfl
theorem Ih.cons8(h:Ih Δ):∀x∈Δ,x.O.length<=8:=by intro x hx;obtain⟨d,hd⟩:=Gl hx;exact(h.2.1 d x hd).2.2.2.1
theorem Anm(b:Ih Δ)(c:Kk Δ)(t:Ah)(i:Af)(e:Bu t<=200)(hi:Br i<=1048576):Tg Δ t i=some (G0 (C7 Δ i t)):=by unfold Tg;rw[(A7t b.szv c b.cons8 4000000).1 i t ω hi e];rfl
def Fj(n:Int):Prop:= -9223372036854775808<=n/\n<=9223372036854775807
def ti(n:Int):Ae:=(Lib.itoa n).map λc=>(c.toNat:Int)
def Sc(c:Int):Bool:=c==45||(decide (48<=c)&&decide (c<=57))
theorem Zo(h:d<10):(UInt8.ofNat (48+d)).toNat=48+d:=by rw[UInt8.toNat_ofNat'];omega
theorem Ah5:∀(n u:Nat),u<=n->∀c∈Lib.decDigits u,48<=c.toNat/\c.toNat<=57:=by intro n;induction n with|zero=>intro u g c e;rw[Lib.decDigits,dif_pos ω]at e;simp only[Fh]at e;subst e;rw[Zo ω];omega|succ n ih=>intro u g c e;rw[Lib.decDigits]at e;split at e;simp only[Fh]at e;subst e;rw[Zo ω];omega;rcases Ea.1 e with h|h;exact ih (u/10) ω c h;simp only[Fh]at h;subst h;rw[Zo ω];omega
def Ah6(l:Λ UInt8):Nat:=l.foldl (λa c=>10*a+(c.toNat-48)) 0
theorem Avh:∀(n u:Nat),u<=n->Ah6 (Lib.decDigits u)=u:=by intro n;induction n with|zero=>intro u e;rw[Lib.decDigits,dif_pos ω];simp only[Ah6,foldl_cons,foldl_nil];rw[Zo ω];omega|succ n ih=>intro u e;rw[Lib.decDigits];split;simp only[Ah6,foldl_cons,foldl_nil];rw[Zo ω];omega;have:=ih (u/10) ω;unfold Ah6 at *;rw[foldl_append,this];simp only[foldl_cons,foldl_nil];rw[Zo ω];omega
theorem Avi{u v:Nat}(h:Lib.decDigits u=Lib.decDigits v):u=v:=by rw[<-Avh u u (Nat.le_refl _),h,Avh v v (Nat.le_refl _)]
theorem A7u(u:Nat):Lib.decDigits u≠[]:=by rw[Lib.decDigits];split<;>simp
theorem A7v(h:Lib.itoa m=Lib.itoa n):m=n:=by(have b:∀u v:Nat,45::Lib.decDigits u≠Lib.decDigits v:=by intro u v e;have:=Ah5 v v (Nat.le_refl _) 45 (by rw[<-e];simp);exact absurd this δ);unfold Lib.itoa at h;split at h<;>split at h;have:=Avi (List.cons.inj h).2;omega;exact absurd h (b _ _);exact absurd h.symm (b _ _);have:=Avi h;omega
theorem J1(n:Int):∀c∈ti n,Sc c=true:=by intro c i;unfold ti at i;obtain⟨b,e,rfl⟩:=mem_map.1 i;(have g:b=45\/(48<=b.toNat/\b.toNat<=57):=by unfold Lib.itoa at e;split at e;rcases En.1 e with h|h;exact .inl h;exact .inr (Ah5 _ _ (Nat.le_refl _) b h);exact .inr (Ah5 _ _ (Nat.le_refl _) b e));unfold Sc;rcases g with rfl|⟨k,p⟩;decide;rw[Bool.or_eq_true,Ec,Es,Es];right;omega
theorem Ah7(n:Int):ti n≠[]:=by unfold ti Lib.itoa;split;simp;simpa using A7u _
theorem W2(h:ti m=ti n):m=n:=by unfold ti at h;(have:∀l m:Λ UInt8,l.map (λc=>(c.toNat:Int))=m.map (λc=>(c.toNat:Int))->l=m:=by intro l;induction l with|nil=>(intro m h;cases m with|nil=>rfl|cons=>simp at h)|cons x xs ih=>intro m h;cases m with|nil=>simp at h|cons y e=>simp only[map_cons,List.cons.injEq]at h;rw[ih e h.2,UInt8.toNat.inj (ω:x.toNat=y.toNat)]);exact A7v (this _ _ h)
theorem Ps(h:Fj n):(ti n).length<=21:=by unfold ti;rw[C3];exact Lib.itoa_length_le n h.1 h.2
def Ug(X:Ae):Prop:=∀c m,X=c::m->Sc c=false/\c≠40
def Nu(X:Ae):Prop:=∀c m,X=c::m->Sc c=false
theorem Sd:∀(a b X Y:Ae),(∀c∈a,Sc c=true)->(∀c∈b,Sc c=true)->Nu X->Nu Y->a++X=b++Y->a=b/\X=Y
 |[],[],_,_,_,_,_,_,h=>⟨rfl,h⟩
 |[],y::b,X,Y,_,e,g,_,h=>by have:=g y (b++Y) h;rw[e y ψ]at this;cases this
 |x::a,[],X,Y,k,_,_,f,h=>by have:=f x (a++X) h.symm;rw[k x ψ]at this;cases this
 |x::a,y::b,X,Y,k,e,g,f,h=>by simp only[Fd,List.cons.injEq]at h;obtain⟨j,i⟩:=Sd a b X Y (λc p=>k c (by simp[p])) (λc p=>e c (by simp[p])) g f h.2;exact⟨by rw[h.1,j],i⟩
mutual
def wx:Af->List Int
 |⟨n,e⟩=>ti n++(if e.length=0 then[]else 40::(wxs e++[41]))
def wxs:List Af->List Int
 |[]=>[]
 |x::xs=>wx x++44::wxs xs
end
theorem Ah8(i:Af):wx i=ti i.U++(if i.K.length=0 then[]else 40::(wxs i.K++[41])):=by cases i;simp only[wx]
theorem Avj(l m:A2):wxs (l++m)=wxs l++wxs m:=by induction l with|nil=>simp[wxs]|cons x xs ih=>simp only[Fd,wxs,ih,append_assoc]
theorem Avk(b:A2)(X:Ae)(f:Ug X):Nu ((if b.length=0 then[]else 40::(wxs b++[41]))++X):=by intro c m h;by_cases e:b.length=0;rw[Av e,nil_append]at h;exact(f c m h).1;rw[As e,Fd]at h;cases h;decide
theorem Avl(X:Ae):Ug (44::X):=by intro c m h;cases h;exact⟨δ,δ⟩
theorem Ah9:Ug []:=by intro c m h;cases h
mutual
theorem Aia:∀(i j:Af)(X Y:List Int),Ug X->Ug Y->wx i++X=wx j++Y->i=j/\X=Y
 |⟨n,k⟩,⟨w,q⟩,X,Y,s,u,h=>by
  simp only[wx,append_assoc]at h
  obtain⟨v,g⟩:=Sd _ _ _ _ (J1 n) (J1 w) (Avk k X s) (Avk q Y u) h
  have v:=W2 v
  subst v
  by_cases p:k.length=0
  .by_cases e:q.length=0
   .rw[Av p,Av e]at g
    rw[F5.1 p,F5.1 e]
    exact⟨rfl,g⟩
   .rw[Av p,As e,nil_append,Fd]at g
    exact absurd rfl (s _ _ g).2
  .by_cases e:q.length=0
   .rw[As p,Av e,nil_append,Fd]at g
    exact absurd rfl (u _ _ g.symm).2
   .rw[As p,As e,Fd,Fd,append_assoc,append_assoc]at g
    obtain⟨x,y⟩:=Avm k q X Y s u (List.cons.inj g).2
    rw[x];exact⟨rfl,y⟩
theorem Avm:∀(l m:List Af)(X Y:List Int),Ug X->Ug Y->wxs l++([41]++X)=wxs m++([41]++Y)->l=m/\X=Y
 |[],[],X,Y,_,_,h=>by
  simp only[wxs,nil_append,Fd,List.cons.injEq,true_and]at h
  exact⟨rfl,h⟩
 |[],y::i,X,Y,_,_,h=>by
  exfalso
  cases e:ti y.U with
  |nil=>exact Ah7 _ e
  |cons c r=>
   have g:=J1 y.U c (by rw[e];simp)
   simp only[wxs,Ah8 y,e,nil_append,Fd,List.cons.injEq]at h
   rw[<-h.1]at g;exact absurd g δ
 |x::xs,[],X,Y,_,_,h=>by
  exfalso
  cases e:ti x.U with
  |nil=>exact Ah7 _ e
  |cons c r=>
   have g:=J1 x.U c (by rw[e];simp)
   simp only[wxs,Ah8 x,e,nil_append,Fd,List.cons.injEq]at h
   rw[h.1]at g;exact absurd g δ
 |x::xs,y::i,X,Y,k,p,h=>by
  simp only[wxs,append_assoc,Fd]at h
  obtain⟨q,s⟩:=Aia x y _ _ (Avl _) (Avl _) h
  obtain⟨u,v⟩:=Avm xs i X Y k p (by simpa using s)
  exact⟨by rw[q,u],v⟩
end
mutual
def iR:Af->Prop
 |⟨n,l⟩=>Fj n/\Eu l
def Eu:List Af->Prop
 |[]=>True
 |x::xs=>iR x/\Eu xs
end
theorem Oh(i:Af):iR i↔Fj i.U/\Eu i.K:=by cases i;simp only[iR]
theorem Adm{l:A2}(h:Eu l){a:Af}(e:a∈l):iR a:=by induction l with|nil=>cases e|cons x xs ih=>simp only[Eu]at h;rcases En.1 e with rfl|e;exact h.1;exact ih h.2 e
mutual
theorem Ano:∀i:Af,iR i->(wx i).length+1<=24*Br i
 |⟨n,l⟩,h=>by
  simp only[iR]at h
  have g:=Aib l h.2
  have k:=Ps h.1
  simp only[wx,Br,Fe]
  by_cases e:l.length=0
  .rw[Av e];simp;omega
  .rw[As e];simp;omega
theorem Aib:∀l:List Af,Eu l->(wxs l).length<=24*Bv l
 |[],_=>by simp[wxs,Bv]
 |x::xs,h=>by
  simp only[Eu]at h
  have e:=Ano x h.1
  have g:=Aib xs h.2
  have i:=Dy x
  simp only[wxs,Bv,Fe,Eo];omega
end
theorem Uh(l m:A2):Bv (l++m)=Bv l+Bv m:=by induction l with|nil=>simp[Bv]|cons x xs ih=>simp only[Fd,Bv,ih];omega
theorem Adn(l m:A2):Eu (l++m)↔Eu l/\Eu m:=by induction l with|nil=>simp[Eu]|cons x xs ih=>simp only[Fd,Eu,ih,and_assoc]
theorem Anp{n:Int}(h:Fj n):Rg n=some ⟨(Lib.itoa n).toArray⟩:=by unfold Rg;rw[Av (show _/\_ from h)]
theorem A7w(n:Int):O9 ⟨(Lib.itoa n).toArray⟩=ti n:=by unfold O9 ti;simp
theorem Avn:∀(k:Nat)(i:Af)(b:Ae),Br i<=k->iR i->b.length+24*Br i<=1099511627776->Qj k i b=some (b++wx i):=by intro k;induction k with|zero=>intro i b h;have:=Dy i;omega|succ k ih=>intro i b h p F;have G:=Dy i;have z:=Ly i.K;have p:=(Oh i).1 p;have B:=Ps p.1;rw[Qj,Ah8];simp only[Jz,Anp p.1,Ac,H8,Zi,A7w];rw[Dj ω];simp only[Ac];by_cases w:i.K.length=0;rw[Au ω,Av w];simp;rw[An ω,As w];simp only[Ak,Ob,Zi,Ac];rw[Dj ζ,Ac];have f:=Aib i.K p.2;(have g:∀j,(wxs (i.K.take j)).length<=24*Bv i.K:=λj=>by have:=Avj (i.K.take j) (i.K.drop j);rw[take_append_drop]at this;rw[this,Fe]at f;omega);refine Fi i.K (λj=>((j:Int),b++ti i.U++[40]++wxs (i.K.take j))) (by simp[wxs]) ω ?_ ?_;intro j x H v C D E;have A:=Jh (Bm v);have c:=Adm p.2 (Bm v);have y:=Ano x c;have l:=g (j+1);have e:wxs (i.K.take (j+1))=wxs (i.K.take j)++(wx x++[44]):=(by rw[Cs v,Avj];simp[wxs]);rw[e]at l;simp only[Fe,Eo,length_nil]at l;simp only[C,D,E,Ak,Ac];have u:Bv (i.K.take j)+Br x<=Bv i.K:=(by have q:=Uh (i.K.take (j+1)) (i.K.drop (j+1));rw[take_append_drop,Cs v,Uh]at q;simp only[Bv]at q;omega);have s:(wxs (i.K.take j)).length<=24*Bv (i.K.take j):=Aib _ (by have:=(Adn (i.K.take j) (i.K.drop j)).1 (by rw[take_append_drop];exact p.2);exact this.1);rw[ih x _ ω c ζ];simp only[Ac];rw[Dj ζ,e];simp;intro C;refine⟨b++ti i.U++[40]++wxs i.K,ψ,?_⟩;rw[Dj ζ];simp
def Lz(v:Int)(i:Af):Ae:=118::(ti v++58::wx i)
def Qw(v:Int)(i:Af):Β:=⟨(F8 (Lz v i)).toArray⟩
mutual
theorem Anq:∀i:Af,∀c∈wx i,0<=c/\c<256
 |⟨n,l⟩,c,h=>by
  simp only[wx,Ea]at h
  rcases h with h|h
  .have:=J1 n c h
   simp only[Sc,Bool.or_eq_true,Ec,beq_iff_eq,Es]at this
   omega
  .by_cases e:l.length=0
   .rw[Av e]at h;cases h
   .rw[As e]at h
    simp only[En,Ea,not_mem_nil,or_false]at h
    rcases h with h|h|h
    .omega
    .exact Avo l c h
    .omega
theorem Avo:∀l:List Af,∀c∈wxs l,0<=c/\c<256
 |[],c,h=>by simp[wxs]at h
 |x::xs,c,h=>by
  simp only[wxs,Ea,En]at h
  rcases h with h|h|h
  .exact Anq x c h
  .omega
  .exact Avo xs c h
end
theorem Aic(v:Int)(i:Af):∀c∈Lz v i,0<=c/\c<256:=by intro c h;simp only[Lz,En,Ea]at h;rcases h with h|h|h|h;omega;have:=J1 v c h;simp only[Sc,Bool.or_eq_true,Ec,beq_iff_eq,Es]at this;omega;omega;exact Anq i c h
theorem Anr:∀l m:Ae,(∀c∈l,0<=c/\c<256)->(∀c∈m,0<=c/\c<256)->F8 l=F8 m->l=m
 |[],[],_,_,_=>rfl
 |[],_::_,_,_,h=>by simp[F8]at h
 |_::_,[],_,_,h=>by simp[F8]at h
 |x::xs,y::p,i,k,h=>by simp only[F8,map_cons,List.cons.injEq]at h;have q:=i x ψ;have s:=k y ψ;have e:x.toNat=y.toNat:=(by have:=congrArg UInt8.toNat h.1;rw[UInt8.toNat_ofNat',UInt8.toNat_ofNat']at this;omega);rw[Anr xs p (λc g=>i c (by simp[g])) (λc g=>k c (by simp[g])) h.2,show x=y by omega]
theorem A7x{v w:Int}{i j:Af}(h:Qw v i=Qw w j):v=w/\i=j:=by unfold Qw at h;(have q:(F8 (Lz v i)).toArray=(F8 (Lz w j)).toArray:=by injection h);(have s:F8 (Lz v i)=F8 (Lz w j):=by simpa using congrArg Array.toList q);have p:=Anr _ _ (Aic v i) (Aic w j) s;simp only[Lz,List.cons.injEq,true_and]at p;(have b:∀X:Ae,Nu (58::X):=λX c m e=>by cases e;decide);obtain⟨k,g⟩:=Sd _ _ _ _ (J1 v) (J1 w) (b _) (b _) p;obtain⟨f,_⟩:=Aia i j [] [] Ah9 Ah9 (by simpa using(List.cons.inj g).2);exact⟨W2 k,f⟩
theorem A7y(l:Λ UInt8):O9 ⟨l.toArray⟩=l.map λb=>(b.toNat:Int):=by unfold O9;simp
theorem Aid(v:Int)(i:Af)(c:Fj v)(e:iR i)(hi:Br i<=1048576):Nn v i=some (Qw v i):=by have k:=Ps c;(have f:(Lib.itoa v).length=(ti v).length:=by unfold ti;simp);unfold Nn;(have j:G6 (ByteArray.mk #[118]) ⟨(Lib.itoa v).toArray⟩=some ⟨(118::Lib.itoa v).toArray⟩:=by unfold G6;rw[Av];congr 1;show 1+(Lib.itoa v).toArray.size<=9223372036854775807;rw[size_toArray];omega);(have h:G6 ⟨(118::Lib.itoa v).toArray⟩ (ByteArray.mk #[58])=some ⟨(118::(Lib.itoa v++[58])).toArray⟩:=by unfold G6;rw[Av];congr 1;show(118::Lib.itoa v).toArray.size+1<=9223372036854775807;rw[size_toArray,Eo];omega);simp only[Jz,Anp c,Ac,j,h,Ku,Aca,A7y];rw[Dj ζ];simp only[Ac];rw[Avn 4000000 i _ ω e ζ];simp only[Ac,M0];(have g:([]++(118::(Lib.itoa v++[58])).map λb=>(b.toNat:Int))++wx i=Lz v i:=by unfold Lz ti;simp);rw[g];unfold Aa4 Qw;rw[Av (Aic v i)];rfl
mutual
theorem Avp(Δ:List Ao):∀(i:Af)(t:Ah)(d:Nat),C7 Δ i t=some d->d<=6*Br i
 |⟨n,e⟩,t,d,h=>by
  rw[Lg]at h
  simp only[Br]
  simp only at h
  split at h
  .split at h
   .have:=Ado Δ e _ d h;omega
   .cases h
  .split at h
   .split at h
    .cases h;omega
    .cases h
   .split at h
    .split at h
     .have:=Avq Δ e _ d h;omega
     .cases h
    .split at h
     .cases h;omega
     .cases h
theorem Ado(Δ:List Ao):∀(is:List Af)(ts:List Ah)(d:Nat),Cg Δ is ts=some d->d<=6*Bv is
 |[],[],d,h=>by simp only[Cg]at h;cases h;omega
 |i::is,t::ts,d,h=>by
  rw[Mn]at h
  cases e:C7 Δ i t with
  |none=>rw[e]at h;cases h
  |some a=>
   rw[e,Ac]at h
   cases g:Cg Δ is ts with
   |none=>rw[g]at h;cases h
   |some b=>
    rw[g]at h
    cases h
    have:=Avp Δ i t a e
    have:=Ado Δ is ts b g
    simp only[Bv];omega
 |[],_::_,d,h=>by simp only[Cg]at h;cases h
 |_::_,[],d,h=>by simp only[Cg]at h;cases h
theorem Avq(Δ:List Ao):∀(es:List Af)(t:Ah)(d:Nat),Fo Δ es t=some d->d<=6*Bv es
 |[],t,d,h=>by simp only[Fo]at h;cases h;omega
 |⟨n,e⟩::es,t,d,h=>by
  rw[Uf]at h
  simp only at h
  cases k:Gz Δ t n with
  |none=>rw[k]at h;cases h
  |some ts=>
   rw[k,Ac]at h
   cases g:Cg Δ e ts with
   |none=>rw[g]at h;cases h
   |some a=>
    rw[g,Ac]at h
    cases i:Fo Δ es t with
    |none=>rw[i]at h;cases h
    |some b=>
     rw[i]at h
     cases h
     have:=Ado Δ e ts a g
     have:=Avq Δ es t b i
     simp only[Bv,Br];omega
end
variable{Δ:Ad}{o:B2}{α:Type}
def Zp(Δ:Ad)(e:Af)(t:Ah):B2:=(Gz Δ t e.U).bind λts=>(Cg Δ e.K ts).map (1 + ·)
theorem A7z(Δ:Ad)(e:Af)(es:A2)(t:Ah):Fo Δ (e::es) t=(Zp Δ e t).bind λa=>(Fo Δ es t).map (a + ·):=by rw[Uf];unfold Zp;cases Gz Δ t e.U with|none=>rfl|some ts=>simp only[Ac];cases Cg Δ e.K ts<;>rfl
theorem A70(Δ:Ad)(e:Af)(t:Ah)(d:Nat)(h:Zp Δ e t=some d):d<=6*Br e:=by unfold Zp at h;cases i:Gz Δ t e.U with|none=>rw[i]at h;cases h|some ts=>rw[i,Ac]at h;cases g:Cg Δ e.K ts with|none=>rw[g]at h;cases h|some a=>rw[g]at h;cases h;have:=Ado Δ _ ts a g;have:=Dy e;show 1+a<=_;omega
def Dg(v:Int)(o:B2):Prop:=(v = -1/\∀d,o=some d->6<d)\/∃d:Nat,o=some d/\v=d
theorem Dg.clip{v:Int}(h:Dg v o):(if v>6 then -1 else v)=G0 o:=by(rcases h with⟨rfl,h⟩|⟨d,rfl,rfl⟩);rw[As ω,W1 h];by_cases hd:6<d;rw[Av ω,Anl hd];rw[As ω,Sb ω]
theorem Aie{p:B2}{acc:Nat}{d:Nat}(h:(o.bind λa=>p.map (a + ·)).map (acc + ·)=some d):∃a b,o=some a/\p=some b/\d=acc+(a+b):=by cases o with|none=>cases h|some a=>cases p with|none=>cases h|some b=>exact⟨a,b,rfl,rfl,by simp at h;omega⟩
theorem A71(hz:Szv Δ)(hs:Kk Δ)(b1:At)(b2:Aw)(Ξ:A1)(L J:Int)(I:A1):∀k:Nat, (∀(i:Af)(t:Ah),3*Br i<=k->Br i<=1048576->Bu t<=200->∃v,Tn k t i b1 b2 Δ Ξ L J I=some v/\Dg v (C7 Δ i t))/\(∀(is:A2)(ts:A1),3*Bv is+1<=k->Bv is<=1048576->(∀t∈ts,Bu t<=200)->∃v,Wd k ts is b1 b2 Δ Ξ L J I=some v/\Dg v (Cg Δ is ts))/\(∀(e:Af)(t:Ah),3*Br e<=k->Br e<=1048576->Bu t<=200->∃v,We k t e b1 b2 Δ Ξ L J I=some v/\Dg v (Zp Δ e t)):=by intro k;induction k with|zero=>exact⟨λi t h=>by have:=Dy i;omega,λis ts h=>ω,λi t h=>by have:=Dy i;omega⟩|succ k ih=>obtain⟨Z,M,a6⟩:=ih;have A:∀o:B2,o.map (0 + ·)=o:=(by intro o;cases o<;>simp);(have c:∀d:Nat,(none:B2)=some d->6<d:=λd h=>by cases h);refine⟨?_,?_,?_⟩;intro i t hk hi ht;have ae:=Dy i;have N:=Ly i.K;rw[Tn,Lg];by_cases X:t.G=6;simp only[Ew X,Ak,Av X];by_cases H:i.U=0;simp only[Ew H,Ak,Av H];obtain⟨p,p1,p2⟩:=M i.K t.R ω ω (λa F=>by have:=I9 F;have:=I0 t;omega);rw[p1];exact⟨p,rfl,p2⟩;simp only[Cx H,Al,As H];exact⟨_,rfl,.inl ⟨rfl,c⟩⟩;simp only[Cx X,Al,As X];by_cases V:t.G=7;simp only[Ew V,Ak,Av V];by_cases C:0<=i.U;by_cases a2:i.U<=6;by_cases a3:i.K.length=0;rw[An (show i.U>=0 from C),An a2,Av ⟨C,a2,a3⟩,Ew ω];exact⟨_,rfl,.inr ⟨i.U.toNat,rfl,ω⟩⟩;rw[An (show i.U>=0 from C),An a2,As λh=>a3 h.2.2,Cx ω];exact⟨_,rfl,.inl ⟨rfl,c⟩⟩;rw[An (show i.U>=0 from C),Au a2,As λh=>a2 h.2.1];exact⟨_,rfl,.inl ⟨rfl,c⟩⟩;rw[Au (show ¬i.U>=0 from C),As λh=>C h.1];exact⟨_,rfl,.inl ⟨rfl,c⟩⟩;simp only[Cx V,Al,As V];by_cases Y:t.G=5;simp only[Ew Y,Ak,Av Y];by_cases H:i.U=0;simp only[Et H,Al,Av H];(have T:∀(m j w:Nat),j+m=i.K.length->w<=10000000->∃z,Am (S:=(Int×Int)) (E:=(Int⊕Int)) (λ(B,v8)=>bif v8<(i.K.length:Int)then((Ag i.K v8).bind λv9=>(We k t v9 b1 b2 Δ Ξ L J I).bind λD=>bif D<(0:Int)then some (.inr (.inl (-1)))else(bif B>(6:Int)then some (.inr (.inl (-1)))else some (.inl (Aa (B+D),Aa (v8+1)))))else some (.inr (.inr B))) ((w:Int),(j:Int))=some z/\Dg (match z with|.inl v=>v|.inr v=>v) ((Fo Δ (i.K.drop j) t).map (w + ·)):=by intro m;induction m with|zero=>intro j w hj q;have:j=i.K.length:=ω;subst this;exact⟨.inr (w:Int),Ej ψ,.inr ⟨w,by simp[Fo],rfl⟩⟩|succ m g=>intro j w hj q;have K:i.K[j]?=some i.K[j]:=Bi ω;generalize i.K[j]=e at K;have ab:=Jh (Bm K);rw[Mo K,A7z];obtain⟨v,s,P⟩:=a6 e t ω ω ht;(rcases P with⟨rfl,P⟩|⟨a,C,rfl⟩);refine⟨.inl (-1),Ej ?_,.inl ⟨rfl,λd h=>?_⟩⟩;simp only[An (ω:(j:Int)<(i.K.length:Int)),Ak,Bq rfl K,Ac,s];rfl;obtain⟨a,b,F,W,rfl⟩:=Aie h;have:=P a F;omega;have R:=A70 Δ e t a C;by_cases W:w>6;refine⟨.inl (-1),Ej ?_,.inl ⟨rfl,λd h=>?_⟩⟩;simp only[An (ω:(j:Int)<(i.K.length:Int)),Ak,Bq rfl K,Ac,s,Au (ω:¬(a:Int)<0),An (ω:(w:Int)>6),Al];obtain⟨a,b,F,W,rfl⟩:=Aie h;omega;have ew:Aa ((w:Int)+(a:Int))=((w+a:Nat):Int):=ξ;obtain⟨z,f,Q⟩:=g (j+1) (w+a) ω ω;refine⟨z,?_,?_⟩;rw[Ks (s':=(((w+a:Nat):Int),((j+1:Nat):Int)))];exact f;simp only[An (ω:(j:Int)<(i.K.length:Int)),Ak,Bq rfl K,Ac,s,Au (ω:¬(a:Int)<0),Au (ω:¬(w:Int)>6),Al,ew,Dl (show j<i.K.length by omega) ω];have A:∀o:B2,(((some a:B2).bind λa=>o.map (a + ·)).map (w + ·))=o.map (w+a + ·):=(by intro o;cases o<;>simp[Nat.add_assoc]);rw[C,A];exact Q);obtain⟨z,f,Q⟩:=T i.K.length 0 0 ω ω;have f:Am _ ((0:Int),(0:Int))=some z:=f;rw[f,Ac];rw[drop_zero,A]at Q;(cases z with|inl v=>exact⟨v,rfl,Q⟩|inr v=>exact⟨v,rfl,Q⟩);simp only[Ep H,Ak,As H];exact⟨_,rfl,.inl ⟨rfl,c⟩⟩;simp only[Cx Y,Al,As Y];by_cases H:i.U=0;simp only[Ew H,Ak];by_cases a3:i.K.length=0;rw[Av ⟨H,a3⟩,Ew ω];exact⟨_,rfl,.inr ⟨0,rfl,rfl⟩⟩;rw[As λh=>a3 h.2,Cx ω];exact⟨_,rfl,.inl ⟨rfl,c⟩⟩;simp only[Cx H,Al];rw[As λh=>H h.1];exact⟨_,rfl,.inl ⟨rfl,c⟩⟩;intro is ts hk hi ht;have N:=Ly is;rw[Wd];by_cases hl:ts.length=is.length;rw[Et ω];simp only[Al];(have T:∀(m j w:Nat),j+m=is.length->w<=10000000->∃z,Am (S:=(Int×Int)) (E:=(Int⊕Int)) (λ(v5,U)=>bif U<(ts.length:Int)then((Ag ts U).bind λB=>(Ag is U).bind λv9=>(Tn k B v9 b1 b2 Δ Ξ L J I).bind λG=>bif G<(0:Int)then some (.inr (.inl (-1)))else(bif v5>(6:Int)then some (.inr (.inl (-1)))else some (.inl (Aa (v5+G),Aa (U+1)))))else some (.inr (.inr v5))) ((w:Int),(j:Int))=some z/\Dg (match z with|.inl v=>v|.inr v=>v) ((Cg Δ (is.drop j) (ts.drop j)).map (w + ·)):=by intro m;induction m with|zero=>intro j w hj q;have:j=ts.length:=ω;subst this;refine⟨.inr (w:Int),Ej ψ,.inr ⟨w,?_,rfl⟩⟩;rw[drop_of_length_le ω,drop_of_length_le ω];simp[Cg]|succ m g=>intro j w hj q;have K:is[j]?=some is[j]:=Bi ω;generalize is[j]=e at K;have hu:ts[j]?=some ts[j]:=Bi ω;generalize ts[j]=u at hu;have ab:=Jh (Bm K);rw[Mo K,Mo hu,Mn];obtain⟨v,s,P⟩:=Z e u ω ω (ht u (Bm hu));(rcases P with⟨rfl,P⟩|⟨a,C,rfl⟩);refine⟨.inl (-1),Ej ?_,.inl ⟨rfl,λd h=>?_⟩⟩;simp only[An (ω:(j:Int)<(ts.length:Int)),Ak,Bq rfl K,Bq rfl hu,Ac,s];rfl;obtain⟨a,b,F,W,rfl⟩:=Aie h;have:=P a F;omega;have R:=Avp Δ e u a C;by_cases W:w>6;refine⟨.inl (-1),Ej ?_,.inl ⟨rfl,λd h=>?_⟩⟩;simp only[An (ω:(j:Int)<(ts.length:Int)),Ak,Bq rfl K,Bq rfl hu,Ac,s,Au (ω:¬(a:Int)<0),An (ω:(w:Int)>6),Al];obtain⟨a,b,F,W,rfl⟩:=Aie h;omega;have ew:Aa ((w:Int)+(a:Int))=((w+a:Nat):Int):=ξ;obtain⟨z,f,Q⟩:=g (j+1) (w+a) ω ω;refine⟨z,?_,?_⟩;rw[Ks (s':=(((w+a:Nat):Int),((j+1:Nat):Int)))];exact f;simp only[An (ω:(j:Int)<(ts.length:Int)),Ak,Bq rfl K,Bq rfl hu,Ac,s,Au (ω:¬(a:Int)<0),Au (ω:¬(w:Int)>6),Al,ew,Dl (show j<is.length by omega) ω];have A:∀o:B2,(((some a:B2).bind λa=>o.map (a + ·)).map (w + ·))=o.map (w+a + ·):=(by intro o;cases o<;>simp[Nat.add_assoc]);rw[C,A];exact Q);obtain⟨z,f,Q⟩:=T is.length 0 0 ω ω;have f:Am _ ((0:Int),(0:Int))=some z:=f;rw[f,Ac];rw[drop_zero,drop_zero,A]at Q;(cases z with|inl v=>exact⟨v,rfl,Q⟩|inr v=>exact⟨v,rfl,Q⟩);rw[Ep ω,Ah3 Δ is ts hl];exact⟨_,rfl,.inl ⟨rfl,c⟩⟩;intro e t hk K ht;have af:=Dy e;rw[We];unfold Zp Gz;rw[Anj hz t ht e.U,Ac];cases hf:Lx Δ t e.U with|none=>exact⟨-1,rfl,.inl ⟨rfl,c⟩⟩|some l=>have ac:=Adj hf;obtain⟨x,y,_,hx,_,hy,hl,aa⟩:=R9 hf;obtain⟨y6,_⟩:=hz x (Hb hx).2.2.2 y (Hb hy).2.2.2;have ad:l.length<=6:=(by rw[hl];simpa using y6);have a8:∀a∈H7 l (Ha Δ t.U e.U),Bu a<=200:=(Adl (show Gz Δ t e.U=some _ by unfold Gz;rw[hf];rfl)).1;obtain⟨v,s,P⟩:=M e.K (H7 l (Ha Δ t.U e.U)) ω ω a8;(have hd:Dg (if v<0 then -1 else 1+v) (((some l).map λl=>H7 l (Ha Δ t.U e.U)).bind λts=>(Cg Δ e.K ts).map (1 + ·)):=by rw[Option.map_some,Ac];(rcases P with⟨rfl,P⟩|⟨a,C,rfl⟩);refine .inl ⟨rfl,λd h=>?_⟩;(cases F:Cg Δ e.K (H7 l (Ha Δ t.U e.U))with|none=>rw[F]at h;cases h|some a=>rw[F]at h;have:=P a F;simp at h;omega);rw[C,As ω];exact .inr ⟨1+a,rfl,ω⟩);(have a7:v = -1\/(0<=v/\v<=10000000):=by(rcases P with⟨rfl,P⟩|⟨a,C,rfl⟩);exact .inl rfl;have:=Ado Δ _ _ a C;right;omega);refine⟨_,?_,hd⟩;simp only[okL,Fc,Al,Ahx Δ t.U e.U hs,Ac];refine Fi (Ha Δ t.U e.U) (λj=>((j:Int),H7 (l.take j) ((Ha Δ t.U e.U).take j))) (by simp[H7]) ω ?_ ?_;intro j b hj W h1 h2 h3;have F:l[j]?=some l[j]:=Bi ω;generalize l[j]=a at F;have N:=Zn (l.take j) ((Ha Δ t.U e.U).take j);have:(l.take j).length<=6:=ζ;simp only[h1,h2,h3,Ak,Ac,Bq rfl F,Ah1 F W];rw[Dj ζ];cases b<;>simp;intro h1;refine⟨H7 l (Ha Δ t.U e.U),?_,?_⟩;simp only[h1];rw[Hs ω,Hs (Nat.le_refl _)];rfl;rw[s,Ac];rcases a7 with h|h;subst h;rfl;rw[Au ω,As ω];simp only[Al];rw[Aa,Bz]<;>omega
def E5(Ξ:A1)(Θ:Ah)(v:Int):Ο Ah:=if v = -1 then some Θ else Ag Ξ v
def Ed(Δ:Ad)(Ξ:A1)(Θ:Ah)(o:At):Prop:=∀p∈o,∀v i t,p.1=Qw v i->E5 Ξ Θ v=some t->p.2=G0 (C7 Δ i t)
theorem Ans{α:Type}:∀(o:Λ (Β×α))(s:Β)(v:α),∀p∈G7 o s v,p∈o\/p=(s,v)
 |[],s,v,p,h=>by simp only[G7,Fh]at h;exact .inr h
 |q::o,s,v,p,h=>by unfold G7 at h;cases e:(s==q.1)with|true=>(rw[e]at h;simp only[Ak,En]at h;rcases h with h|h;exact .inr h;exact .inl (by simp[h]))|false=>rw[e]at h;simp only[Al,En]at h;rcases h with h|h;exact .inl (by simp[h]);rcases Ans o s v p h with h|h;exact .inl (by simp[h]);exact .inr h
theorem A72(D:Szv Δ)(G:Kk Δ)(b1:At)(b2:Aw)(Ξ:A1)(Θ:Ah)(f:Ed Δ Ξ Θ b1)(v:Int)(i:Af)(t:Ah)(e:E5 Ξ Θ v=some t)(b:Bu t<=200)(E:Fj v)(F:iR i)(hi:Br i<=1048576):∃s,N8 v i b1 b2 Δ Ξ Θ.G Θ.U Θ.R=some (G0 (C7 Δ i t),s)/\Ed Δ Ξ Θ s:=by unfold N8;rw[Aid v i E F hi,Ac];cases g:Fz b1 (Qw v i)with|true=>refine⟨b1,?_,f⟩;have:I5 b1 (Qw v i) 0=G0 (C7 Δ i t):=(by unfold I5;unfold Fz at g;rw[any_eq_true]at g;obtain⟨p,A,z⟩:=g;cases C:b1.find? (λp=>Qw v i==p.1)with|none=>exact absurd z (by have:=find?_eq_none.1 C p A;simpa using this)|some q=>have H:=find?_some C;exact f q (mem_of_find?_eq_some C) v i t ((Of _ _).1 H).symm e);simp only[Ak,Ac,Fc,Al,this]|false=>obtain⟨w,x,u⟩:=(A71 D G b1 b2 Ξ Θ.G Θ.U Θ.R 4000000).1 i t ω hi b;(have c:Pi v b1 b2 Δ Ξ Θ.G Θ.U Θ.R=some t:=by unfold Pi;unfold E5 at e;by_cases h:v = -1;rw[Av h]at e;cases e;have I:(Ah.mk Θ.G Θ.U Θ.R)=Θ:=(by cases Θ;rfl);rw[Ew h,I];rfl;rw[As h]at e;rw[Cx h,e];rfl);(have j:(bif decide (w>6)then some (-1)else some w:A9)=some (G0 (C7 Δ i t)):=by rw[<-u.clip];by_cases h:w>6;rw[An h,Av h];rfl;rw[Au h,As h];rfl);refine⟨G7 b1 (Qw v i) (G0 (C7 Δ i t)),?_,?_⟩;simp only[Al,Ac,Bool.not_false,Ak,c,x,j];intro p hp y B t' l k;rcases Ans _ _ _ p hp with h|h;exact f p h y B t' l k;subst h;obtain⟨rfl,rfl⟩:=A7x l;rw[e]at k;cases k;rfl
def F6(a b:Int):Int:=if a<b then -1 else if a>b then 1 else 0
def Fk(a b:Int):Int:=if a=0 then b else a
theorem H9{a b:Int}:F6 a b=0↔a=b:=by unfold F6;split<;>(try split)<;>omega
theorem Se(a b:Int):N9 a b=some (F6 a b):=by unfold N9 Acb F6;simp only[Ac,bne_self_eq_false,Al];by_cases h:a<b;rw[An h,Av h];rfl;rw[Au h,As h];by_cases e:a>b;rw[An e,Av e];rfl;rw[Au e,As e];rfl
theorem Avr(a b:Int):Abx a b=some (F6 a b):=Se a b
theorem Zq(a b:Int):Qi [a,b]=some (Fk a b):=by unfold Qi Fk;by_cases e:a=0;rw[Av e];by_cases h:b=0;refine Ml 2 (λj=>(j:Int)) rfl ?_ ⟨.inr (),rfl,by rw[h]⟩;intro j g;(match j,g with|0,_=>subst e;rfl|1,_=>subst h;rfl);refine Ml 1 (λj=>(j:Int)) rfl ?_ ⟨.inl b,?_,rfl⟩;intro j g;(match j,g with|0,_=>subst e;rfl);show(bif(b != 0)then _ else _)=_;rw[Ep h];rfl;rw[As e];refine Ml 0 (λj=>(j:Int)) rfl (λj g=>ω) ⟨.inl a,?_,rfl⟩;show(bif(a != 0)then _ else _)=_;rw[Ep e];rfl
theorem Aif(a b:Int)(h:a≠b):Y6 (decide (a<b))=some (F6 a b):=by unfold Y6 F6;by_cases e:a<b;rw[An e,Av e];rfl;rw[Au e,As e,Av ω];rfl
theorem Aig(a b:Int)(h:a≠b):Wb (decide (a<b))=some (F6 a b):=Aif a b h
theorem Aih(a b:Int)(h:a≠b):Vu (decide (a<b))=some (F6 a b):=Aif a b h
def Gn{α:Type}(g:α->α->Int):Λ α->Λ α->Int
 |x::xs,y::e=>Fk (g x y) (Gn g xs e)
 |_,_=>0
theorem Adp(g:α->α->Int)(l m:Λ α){step:Int->Ο (Int⊕(Int⊕Unit))}(f:l.length=m.length)(hb:l.length<4611686018427387904)(c:∀(j:Nat)(x y:α),l[j]?=some x->m[j]?=some y->decide ((j:Int)<(l.length:Int))=true->Ag l (j:Int)=some x->Ag m (j:Int)=some y->decide ((j:Int)>=(m.length:Int))=false->Aa ((j:Int)+1)=((j+1:Nat):Int)->step (j:Int)=if g x y=0 then some (.inl ((j+1:Nat):Int))else some (.inr (.inl (g x y))))(v:decide ((l.length:Int)<(l.length:Int))=false->step (l.length:Int)=some (.inr (.inr ()))):∃z,Am step 0=some z/\(match z with|.inl r=>r=Gn g l m/\r≠0|.inr _=>Gn g l m=0):=by(have q:∀(n j:Nat),j+n=l.length->∃z,Am step (j:Int)=some z/\(match z with|.inl r=>r=Gn g (l.drop j) (m.drop j)/\r≠0|.inr _=>Gn g (l.drop j) (m.drop j)=0):=by intro n;induction n with|zero=>intro j w;have:j=l.length:=ω;subst this;refine⟨.inr (),Ej (v ψ),?_⟩;rw[drop_of_length_le ω];simp[Gn]|succ n ih=>intro j w;have k:l[j]?=some l[j]:=Bi ω;have p:m[j]?=some m[j]:=Bi ω;generalize l[j]=x at k;generalize m[j]=y at p;have h:=c j x y k p (An ω) (Bq rfl k) (Bq rfl p) (Au ω) (Dl (show j<l.length by omega) hb);rw[Mo k,Mo p];by_cases i:g x y=0;rw[Av i]at h;obtain⟨z,b,s⟩:=ih (j+1) ω;refine⟨z,by rw[Ks h];exact b,?_⟩;have e:Gn g (x::l.drop (j+1)) (y::m.drop (j+1))=Gn g (l.drop (j+1)) (m.drop (j+1)):=(by simp only[Gn,Fk,i,if_true]);(cases z with|inl r=>simp only[e];exact s|inr u=>simp only[e];exact s);rw[As i]at h;refine⟨.inl (g x y),Ej h,?_,i⟩;simp only[Gn,Fk,i,if_false]);exact q l.length 0 ω
theorem Aii(f:α->α->A9)(g:α->α->Int)(l m:Λ α)(s:l.length=m.length)(hb:l.length<4611686018427387904)(p:∀(j:Nat)(x y:α),l[j]?=some x->m[j]?=some y->f x y=some (g x y)):((Am (S:=Int) (E:=(Int⊕Unit)) (λb=>bif b<(l.length:Int)then((Ag l b).bind λq=>bif b>=(m.length:Int)then some (.inr (.inl 1))else((Ag m b).bind λv=>(f q v).bind λc=>bif(c != (0:Int))then some (.inr (.inl c))else some (.inl (Aa (b+1)))))else some (.inr (.inr ()))) 0).bind λz=>match z with|.inl i=>some i|.inr _=>bif(l.length:Int)<(m.length:Int)then some (-1)else some 0)=some (Gn g l m):=by refine Adc (Adp g l m s hb ?_ (λh=>by simp only[h];rfl)) ?_;intro j x y w C D F G B A;simp only[D,F,G,B,A,Ak,Al,Ac,p j x y w C];by_cases e:g x y=0;rw[Et e,Av e];rfl;rw[Ep e,As e];rfl;rintro(r|u) k;rw[k.1];simp only;rw[Au ω,show Gn g l m=0 from k];rfl
def Oi(x y:F3):Int:=Fk (F6 x.v y.v) (F6 x.C y.C)
def Eh(a b:Bp):Int:=if a.T.length=b.T.length then Fk (Gn Oi a.T b.T) (F6 a.Q b.Q)else F6 a.T.length b.T.length
theorem Aij(a b:Bp)(g:a.T.length<1099511627776):Pd a b=some (Eh a b):=by unfold Pd Eh;rw[Se,Ac];by_cases h:a.T.length=b.T.length;rw[Et (H9.2 ω),Av h];simp only[Al];have:=Aii Abw Oi a.T b.T h ω (λj x y _ _=>by unfold Abw Oi;rw[Se,Avr];simp only[Ac,Zq]);rw[show Agj a.T b.T=_ from this,Ac,Avr];simp only[Ac,Zq];rw[Ep λe=>h (by have:=H9.1 e;omega),As h];rfl
theorem Aik(a b:Bp)(w:a.T.length<1099511627776):Lb a b=some (Eh a b):=by unfold Lb Eh;by_cases h:a.T.length=b.T.length;rw[Et ω,Av h];simp only[Al];refine Adc (Adp Oi a.T b.T h ω ?_ (λh=>by simp only[h];rfl)) ?_;intro j x y A B p q s i g;simp only[p,q,s,g,Ak,Ac];by_cases c:x.v=y.v;rw[Et c];by_cases k:x.C=y.C;rw[Et k];rw[Av (by unfold Oi;rw[H9.2 c,H9.2 k];rfl)];rfl;rw[Ep k,Aig _ _ k];have e:Oi x y=F6 x.C y.C:=(by unfold Oi;rw[H9.2 c];rfl);rw[e,As λe=>k (H9.1 e)];rfl;rw[Ep c,Aig _ _ c];have e:Oi x y=F6 x.v y.v:=(by unfold Oi Fk;rw[As λe=>c (H9.1 e)]);rw[e,As λe=>c (H9.1 e)];rfl;rintro(r|u) f;obtain⟨rfl,v⟩:=f;unfold Fk;rw[As v];have f:Gn Oi a.T b.T=0:=f;rw[f];simp only[Fk,if_true];by_cases k:a.Q=b.Q;rw[Et k,H9.2 k];rfl;rw[Ep k,Aig _ _ k];rfl;rw[Ep ω,As h,Aig _ _ ω];rfl
mutual
def Fp:Af->Af->Int
 |⟨n,k⟩,j=>if n=j.U then(if k.length=j.K.length then W3 k j.K else F6 k.length j.K.length)else F6 n j.U
def W3:List Af->List Af->Int
 |x::xs,y::e=>Fk (Fp x y) (W3 xs e)
 |[],_=>0
 |_::_,[]=>0
end
theorem Ant(i j:Af):Fp i j=if i.U=j.U then(if i.K.length=j.K.length then W3 i.K j.K else F6 i.K.length j.K.length)else F6 i.U j.U:=by cases i;simp only[Fp]
theorem Ail:∀l m:A2,W3 l m=Gn Fp l m
 |x::xs,y::e=>by simp only[W3,Gn,Ail xs e]
 |[],_=>by simp[W3,Gn]
 |_::_,[]=>by simp[W3,Gn]
theorem Avs:∀(n k:Nat)(i j:Af),Br i<=n->2*n<=k->n<1099511627776->Ru k i j=some (Fp i j):=by intro n;induction n with|zero=>intro k i j h;have:=Dy i;omega|succ n ih=>intro k i j h u v;obtain⟨k,rfl⟩:∃b,k=b+2:=⟨k-2,ω⟩;have w:=Dy i;have c:=Ly i.K;rw[Ru,Ant,Se,Se];simp only[Ac,Zq];by_cases g:i.U=j.U;rw[Av g];by_cases p:i.K.length=j.K.length;rw[Av p,Et (by unfold Fk;rw[H9.2 g,H9.2 ω];rfl),Ail];simp only[Al];have:=Aii (Ru k) Fp i.K j.K p ω λq x y s A=>ih k x y (by have:=Jh (Bm s);omega) ω ω;rw[Ach];refine Eq.trans (congrArg (λq=>Option.bind q _) this) rfl;have e:Fk (F6 i.U j.U) (F6 (i.K.length:Int) (j.K.length:Int))=F6 i.K.length j.K.length:=(by unfold Fk;rw[H9.2 g];rfl);rw[As p,e,Ep λe=>p (by have:=H9.1 e;omega)];rfl;have e:Fk (F6 i.U j.U) (F6 (i.K.length:Int) (j.K.length:Int))=F6 i.U j.U:=(by unfold Fk;rw[As λe=>g (H9.1 e)]);rw[As g,e,Ep λe=>g (H9.1 e)];rfl
theorem Avt:∀(n k:Nat)(i j:Af),Br i<=n->2*n<=k->n<1099511627776->Me k i j=some (Fp i j):=by intro n;induction n with|zero=>intro k i j h;have:=Dy i;omega|succ n ih=>intro k i j h F G;obtain⟨k,rfl⟩:∃g,k=g+2:=⟨k-2,ω⟩;have H:=Dy i;have s:=Ly i.K;rw[Me,Ant];by_cases e:i.U=j.U;rw[Av e,Et e];simp only[Al];rw[Aci];by_cases p:i.K.length=j.K.length;rw[Av p,Et ω,Ail];simp only[Al];have:=Adp Fp i.K j.K p ω (step:=λv=>bif v<(i.K.length:Int)then((Ag i.K v).bind λf=>(Ag j.K v).bind λc=>(Me k f c).bind λB=>bif(B != (0:Int))then some (.inr (.inl B))else some (.inl (Aa (v+1))))else some (.inr (.inr ()))) (λq x y D I e p E A l=>by simp only[e,p,E,l,Ak,Ac,ih k x y (by have:=Jh (Bm D);omega) ω ω];by_cases w:Fp x y=0;rw[Et w,Av w];rfl;rw[Ep w,As w];rfl) (λh=>by simp only[h];rfl);obtain⟨z,b,C⟩:=this;rw[b,Ac];(cases z with|inl r=>rw[C.1];rfl|inr u=>rw[show Gn Fp i.K j.K=0 from C];rfl);rw[As p,Ep ω,Aif _ _ ω];rfl;rw[As e,Ep e,Aif _ _ e];rfl
def Oj(x y:Bd):Int:=Fk (F6 x.v y.v) (Fp x.I y.I)
def Pt(x y:Bf):Int:=Fk (Eh x.L y.L) (F6 x.P y.P)
def D5(a b:A4):Int:=if a.F.length=b.F.length then Fk (Gn Oj a.F b.F) (if a.A.length=b.A.length then Gn Pt a.A b.A else F6 a.A.length b.A.length)else F6 a.F.length b.F.length
structure MSz(m:A4):Prop where
 nf:m.F.length<=1048576
 na:m.A.length<=1048576
 fi:∀f∈m.F,Br f.I<=1048576
 fr:∀f∈m.F,iR f.I/\Fj f.v
 al:∀a∈m.A,a.L.T.length<=1048576
theorem Avu(a b:A4)(g:MSz a):Td a b=some (D5 a b):=by have s:=g.nf;have u:=g.na;unfold Td D5;rw[Se,Ac];by_cases h:a.F.length=b.F.length;rw[Et (H9.2 ω),Av h];simp only[Al];have:=Aii Ab0 Oj a.F b.F h ω (λj x y k q=>by unfold Ab0 Oj;rw[Se,Avs 1048576 4000000 x.I y.I (g.fi x (Bm k)) ω ω];simp only[Ac,Zq]);rw[show Ago a.F b.F=_ from this,Ac,Se];simp only[Ac,Zq];by_cases p:Gn Oj a.F b.F=0;simp only[p,Fk,if_true];by_cases i:a.A.length=b.A.length;rw[Et (H9.2 ω),Av i];simp only[Al];have:=Aii Ab1 Pt a.A b.A i ω (λj x y k q=>by unfold Ab1 Pt;rw[Se,Aij x.L y.L (by have:=g.al x (Bm k);omega)];simp only[Ac,Zq]);rw[show Agp a.A b.A=_ from this];rfl;rw[Ep λe=>i (by have:=H9.1 e;omega),As i];rfl;simp only[Fk,As p];rw[Ep p];rfl;rw[Ep λe=>h (by have:=H9.1 e;omega),As h];rfl
theorem Aim(a b:A4)(p:MSz a):Pe a b=some (D5 a b):=by have q:=p.nf;have s:=p.na;unfold Pe D5;by_cases h:a.F.length=b.F.length;rw[Et ω,Av h];simp only[Al];refine Adc (Adp Oj a.F b.F h ω ?_ (λh=>by simp only[h];rfl)) ?_;intro j x y v B q s w i g;simp only[q,s,w,g,Ak,Ac,Avt 1048576 4000000 x.I y.I (p.fi x (Bm v)) ω ω];by_cases c:x.v=y.v;rw[Et c];have e:Oj x y=Fp x.I y.I:=(by unfold Oj Fk;rw[Av (H9.2 c)]);rw[e];by_cases k:Fp x.I y.I=0;rw[Et k,Av k];rfl;rw[Ep k,As k];rfl;rw[Ep c,Aih _ _ c];have e:Oj x y=F6 x.v y.v:=(by unfold Oj Fk;rw[As λe=>c (H9.1 e)]);rw[e,As λe=>c (H9.1 e)];rfl;rintro(r|u) f;obtain⟨rfl,C⟩:=f;unfold Fk;rw[As C];have f:Gn Oj a.F b.F=0:=f;rw[f];simp only[Fk,if_true];by_cases A:a.A.length=b.A.length;rw[Et ω,Av A];simp only[Al];refine Adc (Adp Pt a.A b.A A ω ?_ (λh=>by simp only[h];rfl)) ?_;intro j x y v B q s w i g;simp only[q,s,w,g,Ak,Ac,Aik x.L y.L (by have:=p.al x (Bm v);omega)];by_cases c:Eh x.L y.L=0;rw[Et c];have e:Pt x y=F6 x.P y.P:=(by unfold Pt Fk;rw[Av c]);rw[e];by_cases k:x.P=y.P;rw[Et k,Av (H9.2 k)];rfl;rw[Ep k,Aih _ _ k,As λe=>k (H9.1 e)];rfl;have e:Pt x y=Eh x.L y.L:=(by unfold Pt Fk;rw[As c]);rw[Ep c,e,As c];rfl;rintro(r|u) f;rw[f.1];rw[show Gn Pt a.A b.A=0 from f];rw[Ep ω,As A,Aih _ _ ω];rfl;rw[Ep ω,As h,Aih _ _ ω];rfl
def L0{α:Type}(f:α->Int)(l:Λ α)(x:α)(j:Nat):Bool:=j==0||(match l[j-1]? with|some y=>decide (f y<f x)|none=>false)
def Zr(l:Cr)(x:F3)(j:Nat):Bool:=decide (-1<=x.v/\x.v<3000/\x.C≠0/\-1048576<=x.C/\x.C<=1048576)&&L0 (·.v) l x j
def Ii(a:Bp):Bool:=decide (-1048576<=a.Q/\a.Q<=1048576/\a.T.length<=16)&&a.T.zipIdx.all (λq=>Zr a.T q.1 q.2)
theorem Avv(n:Int):Yz n=some (decide (-1048576<=n/\n<=1048576)):=by unfold Yz;by_cases h:(-1048576:Int)<=n<;>simp[h]
theorem A73(n:Int):Ab7 n=some (decide (-1<=n/\n<3000)):=by unfold Ab7;by_cases h:(-1:Int)<=n<;>simp[h]
theorem Anu{α S E:Type}(f:α->Int)(l:Λ α){x:α}{j:Nat}(q:l[j]?=some x)(i:l.length<4611686018427387904)(c b:Ο (S⊕E)):(bif decide ((j:Int)>0)then((Ag l (Aa ((j:Int)-1))).bind λg=>bif decide (f g>=f x)then c else b)else b)=bif L0 f l x j then b else c:=by have u:=Dq q;unfold L0;by_cases h:j=0;subst h;rfl;rw[An ω];have e:Aa ((j:Int)-1)=((j-1:Nat):Int):=ξ;have k:l[j-1]?=some l[j-1]:=Bi ω;rw[e,Bq rfl k,k];have s:(j==0)=false:=(by simpa using h);simp only[Ak,Ac,s,Bool.false_or];by_cases p:f l[j-1]<f x;rw[Au ω,An p];rfl;rw[An ω,Au p];rfl
theorem Avw(a:Bp):Te a=some (Ii a):=by unfold Te Ii;rw[Avv];simp only[Ac];by_cases e : -1048576<=a.Q/\a.Q<=1048576;rw[An e];by_cases p:a.T.length<=16;rw[Au (ω:¬(a.T.length:Int)>16),An ⟨e.1,e.2,p⟩];simp only[Fc,Al,Ac,Bool.true_and];refine(Wx a.T (λq=>Zr a.T q.1 q.2) (λj=>(j:Int)) rfl ω (rt:=true) (rf:=false) ?_ ?_).trans (by rw[R5]);intro j x s _ e p u;simp only[e,p,u,Ak,Ac,A73,Avv,Anu (·.v) a.T s ω,Zr];by_cases g : -1<=x.v/\x.v<3000;by_cases i:x.C=0;rw[An g,Ew i,Au λh=>h.2.2.1 i];exact⟨nofun,λ_=>⟨.inl false,rfl,rfl⟩⟩;by_cases k : -1048576<=x.C/\x.C<=1048576;rw[An g,Cx i,An k,An ⟨g.1,g.2,i,k.1,k.2⟩];(cases L0 (·.v) a.T x j with|true=>exact⟨λ_=>rfl,λh=>by cases h⟩|false=>exact⟨nofun,λ_=>⟨.inl false,rfl,rfl⟩⟩);rw[An g,Cx i,Au k,Au λh=>k h.2.2.2];exact⟨nofun,λ_=>⟨.inl false,rfl,rfl⟩⟩;rw[Au g,Au λh=>g ⟨h.1,h.2.1⟩];exact⟨nofun,λ_=>⟨.inl false,rfl,rfl⟩⟩;intro h _;exact⟨.inr (),by simp only[h];rfl,rfl⟩;rw[An (ω:(a.T.length:Int)>16),Au λh=>p h.2.2];rfl;rw[Au e,Au λh : -1048576<=a.Q/\a.Q<=1048576/\a.T.length<=16=>e ⟨h.1,h.2.1⟩];rfl
theorem Avx(a:Bp):Th a=some (Ii a):=by unfold Th Ii;by_cases k:a.T.length<=16;rw[Au (ω:¬(a.T.length:Int)>16)];by_cases p : -1048576<=a.Q;rw[Au (ω:¬a.Q < -1048576)];by_cases s:a.Q<=1048576;rw[Au (ω:¬a.Q>1048576),An ⟨p,s,k⟩];simp only[Al,Ac,Bool.true_and];refine(Wx a.T (λq=>Zr a.T q.1 q.2) (λj=>(j:Int)) rfl ω (rt:=true) (rf:=false) ?_ ?_).trans (by rw[R5]);intro j x w _ p k s;simp only[p,k,s,Ak,Ac,Anu (·.v) a.T w ω,Zr];by_cases e:x.v < -1;rw[An e,Au λh=>ω];exact⟨nofun,λ_=>⟨.inl false,rfl,rfl⟩⟩;by_cases g:x.v>=3000;rw[Au e,An g,Au λh=>ω];exact⟨nofun,λ_=>⟨.inl false,rfl,rfl⟩⟩;by_cases i:x.C=0;rw[Au e,Au g,Ew i,Au λh=>ω];exact⟨nofun,λ_=>⟨.inl false,rfl,rfl⟩⟩;by_cases u:x.C < -1048576;rw[Au e,Au g,Cx i,An u,Au λh=>ω];exact⟨nofun,λ_=>⟨.inl false,rfl,rfl⟩⟩;by_cases v:x.C>1048576;rw[Au e,Au g,Cx i,Au u,An v,Au λh=>ω];exact⟨nofun,λ_=>⟨.inl false,rfl,rfl⟩⟩;rw[Au e,Au g,Cx i,Au u,Au v,An ω];(cases L0 (·.v) a.T x j with|true=>exact⟨λ_=>rfl,λh=>by cases h⟩|false=>exact⟨nofun,λ_=>⟨.inl false,rfl,rfl⟩⟩);intro h _;exact⟨.inr (),by simp only[h];rfl,rfl⟩;rw[An (ω:a.Q>1048576),Au λh : -1048576<=a.Q/\a.Q<=1048576/\a.T.length<=16=>ω];rfl;rw[An (ω:a.Q < -1048576),Au λh : -1048576<=a.Q/\a.Q<=1048576/\a.T.length<=16=>ω];rfl;rw[An (ω:(a.T.length:Int)>16),Au λh : -1048576<=a.Q/\a.Q<=1048576/\a.T.length<=16=>ω];rfl
structure Kz(Δ:List Ao)(Ξ:List Ah)(Θ:Ah):Prop where
 vd:Ih Δ
 sh:Kk Δ
 sz:∀v t,E5 Ξ Θ v=some t->Bu t<=200
 nv:Ξ.length<=3000
theorem Avy(Ξ:A1)(Θ:Ah)(v:Int):(E5 Ξ Θ v).isSome=decide (-1<=v/\v<Ξ.length):=by unfold E5;by_cases h:v = -1;rw[Av h];subst h;rw[An ω];rfl;rw[As h];cases e:Ag Ξ v with|none=>(rcases Ud e with g|g<;>rw[Au ω]<;>rfl)|some t=>have:=Hb e;rw[An ω];rfl
section
variable(b1:At)(b2:Aw)(Δ:Ad)(Ξ:A1)(Θ:Ah)
theorem Avz(v:Int)(f c:Int)(b:A1):Vx v b1 b2 Δ Ξ f c b=some (E5 Ξ Θ v).isSome:=by rw[Avy];unfold Vx;by_cases h:v>=-1;rw[An h];by_cases e:v<(Ξ.length:Int);rw[An e,An ⟨h,e⟩];rfl;rw[Au e,Au λg=>e g.2];rfl;rw[Au h,Au λg : -1<=v/\v<(Ξ.length:Int)=>h g.1];rfl
theorem Av0{v:Int}{t:Ah}(e:E5 Ξ Θ v=some t):Pi v b1 b2 Δ Ξ Θ.G Θ.U Θ.R=some t:=by unfold Pi;unfold E5 at e;by_cases h:v = -1;rw[Av h]at e;cases e;have b:(Ah.mk Θ.G Θ.U Θ.R)=Θ:=(by cases Θ;rfl);rw[Ew h,b];rfl;rw[As h]at e;rw[Cx h,e];rfl
def Zs(t:F3):Bool:=match E5 Ξ Θ t.v with|some u=>u.G==1|none=>false
def J2(l:Bp):Bool:=l.T.all (Zs Ξ Θ)
theorem A74(l:Bp)(c:l.T.length<=1048576):Vt l b1 b2 Δ Ξ Θ.G Θ.U Θ.R=some (J2 Ξ Θ l):=by unfold Vt Agr Agz;have k:=Auv l.T (λt=>!Zs Ξ Θ t) ω (J:=λz=>match z with|.inl b=>some b|.inr _=>some (-1)) (step:=λg=>bif g<(l.T.length:Int)then((Ag l.T g).bind λp=>(Y0 p b1 b2 Δ Ξ Θ.G Θ.U Θ.R).bind λq=>bif q then some (.inr (.inl g))else some (.inl (Aa (g+1))))else some (.inr (.inr ()))) (by intro j x B s u v;have e:Y0 x b1 b2 Δ Ξ Θ.G Θ.U Θ.R=some (!Zs Ξ Θ x):=(by unfold Y0 Zs;rw[Avz b1 b2 Δ Ξ Θ,Ac];cases w:E5 Ξ Θ x.v with|none=>rfl|some t=>rw[Av0 b1 b2 Δ Ξ Θ w];rfl);simp only[s,u,v,Ak,Ac,e]) (λh=>by simp only[h];rfl) (λ_=>rfl) rfl;obtain⟨i,y,A⟩:=k;erw[y];simp only[Ac,A];congr 1;unfold J2;rw[any_eq_not_all_not];simp
theorem Ain(x:Bh)(v:Int):Rw x v=some (match E5 x.V x.E v with|some t=>(t,true)|none=>(⟨0,0,[]⟩,false)):=by unfold Rw E5;by_cases h:v = -1;rw[Ew h,Av h];rfl;rw[Cx h,As h];cases g:Ag x.V v with|none=>(rcases Ud g with e|e;simp only[An e,Ak,Al,Ac];by_cases i:v<0;simp only[An i,Ak,Al,Ac];simp only[Au i,An (show v>=(x.V.length:Int)from e),Ak,Al,Ac])|some t=>obtain⟨k,p,_⟩:=Hb g;simp only[Au (ω:¬v<0),Au (ω:¬v>=(x.V.length:Int)),Al,Ac]
theorem Av1(x:Bh)(l:Bp)(b:l.T.length<=1048576):Ti x l=some (J2 x.V x.E l):=by unfold Ti;refine(Uc l.T (Zs x.V x.E) (λj=>(j:Int)) rfl ω (rt:=true) (rf:=false) ?_ ?_).trans (by rw[R5];rfl);intro j t p g i k;simp only[g,i,k,Ak,Ac,Ain];unfold Zs;(cases q:E5 x.V x.E t.v with|none=>exact⟨nofun,λ_=>⟨.inl false,rfl,rfl⟩⟩|some u=>simp only[Fc,Al];by_cases e:u.G=1;rw[Ew e,Et e];exact⟨λ_=>rfl,λh=>by cases h⟩;rw[Cx e,Ep e];exact⟨nofun,λ_=>⟨.inl false,rfl,rfl⟩⟩);intro h;exact⟨.inr (),by simp only[h];rfl,rfl⟩
def Dt(f:Bd):Int:=match E5 Ξ Θ f.v with|some t=>G0 (C7 Δ f.I t)|none => -1
theorem Aio(f:Bd) : -1<=Dt Δ Ξ Θ f/\Dt Δ Ξ Θ f<=6:=by unfold Dt;cases E5 Ξ Θ f.v with|none=>simp|some t=>rcases Ah4 (C7 Δ f.I t)with⟨h,_⟩|⟨d,_,e,h⟩<;>simp only[h]<;>omega
def Nv(m:A4):Bool:=m.F.all (λf=>decide (0<=Dt Δ Ξ Θ f))&&m.A.all (λa=>decide (0<=a.P)&&J2 Ξ Θ a.L)
def Bo(l:Ba):Int:=(l.map (Dt Δ Ξ Θ)).sum
def Co(l:A7):Int:=(l.map (·.P)).sum
def Qx(l:A7)(x:Bf)(j:Nat):Bool:=j==0||(match l[j-1]? with|some y=>decide (Eh y.L x.L<0)|none=>false)
def M9(l:Ba)(f:Bd)(j:Nat):Bool:=decide (1<=Dt Δ Ξ Θ f)&&L0 (·.v) l f j
def Lh(l:A7)(a:Bf)(j:Nat):Bool:=decide (1<=a.P)&&Ii a.L && !(a.L.T.length==0)&&J2 Ξ Θ a.L&&Qx l a j
def Ji(m:A4):Bool:=m.F.zipIdx.all (λq=>M9 Δ Ξ Θ m.F q.1 q.2)&&m.A.zipIdx.all (λq=>Lh Ξ Θ m.A q.1 q.2)&&decide (Bo Δ Ξ Θ m.F+Co m.A<=6)
variable{b1 Δ Ξ Θ}
theorem Adq(i:Kz Δ Ξ Θ)(h:Ed Δ Ξ Θ b1)(f:Bd)(g:Fj f.v)(k:iR f.I)(hi:Br f.I<=1048576)(b:(E5 Ξ Θ f.v).isSome=true):∃c,N8 f.v f.I b1 b2 Δ Ξ Θ.G Θ.U Θ.R=some (Dt Δ Ξ Θ f,c)/\Ed Δ Ξ Θ c:=by cases e:E5 Ξ Θ f.v with|none=>rw[e]at b;cases b|some t=>obtain⟨c,p,q⟩:=A72 i.vd.szv i.sh b1 b2 Ξ Θ h f.v f.I t e (i.sz _ _ e) g k hi;refine⟨c,?_,q⟩;rw[p];unfold Dt;rw[e]
theorem A75(P:Kz Δ Ξ Θ)(V:Ed Δ Ξ Θ b1)(m:A4)(l:MSz m) :
  ∃s,Ab9 m b1 b2 Δ Ξ Θ.G Θ.U Θ.R=some (Nv Δ Ξ Θ m,s)/\Ed Δ Ξ Θ s:=by
 have T:=l.nf
 have W:=l.na
 unfold Ab9
 refine Adb (λs=>(Nv Δ Ξ Θ m,s)) ?_
 obtain⟨r,U,N⟩:=Add (M:=List (Β×Int)) (R:=Bool×List (Β×Int)) m.F (λq=>decide (0<=Dt Δ Ξ Θ q.1)) (λj o=>((j:Int),o)) (Ed Δ Ξ Θ)
  (λr=>Ed Δ Ξ Θ r.2/\r.1=m.A.all λa=>decide (0<=a.P)&&J2 Ξ Θ a.L) (λr=>Ed Δ Ξ Θ r.2/\r.1=false) b1
  (s0:=((0:Int),b1))
  (step:=(λ(A,x)=>
   bif A<(m.F.length:Int)then(
   (Ag m.F A).bind λF=>
   (Vx F.v x b2 Δ Ξ Θ.G Θ.U Θ.R).bind λB=>
   bif(!B)then some (.inr (.inl (false,x)))
   else(
   (N8 F.v F.I x b2 Δ Ξ Θ.G Θ.U Θ.R).bind λg=>
   bif g.1<(0:Int)then some (.inr (.inl (false,g.2)))
   else some (.inl (Aa (A+1),g.2))))
   else some (.inr (.inr x)):Int×List (Β×Int)->B1))
  (J:=(λz=>match z with
   |.inl (L,I)=>some (L,I)
   |.inr b=>(Am (S:=Int) (E:=((Bool×List (Β×Int))⊕Unit)) (λc=>
     bif c<(m.A.length:Int)then(
     (Ag m.A c).bind λu=>
     bif u.P<(0:Int)then some (.inr (.inl (false,b)))
     else(
     (Vt u.L b b2 Δ Ξ Θ.G Θ.U Θ.R).bind λH=>
     bif(!H)then some (.inr (.inl (false,b)))
     else some (.inl (Aa (c+1)))))
     else some (.inr (.inr ()))) 0).bind λz=>match z with
      |.inl (G,D)=>some (G,D)
      |.inr _=>some (true,b)))
  rfl V ω (by
   intro j f o y K _ p w v
   have k:=Bm K
   simp only[p,w,v,Ak,Ac,Avz o b2 Δ Ξ Θ]
   cases i:(E5 Ξ Θ f.v).isSome with
   |false=>
    have e:Dt Δ Ξ Θ f = -1:=by
     unfold Dt
     cases Q:E5 Ξ Θ f.v with
     |none=>rfl
     |some t=>rw[Q]at i;cases i
    rw[e]
    exact⟨nofun,λ_=>⟨_,rfl,_,rfl,y,rfl⟩⟩
   |true=>
    obtain⟨s,d1,d2⟩:=Adq b2 P y f (l.fr f k).2 (l.fr f k).1 (l.fi f k) i
    simp only[Fc,Al,d1,Ac]
    by_cases C:0<=Dt Δ Ξ Θ f
    .rw[An C,Au ω]
     exact⟨λ_=>⟨s,rfl,d2⟩,λh=>by cases h⟩
    .rw[Au C,An ω]
     exact⟨nofun,λ_=>⟨_,rfl,_,rfl,d2,rfl⟩⟩) (by
   intro o y p _
   refine⟨.inr o,by simp only[p];rfl,?_⟩
   refine⟨(m.A.all λa=>decide (0<=a.P)&&J2 Ξ Θ a.L,o),?_,y,rfl⟩
   refine(Uc m.A (λa=>decide (0<=a.P)&&J2 Ξ Θ a.L) (λj=>(j:Int)) rfl ω (rt:=(true,o)) (rf:=(false,o)) ?_ ?_).trans (by cases m.A.all (λa=>decide (0<=a.P)&&J2 Ξ Θ a.L)<;>rfl)
   .intro j a K p w v
    simp only[p,w,v,Ak,Ac,A74 o b2 Δ Ξ Θ a.L (l.al a (Bm K))]
    by_cases C:0<=a.P
    .rw[An C,Au ω]
     cases J2 Ξ Θ a.L with
     |true=>exact⟨λ_=>rfl,λh=>by cases h⟩
     |false=>exact⟨nofun,λ_=>⟨_,rfl,rfl⟩⟩
    .rw[Au C,An ω]
     exact⟨nofun,λ_=>⟨_,rfl,rfl⟩⟩
   .intro h;exact⟨.inr (),by simp only[h];rfl,rfl⟩)
 refine⟨r,U,r.2,?_,?_⟩
 .unfold Nv
  rw[<-Aht]
  rcases N with⟨p,w,v⟩|⟨p,w,v⟩
  .rw[p,Bool.true_and,<-v]
  .rw[p,Bool.false_and,<-v]
 .rcases N with⟨p,w,v⟩|⟨p,w,v⟩<;>exact w
theorem Anv(g:Bd->Int){l:Ba}{j:Nat}{x:Bd}(h:l[j]?=some x):((l.take (j+1)).map g).sum=((l.take j).map g).sum+g x:=by rw[Cs h];simp
theorem Anw{l:A7}{j:Nat}{x:Bf}(h:l[j]?=some x):Co (l.take (j+1))=Co (l.take j)+x.P:=by unfold Co;rw[Cs h];simp
theorem A76(H:Kz Δ Ξ Θ)(z:Ed Δ Ξ Θ b1)(m:A4)(k:MSz m)(hp:Nv Δ Ξ Θ m=true):∃p:Int×List (Β×Int),Qd m b1 b2 Δ Ξ Θ.G Θ.U Θ.R=some p/\(decide (p.1>6) = !decide (Bo Δ Ξ Θ m.F+Co m.A<=6))/\Ed Δ Ξ Θ p.2:=by have L:=k.nf;have M:=k.na;unfold Nv at hp;rw[Ec,Jq,Jq]at hp;unfold Qd;refine Ft (λ(e,u,g)=>∃j:Nat,u=j/\j<=m.F.length/\Ed Δ Ξ Θ g/\0<=e/\e<=12/\(e=Bo Δ Ξ Θ (m.F.take j)\/(6<e/\6<Bo Δ Ξ Θ (m.F.take j)))) (λ(_,u,_)=>m.F.length-u.toNat) (λ(e,g)=>Ed Δ Ξ Θ g/\0<=e/\e<=12/\(e=Bo Δ Ξ Θ m.F\/(6<e/\6<Bo Δ Ξ Θ m.F))) ⟨0,rfl,ω,z,ω,ω,.inl (by simp[Bo])⟩ ?_ ?_;rintro⟨e,u,g⟩ ⟨j,rfl,I,q,F,C,l⟩;rcases Cj j m.F.length with h|h;have w:m.F[j]?=some m.F[j]:=Bi h;generalize m.F[j]=f at w;have c:=Bm w;have D:=hp.1 f c;rw[Es]at D;have A:=(Aio Δ Ξ Θ f).2;have E:Bo Δ Ξ Θ (m.F.take (j+1))=Bo Δ Ξ Θ (m.F.take j)+Dt Δ Ξ Θ f:=Anv _ w;simp only[An (ω:(j:Int)<(m.F.length:Int)),Ak,Bq rfl w,Ac,Dl h ω];by_cases s:e<=6;(have x:(E5 Ξ Θ f.v).isSome=true:=by unfold Dt at D;cases J:E5 Ξ Θ f.v with|none=>rw[J]at D;have D:(0:Int)<=-1:=D;omega|some t=>rfl);obtain⟨B,d1,d2⟩:=Adq b2 H q f (k.fr f c).2 (k.fr f c).1 (k.fi f c) x;rw[An s];simp only[Ak,d1,Ac];have b:Aa (e+Dt Δ Ξ Θ f)=e+Dt Δ Ξ Θ f:=ξ;exact .inl ⟨_,rfl,⟨j+1,rfl,ω,d2,by simp only[b];omega,by simp only[b];omega,by simp only[b,E];omega⟩,ζ⟩;rw[Au s];exact .inl ⟨_,rfl,⟨j+1,rfl,ω,q,F,C,by simp only[E];omega⟩,ζ⟩;have:j=m.F.length:=ω;subst this;rw[Dh]at l;exact .inr ⟨(e,g),ψ,q,F,C,l⟩;rintro⟨e,g⟩ ⟨q,F,C,l⟩;simp only;refine Ft (λ(v,i)=>∃j:Nat,i=j/\j<=m.A.length/\0<=v/\v<=13/\(v=Bo Δ Ξ Θ m.F+Co (m.A.take j)\/(6<v/\6<Bo Δ Ξ Θ m.F+Co (m.A.take j)))) (λ(_,i)=>m.A.length-i.toNat) (λv=>(v=Bo Δ Ξ Θ m.F+Co m.A\/(6<v/\6<Bo Δ Ξ Θ m.F+Co m.A))) ⟨0,rfl,ω,F,ω,by simpa[Co]using l⟩ ?_ ?_;rintro⟨v,i⟩ ⟨j,rfl,I,K,G,gv⟩;rcases Cj j m.A.length with h|h;have w:m.A[j]?=some m.A[j]:=Bi h;generalize m.A[j]=a at w;have D:=hp.2 a (Bm w);rw[Ec,Es]at D;have E:=Anw w;simp only[An (ω:(j:Int)<(m.A.length:Int)),Ak,Bq rfl w,Ac,Dl h ω];by_cases s:v<=6;rw[An s];simp only[Ak];by_cases y:7<a.P;rw[Av y];have b:Aa (v+7)=v+7:=ξ;exact .inl ⟨_,rfl,⟨j+1,rfl,ω,by simp only[b];omega,by simp only[b];omega,by simp only[b,E];omega⟩,ζ⟩;rw[As y];have b:Aa (v+a.P)=v+a.P:=ξ;exact .inl ⟨_,rfl,⟨j+1,rfl,ω,by simp only[b];omega,by simp only[b];omega,by simp only[b,E];omega⟩,ζ⟩;rw[Au s];exact .inl ⟨_,rfl,⟨j+1,rfl,ω,K,G,by simp only[E];omega⟩,ζ⟩;have:j=m.A.length:=ω;subst this;rw[Dh]at gv;exact .inr ⟨v,ψ,gv⟩;intro v l;refine⟨(v,g),rfl,?_,q⟩;by_cases h:Bo Δ Ξ Θ m.F+Co m.A<=6;rw[An h,Au (by simp only;omega)];rfl;rw[Au h,An (by simp only;omega)];rfl
end
end Go.Ab
