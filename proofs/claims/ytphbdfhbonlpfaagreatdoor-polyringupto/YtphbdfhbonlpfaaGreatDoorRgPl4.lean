/- Plain laws: what the plain functions answer. -/
import Derived.Test.YtphbdfhbonlpfaaGreatDoorRgPl3
open List
namespace Go.Ab
open Go
variable {y:A7} {x:Bs} {R p ts:List Aj} {A B l:List Bi} {K N a b d k m n:Nat} {g:Nat->Nat} {α:Type} {cmp:α->α->Option Int}
def bc:Nat->Nat->Nat
 | _,0=>1
 | 0,_+1=>0
 | n+1,k+1=>bc n k+bc n (k+1)
theorem Jw (n:Nat):bc n 0=1:=by cases n <;> rfl
theorem Al3:∀{n k:Nat},n<k->Ig n k=0
 | n,0,h=>absurd h ω
 | n,k+1,h=>by
  rw[Ig];by_cases e:n<k
  .rw[Al3 e,Nat.zero_mul]
  .rw[show n-k=0 by omega,Nat.mul_zero]
theorem Auv (n:Nat):∀k,Ig (n+1) (k+1)=(n+1)*Ig n k
 | 0=>by simp[Ig]
 | k+1=>by rw[Ig,Auv n k,Ig,show n+1-(k+1)=n-k by omega,Nat.mul_assoc]
theorem Agq:∀n k,Ig n k=fct k*bc n k
 | n,0=>by rw[Jw];rfl
 | 0,k+1=>by rw[Al3 ω];simp[bc]
 | n+1,k+1=>by
  have h1:=Agq n (k+1);have h2:=Agq n k;rw[Auv,bc,Nat.mul_add,<-h1,fct,Ig,Nat.mul_right_comm,<-h2];by_cases e:k<=n
  .rw[<-Nat.mul_add,Nat.mul_comm,show k+1+(n-k)=n+1 by omega]
  .rw[Al3 ω];simp
theorem Abn:∀n k,bc n k<=2 ^ n
 | n,0=>by rw[Jw];exact Nat.one_le_two_pow
 | 0,k+1=>by simp[bc]
 | n+1,k+1=>by have h1:=Abn n (k+1);have h2:=Abn n k;rw[bc,Nat.pow_succ];omega
def cR (n:Nat):A7:=Ci false n 1
theorem Abo (n:Nat):sv (cR n)=false/\nv (cR n)=n/\dv (cR n)=1:=by
 obtain⟨g,f,c,b⟩:=Af3 false n 1 δ;refine⟨?_,?_,?_⟩
 .by_cases h:n=0
  .exact b h
  .exact c h
 .unfold cR;rw[g];simp
 .unfold cR;rw[f];simp
theorem Abp (h:Bp n<=k) (hk:1<=k):RB k (cR n):=Qx _ _ _ _ h (by rw[Sl];exact hk) hk
theorem A6v:G1 0=some (cR 0):=Abd 0 δ δ
theorem Oo:G1 1=some (cR 1):=Abd 1 δ δ
theorem A6w (n k:Nat) (b:n<1000000000) (hk:k<=64):Qi (n:Int) (k:Int)=some (cR (bc n k),true):=by
 unfold Qi;have e:(if (n:Int)>0 then (n:Int) else 0)=(n:Int):=by split <;> omega
 simp only[As (ω:¬(k:Int)<0),Am,As (ω:¬(k:Int)>64),Ad,e,Atm n k b hk];rw[Agq,show Ci false (fct k*bc n k) (fct k)=Ci false (fct k*bc n k) (fct k*1) by rw[Nat.mul_one],Xt _ _ _ _ (Af6 k)];rfl
theorem A6x (n k:Nat) (b:n<1000000000) (hk:k<=64):Qi (n:Int) (k:Int)=some (cR (bc n k),true):=A6w n k b hk
theorem Agr (data:List Al):∀(is:List Ai) (ts:List Af) (d:Nat),Ch data is ts=some d->is.length=ts.length/\∀(j:Nat) (i:Ai) (t:Af),is[j]? = some i->ts[j]? = some t->∃e,C3 data i t=some e/\e<=d
 | [],[],d,_=>⟨rfl,λj i t h=>by simp at h⟩
 | i::is,t::ts,d,h=>by
  rw[Lt]at h;cases h1:C3 data i t with
  | none=>rw[h1]at h;cases h
  | some a=>
   rw[h1,Ad]at h;cases h2:Ch data is ts with
   | none=>rw[h2]at h;cases h
   | some b=>rw[h2]at h;have h:a+b=d:=Ew h;obtain⟨g1,g2⟩:=Agr data is ts b h2;refine⟨by simp[g1],λj c t' hi ht=>?_⟩;cases j with| zero=>cases hi;cases ht;exact⟨a,h1,ω⟩| succ j=>obtain⟨e,f,g⟩:=g2 j c t' hi ht;exact⟨e,f,ω⟩
 | [],_::_,_,h=>by simp only[Ch]at h;cases h
 | _::_,[],_,h=>by simp only[Ch]at h;cases h
structure Asc (b:List Int) (n:Nat) (l:List Int):Prop where
 up:l.Pairwise (· < ·)
 mem:∀y,y∈l↔y∈b.take n
theorem Asc.same {b:List Int} {q:Nat} {l:List Int} {x:Int} (h:Asc b (q+1) l) (hp:b[q]? = some x) (hx:b[q+1]? = some x):Asc b (q+2) l:=by
 refine⟨h.up,λy=>?_⟩;rw[Db hx,Ef,h.mem y];constructor
 .exact .inl
 .rintro (h1|h1)
  .exact h1
  .rw[E3]at h1;subst h1;rw[Db hp];simp
noncomputable def Xz (cmp:α->α->Option Int) (a0:Int):Int×List α->Option ((Int×List α)⊕(Int×List α)):=λ(v31,b)=> (show OB from bif v31>a0 then ((Ag b v31).bind λv33=> (Ag b (Aa (v31-1))).bind λg=> (cmp v33 g).bind λv35=> some (decide (v35<(0:Int)))) else some false).bind λf=>
 bif f then ((Ag b (Aa (v31-1))).bind λv37=> (Ag b v31).bind λc=> (Ag b v31).bind λv39=> (Ag (Di b v31 v37) (Aa (v31-1))).bind λv40=> some (.inl ((Aa (v31-1)),(Di (Di b v31 v37) (Aa (v31-1)) c)))) else some (.inr (v31,b))
noncomputable def Abq (cmp:α->α->Option Int) (a0 a1:Int) (g:List α):Option (List α) := (An (S:=(Int×(List α))) (E:=(List α)) (λ(v21,b)=> bif v21<a1 then ((An (Xz cmp a0) (v21,b)).bind λ(v41,f)=> some (.inl ((Aa (v21+1)),f))) else (some (.inr b))) ((Aa (a0+1)),g)).bind λc=> some c
theorem A6y (A R:List α) (x y:α):((A++y::x::R).set (A.length+1) y).set A.length x=A++x::y::R:=by induction A with| nil=>rfl| cons a A ih=>simp only[Eu,Ed,set_cons_succ,ih]
theorem Auw (A R:List α) (x:α):(A++x::R)[A.length]? = some x:=ψ
theorem A6z (A R:List α) (x y:α):(A++y::x::R)[A.length+1]? = some x:=by induction A with| nil=>rfl| cons a A ih=>simp
theorem A60 (cmp:α->α->Option Int) (y:α) (R:List α):Xz cmp 0 (0,y::R)=some (.inr (0,y::R)):=by unfold Xz;simp only[As (ω:¬(0:Int)>0),Am,Ad]
theorem A61 {c:α->α->Int} (i:N<=1099511627776) (A R:List α) (u y:α) (b:cmp u y=some (c u y)) (f:(A++y::u::R).length<=N):Xz cmp 0 (((A.length+1:Nat):Int),A++y::u::R) = if c u y<0 then some (.inl ((A.length:Int),A++u::y::R)) else some (.inr (((A.length+1:Nat):Int),A++y::u::R)):=by
 have h:A.length+1<N:=by simp at f;omega
 have g:Aa (((A.length+1:Nat):Int)-1)=(A.length:Int):=by rw[Aa,B6] <;> omega
 unfold Xz;simp only[Ao (ω:((A.length+1:Nat):Int)>0),Ak,g,Br (n:=A.length+1) rfl (A6z A R u y),Br (n:=A.length) rfl (Auw A (u::R) y),Ad,b];by_cases hc:c u y<0
 .rw[Ao hc,Aw hc];simp only[Ak];rw[Ho (n:=A.length+1) rfl,Ho (n:=A.length) rfl,A6y];have:Ag ((A++y::u::R).set (A.length+1) y) (A.length:Int)=some y:=(by refine Br rfl ?_;rw[getElem?_set_ne ω];exact Auw A (u::R) y);rw[this];rfl
 .rw[As hc,Au hc];rfl
theorem A62 {c:α->α->Int} (s:N<=1099511627776) : ∀(n:Nat) (A R:List α) (x:α),A.length=n->(∀t∈A,cmp x t=some (c x t))->(A++x::R).length<=N -> ∃f i,An (Xz cmp 0) ((A.length:Int),A++x::R)=some ((f.length:Int),f++x::(i++R))/\A=f++i/\(∀a∈i,c x a<0)/\∀k y,f=k++[y]->¬c x y<0:=by
 intro n;induction n with
 | zero=>intro A R x g _ _;have:A = []:=Fu.1 g;subst this;exact⟨[],[],Fg (A60 cmp x R),rfl,nofun,(λk y h=>by simp at h)⟩
 | succ n ih=>
  intro A R x g l b;obtain⟨B,y,rfl⟩:∃B y,A=B++[y]:=by
   rcases eq_nil_or_concat A with h|⟨B,y,h⟩
   .rw[h]at g;cases g
   .exact⟨B,y,by simpa using h⟩
  have u:B.length=n:=(by simpa using g);have E:(B++[y])++x::R=B++y::x::R:=ψ;have el:(((B++[y]).length:Nat):Int)=((B.length+1:Nat):Int):=ψ;rw[E]at b ⊢;rw[el];have j:=A61 (cmp:=cmp) (c:=c) s B R x y (l y ψ) b;by_cases hc:c x y<0
  .rw[Aw hc]at j;obtain⟨f,i,h1,h2,h3,D⟩:=ih B (y::R) x u (λt ht=>l t (by simp[ht])) (by simpa using b);refine⟨f,i++[y],?_,by rw[h2];simp,?_,D⟩
   .rw[Ks j,h1];simp
   .intro a ha;rcases Ef.1 ha with ha|ha
    .exact h3 a ha
    .simp only[E3]at ha;subst ha;exact hc
  .rw[Au hc]at j;refine⟨B++[y],[],?_,ψ,nofun,?_⟩
   .rw[Fg j];simp
   .intro k z q;have:=append_inj' q rfl;have e:y=z:=(by simpa using this.2);subst e;exact hc
theorem A63 {c:α->α->Int} (L:P1 c) {f j:List α} {x:α} (s:(f++j).Pairwise (λa b=>¬c b a<0)) (h2:∀a∈j,c x a<0) (h1:∀g y,f=g++[y]->¬c x y<0):(f++x::j).Pairwise (λa b=>¬c b a<0):=by
 obtain⟨i,l,k⟩:=pairwise_append.1 s;have hx:∀a∈f,¬c x a<0:=by
  intro a ha;rcases eq_nil_or_concat f with h|⟨g,y,h⟩
  .rw[h]at ha;cases ha
  .have h:f=g++[y]:=(by simpa using h);have q:=h1 g y h;rw[h]at ha i;rcases Ef.1 ha with ha|ha
   .exact L.ntr x y a q ((pairwise_append.1 i).2.2 a ha y ψ)
   .simp only[E3]at ha;subst ha;exact q
 refine pairwise_append.2 ⟨i,pairwise_cons.2 ⟨λa ha h=>L.irr x (L.trs x a x (h2 a ha) h),l⟩,λa ha b hb=>?_⟩;rcases E8.1 hb with rfl|hb
 .exact hx a ha
 .exact k a ha b hb
theorem Aux {c:α->α->Int} (L:P1 c) (f:List α) (A:∀x∈f,∀y∈f,cmp x y=some (c x y)) (J:f.length<=1099511627776) : ∃R,Abq cmp 0 (f.length:Int) f=some R/\R.Perm f/\R.Pairwise (λa b=>¬c b a<0):=by
 unfold Abq;cases f with
 | nil=>refine⟨[],?_,Perm.refl _,Pairwise.nil⟩;refine Lp 0 (λ_=>((1:Int),([]:List α))) (by simp[Aa,B6]) (λj hj=>ω) ⟨[],?_,rfl⟩;simp
 | cons z0 B=>
 generalize k:z0::B=f at *;have hpos:1<=f.length:=by rw[<-k];simp
 refine Ey (λs=>∃(i:Nat) (S:List α),s=((i:Int),S++f.drop i)/\1<=i/\i<=f.length/\S.length=i/\S.Perm (f.take i)/\S.Pairwise (λa b=>¬c b a<0)) (λs=>f.length-s.1.toNat) (λR=>R.Perm f/\R.Pairwise (λa b=>¬c b a<0)) ⟨1,[z0],by rw[<-k];simp[Aa,B6],ω,hpos,rfl,by rw[<-k];simp,pairwise_singleton _ _⟩ ?_ ?_
 .rintro _ ⟨i,S,rfl,G,hi,E,g,l⟩;rcases Cf i f.length with h|h
  .have hx:f[i]? = some f[i]:=B4 h;have hxm:f[i]∈f:=getElem_mem h;generalize f[i]=x at hx hxm;have D:f.drop i=x::f.drop (i+1):=Lu hx;have z:(S++x::f.drop (i+1)).length=f.length:=ζ;simp only[Ao (ω:(i:Int)<(f.length:Int)),Ak,C5 h ω];rw[D];left;obtain⟨u,q,h1,h2,h3,I⟩:=A62 (cmp:=cmp) (c:=c) (N:=f.length) ω S.length S (f.drop (i+1)) x rfl (λt ht=>A x hxm t (mem_of_mem_take (g.mem_iff.1 ht))) (by rw[z];exact Nat.le_refl _);rw[E]at h1;have hp:(u++x::q).Perm (f.take (i+1)):=(by rw[Db hx];have:(u++x::q).Perm ((u++q)++[x]):=(by rw[append_assoc];exact Perm.append_left u (perm_append_singleton x q).symm);exact this.trans (by rw[<-h2];exact g.append_right [x]));refine⟨(((i+1:Nat):Int),(u++x::q)++f.drop (i+1)),bnd h1 ψ,⟨i+1,u++x::q,rfl,ω,ω,?_,hp,?_⟩,ζ⟩
   .rw[hp.length_eq,length_take];omega
   .rw[h2]at l;exact A63 L l h3 I
  .have:i=f.length:=ω;subst this;rw[Dq]at g;simp only[As (ω:¬(f.length:Int)<(f.length:Int)),Am,drop_length,append_nil];exact .inr ⟨S,rfl,g,l⟩
 .rintro R ⟨h1,h2⟩;exact⟨R,rfl,h1,h2⟩
noncomputable def Ags (B:Nat) (gr:Int->Option (List α)) (a0:List (List α)):Option (List α) := (An (S:=(Int×Int)) (E:=Int) (λ(v2,v3)=> bif v3<(a0.length:Int) then ((Ag a0 v3).bind λv4=> bif (Aa (v2+(v4.length:Int)))<(0:Int) then (none) else (some (.inl ((Aa (v2+(v4.length:Int))),(Aa (v3+1)))))) else (some (.inr v2))) (0,0)).bind λv5=> (gr v5).bind λi=> (An (S:=(Int×(List α))) (E:=(List α)) (λ(b,c)=> bif b<(a0.length:Int) then ((Ag a0 b).bind λf=> (Ca B c f).bind λh=> some (.inl ((Aa (b+1)),h))) else (some (.inr c))) (0,i)).bind λg=> some g
theorem Al4 {B:Nat} (g:B<=1024) {gr:Int->Option (List α)} (hg:∀n:Nat,n<=1000000->gr (n:Int)=some []) (a b:List α) (h:a.length+b.length<=1000000):Ags B gr [a,b]=some (a++b):=by
 have m1:a.length*B<=1000000*1024:=Nat.mul_le_mul ω g;have m2:(a.length+b.length)*B<=1000000*1024:=Nat.mul_le_mul h g;have f:Aa 1=1:=by rw[Aa,B6] <;> omega
 have c:Aa 2=2:=by rw[Aa,B6] <;> omega
 have k:Aa (a.length:Int)=(a.length:Int):=by rw[Aa,B6] <;> omega
 have i:Aa ((a.length:Int)+(b.length:Int))=((a.length:Int)+(b.length:Int)):=by rw[Aa,B6] <;> omega
 have i0:Ag [a,b] 0=some a:=rfl;have i1:Ag [a,b] 1=some b:=rfl;have q:Ca B [] a=some a:=by rw[Dn ζ];rfl
 have l:Ca B a b=some (a++b):=Dn ω;unfold Ags;refine Lp 2 (λj=>if j=0 then (0,0) else if j=1 then ((a.length:Int),1) else (((a.length+b.length:Nat):Int),2)) rfl ?_ ⟨((a.length+b.length:Nat):Int),?_,?_⟩
 .intro j hj;rcases (ω:j=0\/j=1) with rfl|rfl
  .have:¬((a.length:Int)<0):=ω;simp[i0,k,f,this]
  .have:¬((a.length:Int)+(b.length:Int)<0):=ω;simp[i1,i,c,this]
 .simp
 .rw[hg _ h,Ad];refine Lp 2 (λj=>if j=0 then (0,[]) else if j=1 then (1,a) else (2,a++b)) rfl ?_ ⟨a++b,?_,rfl⟩
  .intro j hj;rcases (ω:j=0\/j=1) with rfl|rfl
   .simp[i0,f,q]
   .simp[i1,c,l]
  .simp
def sm:Nat->(Nat->Nat)->Nat
 | 0,_=>0
 | n+1,f=>sm n f+f n
theorem X0 {f g:Nat->Nat}:∀{n:Nat},(∀k,k<n->f k=g k)->sm n f=sm n g
 | 0,_=>rfl
 | n+1,h=>by rw[sm,sm,X0 (n:=n) λk hk=>h k ω,h n ω]
theorem Vc (f g:Nat->Nat):∀n,sm n (λk=>f k+g k)=sm n f+sm n g
 | 0=>rfl
 | n+1=>by simp only[sm,Vc f g n];omega
theorem Auy (c:Nat) (f:Nat->Nat):∀n,sm n (λk=>c*f k)=c*sm n f
 | 0=>rfl
 | n+1=>by simp only[sm,Auy c f n,Nat.mul_add]
theorem Vd {f:Nat->Nat}:∀{n:Nat},(∀k,k<n->f k=0)->sm n f=0
 | 0,_=>rfl
 | n+1,h=>by rw[sm,Vd (n:=n) λk hk=>h k ω,h n ω]
theorem Agt (f:Nat->Nat):∀n,sm (n+1) f=f 0+sm n (λk=>f (k+1))
 | 0=>by simp[sm]
 | n+1=>by rw[sm,Agt f n,sm];omega
theorem Auz {f:Nat->Nat} {n:Nat}:∀{m:Nat},n<=m->(∀k,n<=k->f k=0)->sm m f=sm n f
 | 0,h,_=>by rw[show n=0 by omega]
 | m+1,h,hf=>by
  by_cases e:n=m+1
  .rw[e]
  .rw[sm,Auz (m:=m) ω hf,hf m ω,Nat.add_zero]
theorem Abr {f:Nat->Nat} (hk:k<n) (hf:∀j,j≠k->f j=0):sm n f=f k:=by
 induction n with
 | zero=>omega
 | succ n ih=>
  rw[sm];by_cases e:k=n
  .subst e;rw[Vd λj hj=>hf j ω,Nat.zero_add]
  .rw[ih ω,hf n ω,Nat.add_zero]
theorem Ve:∀n,bc n n=1
 | 0=>rfl
 | n+1=>by
  rw[bc,Ve n]
  have:bc n (n+1)=0:=by have:=bc_big2 n (n+1) ω;exact this
  omega
where bc_big2:∀n k,n<k->bc n k=0
 | n,0,h=>absurd h ω
 | 0,k+1,_=>rfl
 | n+1,k+1,h=>by rw[bc,bc_big2 n k ω,bc_big2 n (k+1) ω]
theorem X1 (h:n<k):bc n k=0:=Ve.bc_big2 n k h
theorem X2 (n k:Nat):bc (n+1) (k+1)=bc n k+bc n (k+1):=by rw[bc]
def Rc (a b k:Nat):Nat:=if b<=k then bc k a*bc a (k-b) else 0
theorem Au0 (h:a+b<k):Rc a b k=0:=by unfold Rc;rw[Aw ω,X1 (show a<k-b by omega),Nat.mul_zero]
theorem A64 (h:k<a):Rc a b k=0:=by
 unfold Rc;split
 .rw[X1 h,Nat.zero_mul]
 .rfl
theorem Abs (b k:Nat):Rc 0 b k=if k=b then 1 else 0:=by
 unfold Rc;by_cases h:k=b
 .subst h;rw[Aw (Nat.le_refl _),Aw rfl,Nat.sub_self,Jw,Jw]
 .rw[Au h];split
  .rw[X1 (show 0<k-b by omega),Nat.mul_zero]
  .rfl
theorem Abt (a k:Nat):Rc a 0 k=if k=a then 1 else 0:=by
 unfold Rc;rw[Aw (Nat.zero_le _),Nat.sub_zero];by_cases h:k=a
 .subst h;rw[Aw rfl,Ve]
 .rw[Au h];rcases Cf k a with h2|h2
  .rw[X1 h2,Nat.zero_mul]
  .rw[X1 (show a<k by omega),Nat.mul_zero]
theorem Au1 (a b k:Nat):Rc (a+1) (b+1) (k+1)=Rc a (b+1) k+Rc (a+1) b k+Rc a b k:=by
 unfold Rc;by_cases h:b<=k
 .rw[Aw ω,Aw h,Aw h,show k+1-(b+1)=k-b by omega,X2];by_cases h2:b+1<=k
  .rw[Aw h2];obtain⟨j,hj⟩:∃j,k-b=j+1:=⟨k-b-1,ω⟩;rw[hj,show k-(b+1)=j by omega,X2];simp only[Nat.add_mul,Nat.mul_add];omega
  .rw[Au h2,show k-b=0 by omega,Jw,Jw];omega
 .rw[Au ω,Au h,Au h,Au ω]
theorem Au2 (a b:Nat):Rc (a+1) (b+1) 0=0:=by unfold Rc;rw[Au ω]
theorem A65 (f:Nat->Nat) (n N:Nat):sm (N+1) (λk=>f k*bc (n+1) k)=sm (N+1) (λk=>f k*bc n k)+sm N (λk=>f (k+1)*bc n k):=by
 rw[Agt,Agt (λk=>f k*bc n k),Jw,Jw];have:sm N (λk=>f (k+1)*bc (n+1) (k+1))=sm N (λk=>f (k+1)*bc n (k+1))+sm N (λk=>f (k+1)*bc n k):=by rw[<-Vc];exact X0 λk _=>by rw[X2,Nat.mul_add];omega
 rw[this];omega
theorem X3:∀(n a b N:Nat),a+b<N->sm N (λk=>Rc a b k*bc n k)=bc n a*bc n b
 | n,0,b,N,h=>by rw[Jw,Nat.one_mul,Abr (k:=b) ω λj hj=>by rw[Abs,Au hj,Nat.zero_mul],Abs,Aw rfl,Nat.one_mul]
 | n,a+1,0,N,h=>by rw[Jw,Nat.mul_one,Abr (k:=a+1) ω λj hj=>by rw[Abt,Au hj,Nat.zero_mul],Abt,Aw rfl,Nat.one_mul]
 | 0,a+1,b+1,N,h=>by rw[show bc 0 (a+1)=0 from rfl,Nat.zero_mul];refine Vd λk _=>?_;cases k with| zero=>rw[Au2,Nat.zero_mul]| succ k=>rw[show bc 0 (k+1)=0 from rfl,Nat.mul_zero]
 | n+1,a+1,b+1,N,h=>by obtain⟨N,rfl⟩:∃M,N=M+1:=⟨N-1,ω⟩;rw[A65,X3 n (a+1) (b+1) (N+1) h];have h1:=X3 n a (b+1) N ω;have h2:=X3 n (a+1) b N ω;have h3:=X3 n a b N ω;have c:sm N (λk=>Rc (a+1) (b+1) (k+1)*bc n k)=sm N (λk=>Rc a (b+1) k*bc n k)+sm N (λk=>Rc (a+1) b k*bc n k)+sm N (λk=>Rc a b k*bc n k):=(by rw[<-Vc,<-Vc];exact X0 λk _=>by rw[Au1,Nat.add_mul,Nat.add_mul]);rw[c,h1,h2,h3,X2,X2,Nat.add_mul,Nat.mul_add,Nat.mul_add];omega
theorem A66 {f:Nat->Nat} (h:∀n,n<N->sm N (λk=>f k*bc n k)=sm N (λk=>g k*bc n k)):∀k,k<N->f k=g k:=by
 intro k;induction k using Nat.strongRecOn with
 | ind k ih=>
  intro hk;have cut:∀F:Nat->Nat,sm N (λj=>F j*bc k j)=sm k (λj=>F j*bc k j)+F k:=by
   intro F;have e:sm N (λj=>F j*bc k j)=sm (k+1) (λj=>F j*bc k j):=Auz ω λj hj=>by rw[X1 ω,Nat.mul_zero]
   rw[e,sm,Ve,Nat.mul_one]
  have:=h k hk;rw[cut f,cut g,X0 (f:=λj=>f j*bc k j) (g:=λj=>g j*bc k j) λj hj=>by rw[ih j hj ω]]at this;omega
theorem A67:P4=some true:=κ
def Au3 (l:List Bi):List Int:=l.flatMap λa=>a.L.T.map (·.v)
def Abu (m:Bd):List Int:=m.F.map (·.v)++Au3 m.A
theorem Au4 (l:List Int) (b:l.length<=1099511627776):Wh l l=some true:=by
 unfold Wh;rw[Ea rfl,Am];refine F2 l (λj=>(j:Int)) rfl ω ?_ ?_
 .intro j x hj hx h1 h2 h3;simp only[h1,h2,h3,Ak,Ad,bne_self_eq_false,Am]
 .intro h;exact⟨.inr (),by simp only[h];rfl,rfl⟩
theorem A68 (a:A7) (h1:a.U.length<=1099511627776) (h2:a.B.length<=1099511627776):V8 a a=some true:=by unfold V8;rw[beq_self_eq_true,Ak,Au4 _ h1,Ad,Ak,Au4 _ h2,Ad]
structure PSt (K:Nat) (n:Nat) (b:List Aj):Prop where
 le:n<=b.length
 cp:CP (b.take n)
 tm:∀t∈b.take n,RB K t.C/\MSz t.M
theorem PSt.mono {c:Nat} {b:List Aj} (h:PSt K n b) (f:K<=c):PSt c n b:=⟨h.le,h.cp,λt ht=>⟨((h.tm t ht).1).mono f,(h.tm t ht).2⟩⟩
theorem Au5:∀(k:Nat) (t:Af) (a:Int),Bl t<=k->k<1099511627776->∃r,Ro k t a=some r/\True:=by
 intro k;induction k with
 | zero=>intro i a h;have:=Iq i;omega
 | succ k ih=>
  intro i a h hk;have f:=Iq i;have g:=Jr i.R;rw[Ro];refine Pf ⟨_,rfl,trivial⟩ ?_;refine Ey (λ(v,_)=>∃j:Nat,v=j/\j<=i.R.length) (λ(v,_)=>i.R.length-v.toNat) (λ_=>True) ⟨0,rfl,ω⟩ ?_ ?_
  .rintro⟨v,b⟩ ⟨j,rfl,hj⟩;rcases Cf j i.R.length with h'|h'
   .have hx:i.R[j]? = some i.R[j]:=B4 h';generalize i.R[j]=x at hx;have l:=Iw (Bq hx);obtain⟨⟨y,z⟩,c,_⟩:=ih x b ω ω;simp only[Ao (ω:(j:Int)<(i.R.length:Int)),Ak,Br rfl hx,Ad,c,C5 h' ω];cases y with| false=>exact .inr ⟨_,rfl,trivial⟩| true=>exact .inl ⟨_,rfl,⟨j+1,rfl,ω⟩,by simp only[Int.toNat_natCast];omega⟩
   .have:j=i.R.length:=ω;subst this;exact .inr ⟨.inr b,ψ,trivial⟩
  .rintro (⟨x,y⟩|e) _
   .exact⟨_,rfl,trivial⟩
   .exact⟨_,rfl,trivial⟩
theorem Au6 (t:Af) (h:Bl t<=1048576):∃b,Wa t=some b:=by unfold Wa;obtain⟨r,h1,_⟩:=Au5 4000000 t 250 ω ω;exact⟨_,by rw[h1];rfl⟩
theorem A69 (l:List Af) (n:Int) (c:l.length<=1048576) (h:∀t∈l,Bl t<=1048576):∃b,Zb l n=some b/\True:=by
 unfold Zb;refine Ey (λv=>∃j:Nat,v=j/\j<=l.length) (λv=>l.length-v.toNat) (λ_=>True) ⟨0,rfl,ω⟩ ?_ ?_
 .rintro v ⟨j,rfl,hj⟩;rcases Cf j l.length with h'|h'
  .have hx:l[j]? = some l[j]:=B4 h';generalize l[j]=x at hx;obtain⟨b,hb⟩:=Au6 x (h x (Bq hx));simp only[Ao (ω:(j:Int)<(l.length:Int)),Ak,Br rfl hx,Ad,hb,C5 h' ω];cases decide ((j:Int)<=n) with
   | false=>exact .inr ⟨_,rfl,trivial⟩
   | true=>cases b with| false=>exact .inr ⟨_,rfl,trivial⟩| true=>exact .inl ⟨_,rfl,⟨j+1,rfl,ω⟩,by simp only[Int.toNat_natCast];omega⟩
  .simp only[As (ω:¬(j:Int)<(l.length:Int)),Am];exact .inr ⟨_,rfl,trivial⟩
 .rintro (r|r) _
  .exact⟨_,rfl,trivial⟩
  .exact⟨_,rfl,trivial⟩
theorem A7a (l:List Al) (f:DSz l):∃b,Za l=some b/\True:=by
 unfold Za;have A:=f.len;refine Pf ⟨_,rfl,trivial⟩ ?_;refine Ey (λv=>∃j:Nat,v=j/\j<=l.length) (λv=>l.length-v.toNat) (λ_=>True) ⟨0,rfl,ω⟩ ?_ ?_
 .rintro v ⟨j,rfl,hj⟩;rcases Cf j l.length with h'|h'
  .have hx:l[j]? = some l[j]:=B4 h';generalize l[j]=x at hx;obtain⟨c1,c2⟩:=f.sz x (Bq hx);simp only[Ao (ω:(j:Int)<(l.length:Int)),Ak,Br rfl hx,Ad,C5 h' ω];have hq:∃q,(bif decide ((x.S.size:Int)>40) then some true else some (decide ((x.O.length:Int)>10)))=some q:=(by cases decide ((x.S.size:Int)>40) <;> exact⟨_,rfl⟩);obtain⟨q,hq⟩:=hq
   erw[hq];simp only[Ad];cases q with
   | true=>exact .inr ⟨_,rfl,trivial⟩
   | false=>
    simp only[Am];have key:∀(W:Option (Int⊕(Bool⊕Unit))),(∃r,W=some r/\(r = .inl ((j+1:Nat):Int)\/∃e,r = .inr e))->(∃s',W=some (Sum.inl s')/\(∃j:Nat,s'=(j:Int)/\j<=l.length)/\l.length-s'.toNat<l.length-((j:Int)).toNat)\/∃e,W=some (Sum.inr e)/\True:=by
     rintro W ⟨r,rfl,rfl|⟨e,rfl⟩⟩
     .exact .inl ⟨_,rfl,⟨j+1,rfl,ω⟩,by simp only[Int.toNat_natCast];omega⟩
     .exact .inr ⟨_,rfl,trivial⟩
    refine key _ ?_;refine Ey (λv=>∃j:Nat,v=j/\j<=x.O.length) (λv=>x.O.length-v.toNat) (λ_=>True) ⟨0,rfl,ω⟩ ?_ ?_
    .rintro v ⟨i,rfl,hi⟩;rcases Cf i x.O.length with h''|h''
     .have hy:x.O[i]? = some x.O[i]:=B4 h'';generalize x.O[i]=y at hy;have d1:=c2 y (Bq hy);have d2:=Jr y.R;simp only[Ao (ω:(i:Int)<(x.O.length:Int)),Ak,Br rfl hy,Ad,C5 h'' ω];have hq:∃q,(bif decide ((y.S.size:Int)>40) then some true else some (decide ((y.R.length:Int)>8)))=some q:=(by cases decide ((y.S.size:Int)>40) <;> exact⟨_,rfl⟩);obtain⟨q,hq⟩:=hq
      erw[hq];simp only[Ad];cases q with
      | true=>exact .inr ⟨_,rfl,trivial⟩
      | false=>
       simp only[Am];have key:∀(W:Option (Int⊕(Bool⊕Int))),(∃r,W=some r/\(r = .inl ((i+1:Nat):Int)\/∃e,r = .inr e))->(∃s',W=some (Sum.inl s')/\(∃j:Nat,s'=(j:Int)/\j<=x.O.length)/\x.O.length-s'.toNat<x.O.length-((i:Int)).toNat)\/∃e,W=some (Sum.inr e)/\True:=by
        rintro W ⟨r,rfl,rfl|⟨e,rfl⟩⟩
        .exact .inl ⟨_,rfl,⟨i+1,rfl,ω⟩,by simp only[Int.toNat_natCast];omega⟩
        .exact .inr ⟨_,rfl,trivial⟩
       refine key _ ?_;refine Ey (λs=>∃j:Nat,s.1=j/\j<=y.R.length) (λs=>y.R.length-s.1.toNat) (λ_=>True) ⟨0,rfl,ω⟩ ?_ ?_
       .rintro⟨_,w⟩ ⟨u,rfl,hu⟩;rcases Cf u y.R.length with h3|h3
        .have c:y.R[u]? = some y.R[u]:=B4 h3;generalize y.R[u]=t at c;have z:=Iw (Bq c);obtain⟨⟨g,k⟩,h,_⟩:=Au5 4000000 t w ω ω;simp only[Ao (ω:(u:Int)<(y.R.length:Int)),Ak,Br rfl c,Ad,h,C5 h3 ω];cases g with| false=>exact .inr ⟨_,rfl,trivial⟩| true=>exact .inl ⟨_,rfl,⟨u+1,rfl,ω⟩,by simp only[Int.toNat_natCast];omega⟩
        .simp only[As (ω:¬(u:Int)<(y.R.length:Int)),Am];exact .inr ⟨_,rfl,trivial⟩
       .rintro (r|r) _
        .exact⟨_,rfl,.inr ⟨_,rfl⟩⟩
        .exact⟨_,rfl,.inl rfl⟩
     .simp only[As (ω:¬(i:Int)<(x.O.length:Int)),Am];exact .inr ⟨_,rfl,trivial⟩
    .rintro (r|r) _
     .exact⟨_,rfl,.inr ⟨_,rfl⟩⟩
     .exact⟨_,rfl,.inl rfl⟩
  .simp only[As (ω:¬(j:Int)<(l.length:Int)),Am];exact .inr ⟨_,rfl,trivial⟩
 .rintro (r|r) _
  .exact⟨_,rfl,trivial⟩
  .exact⟨_,rfl,trivial⟩
theorem A7b (x:Bs) (f:CSz x):∃b,Y4 x=some b:=by unfold Y4;obtain⟨a,ha,_⟩:=A7a x.D f.ds;obtain⟨b,hb,_⟩:=A69 x.V 40 f.nv f.vs;obtain⟨c,hc⟩:=Au6 x.E f.rs;rw[ha,hb,hc];cases a <;> cases b <;> exact⟨_,rfl⟩
theorem CP.dst (h:CP p):Dst p:=h.srt.imp λ{a b} c e=>by unfold ltT at c;rw[Nk.2 e]at c;omega
theorem Au7:P1 (λt u:Aj=>Ei t.M u.M) where
 irr x:=by
  show ¬Ei x.M x.M<0
  rw[Atx];omega
 trs x y z h1 h2:=Xx h1 h2
 ntr x y z h1 h2:=by
  show ¬Ei x.M z.M<0
  have h1:¬Ei x.M y.M<0:=h1
  have h2:¬Ei y.M z.M<0:=h2
  intro h3
  rcases Int.lt_trichotomy (Ei x.M y.M) 0 with k|k|k
  .exact h1 k
  .rw[Nk.1 k]at h3;exact h2 h3
  .exact h2 (Xx (Alk.1 k) h3)
def Agu (b:List Aj):List Aj:=b.mergeSort λt u=>decide (Ei t.M u.M<=0)
theorem Au8 (b:List Aj):(Agu b).Perm b:=mergeSort_perm _ _
theorem A7c (f:List Aj) (hd:Dst f):(Agu f).Pairwise ltT:=by
 have h1:=pairwise_mergeSort (le:=λt u:Aj=>decide (Ei t.M u.M<=0)) (λa b c h1 h2=>by
  simp only[D8]at *
  have:=Au7.ntr c b a (by show ¬Ei _ _<0;rw[Xw];omega) (by show ¬Ei _ _<0;rw[Xw];omega)
  have this:¬Ei c.M a.M<0:=this
  rw[Xw]at this;omega) (λa b=>by
  simp only[Bool.or_eq_true,D8]
  rw[Xw a.M b.M];omega) f
 have h2:(Agu f).Pairwise λt u=>t.M≠u.M:=((Au8 f).pairwise_iff (λ{x y} h=>h.symm)).2 hd
 refine (h1.and h2).imp λ{t u} h=>?_
 have a:=of_decide_eq_true h.1
 have b:Ei t.M u.M≠0:=λe=>h.2 (Nk.1 e)
 unfold ltT;omega
theorem Au9 (b:List Aj) (hd:Dst b) (f:∀t∈b,MSz t.M):∃R,O3 b=some R/\R.Perm b/\R.Pairwise ltT:=by
 rcases Cf 12 b.length with h|h
 .have e:Nat.ble b.length 12=false:=(by cases k:Nat.ble b.length 12 with| false=>rfl| true=>have:=Nat.le_of_ble_eq_true k;omega);unfold O3;rw[e,Am];obtain⟨r,g,j,law,hc,hp,i⟩:=Aph (cmp:=Qa) (l:=b) (r:=Agu b) ⟨_,Au7,λx hx y _=>Al1 x y (f x hx),Au8 b,A7c b hd⟩;refine⟨r,g,hp,?_⟩;refine (Pairwise.imp_of_mem (S:=ltT) (λ{t u} ht hu h=>?_) i);have c:=hc t (hp.mem_iff.1 ht) u (hp.mem_iff.1 hu);rw[Al1 t u (f t (hp.mem_iff.1 ht))]at c;have c:=Ew c;unfold ltT;rw[c];exact h
 .exact A6s b hd f h
theorem A7d:∀(k:Nat),k<1099511627776->(∀i:Ai,2*Bo i<=k->Tk k i i=some true)/\(∀l:List Ai,2*B7 l+1<=k->Wu k l l=some true):=by
 intro k;induction k with
 | zero=>exact λ_=>⟨λi h=>(by have:=Eb i;omega),λl h=>ω⟩
 | succ k ih=>
  intro hk;have ih:=ih ω;refine⟨λi h=>?_,λl h=>?_⟩
  .have:=Eb i;rw[Tk,beq_self_eq_true,Ak,ih.2 i.K ω];rfl
  .have b:=L9 l;rw[Wu,bne_self_eq_false,Am];refine F2 l (λj=>(j:Int)) rfl ω ?_ ?_
   .intro j x hj hx h1 h2 h3;have:=Jt (Bq hx);simp only[h1,h2,h3,Ak,Ad,ih.1 x ω,Eg,Am]
   .intro h;exact⟨.inr (),by simp only[h];rfl,rfl⟩
theorem A7e (l:Bz) (h:l.T.length<=1048576):Zj l l=some true:=by
 unfold Zj;rw[bne_self_eq_false,bne_self_eq_false];simp only[Am,Ad];refine F2 l.T (λj=>(j:Int)) rfl ω ?_ ?_
 .intro j x hj hx h1 h2 h3;simp only[h1,h2,h3,Ak,Ad,beq_self_eq_true,Bool.and_true,Eg,Am]
 .intro h;exact⟨.inr (),by simp only[h];rfl,rfl⟩
theorem A7f (m:Bd) (h:MSz m):Y7 m m=some true:=by
 have c:=h.nf;have b:=h.na;unfold Y7;rw[bne_self_eq_false,bne_self_eq_false];simp only[Am,Ad];refine F2 m.F (λj=>(j:Int)) rfl ω ?_ ?_
 .intro j x hj hx h1 h2 h3;have:=h.fi x (Bq hx);simp only[h1,h2,h3,Ak,Ad,bne_self_eq_false,(A7d 4000000 ω).1 x.I ω,Eg,Am]
 .intro h1;refine⟨.inr (),by simp only[h1];rfl,?_⟩;dsimp only;refine F2 m.A (λj=>(j:Int)) rfl ω ?_ ?_
  .intro j x hj hx h1 h2 h3;have:=h.al x (Bq hx);simp only[h1,h2,h3,Ak,Ad,bne_self_eq_false,A7e x.L ω,Eg,Am]
  .intro h1;exact⟨.inr (),by simp only[h1];rfl,rfl⟩
theorem Ava (p:List Aj) (b:p.length<=1048576) (h:∀t∈p,MSz t.M/\RB 34359738000 t.C):Lx p p=some true:=by
 unfold Lx;rw[bne_self_eq_false];simp only[Am];refine F2 p (λj=>(j:Int)) rfl ω ?_ ?_
 .intro j x hj hx h1 h2 h3;obtain⟨a1,a2⟩:=h x (Bq hx);simp only[h1,h2,h3,Ak,Ad,A68 x.C (by have:=a2.nl;omega) (by have:=a2.dl;omega),A7f x.M a1,Eg,Am]
 .intro h1;exact⟨.inr (),by simp only[h1];rfl,rfl⟩
theorem A7g (i:CSz x) {ps:List (List Aj)} (c:∀p∈ps,∀t∈p,TSz t) (k:ps.length<=1048576) (h:Ih x/\∀p∈ps,Kz x.D x.V x.E p=true):∃b,N7 x ps=some (.inl (true,x,b,[],x.D,x.V,x.E.G,x.E.U,x.E.R))/\D0 x.D x.V x.E b:=by
 obtain⟨r,g,f⟩:=Aut x i ps c k;rcases f with⟨_,b,e,j⟩|⟨h2,_⟩
 .exact⟨b,by rw[g,e],j⟩
 .exact (h2 h).elim
structure PR (x:Bs) (n:Nat) (f:Bd->Rat) (R:List Aj):Prop where
 cp:CP R
 val:∀m,cf R m=f m
 tb:∀t∈R,Gf x t.M/\RB 8589934592 t.C
 len:R.length<=n
theorem A7h (h:Col k (Gf x) ts) (hk:k<8589934592) (l:ts.length<=1000):∃R,Ly (Fb ts) ts=some (R,0)/\PR x ts.length (cf ts) R:=by obtain⟨R,j,i,g,b,f⟩:=A6t (P:=Gf x) (λm h=>h.cmo) (Fb ts) ts h ω l (λc _ h2 h3=>Au9 c h2 h3);exact⟨R,j,i,g,λt ht=>⟨(b t ht).1,(b t ht).2.mono ω⟩,f⟩
theorem PR.of {f g:Bd->Rat} (h:PR x n f R) (b:n<=m) (hf:∀a,f a=g a):PR x m g R := ⟨h.cp,λa=>by rw[h.val,hf],h.tb,Nat.le_trans h.len b⟩
theorem A7i (s:CSz x) (hf:Ih x) {q:List Aj} (hp:Ir x p) (hq:Ir x q) (y:p.length+q.length<=1000) : ∃R,N6 x p q=some (R,0)/\PR x (p.length+q.length) (λm=>cf p m+cf q m) R:=by obtain⟨z,hb⟩:=Auu s hf hp hq;unfold N6;rw[hb];simp only[Ad,Eg,Am,O1];obtain⟨u,i,g,f,c⟩:=Agp (k0:=1048576) (k:=1048576) (P:=Gf x) (λm h=>h.cmo) p [] (Col.nil _ _) hp.tb (Nat.le_refl _) ω ζ;simp at f;obtain⟨v,b,v2,v3,v4⟩:=Agp (k:=1048576) (P:=Gf x) (λm h=>h.cmo) q u g hq.tb ω ω ω;obtain⟨R,l,j⟩:=A7h v2 ω ω;rw[show Lg p [] []=some (Fb u,u) from i,Ad,b,Ad,l,Ad];exact⟨R,rfl,j.of ω λm=>by rw[v4,c];simp only[cf];grind⟩
theorem Ir.nil (x:Bs):Ir x []:=⟨Agf.2 ⟨ψ,CP.nil,λt ht=>by cases ht⟩,λt ht=>by cases ht⟩
theorem PR.same {f:Bd->Rat} {S:List Aj} (h:PR x n f R) (c:n<=1000) (b:CP S) (e:∀m,cf S m=f m):R=S/\Lx R S=some true:=by
 have:R=S:=CP.ext h.cp b λm=>by rw[h.val,e]
 subst this;refine⟨rfl,Ava R (by have:=h.len;omega) λt ht=>⟨(h.tb t ht).1.2,(h.tb t ht).2.mono ω⟩⟩
def Mt (data:List Al) (t:Af) (c:Int):List Af:=match Gu data t c with|some ts=>ts|none=>[]
theorem Al5:∀n k,bc n k<=n ^ k
 | n,0=>by rw[Jw];exact Nat.le_refl _
 | 0,k+1=>by simp[bc]
 | n+1,k+1=>by have h1:=Al5 n k;have h2:=Al5 n (k+1);have h3:n ^ k<=(n+1) ^ k:=Nat.pow_le_pow_left ω k;have b:n ^ (k+1)<=n*(n+1) ^ k:=(by rw[Nat.pow_succ,Nat.mul_comm];exact Nat.mul_le_mul_left _ h3);rw[bc,Nat.pow_succ,Nat.mul_add,Nat.mul_one,Nat.mul_comm];omega
def pdg (data:List Al) (t:Af) (e:Ai):Nat:=match Ch data e.K (Mt data t e.U) with|some a=>a|none=>0
def pds (data:List Al) (t:Af) (es:List Ai):Nat:=(es.map (pdg data t)).sum
theorem Vf (data:List Al):∀(es:List Ai) (t:Af) (d:Nat),Fo data es t=some d->d=es.length+pds data t es/\∀e∈es,∃ts,Gu data t e.U=some ts/\Ch data e.K ts=some (pdg data t e)
 | [],t,d,h=>by simp only[Fo,Option.some.injEq]at h;subst h;exact⟨rfl,λe he=>by cases he⟩
 | e::es,t,d,h=>by
  rw[Sg]at h;cases h1:Gu data t e.U with
  | none=>rw[h1]at h;cases h
  | some ts=>
   rw[h1,Ad]at h;cases h2:Ch data e.K ts with
   | none=>rw[h2]at h;cases h
   | some a=>
    rw[h2,Ad]at h;cases h3:Fo data es t with
    | none=>rw[h3]at h;cases h
    | some b=>
     rw[h3]at h;have h:1+a+b=d:=Ew h;obtain⟨g1,g2⟩:=Vf data es t b h3;have hp:pdg data t e=a:=(by unfold pdg Mt;rw[h1];simp only[h2]);refine⟨by unfold pds at *;simp only[map_cons,sum_cons,Ed,hp];omega,λx hx=>?_⟩;rcases E8.1 hx with rfl|hx
     .exact⟨ts,h1,by rw[hp];exact h2⟩
     .exact g2 x hx
theorem A7j (ha:Bp a<=K) (hb:Bp b<=K) (c:1<=K) (h:K<60000000000):Hm (cR a) (cR b)=some (cR (a*b)):=by obtain⟨a1,a2,a3⟩:=Abo a;obtain⟨b1,b2,f⟩:=Abo b;rw[Af2 _ _ K K (Abp ha c) (Abp hb c) ω ω,a1,a2,a3,b1,b2,f];simp[cR]
def Sm (a:Nat):Prop:=a<=5000 ^ 6
theorem Sm.of (h:a<=5000 ^ d) (hd:d<=6):Sm a:=Nat.le_trans h (Nat.pow_le_pow_right δ hd)
theorem Al6 (data:List Al):∀(is:List Ai) (ts:List Af) (d j:Nat),Ch data is ts=some d->∃e,Ch data (is.take j) (ts.take j)=some e/\e<=d
 | [],[],d,j,_=>⟨0,by simp[Ch],ω⟩
 | i::is,t::ts,d,0,_=>⟨0,by simp[Ch],ω⟩
 | i::is,t::ts,d,j+1,h=>by
  rw[Lt]at h;cases h1:C3 data i t with
  | none=>rw[h1]at h;cases h
  | some a=>rw[h1,Ad]at h;cases h2:Ch data is ts with| none=>rw[h2]at h;cases h| some b=>rw[h2]at h;have h:a+b=d:=Ew h;obtain⟨e,c,f⟩:=Al6 data is ts b j h2;refine⟨a+e,?_,ω⟩;rw[take_succ_cons,take_succ_cons,Lt,h1,Ad,c];rfl
 | [],_::_,_,_,h=>by simp only[Ch]at h;cases h
 | _::_,[],_,_,h=>by simp only[Ch]at h;cases h
def Fc:Nat:=1000000000 ^ 100
structure Np (x:A7) (a:Nat):Prop where
 rb:RB 200 x
 s:sv x=false
 n:nv x=a
 d:dv x=1
theorem Al7 (h:a<Fc):Bp a<=100:=Ku h
theorem Np.cR (h:Bp a<=200):Np (cR a) a:=⟨Abp h δ,(Abo a).1,(Abo a).2.1,(Abo a).2.2⟩
theorem Np.c (h:a<Fc):Np (Ab.cR a) a:=Np.cR (by have:=Al7 h;omega)
theorem Np.z:Np ⟨false,[],[]⟩ 0:=⟨A5x 200,by unfold sv;simp,by unfold nv;simp[Ap],by unfold dv;simp[Ap]⟩
theorem Np.add {x:A7} (hx:Np x a) (hy:Np y b):N8 x y=some (Ab.cR (a+b)):=by rw[Ak9 _ _ 200 200 hx.rb hy.rb ω ω,hx.s,hx.n,hx.d,hy.s,hy.n,hy.d];simp[Xs,Sn,Ab.cR]
theorem Np.mul {x:A7} (hx:Np x a) (hy:Np y b):Hm x y=some (Ab.cR (a*b)):=by rw[Af2 _ _ 200 200 hx.rb hy.rb ω ω,hx.s,hx.n,hx.d,hy.s,hy.n,hy.d];simp[Ab.cR]
theorem Np.sign {x:A7} (hx:Np x a):I4 x=some (if a=0 then 0 else 1):=by rw[Ak7 _ 200 hx.rb ω,hx.s,hx.n];simp[Kj]
theorem Np.can {x:A7} (hx:Np x a):J3 x=some (Ab.cR a):=by rw[Ak6 _ 200 hx.rb ω,hx.s,hx.n,hx.d];rfl
def Ls (n:Nat) (f:Nat->Nat):List A7:=(range n).map λk=>cR (f k)
theorem Mu (n:Nat) (f:Nat->Nat):(Ls n f).length=n:=by simp[Ls]
theorem Mv (f:Nat->Nat) (h:k<n):(Ls n f)[k]? = some (cR (f k)):=by simp[Ls,h]
theorem Abv {l:List A7} {f:Nat->Nat} (b:l.length=n) (h:∀k,k<n->l[k]? = some (cR (f k))):l=Ls n f:=by
 apply ext_getElem?;intro k;rcases Cf k n with hk|hk
 .rw[h k hk,Mv f hk]
 .rw[Us ω,Us (by rw[Mu];omega)]
theorem Agv {R:Type} {step:Int×List α->Option ((Int×List α)⊕List α)} {J:List α->Option R} {r:R} {i:Nat} (o:List α) (g:Nat->α) (hi:i<=n) (q:o.length=n) (l:∀(j:Nat) (o':List α),i<=j->j<n->o'.length=n->step ((j:Int),o')=some (.inl (((j+1:Nat):Int),o'.set j (g j)))) (he:∀o',o'.length=n->step ((n:Int),o')=some (.inr o')) (y:∀o',o'.length=n->(∀k,k<i->o'[k]? = o[k]?)->(∀k,i<=k->k<n->o'[k]? = some (g k))->J o'=some r):(An step ((i:Int),o)).bind J=some r:=by
 obtain⟨e,z,f⟩:=J2 (step:=step) (λs=>∃(j:Nat) (o':List α),s=((j:Int),o')/\i<=j/\j<=n/\o'.length=n/\(∀k,k<i->o'[k]? = o[k]?)/\∀k,i<=k->k<j->o'[k]? = some (g k)) (λs=>n-s.1.toNat)
  (λo'=>o'.length=n/\(∀k,k<i->o'[k]? = o[k]?)/\∀k,i<=k->k<n->o'[k]? = some (g k)) (by
  rintro _ ⟨j,o',rfl,c,x,h1,h2,h3⟩
  rcases Cf j n with h|h
  .refine .inl ⟨_,l j o' c h h1,⟨j+1,o'.set j (g j),rfl,ω,ω,by simp[h1],λk hk=>?_,λk b u=>?_⟩,ζ⟩
   .rw[getElem?_set_ne ω];exact h2 k hk
   .rcases Cf k j with h'|h'
    .rw[getElem?_set_ne ω];exact h3 k b h'
    .have:k=j:=ω
     subst this
     rw[getElem?_set_self ω]
  .have:j=n:=ω
   subst this
   exact .inr ⟨o',he o' h1,h1,h2,h3⟩) ((i:Int),o) ⟨i,o,rfl,ω,hi,q,λ_ _=>rfl,λk h1 h2=>ω⟩
 rw[z,Ad]
 exact y e f.1 f.2.1 f.2.2
theorem A7k (n:Nat) (b:n<=1000):Aaf (n:Int)=some (Ls n λ_=>0):=by
 unfold Aaf;rw[Lm rfl rfl (Nat.le_refl _) ω ω,Ad];refine Agv (i:=0) (n:=n) _ (λ_=>cR 0) ω ψ ?_ ?_ ?_
 .intro j o' _ h2 h3;have hx:o'[j]? = some o'[j]:=B4 ω;simp only[length_replicate,Ao (ω:(j:Int)<(n:Int)),Ak,A6v,Ad,Br rfl hx,C5 h2 ω,Ho (n:=j) rfl]
 .intro o' h;simp only[length_replicate,As (ω:¬(n:Int)<(n:Int)),Am]
 .intro o' h1 _ h3;rw[Abv h1 (f:=λ_=>0) λk hk=>h3 k ω hk]
theorem Avb (n k:Nat) (b:n<1000000000) (hk:k<=64):Aep (n:Int) (k:Int)=some (cR (bc n k)):=by
 have h:W0 (n:Int) (k:Int)=some (cR (bc n k)):=by rw[Atm n k b hk,Agq,show Ci false (fct k*bc n k) (fct k)=Ci false (fct k*bc n k) (fct k*1) by rw[Nat.mul_one],Xt _ _ _ _ (Af6 k)];rfl
 exact h
theorem Avc (h:n<=40):bc n k<Fc:=by refine Nat.lt_of_le_of_lt (Abn n k) ?_;exact Nat.lt_of_le_of_lt (Nat.pow_le_pow_right δ h) δ
theorem Avd (a b:Nat) (ha:a<=16) (hb:b<=16):Ua (a:Int) (b:Int)=some (Ls (a+b+1) (Rc a b)):=by
 unfold Ua;have q:Aa ((a:Int)+(b:Int))=((a+b:Nat):Int):=by rw[Aa,B6] <;> omega
 have l:Aa (((a+b:Nat):Int)+1)=((a+b+1:Nat):Int):=by rw[Aa,B6] <;> omega
 have e:(if (b:Int)>(a:Int) then (b:Int) else (a:Int))=((max a b:Nat):Int):=by split <;> omega
 rw[q,l,A7k _ ω,Ad,e];refine Agv (i:=max a b) (n:=a+b+1) _ (λk=>cR (Rc a b k)) ω (by simp[Mu]) ?_ ?_ ?_
 .intro j o' h1 h2 h3;have hx:o'[j]? = some o'[j]:=B4 ω;have g:Aa ((j:Int)-(b:Int))=((j-b:Nat):Int):=ξ;have s:Rc a b j=bc j a*bc a (j-b):=(by unfold Rc;rw[Aw ω]);simp only[Ao (ω:(j:Int)<=((a+b:Nat):Int)),Ak,Avb j a ω ω,g,Avb a (j-b) ω ω,Ad,(Np.c (Avc (ω:j<=40))).mul (Np.c (Avc (k:=j-b) (ω:a<=40))),Br rfl hx,C5 h2 ω,Ho (n:=j) rfl,s]
 .intro o' h;simp only[As (ω:¬((a+b+1:Nat):Int)<=((a+b:Nat):Int)),Am]
 .intro o' h1 h2 h3;rw[Abv h1 (f:=Rc a b) λk hk=>?_];rcases Cf k (max a b) with h|h
  .rw[h2 k h,Mv _ hk];have:Rc a b k=0:=by
    rcases (ω:k<a\/k<b) with h|h
    .exact A64 h
    .unfold Rc;rw[Au ω]
   rw[this]
  .exact h3 k h hk
theorem A7l {f:Nat->Nat} {c:Nat} (B:m<=1000) (A:n<=1000) (hf:∀k,k<m->f k<Fc) (hg:∀k,k<n->g k<Fc) (hc:c<Fc) : T9 (Ls m f) (Ls n g) (cR c)=some (Ls (max m n) λk=>(if k<m then f k else 0)+(if k<n then g k else 0)*c):=by
 unfold T9;rw[Mu,Mu];have e:(if (n:Int)>(m:Int) then (n:Int) else (m:Int))=((max m n:Nat):Int):=by split <;> omega
 rw[e,Lm rfl rfl (Nat.le_refl _) ω ω,Ad];refine Agv (i:=0) (n:=max m n) _ (λk=>cR ((if k<m then f k else 0)+(if k<n then g k else 0)*c)) ω ψ ?_ ?_ ?_
 .intro j o' _ h2 h3;have hx:o'[j]? = some o'[j]:=B4 ω;obtain⟨x,u,s⟩:∃x:A7,(bif decide ((j:Int)<(m:Int)) then ((Ag (Ls m f) (j:Int)).bind λb=>some (b.N,b.U,b.B)) else some (false,[],[]))=some (x.N,x.U,x.B)/\Np x (if j<m then f j else 0):=by
   by_cases h:j<m
   .rw[Ao ω,Ak,Br rfl (Mv f h),Aw h];exact⟨_,rfl,Np.c (hf j h)⟩
   .rw[As ω,Am,Au h];exact⟨⟨false,[],[]⟩,rfl,Np.z⟩
  obtain⟨y,q,l⟩:∃x:A7,(bif decide ((j:Int)<(n:Int)) then ((Ag (Ls n g) (j:Int)).bind λb=>some (b.N,b.U,b.B)) else some (false,[],[]))=some (x.N,x.U,x.B)/\Np x (if j<n then g j else 0)/\(if j<n then g j else 0)<Fc:=by
   by_cases h:j<n
   .rw[Ao ω,Ak,Br rfl (Mv g h),Aw h];exact⟨_,rfl,Np.c (hg j h),hg j h⟩
   .rw[As ω,Am,Au h];exact⟨⟨false,[],[]⟩,rfl,Np.z,δ⟩
  have hq:Bp ((if j<n then g j else 0)*c)<=200:=(by have:=Lo (if j<n then g j else 0) c;have:=Al7 l.2;have:=Al7 hc;omega);have hb:Z5 x y (cR c)=some (cR ((if j<m then f j else 0)+(if j<n then g j else 0)*c)):=(by unfold Z5;rw[(Np.c hc).mul l.1,Ad,Nat.mul_comm c,s.add (Np.cR hq)];rfl);simp only[length_replicate,Ao (ω:(j:Int)<((max m n:Nat):Int)),Ak]
  erw[u,Ad,q,Ad];dsimp only;rw[hb,Ad,Br rfl hx,Ad,C5 h2 ω,Ho (n:=j) rfl]
 .intro o' h;simp only[length_replicate,As (ω:¬((max m n:Nat):Int)<((max m n:Nat):Int)),Am]
 .intro o' h1 _ h3;rw[Abv h1 (f:=λk=>(if k<m then f k else 0)+(if k<n then g k else 0)*c) λk hk=>h3 k ω hk]
theorem Al8 {p:List A7} {f:Nat->Nat} (u:n<1000) (s:p.length=n+1) (hp:∀k,k<n+1->∃x,p[k]? = some x/\Np x (f k)) (b:f n≠0):O8 p=some (Ls (n+1) f):=by
 unfold O8;obtain⟨x,q,l⟩:=hp n ω;have w:Aa (((n+1:Nat):Int)-1)=(n:Int):=by rw[Aa,B6] <;> omega
 refine bnd (a:=((n+1:Nat):Int)) (Fg ?_) ?_
 .rw[s];simp only[Ao (ω:((n+1:Nat):Int)>0),Ak,w,Br rfl q,Ad,l.sign,Au b];rfl
 .rw[Lm rfl rfl (Nat.le_refl _) ω ω,Ad];refine Agv (i:=0) (n:=n+1) _ (λk=>cR (f k)) ω ψ ?_ ?_ ?_
  .intro j o' _ h2 h3;have hx:o'[j]? = some o'[j]:=B4 ω;obtain⟨y,g,c⟩:=hp j h2;simp only[length_replicate,Ao (ω:(j:Int)<((n+1:Nat):Int)),Ak,Br rfl g,c.can,Ad,Br rfl hx,C5 h2 ω,Ho (n:=j) rfl]
  .intro o' h;simp only[length_replicate,As (ω:¬((n+1:Nat):Int)<((n+1:Nat):Int)),Am]
  .intro o' h1 _ h3;rw[Abv h1 (f:=f) λk hk=>h3 k ω hk]
def Ii (n d:Nat) (f:Nat->Nat) (k:Nat):Nat:=sm n λa=>f a*Rc a d k
theorem Ave (a d:Nat):0<Rc a d (a+d):=by
 unfold Rc;rw[Aw ω,show a+d-d=a by omega,Ve];have:0<bc (a+d) a:=by
  have h:∀d,0<bc (a+d) a:=by
   intro d;induction d with
   | zero=>rw[Nat.add_zero,Ve];decide
   | succ d ih=>cases a with| zero=>rw[Jw];decide| succ a=>rw[show a+1+(d+1)=(a+1+d)+1 by omega,X2];omega
  exact h d
 omega
theorem A7m {f:Nat->Nat} {p q:List A7} (a1:n+d<=12) (hp:p=Ls (n+1) f) (i:f n≠0) (hq:q.length=d+1) (R:∀k,k<d+1->∃x,q[k]? = some x/\Np x (if k=d then 1 else 0)) (hf:∀k,k<n+1->f k<Fc) (X:∀a k,a<=n+1->Ii a d f k<Fc):Zu p q=some (Ls (n+d+1) (Ii (n+1) d f),true):=by
 unfold Zu
 have l:p.length=n+1:=by rw[hp,Mu]
 rw[l,hq,As ω,As ω]
 simp only[Am,Ad]
 have c1:O8 p=some (Ls (n+1) f):=Al8 ω l (λk hk=>⟨_,by rw[hp];exact Mv f hk,Np.c (hf k hk)⟩) i
 have c2:O8 q=some (Ls (d+1) λk=>if k=d then 1 else 0):=Al8 ω hq R ψ
 have w:Aa (((n+1:Nat):Int)+((d+1:Nat):Int))=((n+d+2:Nat):Int):=by rw[Aa,B6] <;> omega
 rw[c1,Ad,c2,Ad,Mu,Mu,Cy ω,Cy ω]
 simp only[Am,Ad]
 rw[w,As ω,Am]
 obtain⟨r,Z,Y⟩:=Ey (J:=λB=>(O8 B).bind λA=>some (A,true)) (Q:=λr=>r=(Ls (n+d+1) (Ii (n+1) d f),true)) (step:=λ(x:List A7×Int)=>match x with
  | (v25,v26)=>
   bif v26<((n+1:Nat):Int) then (
   (Ag (Ls (n+1) f) v26).bind λM=>
   (An (S:=(List A7×Int)) (E:=(List A7×Int)) (λ(g,v37)=>
   bif v37<((d+1:Nat):Int) then (
   (Ag (Ls (d+1) λk=>if k=d then 1 else 0) v37).bind λI=>
   (Hm M I).bind λv40=>
   (I4 v40).bind λG=>
   bif (G==(0:Int)) then (
   some (.inl (g,(Aa (v37+1))))
   )
   else (
   (Ua v26 v37).bind λD=>
   (T9 g D v40).bind λv44=>
   some (.inl (v44,(Aa (v37+1))))
   )
   )
   else (
   some (.inr (g,v37))
   )
    ) (v25,0)).bind λ(v45,v46)=>
   some (.inl (v45,(Aa (v26+1))))
   )
   else (
   some (.inr v25)
   )) (s:=([],0))
  (λs=>∃(a L:Nat) (h:Nat->Nat),s=(Ls L h,(a:Int))/\a<=n+1/\L<=a+d/\(∀k,(if k<L then h k else 0)=Ii a d f k)/\(a=n+1->L=n+d+1)) (λs=>n+1-s.2.toNat)
  (λe=>e=Ls (n+d+1) (Ii (n+1) d f)) ⟨0,0,λ_=>0,rfl,ω,ω,λk=>by simp[Ii,sm],ω⟩ (by
  rintro _ ⟨a,L,h,rfl,ha,hL,z,y⟩
  rcases Cf a (n+1) with h1|h1
  .left
   have N:Np (cR 0) 0:=Np.c δ
   have b:∀k,Ii (a+1) d f k=Ii a d f k+f a*Rc a d k:=λk=>rfl
   have hh:∀k,k<L->h k<Fc:=λk hk=>by
    have:=z k
    rw[Aw hk]at this
    rw[this];exact X a k ω
   by_cases h0:f a=0
   .refine⟨(Ls L h,((a+1:Nat):Int)),?_,⟨a+1,L,h,rfl,ω,ω,λk=>by rw[b,h0,z];simp,λe=>?_⟩,ζ⟩
    .simp only[Ao (ω:(a:Int)<((n+1:Nat):Int)),Ak,Br rfl (Mv f h1),Ad,h0]
     refine Lp (d+1) (λj=>(Ls L h,(j:Int))) rfl ?_ ⟨(Ls L h,((d+1:Nat):Int)),?_,?_⟩
     .intro j hj
      have hy:Np (cR (if j=d then 1 else 0)) (if j=d then 1 else 0):=Np.c (by split <;> decide)
      simp only[Ao (ω:(j:Int)<((d+1:Nat):Int)),Ak,Br rfl (Mv _ hj),Ad,N.mul hy,Nat.zero_mul,N.sign,if_true,C5 hj ω]
      rfl
     .simp only[As (ω:¬((d+1:Nat):Int)<((d+1:Nat):Int)),Am]
     .rw[C5 h1 ω]
    .have:a=n:=ω
     subst this;exact (i h0).elim
   .have u:=Np.c (hf a h1)
    have U:T9 (Ls L h) (Ls (a+d+1) (Rc a d)) (cR (f a))=some (Ls (a+d+1) λk=>(if k<L then h k else 0)+(if k<a+d+1 then Rc a d k else 0)*f a):=by
     rw[A7l ω ω hh (λk hk=>?_) (hf a h1),show max L (a+d+1)=a+d+1 by omega]
     unfold Rc
     split
     .refine Nat.lt_of_le_of_lt (Nat.mul_le_mul (Abn k a) (Abn a (k-d))) ?_
      rw[<-Nat.pow_add]
      exact Nat.lt_of_le_of_lt (Nat.pow_le_pow_right δ (ω:k+a<=40)) δ
     .decide
    refine⟨(Ls (a+d+1) λk=>(if k<L then h k else 0)+(if k<a+d+1 then Rc a d k else 0)*f a,((a+1:Nat):Int)),?_,⟨a+1,a+d+1,_,rfl,ω,ω,λk=>?_,λe=>ω⟩,ζ⟩
    .simp only[Ao (ω:(a:Int)<((n+1:Nat):Int)),Ak,Br rfl (Mv f h1),Ad]
     refine Lp (d+1) (λj=>if j<=d then (Ls L h,(j:Int)) else (Ls (a+d+1) λk=>(if k<L then h k else 0)+(if k<a+d+1 then Rc a d k else 0)*f a,(j:Int))) ψ ?_ ⟨((Ls (a+d+1) λk=>(if k<L then h k else 0)+(if k<a+d+1 then Rc a d k else 0)*f a),((d+1:Nat):Int)),?_,?_⟩
     .intro j hj
      have hy:Np (cR (if j=d then 1 else 0)) (if j=d then 1 else 0):=Np.c (by split <;> decide)
      rw[Aw ω]
      simp only[Ao (ω:(j:Int)<((d+1:Nat):Int)),Ak,Br rfl (Mv _ hj),Ad,u.mul hy,C5 hj ω]
      rcases Cf j d with h2|h2
      .rw[Au (ω:¬j=d),Nat.mul_zero,N.sign,Ad,Aw (ω:j+1<=d)]
       rfl
      .have:j=d:=ω
       subst this
       rw[Aw rfl,Nat.mul_one,u.sign,Ad,Au h0,Avd a j ω ω,Ad,U,Au ω]
       rfl
     .rw[Au ω]
      simp only[As (ω:¬((d+1:Nat):Int)<((d+1:Nat):Int)),Am]
     .rw[C5 h1 ω]
    .rw[b,<-z]
     by_cases hk:k<a+d+1
     .rw[Aw hk,Aw hk,Nat.mul_comm (Rc a d k)]
     .rw[Au hk,Au ω,Au0 ω];simp
  .have:a=n+1:=ω
   subst this
   right
   have V:=y rfl
   refine⟨Ls L h,?_,?_⟩
   .simp only[As (ω:¬((n+1:Nat):Int)<((n+1:Nat):Int)),Am]
   .subst V
    refine Abv (Mu _ _) λk hk=>?_
    have:=z k
    rw[Aw hk]at this
    rw[Mv _ hk,this]) (by
  rintro _ rfl
  refine⟨_,bnd (Al8 (n:=n+d) (f:=Ii (n+1) d f) ω (Mu _ _) (λk hk=>⟨_,Mv _ hk,Np.c (X _ _ ω)⟩) ?_) rfl,rfl⟩
  have e:Ii (n+1) d f (n+d)=Ii n d f (n+d)+f n*Rc n d (n+d):=rfl
  have:=Nat.mul_pos (Nat.pos_of_ne_zero i) (Ave n d)
  omega)
 rw[<-Y]
 exact Z
theorem A7n (d x N:Nat) (f:Nat->Nat):∀M,(∀a,a<M->a+d<N)->sm N (λk=>Ii M d f k*bc x k)=sm M (λa=>f a*bc x a)*bc x d:=by
 intro M;induction M with
 | zero=>intro _;rw[Vd (λk _=>by simp[Ii,sm])];simp[sm]
 | succ M ih=>
  intro h;have e:∀k,Ii (M+1) d f k*bc x k=Ii M d f k*bc x k+f M*(Rc M d k*bc x k):=λk=>by show (Ii M d f k+f M*Rc M d k)*bc x k=_;rw[Nat.add_mul,Nat.mul_assoc]
  rw[X0 (λk _=>e k),Vc,ih (λa ha=>h a ω),Auy,X3 x M d N (h M ω)];show _=(sm M (λa=>f a*bc x a)+f M*bc x M)*bc x d;rw[Nat.add_mul,Nat.mul_assoc (f M)]
theorem A7o (d:Nat) (f:Nat->Nat) (k:Nat):∀{m n:Nat},m<=n->Ii m d f k<=Ii n d f k:=by
 intro m n h;induction n with
 | zero=>have:m=0:=ω;subst this;exact Nat.le_refl _
 | succ n ih=>
  rcases Cf m (n+1) with h'|h'
  .have:=ih ω;have e:Ii (n+1) d f k=Ii n d f k+f n*Rc n d k:=rfl;omega
  .have:m=n+1:=ω;subst this;exact Nat.le_refl _
def prb (x:Nat):List Bi->Nat
 | []=>1
 | a::l=>bc x a.P.toNat*prb x l
def Dp:List Bi->Nat
 | []=>0
 | a::l=>a.P.toNat+Dp l
theorem Avf (x:Nat) (l m:List Bi):prb x (l++m)=prb x l*prb x m:=by induction l with| nil=>simp[prb]| cons a l ih=>simp only[Eu,prb,ih,Nat.mul_assoc]
theorem Ss (l m:List Bi):Dp (l++m)=Dp l+Dp m:=by induction l with| nil=>simp[Dp]| cons a l ih=>simp only[Eu,Dp,ih,Nat.add_assoc]
theorem Al9 {m:List Bi} (h:l.Perm m):Dp l=Dp m:=by induction h with| nil=>rfl| cons a _ ih=>simp only[Dp,ih]| swap a b l=>simp only[Dp];omega| trans _ _ h1 h2=>exact h1.trans h2
theorem A7p (x d:Nat):bc x d<=(x+1) ^ d:=Nat.le_trans (Al5 x d) (Nat.pow_le_pow_left ω d)
theorem Avg (x:Nat):∀l:List Bi,prb x l<=(x+1) ^ Dp l
 | []=>by simp[prb,Dp]
 | a::l=>by simp only[prb,Dp,Nat.pow_add];exact Nat.mul_le_mul (A7p x _) (Avg x l)
theorem X4 {x:Nat} (hx:x<=1048576) (hd:Dp l<=12):prb x l<Fc:=by refine Nat.lt_of_le_of_lt (Avg x l) ?_;refine Nat.lt_of_le_of_lt (Nat.pow_le_pow_left (ω:x+1<=1048577) _) ?_;exact Nat.lt_of_le_of_lt (Nat.pow_le_pow_right δ hd) δ
def PwN (l:List Bi) (N:Nat) (f:Nat->Nat):Prop:=N=Dp l/\f N≠0/\∀x,sm (N+1) (λk=>f k*bc x k)=prb x l
theorem PwN.le {f:Nat->Nat} (h:PwN l N f) (hk:k<N+1):f k<=prb k l:=by
 have h1:=h.2.2 k;have h2:f k*bc k k<=sm (N+1) (λj=>f j*bc k j):=by
  have:∀n,k<n->f k*bc k k<=sm n (λj=>f j*bc k j):=by
   intro n;induction n with
   | zero=>intro h;omega
   | succ n ih=>
    intro h;show _<=sm n _+f n*bc k n;rcases Cf k n with h'|h'
    .have:=ih h';omega
    .have:k=n:=ω;subst this;omega
  exact this _ hk
 rw[Ve,Nat.mul_one]at h2;omega
theorem PwN.step {f:Nat->Nat} (h:PwN l N f) (a:Bi):PwN (l++[a]) (N+a.P.toNat) (Ii (N+1) a.P.toNat f):=by
 refine⟨by rw[Ss,h.1];simp[Dp],?_,λx=>?_⟩
 .have e:Ii (N+1) a.P.toNat f (N+a.P.toNat)=Ii N a.P.toNat f (N+a.P.toNat)+f N*Rc N a.P.toNat (N+a.P.toNat):=rfl;have:=Nat.mul_pos (Nat.pos_of_ne_zero h.2.1) (Ave N a.P.toNat);omega
 .rw[A7n _ x _ f (N+1) (λb ha=>ω),h.2.2 x,Avf];simp[prb]
theorem A7q (l:List Bi) (x:l≠[]) (ht:∀a∈l,a.L.T.length≠0) (hd:∀a∈l,0<=a.P) (R:Dp l<=12) (S:l.length<=1000) : ∃N f,N9 l=some (Ls (N+1) f)/\PwN l N f:=by
 have h0:Aes l=false:=by cases l with| nil=>exact (x rfl).elim| cons a M=>have:=ht a ψ;show (a.L.T.length==0)=false;simpa using this
 have h1:∃N f,Aer l=some (Ls (N+1) f)/\PwN l N f:=by
  unfold Aer;rw[Oo,Ad]
  suffices h:∃r,_/\∃N f,r=Ls (N+1) f/\PwN l N f by obtain⟨r,G,N,f,E,D⟩:=h;exact⟨N,f,by rw[<-E];exact G,D⟩
  refine Ey (λs=>∃(i N:Nat) (f:Nat->Nat),s=(Ls (N+1) f,(i:Int))/\i<=l.length/\PwN (l.take i) N f) (λs=>l.length-s.2.toNat) (λe=>∃N f,e=Ls (N+1) f/\PwN l N f) ⟨0,0,λ_=>1,rfl,ω,by simp[PwN,Dp,prb,sm,Jw]⟩ ?_ ?_
  .rintro _ ⟨i,N,f,rfl,hi,g⟩;rcases Cf i l.length with h|h
   .left;have hx:l[i]? = some l[i]:=B4 h;have b:=getElem_mem h;generalize l[i]=a at hx b;have U:=ht a b;have L:=hd a b;have B:Dp l=Dp (l.take i)+(a.P.toNat+Dp (l.drop (i+1))):=(by have:=Ss (l.take i) (l.drop i);rw[take_append_drop]at this;rw[this,Lu hx];rfl);have V:=g.1;have w:Aa (a.P+1)=((a.P.toNat+1:Nat):Int):=ξ;have I:Ag (replicate (a.P.toNat+1) (⟨false,[],[]⟩:A7)) a.P=some ⟨false,[],[]⟩:=Br (n:=a.P.toNat) ω ψ;have u:=g.step a;have hb:∀A k,A<=N+1->Ii A a.P.toNat f k<Fc:=by
     intro A k y;refine Nat.lt_of_le_of_lt (A7o _ f k y) ?_;rcases Cf k (N+a.P.toNat+1) with hk|hk
     .refine Nat.lt_of_le_of_lt (u.le hk) (X4 ω ?_);rw[Ss];simp only[Dp];omega
     .have:Ii (N+1) a.P.toNat f k=0:=Vd λj hj=>by rw[Au0 ω];rfl
      rw[this];decide
    have J:=A7m (n:=N) (d:=a.P.toNat) (f:=f) (p:=Ls (N+1) f) (q:=Di (replicate (a.P.toNat+1) ⟨false,[],[]⟩) a.P (cR 1)) ω rfl g.2.1 (by rw[Ho (n:=a.P.toNat) ω];simp) (λk hk=>by
     rw[Ho (n:=a.P.toNat) ω];by_cases e:k=a.P.toNat
     .subst e;rw[Aw rfl];exact⟨_,getElem?_set_self ψ,Np.c δ⟩
     .rw[Au e,getElem?_set_ne ω];exact⟨⟨false,[],[]⟩,by simp[hk],Np.z⟩) (λk hk=>Nat.lt_of_le_of_lt (g.le hk) (X4 ω ω)) hb
    refine⟨(Ls (N+a.P.toNat+1) (Ii (N+1) a.P.toNat f),((i+1:Nat):Int)),?_,⟨i+1,_,_,rfl,ω,by rw[Db hx];exact u⟩,ζ⟩;simp only[Ao (ω:(i:Int)<(l.length:Int)),Ak,Br rfl hx,Ad,Cy (ω:¬(a.L.T.length:Int)=0),Am,w,Lm rfl rfl (Nat.le_refl _) (ω:56*(a.P.toNat+1)<=281474976710656) ω,Oo,I,J,C5 h ω]
   .have:i=l.length:=ω;subst this;rw[Dq]at g;right;exact⟨_,by simp only[As (ω:¬(l.length:Int)<(l.length:Int)),Am],_,_,rfl,g⟩
  .rintro _ ⟨N,f,rfl,h⟩;exact⟨_,rfl,N,f,rfl,h⟩
 obtain⟨N,f,h2,h3⟩:=h1;refine⟨N,f,?_,h3⟩;unfold N9;rw[h0,Am];exact h2
theorem A7r {c:Int} {d:Int} (hc:c<=1048576) (hd:0<=d) (b:d<=64):Qi c d=some (cR (bc c.toNat d.toNat),true):=by
 have h:=A6x c.toNat d.toNat ω ω;have e:((d.toNat:Nat):Int)=d:=ω;rw[e]at h;rw[<-h];unfold Qi;have f:(if c>(0:Int) then c else 0)=(if ((c.toNat:Nat):Int)>(0:Int) then ((c.toNat:Nat):Int) else 0):=by split <;> split <;> omega
 rw[f]
theorem A7s (l:List Bi) {c:Int} (hc:c<=1048576) (ht:∀a∈l,a.L.T.length=0/\a.L.Q=c) (hd:∀a∈l,0<=a.P) (G:Dp l<=12) (I:l.length<=1000) :
  N9 l=some [cR (prb c.toNat l)]:=by
 have h1:Aeq l=some [cR (prb c.toNat l)]:=by
  unfold Aeq
  rw[Oo,Ad]
  obtain⟨r,B,A⟩:∃r,_/\r = [cR (prb c.toNat l)]:=Ey (λs=>∃i:Nat,s=((i:Int),[cR (prb c.toNat (l.take i))])/\i<=l.length) (λs=>l.length-s.1.toNat) (λe=>e = [cR (prb c.toNat l)]) (J:=λo=>some o)
   (step:=λ(x:Int×List A7)=>match x with
    | (g,f)=>
     bif g<(l.length:Int) then (
     (Ag l g).bind λb=>
     bif ((b.L.T.length:Int)==(0:Int)) then (
     (Qi b.L.Q b.P).bind λk=>
     (Ag f 0).bind λv20=>
     (Hm v20 k.1).bind λv21=>
     (Ag f 0).bind λv22=>
     some (.inl ((Aa (g+1)),(Di f 0 v21)))
     )
     else (
     (Gz 56 (Aa (b.P+1)) (Aa (b.P+1)) ((A7.mk false [] []):A7)).bind λq=>
     (G1 1).bind λv25=>
     (Ag q b.P).bind λv26=>
     none
     )
     )
     else (
     some (.inr f)
     )) (s:=(0,[cR 1]))
   ⟨0,rfl,ω⟩ (by
   rintro _ ⟨i,rfl,hi⟩
   rcases Cf i l.length with h|h
   .left
    have hx:l[i]? = some l[i]:=B4 h
    have j:=getElem_mem h
    generalize l[i]=a at hx j
    obtain⟨L,D⟩:=ht a j
    have y:=hd a j
    have e:Dp l=Dp (l.take i)+(a.P.toNat+Dp (l.drop (i+1))):=by
     have:=Ss (l.take i) (l.drop i)
     rw[take_append_drop]at this
     rw[this,Lu hx];rfl
    have hb:prb c.toNat (l.take i)<Fc:=X4 ω ω
    have z:bc c.toNat a.P.toNat<Fc:=by
     have:=X4 (x:=c.toNat) (l:=[a]) ω (by simp only[Dp];omega)
     simpa[prb] using this
    have u:Ag [cR (prb c.toNat (l.take i))] 0=some (cR (prb c.toNat (l.take i))):=rfl
    refine⟨_,?_,⟨i+1,rfl,ω⟩,ζ⟩
    simp only[Ao (ω:(i:Int)<(l.length:Int)),Ak,Br rfl hx,Ad,Fm (ω:(a.L.T.length:Int)=0),D,A7r hc y (ω:a.P<=64),u,(Np.c hb).mul (Np.c z),C5 h ω]
    rw[Db hx,Avf]
    simp[prb,Di]
   .have:i=l.length:=ω
    subst this
    right
    exact⟨[cR (prb c.toNat (take l.length l))],by simp only[As (ω:¬(l.length:Int)<(l.length:Int)),Am],by rw[Dq]⟩) (by
   rintro _ rfl
   exact⟨_,rfl,rfl⟩)
  rw[<-A]
  exact B
 have h0:Aes l=true:=by
  cases l with
  | nil=>rfl
  | cons a E=>
   have:=(ht a ψ).1
   show (a.L.T.length==0)=true
   simpa using this
 unfold N9
 rw[h0,Ak,h1]
noncomputable def Agw (cmp:α->α->Option Int) (a0:Int) (g:List α):Option (List α) := (An (S:=(Int×Int×(List α))) (E:=(Int×Int×(List α))) (λ(v3,v4,i)=> bif v4<=a0 then ((Abq cmp v3 v4 i).bind λh=> (G0 g.length h).bind λl=> some (.inl (v4,(Aa (v4+20)),h))) else (some (.inr (v3,v4,i)))) (0,20,g)).bind λ(v8,v9,f)=> (Abq cmp v8 a0 f).bind λc=> (G0 g.length c).bind λv12=> (An (S:=(Int×Int×Int)) (E:=Unit) (λ(b,k,j)=> bif b<a0 then ((An (S:=Unit) (E:=Unit) (λ_=> bif (Aa (2*b))<=a0 then (none) else (some (.inr ()))) ()).bind λ_=> bif (Aa (0+b))<a0 then (none) else (some (.inl ((Aa (b*2)),0,(Aa (2*b)))))) else (some (.inr ()))) (20,v8,v9)).bind λ_=> some c
theorem Avh {c:α->α->Int} (L:P1 c) (f:List α) (g:∀x∈f,∀y∈f,cmp x y=some (c x y)) (h:f.length<20) : ∃R,Agw cmp (f.length:Int) f=some R/\R.Perm f/\R.Pairwise (λa b=>¬c b a<0):=by
 obtain⟨R,h1,h2,h3⟩:=Aux L f g ω;refine⟨R,?_,h2,h3⟩;unfold Agw;refine bnd (a:=(0,20,f)) (Fg ?_) ?_
 .simp only[As (ω:¬(20:Int)<=(f.length:Int)),Am]
 .dsimp only;rw[h1,Ad,Ms h2.length_eq.symm,Ad];refine bnd (a:=()) (Fg ?_) rfl;simp only[As (ω:¬(20:Int)<(f.length:Int)),Am]
theorem Agx:P1 G3 where
 irr x:=by rw[(Lv.zero x x trivial trivial).2 rfl];omega
 trs x y z h1 h2:=Lv.trans x y z trivial trivial trivial h1 h2
 ntr x y z h1 h2 h3:=by
  rcases Int.lt_trichotomy (G3 x y) 0 with k|k|k
  .exact h1 k
  .have:=(Lv.zero x y trivial trivial).1 k
   subst this;exact h2 h3
  .have b:G3 y x<0:=by rw[Lv.anti x y trivial trivial];omega
   exact h2 (Lv.trans y x z trivial trivial trivial b h3)
theorem A7t:P1 (λa b:Bi=>G3 a.L b.L):=⟨λ_=>Agx.irr _,λ_ _ _=>Agx.trs _ _ _,λ_ _ _=>Agx.ntr _ _ _⟩
def Abw (l:List Bi):Prop:=l.Pairwise λa b=>¬G3 b.L a.L<0
theorem A7u (b:List Bi) (ht:∀a∈b,a.L.T.length<1099511627776) (c:b.length<20):∃R,Wm b=some R/\R.Perm b/\Abw R:=by obtain⟨R,h1,h2,h3⟩:=Avh (cmp:=Wn) A7t b (λx hx y _=>by unfold Wn;rw[Afw x.L y.L (ht x hx)];rfl) c;refine⟨R,?_,h2,h3⟩;unfold Wm;have e:Ad1 (b.length:Int) b=Agw Wn (b.length:Int) b:=rfl;rw[e,h1,Ad,Ms h2.length_eq.symm];rfl
theorem Agy (n:Nat) (h:n<=1000000):M6 (α:=α) (n:Int)=some []:=by unfold M6;rw[Ao ω,Ao ω];rfl
theorem A7v (a b:List Bi) (h:a.length+b.length<=1000000):Adu [a,b]=some (a++b) := Al4 (B:=40) δ (gr:=Ad4) (λn h=>Agy n h) a b h
theorem A7w (a b:List Bf) (h:a.length+b.length<=1000000):Adt [a,b]=some (a++b) := Al4 (B:=40) δ (gr:=Ad3) (λn h=>Agy n h) a b h
theorem Ama (m n:Bd) (h1:m.F.length+n.F.length<=1000000) (h2:m.A.length+n.A.length<=1000000):P6 m n=some ⟨m.F++n.F,m.A++n.A⟩:=by unfold P6;rw[A7w _ _ h1,Ad,A7v _ _ h2];rfl
def atO (l:Bz) (k:Nat):List Bi:=if k=0 then [] else [⟨l,k⟩]
theorem A7x (l:Bz) (k:Nat):Tn l (k:Int)=some (atO l k):=by
 unfold Tn atO;by_cases h:k=0
 .rw[Fm ω,Aw h];rfl
 .rw[Cy ω,Au h];rfl
theorem Avi (l:Bz) (k:Nat):(atO l k).length<=1:=by unfold atO;split <;> simp
abbrev FS:={F:List Bf // F.length<=1000}
theorem A7y {t:Aj} {x:A7} {F:FS} (b:t.M=⟨F.1,A⟩) (f:A.length+B.length<=1000000) (g:K<30000000000) (h1:RB K t.C) (h2:RB 200 x) : ∃u,Mi t x ⟨[],B⟩=some u/\u.M=⟨F.1,A++B⟩/\rq u.C=rq t.C*rq x/\RB (K+202) u.C:=by obtain⟨c,c1,c2,_,c4⟩:=Aga h1 h2 ω ω;refine⟨⟨c,⟨F.1,A++B⟩⟩,?_,rfl,c4,c2⟩;unfold Mi;have:=F.2;rw[c1,Ad,b,Ama _ _ ζ f,append_nil];rfl
abbrev Ent:=List Bi×Nat
inductive Lw (F:FS) (c:Rat) (K:Nat):List Aj->List Ent->Prop
 | nil:Lw F c K [] []
 | cons {t:Aj} {b:Ent} {ts:List Aj} {bs:List Ent}:t.M=⟨F.1,b.1⟩->rq t.C=c*(b.2:Rat)->RB K t.C->Lw F c K ts bs->Lw F c K (t::ts) (b::bs)
theorem Lw.len {F:FS} {c:Rat} {bs:List Ent} (h:Lw F c K ts bs):ts.length=bs.length:=by induction h with| nil=>rfl| cons _ _ _ _ ih=>simp[ih]
theorem Lw.app {F:FS} {c:Rat} {f:List Aj} {bs cs:List Ent} (h:Lw F c K ts bs) (h':Lw F c K f cs):Lw F c K (ts++f) (bs++cs):=by induction h with| nil=>exact h'| cons a b d _ ih=>exact .cons a b d ih
theorem Lw.mono {F:FS} {c:Rat} {f:Nat} {bs:List Ent} (h:Lw F c K ts bs) (hk:K<=f):Lw F c f ts bs:=by induction h with| nil=>exact .nil| cons a b d _ ih=>exact .cons a b (d.mono hk) ih
theorem Lw.get {F:FS} {c:Rat} {bs:List Ent} (h:Lw F c K ts bs):∀{j:Nat} {t:Aj},ts[j]? = some t->∃b,bs[j]? = some b/\t.M=⟨F.1,b.1⟩/\rq t.C=c*(b.2:Rat)/\RB K t.C:=by
 induction h with
 | nil=>intro j t h;simp at h
 | @cons t b ts bs a1 a2 a3 _ ih=>intro j u hj;cases j with| zero=>simp only[getElem?_cons_zero,Option.some.injEq]at hj;subst hj;exact⟨b,rfl,a1,a2,a3⟩| succ j=>simp only[getElem?_cons_succ]at hj;simpa using ih hj
def fs0:FS:=⟨[],δ⟩
abbrev Rep (c:Rat) (K:Nat):List Aj->List Ent->Prop:=Lw fs0 c K
def Iz (B:List Ent) (l:Bz) (f:Nat->Nat) (n:Nat):List Ent:=(range n).flatMap λk=>if f k=0 then [] else B.map λb=>(b.1++atO l k,b.2*f k)
theorem Avj (B:List Ent) (l:Bz) (f:Nat->Nat) (n:Nat):Iz B l f (n+1)=Iz B l f n++(if f n=0 then [] else B.map λb=>(b.1++atO l n,b.2*f n)):=by unfold Iz;rw[range_succ,flatMap_append];simp
noncomputable def Abx (h:List Aj) (l:Bz) (k:Int) (x:A7):Int×List Aj->Option ((Int×List Aj)⊕(Int×List Aj)):=λ(b,c)=> bif b<(h.length:Int) then ((Ag h b).bind λg=> (Tn l k).bind λv194=> (Mi g x (Bd.mk [] v194)).bind λf=> (Ca 104 c [f]).bind λi=> some (.inl ((Aa (b+1)),i))) else (some (.inr (b,c)))
theorem Agz (z:Int):mkRat z 1=(z:Rat):=by rw[Rat.mkRat_eq_div,show ((1:Nat):Rat)=1 from rfl];grind
theorem A7z (z:Int) (h1 : -9223372036854775808<=z) (h2:z<=9223372036854775807):∃r,G1 z=some r/\RB 3 r/\K1 r/\rq r=(z:Rat):=by
 have b:Bp z.natAbs<=3:=U4 (n:=z.natAbs) ω;refine⟨_,Abd z h1 h2,Qx _ _ _ _ b (by rw[Sl];decide) δ,U8 _ _ _ δ,?_⟩;rw[Sq _ _ _ δ,Agz];congr 1;unfold sg;by_cases h:z<0
 .rw[Ao h,Aw rfl];omega
 .rw[As h,Au δ];omega
theorem Aby (n:Nat):rq (cR n)=(n:Rat):=by unfold cR;rw[Sq _ _ _ δ,Agz];rfl
theorem A70 (n:Nat):K1 (cR n):=U8 _ _ _ δ
def Gm:List Nat->Nat
 | []=>1
 | a::l=>a*Gm l
open Classical in
noncomputable def cfW:List (Rat×Bd)->Bd->Rat
 | [],_=>0
 | t::l,m=>(if t.2=m then t.1 else 0)+cfW l m
def Kk (v:Bd->Nat):List (Rat×Bd)->Rat
 | []=>0
 | t::l=>t.1*(v t.2:Rat)+Kk v l
open Classical in
noncomputable def Su (l:List (Rat×Bd)) (m:Bd):List (Rat×Bd):=l.filter λt=>decide (t.2≠m)
open Classical in
theorem Avk (v:Bd->Nat) (m:Bd):∀l:List (Rat×Bd),Kk v l=cfW l m*(v m:Rat)+Kk v (Su l m)
 | []=>by simp only[Kk,cfW,Su,filter_nil];grind
 | t::l=>by
  have ih:=Avk v m l;unfold Su at *;simp only[Kk,cfW];by_cases e:t.2=m
  .rw[Aw e,filter_cons_of_neg (by simp[e]),ih,e];grind
  .rw[Au e,filter_cons_of_pos (by simp[e])];simp only[Kk];rw[ih];grind
open Classical in
theorem Avl (m:Bd):∀(l:List (Rat×Bd)) (m':Bd),cfW (Su l m) m'=if m'=m then 0 else cfW l m'
 | [],m'=>by simp[Su,cfW]
 | t::l,m'=>by
  have ih:=Avl m l m';unfold Su at *;by_cases e:t.2=m
  .rw[filter_cons_of_neg (by simp[e]),ih];by_cases e2:m'=m
   .rw[Aw e2,Aw e2]
   .rw[Au e2,Au e2];simp only[cfW];rw[Au (by rw[e];exact λh=>e2 h.symm)];grind
  .rw[filter_cons_of_pos (by simp[e])];simp only[cfW];rw[ih];by_cases e2:m'=m
   .rw[Aw e2,Aw e2,Au (by rw[e2];exact e)];grind
   .rw[Au e2,Au e2]
open Classical in
theorem A71 (v:Bd->Nat):∀(n:Nat) (l:List (Rat×Bd)),l.length<=n->(∀m,0<=cfW l m)->0<=Kk v l:=by
 intro n;induction n with
 | zero=>intro l hl _;have:l = []:=Fu.1 ω;subst this;exact Rat.le_refl
 | succ n ih=>
  intro l hl h;cases l with
  | nil=>exact Rat.le_refl
  | cons t l=>
   rw[Avk v t.2 (t::l)];have h1:0<=Kk v (Su (t::l) t.2):=by
    refine ih _ ?_ λm=>?_
    .unfold Su;rw[filter_cons_of_neg ψ];have:=length_filter_le (λu:Rat×Bd=>decide (u.2≠t.2)) l;simp only[Ed]at hl;omega
    .rw[Avl];split
     .exact Rat.le_refl
     .exact h m
   have h2:=Rat.mul_nonneg (h t.2) (Rat.natCast_nonneg (a:=v t.2));grind
def wT (t:Aj):Rat×Bd:=(rq t.C,t.M)
def nT (t:Aj):Rat×Bd:=(- rq t.C,t.M)
theorem A72 (p:List Aj) (m:Bd):cfW (p.map wT) m=cf p m:=by induction p with| nil=>rfl| cons t p ih=>simp only[map_cons,cfW,ih,Qz,wT]
theorem A73 (p:List Aj) (m:Bd):cfW (p.map nT) m = - cf p m:=by induction p with| nil=>show (0:Rat) = - 0;grind| cons t p ih=>simp only[map_cons,cfW,ih,Qz,nT];split <;> grind
theorem A74 (l k:List (Rat×Bd)) (m:Bd):cfW (l++k) m=cfW l m+cfW k m:=by induction l with| nil=>simp only[nil_append,cfW];grind| cons t l ih=>simp only[Eu,cfW,ih];grind
theorem A75 (v:Bd->Nat) (l k:List (Rat×Bd)):Kk v (l++k)=Kk v l+Kk v k:=by induction l with| nil=>simp only[nil_append,Kk];grind| cons t l ih=>simp only[Eu,Kk,ih];grind
noncomputable def Ag0 (g:List Aj) (l:Bz) (p:List A7):Int×List Aj->Option ((Int×List Aj)⊕(Int×List Aj)):=λ(v173,b)=> bif v173<(p.length:Int) then ((Ag p v173).bind λv175=> (I4 v175).bind λc=> bif (c==(0:Int)) then (some (.inl ((Aa (v173+1)),b))) else ((An (Abx g l v173 v175) (0,b)).bind λ(h,f)=> some (.inl ((Aa (v173+1)),f)))) else (some (.inr (v173,b)))
def Pw (l:Bz) (N:Nat) (f:Nat->Nat) (g:List Bi):Prop:=(l.T.length≠0/\PwN g N f)\/(l.T.length=0/\N=0/\f 0=prb l.Q.toNat g)
abbrev Grp:=Bz×Nat×(Nat->Nat)
inductive Gs:List Grp->List Bi->Prop
 | nil:Gs [] []
 | cons {l:Bz} {N:Nat} {f:Nat->Nat} {g rest:List Bi} {gs:List Grp}:g≠[]->(∀a∈g,a.L=l)->(∀a∈rest,G3 l a.L<0)->Pw l N f g->Gs gs rest->Gs ((l,N,f)::gs) (g++rest)
def Nm (B:List Ent):List Grp->List Ent
 | []=>B
 | q::gs=>Nm (Iz B q.1 q.2.2 (q.2.1+1)) gs
structure Atk (A:List Bi):Prop where
 deg:∀a∈A,0<=a.P
 lin:∀a∈A,Ic a.L=true
 sum:Dp A<=12
 len:A.length<=12
theorem Ag1 {a:Bz} (h:Ic a=true):a.T.length<=16/\-1048576<=a.Q/\a.Q<=1048576:=by unfold Ic at h;simp only[Dz,D8]at h;exact⟨h.1.2.2,h.1.1,h.1.2.1⟩
theorem Atk.sub (h:Atk (A++B)):Atk A/\Atk B:=by have h1:=h.sum;have h2:=h.len;rw[Ss]at h1;rw[E4]at h2;exact⟨⟨λa ha=>h.deg a (by simp[ha]),λa ha=>h.lin a (by simp[ha]),ω,ω⟩,⟨λa ha=>h.deg a (by simp[ha]),λa ha=>h.lin a (by simp[ha]),ω,ω⟩⟩
theorem A76 {l:Bz} {g:List Bi} (hk:Atk g) (b:g≠[]) (hg:∀a∈g,a.L=l):∃N f,N9 g=some (Ls (N+1) f)/\Pw l N f g/\N<=Dp g/\∀k,k<N+1->f k<Fc:=by
 have q:=hk.len;have j:=hk.sum;obtain⟨a,ha⟩:∃a,a∈g:=by cases g with| nil=>exact (b rfl).elim| cons a _=>exact⟨a,ψ⟩
 have c:=hk.lin a ha;rw[hg a ha]at c;have hc:=(Ag1 c).2.2;by_cases h:l.T.length=0
 .have h1:=A7s g hc (λa ha=>by rw[hg a ha];exact⟨h,rfl⟩) hk.deg hk.sum ω;exact⟨0,λ_=>prb l.Q.toNat g,h1,.inr ⟨h,rfl,rfl⟩,ω,λk _=>X4 ω j⟩
 .obtain⟨N,f,h1,h2⟩:=A7q g b (λa ha=>by rw[hg a ha];exact h) hk.deg hk.sum ω;refine⟨N,f,h1,.inl ⟨h,h2⟩,by rw[h2.1];exact Nat.le_refl _,λk i=>Nat.lt_of_le_of_lt (h2.le i) (X4 ?_ j)⟩;have:=h2.1;omega
noncomputable def Ag2 (r:List Bi) (l:Bz):Int->Option (Int⊕Int):=λb=> bif b<(r.length:Int) then ((Ag r b).bind λv117=> (M7 v117.L l).bind λc=> bif (c==(0:Int)) then (some (.inl (Aa (b+1)))) else (some (.inr b))) else (some (.inr b))
variable {t:Af} {e i:Ai} {R:List (List Ai×Nat)} {ts:List Af} {es:List Ai} {data:List Al} {K a b d k:Nat} {Q α β:Type} {l:List (α×Nat)} {J:List Av->Option Q} {q:Q} {g:α->Nat}
theorem A77 {r:List Bi} {a:Bi} (h0:r[0]? = some a) (ht:∀b∈r,b.L.T.length<1099511627776) (u:r.length<=1000) :
  ∃n:Nat,An (Ag2 r a.L) 1=some (n:Int)/\1<=n/\n<=r.length/\(∀b∈r.take n,b.L=a.L)/\∀b,r[n]? = some b->b.L≠a.L:=by
 have hpos:=Eh h0
 obtain⟨e,q,n,l,k⟩:=J2 (step:=Ag2 r a.L) (λs=>∃n:Nat,s=(n:Int)/\1<=n/\n<=r.length/\∀b∈r.take n,b.L=a.L) (λs=>r.length-s.toNat)
  (λe=>∃n:Nat,e=(n:Int)/\1<=n/\n<=r.length/\(∀b∈r.take n,b.L=a.L)/\∀b,r[n]? = some b->b.L≠a.L) (by
  rintro _ ⟨j,rfl,g,f,c⟩
  unfold Ag2
  rcases Cf j r.length with h|h
  .have hx:r[j]? = some r[j]:=B4 h
   have i:=getElem_mem h
   generalize r[j]=b at hx i
   simp only[Ao (ω:(j:Int)<(r.length:Int)),Ak,Br rfl hx,Ad,Afw _ _ (ht b i),C5 h ω]
   by_cases hc:b.L=a.L
   .left
    rw[Fm ((Lv.zero _ _ trivial trivial).2 hc)]
    refine⟨_,rfl,⟨j+1,rfl,ω,ω,λd hd=>?_⟩,ω⟩
    rw[Db hx]at hd
    rcases Ef.1 hd with hd|hd
    .exact c d hd
    .simp only[E3]at hd
     rw[hd];exact hc
   .right
    rw[Cy (λh=>hc ((Lv.zero _ _ trivial trivial).1 h))]
    exact⟨_,rfl,j,rfl,g,f,c,λd hd=>by rw[hx]at hd;cases hd;exact hc⟩
  .right
   refine⟨_,by simp only[As (ω:¬(j:Int)<(r.length:Int)),Am],j,rfl,g,f,c,λd hd=>?_⟩
   have:=Eh hd
   omega) 1 ⟨1,rfl,ω,ω,λb hb=>by
    cases r with
    | nil=>simp at hpos
    | cons x r=>simp at hb h0;rw[hb,h0]⟩
 exact⟨n,by rw[<-l];exact q,k⟩
noncomputable def Abz:(List Aj×List Bi)->Option ((List Aj×List Bi)⊕List Aj):=λ(g,b)=> bif (b.length:Int)>(0:Int) then ((Ag b 0).bind λf=> (An (Ag2 b f.L) 1).bind λc=> (Er b 0 c).bind λi=> (N9 i).bind λh=> (An (Ag0 g f.L h) (0,[])).bind λ(k,j)=> (Er b c b.length).bind λv201=> some (.inl (j,v201))) else (some (.inr g))
theorem A78 (n:Nat):n+1<=2 ^ n:=by induction n with| zero=>decide| succ n ih=>rw[Nat.pow_succ];omega
theorem A79 {B:List Ent} {l:Bz} {f:Nat->Nat} {n M:Nat} (c:∀b∈B,b.1.length<=M):∀b∈Iz B l f n,b.1.length<=M+1:=by
 intro b hb;unfold Iz at hb;rw[mem_flatMap]at hb;obtain⟨k,_,hk⟩:=hb;split at hk
 .cases hk
 .rw[mem_map]at hk;obtain⟨d,hd,rfl⟩:=hk;have:=c d hd;have:=Avi l k;simp only[E4];omega
theorem Pl (k:t.G=6) (h:C3 data i t=some d):Ch data i.K t.R=some d:=by
 rw[Kh,Aw k]at h;by_cases e:i.U=0
 .rw[Aw e]at h;exact h
 .rw[Au e]at h;cases h
theorem Sv (k:t.G=7) (h:C3 data i t=some d):(0<=i.U/\i.U<=6/\i.K.length=0)/\i.U.toNat=d:=by
 rw[Kh,Au ω,Aw k]at h;by_cases e:0<=i.U/\i.U<=6/\i.K.length=0
 .rw[Aw e]at h;exact⟨e,Ew h⟩
 .rw[Au e]at h;cases h
theorem Pm (k:t.G=5) (h:C3 data i t=some d):Fo data i.K t=some d:=by
 rw[Kh,Au ω,Au ω,Aw k]at h;by_cases e:i.U=0
 .rw[Aw e]at h;exact h
 .rw[Au e]at h;cases h
def pv {α:Type} (f:α->Nat):List (α×Nat)->Nat
 | []=>0
 | p::l=>p.2*f p.1+pv f l
theorem J8 (f:α->Nat) (l m:List (α×Nat)):pv f (l++m)=pv f l+pv f m:=by induction l with| nil=>simp[pv]| cons p l ih=>simp only[Eu,pv,ih];omega
theorem X5 (f:α->Nat) (g:β->α) (l:List (β×Nat)):pv f (l.map λp=>(g p.1,p.2))=pv (λx=>f (g x)) l:=by induction l with| nil=>rfl| cons p l ih=>simp only[map_cons,pv,ih]
theorem Q2 {f:α->Nat} (h:∀p∈l,f p.1=g p.1):pv f l=pv g l:=by induction l with| nil=>rfl| cons p l ih=>simp only[pv,h p ψ,ih λq hq=>h q (by simp[hq])]
theorem Oq (c:Nat) (f:α->Nat) (l:List (α×Nat)):pv (λx=>c*f x) l=c*pv f l:=by induction l with| nil=>rfl| cons p l ih=>simp only[pv,ih,Nat.mul_add];rw[Nat.mul_left_comm]
theorem Ab0 (f:β->Nat) (g:α×Nat->List (β×Nat)) (h:α->Nat) (l:List (α×Nat)) (hg:∀p∈l,pv f (g p)=p.2*h p.1):pv f (l.flatMap g)=pv h l:=by induction l with| nil=>rfl| cons p l ih=>rw[flatMap_cons,J8,hg p ψ,ih λq hq=>hg q (by simp[hq]),pv]
theorem A8a {f:α->Nat} (h:∀p∈l,f p.1<=g p.1):pv f l<=pv g l:=by induction l with| nil=>exact Nat.le_refl _| cons p l ih=>have h1:=Nat.mul_le_mul_left p.2 (h p ψ);have h2:=ih λq hq=>h q (by simp[hq]);simp only[pv];omega
def Fd (h:Ai) (c:Nat) (l:List (List Ai×Nat)):List (List Ai×Nat):=l.map λr=>(h::r.1,c*r.2)
def E5 (b:Af->Ai->Ai->List (Ai×Nat)):List Af->List Ai->List Ai->List (List Ai×Nat)
 | t::ts,i::is,j::c=>(b t i j).flatMap λw=>Fd w.1 w.2 (E5 b ts is c)
 | _,_,_=>[([],1)]
def Avm (row:Ai->Ai->List (Ai×Nat)) (a:Ai) (l:List Ai) (M:List Ai->List (List Ai×Nat)):List Ai->List (List Ai×Nat)
 | []=>[(a::l,1)]
 | b::m=>Fd a 1 (M (b::m))++(Fd b 1 (Avm row a l M m)++(row a b).flatMap λw=>Fd w.1 w.2 (M m))
def J9 (row:Ai->Ai->List (Ai×Nat)):List Ai->List Ai->List (List Ai×Nat)
 | []=>λm=>[(m,1)]
 | a::l=>Avm row a l (J9 row l)
theorem Ab1 (row:Ai->Ai->List (Ai×Nat)) (m:List Ai):J9 row [] m = [(m,1)]:=rfl
theorem Ag3 (row:Ai->Ai->List (Ai×Nat)) (a:Ai) (l:List Ai):J9 row (a::l) [] = [(a::l,1)]:=rfl
theorem Ab2 (row:Ai->Ai->List (Ai×Nat)) (a b:Ai) (l m:List Ai):J9 row (a::l) (b::m)=Fd a 1 (J9 row l (b::m))++(Fd b 1 (J9 row (a::l) m)++(row a b).flatMap λw=>Fd w.1 w.2 (J9 row l m)):=rfl
def Jx (data:List Al) (t:Af) (rows:List Af->List Ai->List Ai->List (List Ai×Nat)) (a b:Ai):List (Ai×Nat) := if a.U=b.U then (rows (Mt data t a.U) a.K b.K).map λr=>(⟨a.U,r.1⟩,r.2) else []
def X6 (a b:Nat):List (Ai×Nat):=((range (a+b+1)).filter λk=>Rc a b k != 0).map λ(k:Nat)=>(⟨(k:Int),[]⟩,Rc a b k)
def D7 (data:List Al):Nat->Af->Ai->Ai->List (Ai×Nat)
 | 0,_,_,_=>[]
 | k+1,t,i,j=> if t.G=6 then (E5 (D7 data k) t.R i.K j.K).map λr=>(⟨0,r.1⟩,r.2) else if t.G=7 then X6 i.U.toNat j.U.toNat else if t.G=5 then (J9 (Jx data t (E5 (D7 data k))) i.K j.K).map λr=>(⟨0,r.1⟩,r.2) else [(⟨0,[]⟩,1)]
def eS {α:Type}:List (α->Nat)->List α->Nat
 | [],_=>1
 | _::_,[]=>0
 | w::b,x::xs=>eS (w::b) xs+w x*eS b xs
theorem Ab3 (xs:List α):eS [] xs=1:=by cases xs <;> rfl
theorem Amb (b:Ai->β->Nat) (h:Ai) (c:Nat) (L:List (List Ai×Nat)):pv (λr=>eS (r.map b) []) (Fd h c L)=0:=by induction L with| nil=>rfl| cons r L ih=>show _*eS (b h::r.1.map b) []+pv (λr=>eS (r.map b) []) (Fd h c L)=0;rw[ih];rfl
theorem Amc (b:Ai->β->Nat) (h:Ai) (c:Nat) (x:β) (xs:List β) (L:List (List Ai×Nat)) : pv (λr=>eS (r.map b) (x::xs)) (Fd h c L)=pv (λr=>eS (r.map b) xs) (Fd h c L)+c*b h x*pv (λr=>eS (r.map b) xs) L:=by induction L with| nil=>rfl| cons r L ih=>show c*r.2*eS (b h::r.1.map b) (x::xs)+pv (λr=>eS (r.map b) (x::xs)) (Fd h c L)=(c*r.2*eS (b h::r.1.map b) xs+pv (λr=>eS (r.map b) xs) (Fd h c L))+c*b h x*(r.2*eS (r.1.map b) xs+pv (λr=>eS (r.map b) xs) L);rw[ih,eS];simp only[Nat.mul_add];have:c*r.2*(b h x*eS (r.1.map b) xs)=c*b h x*(r.2*eS (r.1.map b) xs):=(by ac_rfl);omega
theorem Avn {β:Type} (b:Ai->β->Nat) (x:β) (xs:List β) (L:List (List Ai×Nat)):∀R:List (Ai×Nat), pv (λr=>eS (r.map b) (x::xs)) (R.flatMap λw=>Fd w.1 w.2 L)=pv (λr=>eS (r.map b) xs) (R.flatMap λw=>Fd w.1 w.2 L)+pv (λe=>b e x) R*pv (λr=>eS (r.map b) xs) L
 | []=>by simp[pv]
 | w::R=>by rw[flatMap_cons,J8,J8,Amc,Avn b x xs L R];simp only[pv,Nat.add_mul];omega
theorem A8b {row:Ai->Ai->List (Ai×Nat)} {c:Ai->β->Nat} {P Q:Ai->Prop}:∀(xs:List β),(∀x∈xs,∀a,P a->∀b,Q b->pv (λe=>c e x) (row a b)=c a x*c b x)->∀(l m:List Ai),(∀a∈l,P a)->(∀b∈m,Q b) -> pv (λr=>eS (r.map c) xs) (J9 row l m)=eS (l.map c) xs*eS (m.map c) xs:=by
 have one:∀(xs:List β) (m:List Ai),pv (λr:List Ai=>eS (r.map c) xs) [(m,1)]=eS (m.map c) xs:=λxs m=>by show 1*eS (m.map c) xs+0=_;omega
 intro xs;induction xs with
 | nil=>
  intro _ l;cases l with
  | nil=>intro m _ _;rw[Ab1,one,map_nil,Ab3,Nat.one_mul]
  | cons a l=>
   intro m z s;show _=0*_;rw[Nat.zero_mul];cases m with
   | nil=>rw[Ag3,one];rfl
   | cons b m=>
    rw[Ab2,J8,J8,Amb,Amb];rw[Ab0 (h:=λ_=>0) (hg:=λp _=>by rw[Amb,Nat.mul_zero])];have:∀L:List (Ai×Nat),pv (λ_=>0) L=0:=λL=>by induction L with| nil=>rfl| cons p L ih=>simp only[pv,ih];omega
    rw[this]
 | cons x xs ih=>
  intro f l;have ih:=ih λy hy=>f y (by simp[hy]);cases l with
  | nil=>intro m _ _;rw[Ab1,one,map_nil,Ab3,Nat.one_mul]
  | cons a l=>intro m;cases m with| nil=>intro _ _;rw[Ag3,one,map_nil,Ab3,Nat.mul_one]| cons b m=>intro z s;have u:∀a∈l,P a:=λy hy=>z y (by simp[hy]);have q:∀b∈m,Q b:=λy hy=>s y (by simp[hy]);have h0:=ih (a::l) (b::m) z s;rw[Ab2,J8,J8]at h0;rw[Ab2,J8,J8,Amc,Amc,Avn,f x ψ a (z a ψ) b (s b ψ),ih l (b::m) u s,ih (a::l) m z q,ih l m u q];simp only[map_cons,eS]at h0 ⊢;generalize eS (c a::l.map c) xs=A at *;generalize eS (c b::m.map c) xs=B at *;generalize eS (l.map c) xs=k at *;generalize eS (m.map c) xs=j at *;generalize c a x=i at *;generalize c b x=g at *;have D:(A+i*k)*(B+g*j)=A*B+i*(k*B)+g*(A*j)+i*g*(k*j):=(by simp only[Nat.add_mul,Nat.mul_add];have I:A*(g*j)=g*(A*j):=(by ac_rfl);have G:i*k*B=i*(k*B):=(by ac_rfl);have E:i*k*(g*j)=i*g*(k*j):=(by ac_rfl);omega);rw[D,<-h0];simp only[Nat.one_mul];omega
theorem Ab4 (f:List Ai->Nat) (h:Ai) (c:Nat) (L:List (List Ai×Nat)):pv f (Fd h c L)=c*pv (λr=>f (h::r)) L:=by induction L with| nil=>rfl| cons r L ih=>show c*r.2*f (h::r.1)+pv f (Fd h c L)=c*(r.2*f (h::r.1)+pv (λr=>f (h::r)) L);rw[ih,Nat.mul_add,Nat.mul_assoc]
theorem A8c (L:List (α×Nat)):pv (λ_=>0) L=0:=by induction L with| nil=>rfl| cons p L ih=>simp only[pv,ih];omega
theorem A8d (a b n:Nat):pv (λx:Ai=>bc n x.U.toNat) (X6 a b)=bc n a*bc n b:=by
 rw[<-X3 n a b (a+b+1) ω];unfold X6;generalize a+b+1=N;induction N with
 | zero=>rfl
 | succ N ih=>
  rw[range_succ,filter_append,map_append,J8,ih,sm];congr 1;by_cases h:Rc a b N=0
  .simp[h,pv]
  .simp[h,pv]
theorem Ab5:∀(a b N:Nat),sm N (Rc a b)<=3 ^ (a+b)
 | 0,b,N=>by
  have h1:1<=3 ^ (0+b):=Nat.pow_pos δ;by_cases h:b<N
  .rw[Abr (k:=b) h λj hj=>by rw[Abs,Au hj],Abs,Aw rfl];exact h1
  .rw[Vd λk hk=>by rw[Abs,Au ω]];omega
 | a+1,0,N=>by
  have h1:1<=3 ^ (a+1+0):=Nat.pow_pos δ;by_cases h:a+1<N
  .rw[Abr (k:=a+1) h λj hj=>by rw[Abt,Au hj],Abt,Aw rfl];exact h1
  .rw[Vd λk hk=>by rw[Abt,Au ω]];omega
 | a+1,b+1,0=>Nat.zero_le _
 | a+1,b+1,N+1=>by rw[Agt,Au2,X0 λk _=>Au1 a b k];have e:sm N (λk=>Rc a (b+1) k+Rc (a+1) b k+Rc a b k)=sm N (Rc a (b+1))+sm N (Rc (a+1) b)+sm N (Rc a b):=(by rw[Vc (λk=>Rc a (b+1) k+Rc (a+1) b k),Vc]);have h1:=Ab5 a (b+1) N;have h2:=Ab5 (a+1) b N;have h3:=Ab5 a b N;have g:a+(b+1)=a+b+1:=ω;have f:a+1+b=a+b+1:=ω;have c:a+1+(b+1)=a+b+2:=ω;rw[g]at h1;rw[f]at h2;rw[e,c];have l:3 ^ (a+b+1)=3 ^ (a+b)*3:=Nat.pow_succ ..;have i:3 ^ (a+b+2)=3 ^ (a+b+1)*3:=Nat.pow_succ ..;omega
theorem A8e (a b:Nat):pv (λ_=>1) (X6 a b)<=3 ^ (a+b):=by
 have h:=Ab5 a b (a+b+1);refine Nat.le_trans (Nat.le_of_eq ?_) h;unfold X6;generalize a+b+1=N;induction N with
 | zero=>rfl
 | succ N ih=>
  rw[range_succ,filter_append,map_append,J8,ih,sm];congr 1;by_cases h:Rc a b N=0
  .simp[h,pv]
  .simp[h,pv]
structure Gp (data:List Al) (t:Af) (D S:Nat) (p:Ai×Nat):Prop where
 pos:1<=p.2
 deg:∃d,C3 data p.1 t=some d/\d<=D
 siz:Bo p.1<=S
 num:iR p.1
structure Gr (data:List Al) (ts:List Af) (D S:Nat) (p:List Ai×Nat):Prop where
 pos:1<=p.2
 deg:∃d,Ch data p.1 ts=some d/\d<=D
 siz:B7 p.1<=S
 num:Fa p.1
structure Ge (data:List Al) (t:Af) (D S:Nat) (p:List Ai×Nat):Prop where
 pos:1<=p.2
 deg:∃d,Fo data p.1 t=some d/\d<=D
 siz:B7 p.1<=S
 num:Fa p.1
def Ab6 (data:List Al) (k:Nat) (b:Af->Ai->Ai->List (Ai×Nat)):Prop:=∀(t:Af) (i j:Ai) (f c:Nat),Bo i<=k->C3 data i t=some f->C3 data j t=some c->f+c<=6->iR i->iR j -> (∀p∈b t i j,Gp data t (f+c) (Bo i+Bo j) p)/\pv (λ_=>1) (b t i j)<=3 ^ (f+c)
theorem Ag4 {h:Ai} {c:Nat} {L:List (List Ai×Nat)} {p:List Ai×Nat} (hp:p∈Fd h c L):∃r∈L,p=(h::r.1,c*r.2):=by obtain⟨r,h1,h2⟩:=mem_map.1 hp;exact⟨r,h1,h2.symm⟩
theorem Ag5 {c:Af->Ai->Ai->List (Ai×Nat)} (A:Ab6 data k c) : ∀(ts:List Af) (is f:List Ai) (l g:Nat),B7 is<=k->Ch data is ts=some l->Ch data f ts=some g->l+g<=6->Fa is->Fa f -> (∀p∈E5 c ts is f,Gr data ts (l+g) (B7 is+B7 f) p)/\pv (λ_=>1) (E5 c ts is f)<=3 ^ (l+g):=by
 intro ts;induction ts with
 | nil=>
  intro is f l g _ h1 h2 _ _ _;cases is with
  | cons i is=>simp only[Ch]at h1;cases h1
  | nil=>
   cases f with
   | cons j f=>simp only[Ch]at h2;cases h2
   | nil=>
    refine⟨λp hp=>?_,?_⟩
    .simp only[E5,E3]at hp;subst hp;exact⟨Nat.le_refl _,⟨0,by simp only[Ch],ω⟩,by simp[B7],by simp[Fa]⟩
    .show 1*1+0<=_;exact Nat.pow_pos δ
 | cons t ts ih=>
  intro is f l g y h1 h2 J s q;cases is with
  | nil=>simp only[Ch]at h1;cases h1
  | cons i is=>
   cases f with
   | nil=>simp only[Ch]at h2;cases h2
   | cons j f=>
    simp only[B7]at y;simp only[Fa]at s q;rw[Lt]at h1 h2;cases a1:C3 data i t with
    | none=>rw[a1]at h1;cases h1
    | some a=>
     cases a2:Ch data is ts with
     | none=>rw[a1,a2]at h1;cases h1
     | some x=>
      cases b1:C3 data j t with
      | none=>rw[b1]at h2;cases h2
      | some b=>
       cases b2:Ch data f ts with
       | none=>rw[b1,b2]at h2;cases h2
       | some u=>
        rw[a1,a2]at h1;rw[b1,b2]at h2;have h1:a+x=l:=Ew h1;have h2:b+u=g:=Ew h2;obtain⟨D,B⟩:=A t i j a b ω a1 b1 ω s.1 q.1;obtain⟨f1,f2⟩:=ih is f x u ω a2 b2 ω s.2 q.2;refine⟨λp hp=>?_,?_⟩
        .obtain⟨w,hw,hp⟩:=mem_flatMap.1 (show p∈(c t i j).flatMap λw=>Fd w.1 w.2 (E5 c ts is f) from hp);obtain⟨r,z,rfl⟩:=Ag4 hp;have g1:=D w hw;have g2:=f1 r z;obtain⟨d,d1,d2⟩:=g1.deg;obtain⟨E,d3,d4⟩:=g2.deg;refine⟨Nat.mul_pos g1.pos g2.pos,⟨d+E,by rw[Lt,d1,Ad,d3];rfl,ω⟩,?_,?_⟩
         .have I:=g1.siz;have G:=g2.siz;simp only[B7];omega
         .simp only[Fa];exact⟨g1.num,g2.num⟩
        .show pv (λ_=>1) ((c t i j).flatMap λw=>Fd w.1 w.2 (E5 c ts is f))<=_;rw[Ab0 (h:=λ_=>pv (λ_=>1) (E5 c ts is f)*1) (hg:=λp _=>by rw[Ab4,Nat.mul_one]),Oq];have:=Nat.mul_le_mul f2 B;rw[<-Nat.pow_add,show x+u+(a+b)=l+g by omega]at this;exact this
theorem Ag6 (h:Fo data (e::es) t=some d):∃ts a b,Gu data t e.U=some ts/\Ch data e.K ts=some a/\Fo data es t=some b/\d=1+a+b:=by
 rw[Sg]at h;cases h1:Gu data t e.U with
 | none=>rw[h1]at h;cases h
 | some ts=>
  rw[h1,Ad]at h;cases h2:Ch data e.K ts with
  | none=>rw[h2]at h;cases h
  | some a=>rw[h2,Ad]at h;cases h3:Fo data es t with| none=>rw[h3]at h;cases h| some b=>rw[h3]at h;exact⟨ts,a,b,rfl,h2,rfl,(Ew h).symm⟩
theorem Amd (h1:Gu data t e.U=some ts) (h2:Ch data e.K ts=some a) (h3:Fo data es t=some b):Fo data (e::es) t=some (1+a+b):=by rw[Sg,h1,Ad,h2,Ad,h3];rfl
theorem A8f {c:Af->Ai->Ai->List (Ai×Nat)} (z:Ab6 data k c) {a b:Ai} {i:List Af} {h f:Nat} (x:B7 a.K<=k) (a1:Gu data t a.U=some ts) (B:Ch data a.K ts=some h) (b1:Gu data t b.U=some i) (b2:Ch data b.K i=some f) (A:h+f<=6) (j:iR a) (u:iR b) : (∀p∈Jx data t (E5 c) a b,1<=p.2/\(∃d,Ch data p.1.K ts=some d/\d<=h+f)/\p.1.U=a.U/\Bo p.1+1<=Bo a+Bo b/\iR p.1)/\pv (λ_=>1) (Jx data t (E5 c) a b)<=3 ^ (h+f):=by
 unfold Jx;by_cases e:a.U=b.U
 .have q:Mt data t a.U=ts:=(by unfold Mt;rw[a1]);have l:i=ts:=(by rw[<-e,a1]at b1;exact (Ew b1).symm);subst l;rw[Pg]at j u;obtain⟨f1,f2⟩:=Ag5 z i a.K b.K h f x B b2 A j.2 u.2;rw[Aw e,q];refine⟨λp hp=>?_,by rw[X5];exact f2⟩;obtain⟨r,y,rfl⟩:=mem_map.1 hp;have g:=f1 r y;have s:=g.siz;have E:=Eb a;have D:=Eb b;refine⟨g.pos,g.deg,rfl,?_,?_⟩
  .rw[Eb];show 1+B7 r.1+1<=_;omega
  .rw[Pg];exact⟨j.1,g.num⟩
 .rw[Au e];exact⟨λp hp=>(by cases hp),Nat.zero_le _⟩
theorem Avo {u:Af->Ai->Ai->List (Ai×Nat)} (hm:Ab6 data k u) (t:Af) : ∀(l m:List Ai) (z y:Nat),B7 l<=k+1->(∀e∈l,B7 e.K<=k)->Fo data l t=some z->Fo data m t=some y->z+y<=6->Fa l->Fa m -> (∀p∈J9 (Jx data t (E5 u)) l m,Ge data t (z+y) (B7 l+B7 m) p)/\pv (λ_=>1) (J9 (Jx data t (E5 u)) l m)<=3 ^ (z+y):=by
 have x:∀(l m:List Ai) (D S:Nat),(∃d,Fo data l t=some d/\d<=D)->B7 l<=S->Fa l->(∀p∈[(l,1)],Ge data t D S p)/\pv (λ_=>1) [(l,1)]<=3 ^ D:=λl m D S h1 h2 h3=>by
  refine⟨λp hp=>?_,?_⟩
  .simp only[E3]at hp;subst hp;exact⟨Nat.le_refl _,h1,h2,h3⟩
  .show 1*1+0<=_;exact Nat.pow_pos δ
 intro l;induction l with
 | nil=>intro m z y _ _ _ h2 _ _ G;rw[Ab1];exact x m m _ _ ⟨y,h2,ω⟩ ω G
 | cons a l A=>
  intro m;induction m with
  | nil=>intro z y _ _ h1 _ _ I _;rw[Ag3];exact x _ [] _ _ ⟨z,h1,ω⟩ ω I
  | cons b m J=>
   intro z y hs hk h1 h2 h6 I G;obtain⟨ts,q,dl,a1,a2,a3,rfl⟩:=Ag6 h1;obtain⟨us,j,c,b1,b2,L,rfl⟩:=Ag6 h2;have i:=I;have f:=G;simp only[Fa]at i f;have za:B7 (a::l)=Bo a+B7 l:=(by simp only[B7]);have zb:B7 (b::m)=Bo b+B7 m:=(by simp only[B7]);have E:∀e∈l,B7 e.K<=k:=λe he=>hk e (by simp[he]);obtain⟨R,x2⟩:=A (b::m) dl (1+j+c) ω E a3 h2 ω i.2 G;obtain⟨N,y2⟩:=J (1+q+dl) c hs hk h1 L ω I f.2;obtain⟨M,z2⟩:=A m dl c ω E a3 L ω i.2 f.2;obtain⟨V,U⟩:=A8f hm (t:=t) (hk a ψ) a1 a2 b1 b2 ω i.1 f.1;rw[Ab2];refine⟨λp hp=>?_,?_⟩
   .rcases Ef.1 hp with hp|hp
    .obtain⟨r,B,rfl⟩:=Ag4 hp;have g:=R r B;obtain⟨d,d1,d2⟩:=g.deg;have s:=g.siz;refine⟨by have:=g.pos;show 1<=1*r.2;omega,⟨_,Amd a1 a2 d1,ω⟩,?_,?_⟩
     .simp only[B7]at s ⊢;omega
     .simp only[Fa];exact⟨i.1,g.num⟩
    .rcases Ef.1 hp with hp|hp
     .obtain⟨r,B,rfl⟩:=Ag4 hp;have g:=N r B;obtain⟨d,d1,d2⟩:=g.deg;have s:=g.siz;refine⟨by have:=g.pos;show 1<=1*r.2;omega,⟨_,Amd b1 b2 d1,ω⟩,?_,?_⟩
      .simp only[B7]at s ⊢;omega
      .simp only[Fa];exact⟨f.1,g.num⟩
     .obtain⟨w,hw,hp⟩:=mem_flatMap.1 hp;obtain⟨r,B,rfl⟩:=Ag4 hp;obtain⟨Y,⟨d',v2,v3⟩,v4,v5,X⟩:=V w hw;have g:=M r B;obtain⟨d,d1,d2⟩:=g.deg;have s:=g.siz;refine⟨Nat.mul_pos Y g.pos,⟨_,Amd (by rw[v4];exact a1) v2 d1,ω⟩,?_,?_⟩
      .simp only[B7]at s ⊢;omega
      .simp only[Fa];exact⟨X,g.num⟩
   .rw[J8,J8,Ab4,Ab4];rw[Ab0 (h:=λ_=>pv (λ_=>1) (J9 (Jx data t (E5 u)) l m)*1) (hg:=λp _=>by rw[Ab4,Nat.mul_one]),Oq];have Z:=Nat.mul_le_mul z2 U;rw[<-Nat.pow_add]at Z;have p1:3 ^ (dl+(1+j+c))<=3 ^ (1+q+dl+(j+c)):=Nat.pow_le_pow_right δ ω;have p2:3 ^ (1+q+dl+c)<=3 ^ (1+q+dl+(j+c)):=Nat.pow_le_pow_right δ ω;have p3:3 ^ (dl+c+(q+j))<=3 ^ (1+q+dl+(j+c)):=Nat.pow_le_pow_right δ ω;have p4:3 ^ (1+q+dl+(1+j+c))=3 ^ (1+q+dl+(j+c))*3:=(by rw[show 1+q+dl+(1+j+c)=(1+q+dl+(j+c))+1 by omega,Nat.pow_succ]);omega
theorem Q3 (data:List Al):∀k,Ab6 data k (D7 data k):=by
 intro k;induction k with
 | zero=>intro t i j x u h;have:=Eb i;omega
 | succ k ih=>
  intro t i j x u L hi hj A D B;have J:=Eb i;have G:=Eb j;have f:=D;have c:=B;rw[Pg]at f c;rw[D7];by_cases b:t.G=6
  .rw[Aw b,X5];have hi:=Pl b hi;have hj:=Pl b hj;obtain⟨f1,f2⟩:=Ag5 ih t.R i.K j.K x u ω hi hj A f.2 c.2;refine⟨λp hp=>?_,f2⟩;obtain⟨r,z,rfl⟩:=mem_map.1 hp;have g:=f1 r z;obtain⟨d,d1,d2⟩:=g.deg;refine⟨g.pos,⟨d,by rw[Kh,Aw b,Aw rfl];exact d1,d2⟩,?_,?_⟩
   .have s:=g.siz;rw[Eb];show 1+B7 r.1<=_;omega
   .rw[Pg];exact⟨by show Fh 0;unfold Fh;omega,g.num⟩
  .rw[Au b];by_cases l:t.G=7
   .rw[Aw l,(Sv l hi).2,(Sv l hj).2];refine⟨λp hp=>?_,A8e x u⟩;obtain⟨n,I,rfl⟩:=mem_map.1 hp;obtain⟨E,y⟩:=mem_filter.1 I;rw[mem_range]at E;have y:Rc x u n≠0:=(by simpa using y);refine⟨Nat.pos_of_ne_zero y,⟨n,by rw[Kh,Au b,Aw l,Aw ⟨by show (0:Int)<=n;omega,by show (n:Int)<=6;omega,rfl⟩];rfl,ω⟩,?_,?_⟩
    .rw[Eb];show 1+B7 []<=_;simp only[B7];omega
    .rw[Pg];exact⟨by show Fh (n:Int);unfold Fh;omega,by show Fa [];simp only[Fa]⟩
   .rw[Au l];by_cases q:t.G=5
    .rw[Aw q,X5];have hi:=Pm q hi;have hj:=Pm q hj;obtain⟨f1,f2⟩:=Avo ih t i.K j.K x u ω (λe he=>by have:=Jt he;have:=Eb e;omega) hi hj A f.2 c.2;refine⟨λp hp=>?_,f2⟩;obtain⟨r,z,rfl⟩:=mem_map.1 hp;have g:=f1 r z;obtain⟨d,d1,d2⟩:=g.deg;refine⟨g.pos,⟨d,by rw[Kh,Au b,Au l,Aw q,Aw rfl];exact d1,d2⟩,?_,?_⟩
     .have s:=g.siz;rw[Eb];show 1+B7 r.1<=_;omega
     .rw[Pg];exact⟨by show Fh 0;unfold Fh;omega,g.num⟩
    .rw[Au q];refine⟨λp hp=>?_,?_⟩
     .simp only[E3]at hp;subst hp;refine⟨Nat.le_refl _,⟨0,by rw[Kh,Au b,Au l,Au q,Aw ⟨rfl,rfl⟩],ω⟩,?_,?_⟩
      .rw[Eb];show 1+B7 []<=_;simp only[B7];omega
      .rw[Pg];exact⟨by show Fh 0;unfold Fh;omega,by show Fa [];simp only[Fa]⟩
     .show 1*1+0<=_;exact Nat.pow_pos δ
theorem Mw (h:∀p∈l,1<=p.2):l.length<=pv (λ_=>1) l:=by induction l with| nil=>exact Nat.le_refl _| cons p l ih=>have h1:=h p ψ;have h2:=ih λq hq=>h q (by simp[hq]);simp only[Ed,pv];omega
theorem Pn {p:α×Nat} (h:p∈l):p.2<=pv (λ_=>1) l:=by
 induction l with
 | nil=>cases h
 | cons q l ih=>
  simp only[pv];rcases E8.1 h with rfl|h
  .omega
  .have:=ih h;omega
def Bc (p:Ai×Nat):Av:=⟨p.1,cR p.2⟩
def toR (p:List Ai×Nat):Il:=⟨p.1,cR p.2⟩
theorem Avp (ha:a<=729) (hb:b<=729):Hm (cR a) (cR b)=some (cR (a*b)):=A7j (K:=3) (Ku ω) (Ku ω) δ δ
theorem Sw (h:d<=6):3 ^ d<=729:=Nat.le_trans (Nat.pow_le_pow_right δ h) δ
theorem Avq {α:Type} (h:Ai) (c:Nat) (f:α->List (List Ai×Nat)):∀L:List α,Fd h c (L.flatMap f)=L.flatMap λr=>Fd h c (f r)
 | []=>rfl
 | r::L=>by have ih:=Avq h c f L;unfold Fd at ih ⊢;rw[flatMap_cons,flatMap_cons,map_append,ih]
def Jy (W:List (Ai×Nat)) (r:List Ai×Nat):List (List Ai×Nat):=W.map λw=>(r.1++[w.1],r.2*w.2)
theorem Avr (b:Af->Ai->Ai->List (Ai×Nat)) (t:Af) (i j:Ai):∀(ts:List Af) (is c:List Ai),is.length=ts.length->c.length=ts.length -> E5 b (ts++[t]) (is++[i]) (c++[j])=(E5 b ts is c).flatMap (Jy (b t i j))
 | [],[],[],_,_=>by show (b t i j).flatMap (λw=>Fd w.1 w.2 [([],1)])=Jy (b t i j) ([],1)++[];rw[append_nil];unfold Jy;induction b t i j with| nil=>rfl| cons w W ih=>rw[flatMap_cons,ih];show [([w.1],w.2*1)]++_=_;rw[Nat.mul_one,map_cons,Nat.one_mul];rfl
 | t0::ts,i0::is,f::c,h1,h2=>by show (b t0 i0 f).flatMap (λw=>Fd w.1 w.2 (E5 b (ts++[t]) (is++[i]) (c++[j])))=((b t0 i0 f).flatMap λw=>Fd w.1 w.2 (E5 b ts is c)).flatMap (Jy (b t i j));rw[Avr b t i j ts is c (by simpa using h1) (by simpa using h2),flatMap_assoc];congr 1;funext w;rw[Avq];unfold Fd;rw[flatMap_map];congr 1;funext r;unfold Jy;rw[map_map];congr 1;funext v;show (w.1::(r.1++[v.1]),w.2*(r.2*v.2))=(w.1::r.1++[v.1],w.2*r.2*v.2);rw[Nat.mul_assoc];rfl
 | [],_::_,_,h,_=>by simp at h
 | [],[],_::_,_,h=>by simp at h
 | _::_,[],_,h,_=>by simp at h
 | _::_,_::_,[],_,h=>by simp at h
theorem Avs (f:α->List β) {l:List α} {j:Nat} {x:α} (h:l[j]? = some x):(l.take (j+1)).flatMap f=(l.take j).flatMap f++f x:=by rw[Db h,flatMap_append];simp
theorem Ag7 {α β:Type} (f:α->List β) (n:Nat):∀l:List α,(∀a∈l,(f a).length<=n)->(l.flatMap f).length<=l.length*n
 | [],_=>ψ
 | a::l,h=>by have h1:=h a ψ;have h2:=Ag7 f n l λb hb=>h b (by simp[hb]);rw[flatMap_cons,E4,Ed,Nat.add_mul];omega
theorem A8g (l:List Ai) (h:l.length<=1048576):W7 l=some ([],l):=by unfold W7 P3;rw[Dn ζ];rfl
theorem A8h {c:Af->Ai->Ai->List (Ai×Nat)} (hg:Ab6 data k c) (Y:∀t i j a b,Bo i<=k->C3 data i t=some a->C3 data j t=some b->a+b<=6->Bl t<=200->iR i->iR j->Od K data t i j=some ((c t i j).map Bc)) (ts:List Af) (is f:List Ai) {U S:Nat} (hk:B7 is<=k) (h1:Ch data is ts=some U) (h2:Ch data f ts=some S) (h6:U+S<=6) (ht:∀t∈ts,Bl t<=200) (hl:ts.length<=100000) (X:Fa is) (V:Fa f) : Rz (K+1) data ts is f=some ((E5 c ts is f).map toR):=by
 obtain⟨l1,g1⟩:=Agr data _ _ _ h1;obtain⟨l2,g2⟩:=Agr data _ _ _ h2;have u:∀j,(∀r∈E5 c (ts.take j) (is.take j) (f.take j),1<=r.2/\r.2<=729/\r.1.length<=100000)/\(E5 c (ts.take j) (is.take j) (f.take j)).length<=729:=λj=>by
  obtain⟨a,a1,a2⟩:=Al6 data is ts U j h1;obtain⟨b,b1,b2⟩:=Al6 data f ts S j h2;have hs:B7 (is.take j)<=B7 is:=(by have:=U2 (is.take j) (is.drop j);rw[take_append_drop]at this;omega);have q1:Fa (is.take j):=(by have:=Akt (is.take j) (is.drop j);rw[take_append_drop]at this;exact (this.1 X).1);have q2:Fa (f.take j):=(by have:=Akt (f.take j) (f.drop j);rw[take_append_drop]at this;exact (this.1 V).1);obtain⟨s,Z⟩:=Ag5 hg (ts.take j) (is.take j) (f.take j) a b ω a1 b1 ω q1 q2;have E:=Sw (show a+b<=6 by omega);refine⟨λr z=>?_,?_⟩
  .have g:=s r z;have:=Pn z;obtain⟨d,d1,_⟩:=g.deg;have D:=(Agr data _ _ _ d1).1;rw[length_take]at D;exact⟨g.pos,ω,ω⟩
  .have:=Mw λp hp=>(s p hp).pos;omega
 rw[Rz,Oo,Ad];refine F2 ts (λj=>((E5 c (ts.take j) (is.take j) (f.take j)).map toR,(j:Int))) (by simp[E5,toR]) ω ?_ ?_
 .intro j t hj hx s Z e3;have hi:is[j]? = some (is[j]' ω):=B4 _;generalize is[j]'_=i at hi;have h:f[j]? = some (f[j]' ω):=B4 _;generalize f[j]'_=l at h;obtain⟨a,a1,a2⟩:=g1 j i t hi hx;obtain⟨b,b1,b2⟩:=g2 j l t h hx;have a7:=Jt (Bq hi);have M:=ht t (Bq hx);have y:=Akr X (Bq hi);have x:=Akr V (Bq h);obtain⟨w1,w2⟩:=hg t i l a b ω a1 b1 ω y x;have E:=Sw (show a+b<=6 by omega);have J:(c t i l).length<=729:=(by have:=Mw λp hp=>(w1 p hp).pos;omega);have L:∀w∈c t i l,w.2<=729:=λw hw=>by have:=Pn hw;omega
  obtain⟨x1,x2⟩:=u j;have N:E5 c (ts.take (j+1)) (is.take (j+1)) (f.take (j+1))=(E5 c (ts.take j) (is.take j) (f.take j)).flatMap (Jy (c t i l)):=(by rw[Db hx,Db hi,Db h,Avr _ _ _ _ _ _ _ ζ ζ]);rw[N];have B:=Y t i l a b ω a1 b1 ω M y x;generalize E5 c (ts.take j) (is.take j) (f.take j)=R at *;generalize c t i l=W at *;simp only[s,Z,Ak,Ad];refine F2 (R.map toR) (λn=>((n:Int),((R.take n).flatMap (Jy W)).map toR)) ψ (by rw[Dc];omega) ?_ ?_
  .intro n r' hn z f1 f2 f3;rw[getElem?_map]at z;obtain⟨r,hq,rfl⟩:=Option.map_eq_some_iff.1 z;obtain⟨y1,y2,y3⟩:=x1 r (Bq hq);have a6:((R.take n).flatMap (Jy W)).length<=729*729:=(by refine Nat.le_trans (Ag7 _ 729 _ λq _=>by unfold Jy;rw[Dc];exact J) (Nat.mul_le_mul_right _ ?_);rw[length_take];omega);simp only[f1,f2,f3,Ak,Ad,Br rfl hi,Br rfl h,B];refine F2 (W.map Bc) (λm=>((m:Int),((R.take n).flatMap (Jy W)).map toR++((Jy (W.take m) r).map toR))) (by simp[Jy]) (by rw[Dc];omega) ?_ ?_
   .intro m w' Y hw G p2 p3;rw[getElem?_map]at hw;obtain⟨w,A,rfl⟩:=Option.map_eq_some_iff.1 hw;have I:=L w (Bq A);have a8:(Jy (W.take m) r).length<=729:=(by unfold Jy;rw[Dc,length_take];omega);have aa:(((R.take n).flatMap (Jy W)).map toR++(Jy (W.take m) r).map toR).length<=729*729+729:=(by rw[E4,Dc,Dc];omega);simp only[G,p2,p3,Ak,Ad];show (W7 r.1).bind _=_;rw[A8g _ ω,Ad,Dn ζ,Ad];show (Hm (cR r.2) (cR w.2)).bind _=_;rw[Avp y2 I,Ad,Dn (by rw[length_singleton];omega),Ad];have:Jy (W.take (m+1)) r=Jy (W.take m) r++[(r.1++[w.1],r.2*w.2)]:=(by unfold Jy;rw[Db A,map_append];rfl);rw[this,map_append,append_assoc];rfl
   .intro G;refine⟨_,by simp only[G];rfl,?_⟩;rw[Dc,Dq,Avs _ hq,map_append]
  .intro f1;refine⟨_,by simp only[f1];rfl,?_⟩;rw[Dc,Dq,e3]
 .intro s;refine⟨_,by simp only[s];rfl,?_⟩;rw[Im ω,Im ω,Im ω]
theorem Ame (a:α) (l:List α):Er (a::l) 1 ((a::l).length:Int)=some l:=by unfold Er;rw[Aw ⟨δ,by simp only[Ed];omega,ω⟩];simp
theorem A8i (a:Ai) (l:List Ai) (h:l.length<=999999):Aak [[a],l]=some (a::l) := Al4 (B:=32) δ (gr:=Aej) (λn h=>Agy n h) [a] l ζ
theorem Amf (e:Ai) {c:Nat} (hc:c<=729) (s:R.length<=729) (h:∀r∈R,r.2<=729/\r.1.length<=100000) (b:List Il) (l:b.length<=1000000) : R3 e (cR c) (R.map toR) b=some (b++(Fd e c R).map toR):=by
 unfold R3;refine F2 (R.map toR) (λn=>((n:Int),b++(Fd e c (R.take n)).map toR)) (by simp[Fd]) (by rw[Dc];omega) ?_ ?_
 .intro n k q f f1 f2 f3;rw[getElem?_map]at f;obtain⟨r,hq,rfl⟩:=Option.map_eq_some_iff.1 f;obtain⟨g,j⟩:=h r (Bq hq);have i:(b++(Fd e c (R.take n)).map toR).length<=1000729:=(by rw[E4,Dc];unfold Fd;rw[Dc,length_take];omega);simp only[f1,f2,f3,Ak,Ad];show (Aak [[e],r.1]).bind _=_;rw[A8i _ _ ω,Ad];show (Hm (cR c) (cR r.2)).bind _=_;rw[Avp hc g,Ad,Dn (by rw[length_singleton];omega),Ad];have:Fd e c (R.take (n+1))=Fd e c (R.take n)++[(e::r.1,c*r.2)]:=(by unfold Fd;rw[Db hq,map_append];rfl);rw[this,map_append,append_assoc];rfl
 .intro f1;refine⟨_,by simp only[f1];rfl,?_⟩;rw[Dc,Dq]
theorem A8j (f:Szv data) (i:Kv data) (t:Af) (ht:Bl t<=200) (c:Int) (h:Gu data t c=some ts):Aal data t c=some ts:=by
 unfold Aal;unfold Gu at h;rw[Ako f t ht c,Ad];cases hf:Lr data t c with
 | none=>rw[hf]at h;cases h
 | some l=>
  rw[hf]at h;have h:Hq l (G8 data t.U c)=ts:=Ew h;subst h;have k:=Aa3 hf;obtain⟨x,y,_,hx,_,hy,s,_⟩:=Sf hf;obtain⟨g,_⟩:=f x (G9 hx).2.2.2 y (G9 hy).2.2.2;have q:l.length<=6:=(by rw[s];simpa using g);simp only[okL,Ae8 data t.U c i,Ad];refine F2 (G8 data t.U c) (λj=>((j:Int),Hq (l.take j) ((G8 data t.U c).take j))) (by simp[Hq]) ω ?_ ?_
  .intro j b hj hb h1 h2 h3;have ha:l[j]? = some l[j]:=B4 ω;generalize l[j]=a at ha;have u:=Aa4 (l.take j) ((G8 data t.U c).take j);have:(l.take j).length<=6:=ζ;simp only[h1,h2,h3,Ak,Ad,Br rfl ha,Afc ha hb];rw[Dn ζ];cases b <;> simp
  .intro h1;refine⟨_,by simp only[h1];rfl,?_⟩;rw[Im ω,Im (Nat.le_refl _)]
def Amg (data:List Al) (k K:Nat):Prop:=∀(ts:List Af) (is b:List Ai) (f c:Nat),B7 is<=k->Ch data is ts=some f->Ch data b ts=some c->f+c<=6->(∀t∈ts,Bl t<=200)->ts.length<=100000->Fa is->Fa b->Rz K data ts is b=some ((E5 (D7 data k) ts is b).map toR)
theorem A8k (hz:Szv data) (hs:Kv data) (ht:Bl t<=200) {K0:Nat} (hR:∀K,K0<=K->Amg data k K):∀(n:Nat) (l m:List Ai) (K u s:Nat),l.length+m.length<=n->K0+n+1<=K->B7 l<=k+1->(∀e∈l,B7 e.K<=k)->Fo data l t=some u->Fo data m t=some s->u+s<=6->Fa l->Fa m -> O9 K data t l m=some ((J9 (Jx data t (E5 (D7 data k))) l m).map toR):=by
 intro n;induction n with
 | zero=>intro l m K u s Y hK _ _ _ _ _ _ _;have e1:l = []:=Fu.1 ω;obtain⟨K,rfl⟩:∃K',K=K' + 1:=⟨K-1,ω⟩;subst e1;rw[O9,Ab1,Oo];rfl
 | succ n ih=>
  intro l m K u s Y hK G hk h1 h2 h6 N L;obtain⟨K,rfl⟩:∃K',K=K' + 1:=⟨K-1,ω⟩;rw[O9];cases l with
  | nil=>rw[Ab1,Oo];rfl
  | cons a l=>
   rw[Cy ζ,Am];cases m with
   | nil=>rw[Ag3,Oo];rfl
   | cons b m=>
    rw[Cy ζ,Am];obtain⟨ts,E,dl,a1,a2,a3,rfl⟩:=Ag6 h1;obtain⟨i,D,B,b1,b2,J,rfl⟩:=Ag6 h2;have h:=N;have g:=L;simp only[Fa]at h g;have za:B7 (a::l)=Bo a+B7 l:=(by simp only[B7]);have j:∀e∈l,B7 e.K<=k:=λe he=>hk e (by simp[he]);have n1:=Uy data _ _ _ h1;have n2:=Uy data _ _ _ h2;simp only[Ed]at Y n1 n2;have f:∀(l m:List Ai) (u s:Nat),B7 l<=k+1->(∀e∈l,B7 e.K<=k)->Fo data l t=some u->Fo data m t=some s->u+s<=6->Fa l->Fa m->(∀r∈J9 (Jx data t (E5 (D7 data k))) l m,r.2<=729/\r.1.length<=100000)/\(J9 (Jx data t (E5 (D7 data k))) l m).length<=729:=λl m u s q1 q2 q3 q4 q5 q6 q7=>by
     obtain⟨I,x2⟩:=Avo (Q3 data k) t l m u s q1 q2 q3 q4 q5 q6 q7;have:=Sw q5;refine⟨λr A=>⟨by have:=Pn A;omega,?_⟩,?_⟩
     .obtain⟨d,d1,d2⟩:=(I r A).deg;have:=Uy data _ _ _ d1;omega
     .have:=Mw λp hp=>(I p hp).pos;omega
    have s1:Er (a::l) 1 ((a::l).length:Int)=some l:=Ame a l;have s2:Er (b::m) 1 ((b::m).length:Int)=some m:=Ame b m;have i1:Ag (a::l) 0=some a:=rfl;have i2:Ag (b::m) 0=some b:=rfl;obtain⟨I,x2⟩:=f l (b::m) dl (1+D+B) ω j a3 h2 ω h.2 L;obtain⟨y1,y2⟩:=f (a::l) m (1+E+dl) B G hk h1 J ω N g.2;obtain⟨z1,z2⟩:=f l m dl B ω j a3 J ω h.2 g.2;have L1:∀(e:Ai) (c:Nat) (R:List (List Ai×Nat)),((Fd e c R).map toR).length=R.length:=λe c R=>by unfold Fd;simp
    have c1:G1 1=some (cR 1):=Oo;rw[i1,Ad,c1,Ad,s1,Ad,ih l (b::m) K dl (1+D+B) ζ ω ω j a3 h2 ω h.2 L,Ad,Amf a δ x2 I [] ψ,Ad,i2,Ad,Ad,s2,Ad, ih (a::l) m K (1+E+dl) B ζ ω G hk h1 J ω N g.2,Ad,Amf b δ y2 y1 _ (by rw[nil_append,L1];omega),Ad,Ad,Ad];rw[Ab2];by_cases e:a.U=b.U
    .have U:i=ts:=(by rw[<-e,a1]at b1;exact (Ew b1).symm);subst U;have V:Mt data t a.U=i:=(by unfold Mt;rw[a1]);obtain⟨p1,p2⟩:=Aff a1;have pl:i.length<=100000:=(by unfold Gu at a1;cases hf:Lr data t a.U with| none=>rw[hf]at a1;cases a1| some l=>rw[hf]at a1;have a1:Hq l (G8 data t.U a.U)=i:=Ew a1;obtain⟨x,y,_,hx,_,hy,hl,_⟩:=Sf hf;obtain⟨y6,_⟩:=hz x (G9 hx).2.2.2 y (G9 hy).2.2.2;have a8:l.length<=6:=(by rw[hl];simpa using y6);have:=Aa4 l (G8 data t.U a.U);rw[a1]at this;omega);have ha:=h.1;have hb:=g.1;rw[Pg]at ha hb;have z:=hR K ω i a.K b.K E D (hk a ψ) a2 b2 ω p1 pl ha.2 hb.2;obtain⟨w1,w2⟩:=Ag5 (Q3 data k) i a.K b.K E D (hk a ψ) a2 b2 ω ha.2 hb.2;have a6:=Sw (show E+D<=6 by omega);have a7:(E5 (D7 data k) i a.K b.K).length<=729:=(by have:=Mw λp hp=>(w1 p hp).pos;omega);have S:∀r∈E5 (D7 data k) i a.K b.K,r.2<=729:=λr A=>by have:=Pn A;omega
     rw[Fm e,Ak,Ad,Ad,ih l m K dl B ω ω ω j a3 J ω h.2 g.2,Ad,Ad,A8j hz hs t ht _ a1,Ad,Ad,Ad,z,Ad];have Z:Jx data t (E5 (D7 data k)) a b=(E5 (D7 data k) i a.K b.K).map λr=>(⟨a.U,r.1⟩,r.2):=(by unfold Jx;rw[Aw e,V]);rw[Z];generalize E5 (D7 data k) i a.K b.K=W at *;generalize J9 (Jx data t (E5 (D7 data k))) l m=M at *;have hO:∀n,(flatMap (λw:Ai×Nat=>Fd w.1 w.2 M) ((W.take n).map λr=>(⟨a.U,r.1⟩,r.2))).length<=729*729:=λn=>by refine Nat.le_trans (Ag7 _ 729 _ λq _=>by unfold Fd;rw[Dc];exact z2) (Nat.mul_le_mul_right _ ?_);rw[Dc,length_take];omega
     refine F2 (W.map toR) (λn=>((n:Int),[]++(Fd a 1 (J9 (Jx data t (E5 (D7 data k))) l (b::m))).map toR++(Fd b 1 (J9 (Jx data t (E5 (D7 data k))) (a::l) m)).map toR++(flatMap (λw:Ai×Nat=>Fd w.1 w.2 M) ((W.take n).map λr=>(⟨a.U,r.1⟩,r.2))).map toR)) ψ (by rw[Dc];omega) ?_ ?_
     .intro n r' Y A f1 f2 f3;rw[getElem?_map]at A;obtain⟨r,hq,rfl⟩:=Option.map_eq_some_iff.1 A;have X:=S r (Bq hq);have aa:=hO n;simp only[f1,f2,f3,Ak,Ad,i1];show (R3 ⟨a.U,r.1⟩ (cR r.2) _ _).bind _=_;rw[Amf _ X z2 z1 _ (by rw[E4,E4,E4,L1,L1,Dc,length_nil];omega),Ad];rw[Db hq,map_append,flatMap_append,map_append,append_assoc];simp
     .intro f1;refine⟨_,by simp only[f1];rfl,?_⟩;rw[Dc,Dq,map_append,map_append];simp
    .rw[Cy e,Am];have Z:Jx data t (E5 (D7 data k)) a b = []:=(by unfold Jx;rw[Au e]);rw[Z,map_append,map_append];simp
theorem A8l (h:∀t i j a b,Bo i<=k->C3 data i t=some a->C3 data j t=some b->a+b<=6->Bl t<=200->iR i->iR j->Od K data t i j=some ((D7 data k t i j).map Bc)):Amg data k (K+1) := λts is g _ _ hk h1 h2 q ht l f c=>A8h (Q3 data k) h ts is g hk h1 h2 q ht l f c
theorem Avt (i:R.length<=100000) {step:Int×List Av->Option ((Int×List Av)⊕List Av)} (b:∀(v:Int) (o:List Av),step (v,o)=bif v<((R.map toR).length:Int) then ((Ag (R.map toR) v).bind λr=>(Ca 88 o [Av.mk (Ai.mk 0 r.list) r.coef]).bind λo=>some (.inl ((Aa (v+1)),o))) else some (.inr o)) (f:J ((R.map λr=>((⟨0,r.1⟩:Ai),r.2)).map Bc)=some q):(An step (0,[])).bind J=some q:=by
 refine F2 (R.map toR) (λn=>((n:Int),((R.take n).map λr=>((⟨0,r.1⟩:Ai),r.2)).map Bc)) ψ (by rw[Dc];omega) ?_ ?_
 .intro n g h c f1 f2 f3;rw[getElem?_map]at c;obtain⟨r,hq,rfl⟩:=Option.map_eq_some_iff.1 c;rw[b,f1,Ak,f2,Ad,Dn (by rw[Dc,Dc,length_take,length_singleton];omega),Ad,f3,Db hq,map_append,map_append];rfl
 .intro f1;refine⟨_,by rw[b,f1,Am],?_⟩;rw[Dc,Dq];exact f
theorem A8m (h:a+b<=12) {step:Int×List Av->Option ((Int×List Av)⊕List Av)} (c:∀(v:Int) (o:List Av),step (v,o)=bif v<((Ls (a+b+1) (Rc a b)).length:Int) then ((Ag (Ls (a+b+1) (Rc a b)) v).bind λx=>(I4 x).bind λs=>bif (s != (0:Int)) then ((Ca 88 o [Av.mk (Ai.mk v []) x]).bind λo=>some (.inl ((Aa (v+1)),o))) else some (.inl ((Aa (v+1)),o))) else some (.inr o)) (l:J ((X6 a b).map Bc)=some q):(An step (0,[])).bind J=some q:=by
 have f:∀n,(((range (n+1)).filter λk=>Rc a b k != 0).map λ(k:Nat)=>((⟨(k:Int),[]⟩:Ai),Rc a b k)).map Bc=(((range n).filter λk=>Rc a b k != 0).map λ(k:Nat)=>((⟨(k:Int),[]⟩:Ai),Rc a b k)).map Bc++(if Rc a b n=0 then [] else [⟨⟨(n:Int),[]⟩,cR (Rc a b n)⟩]):=λn=>by
  rw[range_succ,filter_append,map_append,map_append];by_cases h:Rc a b n=0
  .simp[h]
  .simp[h,Bc]
 refine F2 (Ls (a+b+1) (Rc a b)) (λn=>((n:Int),(((range n).filter λk=>Rc a b k != 0).map λ(k:Nat)=>((⟨(k:Int),[]⟩:Ai),Rc a b k)).map Bc)) ψ (by rw[Mu];omega) ?_ ?_
 .intro n x g hx f1 f2 f3;rw[Mu]at g;rw[Mv _ g]at hx;have hx:cR (Rc a b n)=x:=Ew hx;subst hx;have j:Rc a b n<=3 ^ 12:=(by have h1:=Ab5 a b (n+1);have h2:Rc a b n<=sm (n+1) (Rc a b):=(by rw[sm];omega);exact Nat.le_trans h2 (Nat.le_trans h1 (Nat.pow_le_pow_right δ h)));have i:((((range n).filter λk=>Rc a b k != 0).map λ(k:Nat)=>((⟨(k:Int),[]⟩:Ai),Rc a b k)).map Bc).length<=13:=(by rw[Dc,Dc];refine Nat.le_trans (length_filter_le _ _) ?_;rw[length_range];omega);rw[c,f1,Ak,f2,Ad,(Np.cR (a:=Rc a b n) (Ku ω)).sign,Ad,f n];by_cases h:Rc a b n=0
  .rw[Aw h,Aw h,append_nil,f3];rfl
  .rw[Au h,Au h,show ((1:Int) != 0)=true from rfl,Ak,Dn (by rw[length_singleton];omega),Ad,f3]
 .intro f1;refine⟨_,by rw[c,f1,Am],?_⟩;rw[Mu];exact l
theorem A8n (N:Szv data) (U:Kv data):∀(k:Nat) (t:Af) (i j:Ai) (K q l:Nat),Bo i<=k->10*k<=K->C3 data i t=some q->C3 data j t=some l->q+l<=6->Bl t<=200->iR i->iR j -> Od K data t i j=some ((D7 data k t i j).map Bc):=by
 intro k;induction k with
 | zero=>intro t i j K q l h;have:=Eb i;omega
 | succ k ih=>
  intro t i j K q l z X hi hj y ht E D;obtain⟨K,rfl⟩:∃B,K=B+1:=⟨K-1,ω⟩;have M:=Eb i;have g:=E;have f:=D;rw[Pg]at g f;have J:∀K,10*k+1<=K->Amg data k K:=λK X=>by obtain⟨K,rfl⟩:∃B,K=B+1:=⟨K-1,ω⟩;exact A8l λt i j a b h1 h2 h3 h4 Z y Y=>ih t i j K a b h1 ω h2 h3 h4 Z y Y
  have A:=Q3 data (k+1) t i j q l z hi hj y E D;have L:=Sw y;have c:(D7 data (k+1) t i j).length<=729:=(by have:=Mw λp hp=>(A.1 p hp).pos;omega);rw[Od];rw[D7]at c ⊢;have R:=Iq t;by_cases u:t.G=6
  .rw[Aw u]at c ⊢;rw[Fm u,Ak];have hi:=Pl u hi;have hj:=Pl u hj;have S:=Jr t.R;rw[J K ω t.R i.K j.K q l ω hi hj y (λa ha=>by have:=Iw ha;omega) ω g.2 f.2,Ad];rw[Dc]at c;exact Avt ω (λv o=>rfl) rfl
  .rw[Au u]at c ⊢;rw[Cy u,Am];by_cases s:t.G=7
   .rw[Aw s];rw[Fm s,Ak];obtain⟨e,_⟩:=Sv s hi;obtain⟨e',_⟩:=Sv s hj;have I:(i.U.toNat:Int)=i.U:=ω;have G:(j.U.toNat:Int)=j.U:=ω;have V:Aae i.U j.U=some (Ls (i.U.toNat+j.U.toNat+1) (Rc i.U.toNat j.U.toNat),true):=(by unfold Aae;rw[As ω,As ω,As ω,As ω];simp only[Am,Ad];have:=Avd i.U.toNat j.U.toNat ω ω;rw[I,G]at this;rw[this,Ad]);rw[V,Ad];exact A8m ω (λv o=>rfl) rfl
   .rw[Au s]at c ⊢;rw[Cy s,Am];by_cases x:t.G=5
    .rw[Aw x]at c ⊢;rw[Fm x,Ak];have hi:=Pm x hi;have hj:=Pm x hj;have I:=Uy data _ _ _ hi;have G:=Uy data _ _ _ hj;rw[A8k N U ht J (i.K.length+j.K.length) i.K j.K K q l (Nat.le_refl _) ω ω (λe he=>by have:=Jt he;have:=Eb e;omega) hi hj y g.2 f.2,Ad];rw[Dc]at c;exact Avt ω (λv o=>rfl) rfl
    .rw[Au x];rw[Cy x,Am,Oo,Ad,Dn ψ,Ad];rfl
end Go.Ab
