/- Plain laws: what the plain functions answer. -/
import Derived.Test.YtphbdfhbonlpfaaGreatDoorRgPl4
open List
namespace Go.Ab
open Go
variable {t:Af} {a i:Ai} {P:Ai->Prop} {u:Ai×Nat} {L M ts:List (Ai×Nat)} {b:List Ai} {data:List Al} {D D' S S' j:Nat} {α:Type}
theorem Avu:∀k,Xe k=O7 k
 | 0=>by funext i b;rfl
 | k+1=>by have ih:=Avu k;funext i b;rw[Xe,O7,ih]
theorem A8o (i:Ai) (hi:Bo i<=1048576) (b:iR i):Aad i []=some (wx i):=by have h:=Ask 4000001 i [] ω b ζ;rw[nil_append]at h;rw[<-h,show (4000001:Nat)=4000000+1 from rfl,O7,<-Avu];rfl
theorem By.wx (i:Ai):By (Go.Ab.wx i):=Akv i
def Kl (i:Ai):ByteArray:=bs (wx i)
theorem Avv {j:Ai} (h:Kl i=Kl j):i=j:=by have h1:=Als (By.wx i) (By.wx j) h;have h2:=Afn i j [] [] Afm Afm (by rw[append_nil,append_nil];exact h1);exact h2.1
theorem A8p (i:Ai):wx i≠[]:=by rw[Afl];intro h;exact Afk _ (append_eq_nil_iff.1 h).1
theorem A8q (i:Ai):Nat.beq (Kl i).size 0=false:=by unfold Kl;rw[Xy];have:=A8p i;cases h:wx i with| nil=>exact (this h).elim| cons a l=>rfl
def pls (ts:List (Ai×Nat)):List (ByteArray×Int):=ts.zipIdx.map λq=>(Kl q.1.1,(q.2:Int))
def Dw (ts:List (Ai×Nat)):Prop:=ts.Pairwise λt u=>t.1≠u.1
theorem A8r (ts:List (Ai×Nat)) (t:Ai×Nat):pls (ts++[t])=pls ts++[(Kl t.1,(ts.length:Int))]:=by unfold pls;rw[zipIdx_append];simp
theorem Ab7 (ts:List (Ai×Nat)) (j:Nat):(pls ts)[j]? = (ts[j]?).map λt=>(Kl t.1,(j:Int)):=by unfold pls;rw[getElem?_map,getElem?_zipIdx];cases ts[j]? <;> simp
theorem A8s {t:Ai×Nat} (h:ts[j]? = some t) (b:u.1=t.1):pls (ts.set j u)=pls ts:=by
 refine ext_getElem? λn=>?_;rw[Ab7,Ab7,getElem?_set];by_cases e:j=n
 .subst e;rw[Aw rfl,h];have:=Eh h;rw[Aw this];simp[b]
 .rw[Au e]
theorem A8t {m:Ai} (h:∀t∈ts,t.1≠m):E7 (pls ts) (Kl m)=false:=by cases e:E7 (pls ts) (Kl m) with| false=>rfl| true=>unfold E7 at e;obtain⟨p,hp,e⟩:=any_eq_true.1 e;obtain⟨j,hj⟩:=Hu hp;rw[Ab7]at hj;obtain⟨t,ht,rfl⟩:=Option.map_eq_some_iff.1 hj;exact (h t (Bq ht) (Avv ((Nf _ _).1 e)).symm).elim
theorem A8u (hd:Dw ts) {t:Ai×Nat} (h:ts[j]? = some t):E7 (pls ts) (Kl t.1)=true/\Ik (pls ts) (Kl t.1) 0=(j:Int):=by
 have hj:=Ab7 ts j;rw[h]at hj;have c:(Kl t.1,(j:Int))∈pls ts:=Bq hj;refine⟨?_,?_⟩
 .unfold E7;exact any_eq_true.2 ⟨_,c,(Nf _ _).2 rfl⟩
 .unfold Ik;cases hf:(pls ts).find? λp=>Kl t.1==p.1 with
  | none=>rw[find?_eq_none]at hf;exact (hf _ c ((Nf _ _).2 rfl)).elim
  | some p=>
   have h1:=find?_some hf;have h1:Kl t.1=p.1:=(Nf _ _).1 h1;obtain⟨n,b⟩:=Hu (mem_of_find?_eq_some hf);rw[Ab7]at b;obtain⟨u,hu,rfl⟩:=Option.map_eq_some_iff.1 b;have h1:=Avv h1;show (n:Int)=j;rcases Nat.lt_trichotomy n j with k|k|k
   .exact (pairwise_iff_getElem.1 hd n j (Eh hu) (Eh h) k (by
     rw[B4 (Eh hu)]at hu
     rw[B4 (Eh h)]at h
     rw[Ew hu,Ew h];exact h1.symm)).elim
   .rw[k]
   .exact (pairwise_iff_getElem.1 hd j n (Eh h) (Eh hu) k (by
     rw[B4 (Eh hu)]at hu
     rw[B4 (Eh h)]at h
     rw[Ew hu,Ew h];exact h1)).elim
theorem Avw {α:Type} (f:α->Nat):∀{ts:List (α×Nat)} {j:Nat} {t:α×Nat} (c:Nat),ts[j]? = some t->pv f (ts.set j (t.1,t.2+c))=pv f ts+c*f t.1
 | t' :: ts,0,t,c,h=>by have h:t'=t:=(by simpa using h);subst h;simp only[set_cons_zero,pv,Nat.add_mul];omega
 | t' :: ts,j+1,t,c,h=>by have ih:=Avw f (ts:=ts) (j:=j) (t:=t) c (by simpa using h);simp only[set_cons_succ,pv,ih];omega
 | [],_,_,_,h=>by simp at h
structure Cw (P:Ai->Prop) (ts:List (Ai×Nat)):Prop where
 dst:Dw ts
 mo:∀t∈ts,P t.1
 pos:∀t∈ts,1<=t.2
theorem Cw.nil (P:Ai->Prop):Cw P []:=⟨Pairwise.nil,λ_ h=>(by cases h),λ_ h=>(by cases h)⟩
theorem Dw.set (h:Dw ts) {t:Ai×Nat} (ht:ts[j]? = some t) (b:u.1=t.1):Dw (ts.set j u):=by
 have e:∀l:List (Ai×Nat),Dw l↔(l.map (·.1)).Pairwise (·≠·):=λl=>by unfold Dw;rw[pairwise_map]
 rw[e]at h ⊢;have:(ts.set j u).map (·.1)=ts.map (·.1):=by
  refine ext_getElem? λn=>?_;rw[getElem?_map,getElem?_map,getElem?_set];by_cases k:j=n
  .subst k;rw[Aw rfl,Aw (Eh ht),ht];simp[b]
  .rw[Au k]
 rw[this];exact h
theorem Avx (Y:∀i,P i->Bo i<=1048576/\iR i) (l ts:List (Ai×Nat)) (I:Cw P ts) (X:∀t∈l,P t.1/\1<=t.2) (hN:pv (λ_=>1) ts+pv (λ_=>1) l<Fc) (Z:ts.length+l.length<=1000000000) (data:List Al) (a b:Int) (c:List Af) : ∃k,Rv (l.map Bc) (pls ts) (ts.map Bc) data a b c=some (pls k,k.map Bc)/\Cw P k/\k.length<=ts.length+l.length/\∀f:Ai->Nat,pv f k=pv f ts+pv f l:=by
 unfold Rv;refine Xj (A:=List (Ai×Nat)) (λk=>(pls k,k.map Bc)) ?_;refine Ey (λs=>∃(j:Nat) (u:List (Ai×Nat)),s=((j:Int),pls u,u.map Bc)/\j<=l.length/\Cw P u/\u.length<=ts.length+j/\∀f:Ai->Nat,pv f u=pv f ts+pv f (l.take j)) (λs=>l.length-s.1.toNat) (λz=>∃u,z=(pls u,u.map Bc)/\Cw P u/\u.length<=ts.length+l.length/\∀f:Ai->Nat,pv f u=pv f ts+pv f l) ⟨0,ts,rfl,ω,I,ω,λf=>by simp only[take_zero,pv];omega⟩ ?_ ?_
 .rintro _ ⟨j,u,rfl,hj,hu,G,B⟩;rcases Cf j l.length with h|h
  .have hx:l[j]? = some l[j]:=B4 h;generalize l[j]=x at hx;obtain⟨N,hp⟩:=X x (Bq hx);obtain⟨S,R⟩:=Y _ N;have E:(l.map Bc)[j]? = some (Bc x):=(by rw[getElem?_map,hx];rfl);have J:pv (λ_=>1) (l.take (j+1))<=pv (λ_=>1) l:=(by have:=J8 (λ_=>1) (l.take (j+1)) (l.drop (j+1));rw[take_append_drop]at this;omega);have q:∀f:Ai->Nat,pv f (l.take (j+1))=pv f (l.take j)+x.2*f x.1:=λf=>by rw[Db hx,J8];simp only[pv];omega
   have V:=q (λ_=>1);have U:=B (λ_=>1);have y:((l.map Bc).length:Int)=(l.length:Int):=(by rw[Dc]);have hw:Aad (Bc x).I []=some (wx x.1):=A8o x.1 S R;simp only[y,Ao (ω:(j:Int)<(l.length:Int)),Ak,Br rfl E,Ad,hw,C5 h ω,Pk (By.wx x.1)];have hb:bs (wx x.1)=Kl x.1:=rfl;rw[hb];left;by_cases hex:∃t∈u,t.1=x.1
   .obtain⟨t,ht,he⟩:=hex;obtain⟨i,hi⟩:=Hu ht;obtain⟨g1,g2⟩:=A8u hu.dst hi;rw[he]at g1 g2;have L:(u.map Bc)[i]? = some (Bc t):=(by rw[getElem?_map,hi];rfl);have tb:=Pn ht;have D:N8 (Bc t).C (Bc x).C=some (cR (t.2+x.2)):=Np.add (Np.c ω) (Np.c ω);refine⟨((j+1:Nat),pls (u.set i (t.1,t.2+x.2)),(u.set i (t.1,t.2+x.2)).map Bc),?_,⟨j+1,u.set i (t.1,t.2+x.2),rfl,ω,⟨hu.dst.set hi rfl,?_,?_⟩,by rw[length_set];omega,λf=>?_⟩,ζ⟩
    .simp only[g1,g2,Ak,Ad,Br rfl L,D,Ho rfl,A8s (u:=(t.1,t.2+x.2)) hi rfl];rw[map_set];rfl
    .intro w hw;rcases mem_or_eq_of_mem_set hw with hw|rfl
     .exact hu.mo w hw
     .exact hu.mo t ht
    .intro w hw;rcases mem_or_eq_of_mem_set hw with hw|rfl
     .exact hu.pos w hw
     .show 1<=t.2+x.2;omega
    .rw[Avw f x.2 hi,B f,q f,he];omega
   .have g:=A8t (m:=x.1) (ts:=u) λt ht e=>hex ⟨t,ht,e⟩;have M:Xf (Kl x.1)=some (Kl x.1):=(by unfold Xf;rw[A8q,Am]);refine⟨((j+1:Nat),pls (u++[x]),(u++[x]).map Bc),?_,⟨j+1,u++[x],rfl,ω,⟨?_,?_,?_⟩,ζ,λf=>?_⟩,ζ⟩
    .simp only[g,Am,Ad,M];rw[Dn (by rw[Dc,length_singleton];omega),Ad,Ago _ _ _ g,A8r,map_append,Dc];rfl
    .refine pairwise_append.2 ⟨hu.dst,pairwise_singleton _ _,λa ha b hb=>?_⟩;simp only[E3]at hb;subst hb;exact λe=>hex ⟨a,ha,e⟩
    .intro w hw;rcases Ef.1 hw with hw|hw
     .exact hu.mo w hw
     .simp only[E3]at hw;subst hw;exact N
    .intro w hw;rcases Ef.1 hw with hw|hw
     .exact hu.pos w hw
     .simp only[E3]at hw;subst hw;exact hp
    .rw[J8,B f,q f];simp only[pv];omega
  .have:j=l.length:=ω;subst this;rw[Dq]at B;have y:((l.map Bc).length:Int)=(l.length:Int):=(by rw[Dc]);simp only[y,As (ω:¬(l.length:Int)<(l.length:Int)),Am];exact .inr ⟨_,rfl,u,rfl,hu,G,B⟩
 .rintro _ ⟨u,rfl,h1,h2,h3⟩;exact⟨_,rfl,u,rfl,h1,h2,h3⟩
theorem A8v {B:Nat} (f:B<=1024) {gr:Int->Option (List α)} (hg:∀n:Nat,n<=1000000->gr (n:Int)=some []) (ls:List (List α)) (g:ls.length<=1000) (h:ls.flatten.length<=1000000):Ags B gr ls=some ls.flatten:=by
 have b:∀{j x},ls[j]? = some x->(ls.take (j+1)).flatten=(ls.take j).flatten++x:=λ{j x} hx=>by rw[Db hx,flatten_append];simp
 have c:∀j,(ls.take j).flatten.length<=1000000:=λj=>by have:ls.flatten=(ls.take j).flatten++(ls.drop j).flatten:=(by rw[<-flatten_append,take_append_drop]);rw[this,E4]at h;omega
 unfold Ags;refine F2 ls (λj=>(((ls.take j).flatten.length:Int),(j:Int))) rfl ω ?_ ?_
 .intro j x hj hx h1 h2 h3;have a1:=c (j+1);rw[b hx,E4]at a1;have w:Aa (((ls.take j).flatten.length:Int)+(x.length:Int))=(((ls.take (j+1)).flatten.length:Nat):Int):=(by rw[b hx,E4,Aa,B6] <;> omega);simp only[h1,h2,h3,Ak,Ad,w,As (ω:¬(((ls.take (j+1)).flatten.length:Nat):Int)<0),Am]
 .intro h1;refine⟨(((ls.take ls.length).flatten.length:Nat):Int),by simp only[h1];rfl,?_⟩;rw[Dq,hg _ h,Ad];refine F2 ls (λj=>((j:Int),(ls.take j).flatten)) rfl ω ?_ ?_
  .intro j x hj hx h1 h2 h3;have a1:=c (j+1);rw[b hx,E4]at a1;have:((ls.take j).flatten.length+x.length)*B<=1000000*1024:=Nat.mul_le_mul a1 f;simp only[h1,h2,h3,Ak,Ad];rw[Dn ω,Ad,b hx]
  .intro h1;exact⟨ls.flatten,by simp only[h1,Dq];rfl,rfl⟩
theorem A8w (ls:List (List Av)) (b:ls.length<=1000) (h:ls.flatten.length<=1000000):Aeg ls=some ls.flatten := A8v (B:=88) δ (gr:=Aei) (λn h=>Agy n h) ls b h
theorem Avy:∀k,L3 k=Qj k
 | 0=>by funext i;rfl
 | k+1=>by have ih:=Avy k;funext i;rw[L3,Qj,ih]
theorem Amh {b:Ai}:F5 a b=0↔a=b:=Agc.zero a b trivial trivial
theorem Ab8 (a b:Ai):F5 b a = - F5 a b:=Agc.anti a b trivial trivial
theorem Avz {b c:Ai} (h:F5 a b<0) (h':F5 b c<0):F5 a c<0:=Agc.trans a b c trivial trivial trivial h h'
theorem Ami:P1 (λt u:Av=>F5 t.I u.I) where
 irr x:=by
  show ¬F5 x.I x.I<0
  rw[Amh.2 rfl];omega
 trs x y z h1 h2:=Avz h1 h2
 ntr x y z h1 h2:=by
  show ¬F5 x.I z.I<0
  have h1:¬F5 x.I y.I<0:=h1
  have h2:¬F5 y.I z.I<0:=h2
  intro h3
  rcases Int.lt_trichotomy (F5 x.I y.I) 0 with k|k|k
  .exact h1 k
  .rw[Amh.1 k]at h3;exact h2 h3
  .exact h2 (Avz (show F5 y.I x.I<0 by rw[Ab8 x.I y.I];omega) h3)
theorem Av0 (a b:Av) (h:Bo a.I<=1048576):Pa a b=some (F5 a.I b.I):=by unfold Pa;rw[Asq 1048576 4000000 a.I b.I h ω ω];rfl
def Amj (b:List Av):List Av:=b.mergeSort λt u=>decide (F5 t.I u.I<=0)
theorem A8x (f:List Av) (hd:f.Pairwise λt u=>t.I≠u.I):(Amj f).Pairwise λt u=>F5 t.I u.I<0:=by
 have h1:=pairwise_mergeSort (le:=λt u:Av=>decide (F5 t.I u.I<=0)) (λa b c h1 h2=>by
  simp only[D8]at *
  have:=Ami.ntr c b a (by show ¬F5 _ _<0;rw[Ab8];omega) (by show ¬F5 _ _<0;rw[Ab8];omega)
  have this:¬F5 c.I a.I<0:=this
  rw[Ab8]at this;omega) (λa b=>by
  simp only[Bool.or_eq_true,D8]
  rw[Ab8 a.I b.I];omega) f
 have h2:(Amj f).Pairwise λt u=>t.I≠u.I:=((mergeSort_perm f _).pairwise_iff (λ{x y} h=>h.symm)).2 hd
 refine (h1.and h2).imp λ{t u} h=>?_
 have a:=of_decide_eq_true h.1
 have b:F5 t.I u.I≠0:=λe=>h.2 (Amh.1 e)
 omega
theorem A8y (b:List Av) (hd:b.Pairwise λt u=>t.I≠u.I) (c:∀t∈b,Bo t.I<=1048576):∃R,Lh b=some R/\R.Perm b:=by
 rcases Cf 12 b.length with h|h
 .have e:Nat.ble b.length 12=false:=(by cases k:Nat.ble b.length 12 with| false=>rfl| true=>have:=Nat.le_of_ble_eq_true k;omega);unfold Lh;rw[e,Am];obtain⟨r,f,i,law,hc,hp,_⟩:=Aph (cmp:=Pa) (l:=b) (r:=Amj b) ⟨_,Ami,λx hx y _=>Av0 x y (c x hx),mergeSort_perm b _,A8x b hd⟩;exact⟨r,f,hp⟩
 .obtain⟨R,h1,h2,_⟩:=Aux (cmp:=Pa) Ami b (λx hx y _=>Av0 x y (c x hx)) ω;obtain⟨v,g⟩:=Aun (n:=b.length) ω;refine⟨R,?_,h2⟩
  .unfold Lh;rw[Nat.ble_eq_true_of_le h,Ak];unfold Aj0;rw[g,Ad];have hp:Aam 0 (b.length:Int) v b=some R:=(by unfold Aam;have e:Aek 0 (b.length:Int) b=Abq Pa 0 (b.length:Int) b:=rfl;have w:Aa ((b.length:Int)-0)=(b.length:Int):=ξ;refine bnd (a:=R) (Fg ?_) rfl;rw[w,Ao ω,Ak,e,h1,Ad,Ms h2.length_eq.symm];rfl);rw[hp,Ad,Ms h2.length_eq.symm];rfl
def dgi (data:List Al) (t:Af) (p:Ai×Nat):Nat:=match C3 data p.1 t with|some d=>d|none=>0
def bk (data:List Al) (t:Af) (L:List (Ai×Nat)) (d:Nat):List (Ai×Nat):=L.filter λp=>dgi data t p==d
theorem Av1 {α:Type} (f:α->Nat):∀(n:Nat) (L:List α),(∀x∈L,f x<n)->((range n).flatMap λd=>L.filter λx=>f x==d).Perm L
 | 0,L,h=>by cases L with| nil=>exact Perm.refl _| cons x L=>exact absurd (h x ψ) ω
 | n+1,L,h=>by
  have ih:=Av1 f n (L.filter λx=>!(f x==n)) λx hx=>by obtain⟨h1,h2⟩:=mem_filter.1 hx;have:=h x h1;have:f x≠n:=(by simpa using h2);omega
  rw[range_succ,flatMap_append];have e:((range n).flatMap λd=>(L.filter λx=>!(f x==n)).filter λx=>f x==d)=(range n).flatMap λd=>L.filter λx=>f x==d:=by
   have key:∀R:List Nat,(∀d∈R,d<n)->(R.flatMap λd=>(L.filter λx=>!(f x==n)).filter λx=>f x==d)=R.flatMap λd=>L.filter λx=>f x==d:=by
    intro R;induction R with
    | nil=>intro _;rfl
    | cons d R b=>
     intro c;rw[flatMap_cons,flatMap_cons,b λq hq=>c q (by simp[hq]),filter_filter];congr 1;refine filter_congr λx _=>?_;have:=c d ψ;by_cases e:f x=d
     .have:f x≠n:=ω;simp[e];omega
     .simp[e]
   exact key _ λd hd=>mem_range.1 hd
  rw[e]at ih;refine (Perm.append_right _ ih).trans ?_;have:=filter_append_perm (λx=>!(f x==n)) L;simp only[Bool.not_not]at this;simpa using this
def i7:Nat->I7
 | 0=>.c0
 | 1=>.c1
 | 2=>.c2
 | 3=>.c3
 | 4=>.c4
 | 5=>.c5
 | _=>.c6
theorem Av2 (d:Nat) (h:d<7):Yz (d:Int)=some (i7 d):=by rcases (ω:d=0\/d=1\/d=2\/d=3\/d=4\/d=5\/d=6) with rfl|rfl|rfl|rfl|rfl|rfl|rfl <;> rfl
theorem A8z {x:Ai×Nat} (h:L[j]? = some x) (d:Nat):(bk data t (L.take (j+1)) d).map Bc=(bk data t (L.take j) d).map Bc++(if dgi data t x=d then [Bc x] else []):=by
 unfold bk;rw[Al2 h,map_append];by_cases e:dgi data t x=d
 .simp[e]
 .simp[e]
def Av3 (data:List Al) (t:Af) (i:Ai):Prop:=Bo i<=1048576/\iR i/\∃d,C3 data i t=some d/\d<=6
theorem Av4 (hz:DSz data) (hv:Hx data) (hg:G4 data t=true) (y:Cw (Av3 data t) L) (hN:pv (λ_=>1) L<Fc) (X:L.length<=1000000000) : (1000<L.length/\Na (pls L) (L.map Bc) data t.G t.U t.R=some ([],9))\/(L.length<=1000/\∃R:List (Ai×Nat),Na (pls L) (L.map Bc) data t.G t.U t.R=some (R.map Bc,0)/\R.Perm L):=by
 have q:∀x∈L,C3 data x.1 t=some (dgi data t x)/\dgi data t x<7:=λx hx=>by obtain⟨_,_,d,d1,d2⟩:=y.mo x hx;have:dgi data t x=d:=(by unfold dgi;rw[d1]);rw[this];exact⟨d1,ω⟩
 have G:Af.mk t.G t.U t.R=t:=by cases t;rfl
 have V:∀j d,((bk data t (L.take j) d).map Bc).length<=1000000000:=λj d=>by unfold bk;rw[Dc];refine Nat.le_trans (length_filter_le _ _) ?_;rw[length_take];omega
 have g:∀d,∃S:List (Ai×Nat),Lh ((bk data t L d).map Bc)=some (S.map Bc)/\S.Perm (bk data t L d):=λd=>by
  have hd:((bk data t L d).map Bc).Pairwise λa b=>a.I≠b.I:=(by rw[pairwise_map];exact Pairwise.sublist filter_sublist y.dst);obtain⟨R,r1,r2⟩:=A8y ((bk data t L d).map Bc) hd λw hw=>by obtain⟨p,hp,rfl⟩:=mem_map.1 hw;exact (y.mo p (mem_filter.1 hp).1).1
  obtain⟨S,D,A⟩:∃S:List (Ai×Nat),R=S.map Bc/\S.Perm (bk data t L d):=by
   have inj:∀(M:List Av) (B:List (Ai×Nat)),M.Perm (B.map Bc)->∃S:List (Ai×Nat),M=S.map Bc/\S.Perm B:=by
    intro M;induction M with
    | nil=>intro B h;have h:=h.symm.eq_nil;cases B with| nil=>exact⟨[],rfl,Perm.refl _⟩| cons b B=>simp at h
    | cons w M ih=>intro B h;obtain⟨b,hb,e⟩:=mem_map.1 (h.mem_iff.1 (by simp:w∈w::M));obtain⟨Z,Y,rfl⟩:=append_of_mem hb;have h2:(w::M).Perm (w::(Z++Y).map Bc):=(by refine h.trans ?_;rw[map_append,map_append,map_cons,e];exact perm_middle);obtain⟨S,D,A⟩:=ih (Z++Y) h2.cons_inv;exact⟨b::S,by rw[map_cons,e,D],(A.cons b).trans perm_middle.symm⟩
   exact inj R _ r2
  subst D;exact⟨S,r1,A⟩
 obtain⟨S,U⟩:=Classical.axiomOfChoice g;have f:((range 7).flatMap S).Perm L:=by
  have h1:=Av1 (dgi data t) 7 L λx hx=>(q x hx).2;refine Perm.trans ?_ h1;have:∀R:List Nat,(R.flatMap S).Perm (R.flatMap λd=>L.filter λx=>dgi data t x==d):=λR=>by induction R with| nil=>exact Perm.refl _| cons d R ih=>rw[flatMap_cons,flatMap_cons];exact (U d).2.append ih
  exact this _
 have key:Na (pls L) (L.map Bc) data t.G t.U t.R=some (if 1000<L.length then ([],9) else (((range 7).flatMap S).map Bc,0)):=by
  unfold Na;refine Lp L.length (λj=>((j:Int),(j:Int),(bk data t (L.take j) 0).map Bc,(bk data t (L.take j) 1).map Bc,(bk data t (L.take j) 2).map Bc,(bk data t (L.take j) 3).map Bc,(bk data t (L.take j) 4).map Bc,(bk data t (L.take j) 5).map Bc,(bk data t (L.take j) 6).map Bc)) (by simp[bk]) ?_ ⟨((L.length:Int),(bk data t L 0).map Bc,(bk data t L 1).map Bc,(bk data t L 2).map Bc,(bk data t L 3).map Bc,(bk data t L 4).map Bc,(bk data t L 5).map Bc,(bk data t L 6).map Bc),?_,?_⟩
  .intro j hj;have hx:L[j]? = some L[j]:=B4 hj;generalize L[j]=x at hx;have z:=Bq hx;obtain⟨g1,g2,g3⟩:=y.mo x z;obtain⟨d1,d2⟩:=q x z;have hp:=y.pos x z;have a1:=Pn z;have E:(L.map Bc)[j]? = some (Bc x):=(by rw[getElem?_map,hx];rfl);have i:(((L.map Bc).length:Nat):Int)=(L.length:Int):=(by rw[Dc]);have k:Np (Bc x).C x.2:=Np.c ω;have I:I4 (Bc x).C=some 1:=(by rw[k.sign,Au ω]);have u:J3 (Bc x).C=some (cR x.2):=k.can;have s:Mk data t (Bc x).I=some (dgi data t x:Int):=(by show Mk data t x.1=_;rw[Alh hz hv t hg x.1 g1,d1,Qs ω]);have J:L3 4000000 (Bc x).I=some x.1:=(by rw[Avy];exact Atz 4000000 x.1 ω ω);have N:∀d,Ca 88 ((bk data t (L.take j) d).map Bc) [⟨x.1,cR x.2⟩]=some ((bk data t (L.take j) d).map Bc++[⟨x.1,cR x.2⟩]):=λd=>Dn (by have:=V j d;rw[length_singleton];omega);simp only[i,Ao (ω:(j:Int)<(L.length:Int)),Ak,Br rfl E,Ad,I,show ((1:Int) != 0)=true from rfl,G,s,Av2 _ d2,C5 hj ω];simp only[A8z hx];rcases (ω:dgi data t x=0\/dgi data t x=1\/dgi data t x=2\/dgi data t x=3\/dgi data t x=4\/dgi data t x=5\/dgi data t x=6) with e|e|e|e|e|e|e <;> (simp only[e,i7,J,u,N,Ad];simp[Bc])
  .have i:(((L.map Bc).length:Nat):Int)=(L.length:Int):=(by rw[Dc]);simp only[i,As (ω:¬(L.length:Int)<(L.length:Int)),Am,Dq]
  .dsimp only;by_cases h:1000<L.length
   .rw[Ao ω,Ak,Aw h]
   .rw[As ω,Am,Au h];have hB:∀d,Lh ((bk data t L d).map Bc)=some ((S d).map Bc):=λd=>(U d).1;have hG:∀d,G0 (bk data t L d).length ((S d).map Bc)=some ():=λd=>Ms (by have h:((S d).map Bc).length=(S d).length:=ψ;rw[h];exact (U d).2.length_eq.symm);refine Lp 7 (λj=>((j:Int),(if 0<j then (S 0).map Bc else (bk data t L 0).map Bc),(if 1<j then (S 1).map Bc else (bk data t L 1).map Bc),(if 2<j then (S 2).map Bc else (bk data t L 2).map Bc),(if 3<j then (S 3).map Bc else (bk data t L 3).map Bc),(if 4<j then (S 4).map Bc else (bk data t L 4).map Bc),(if 5<j then (S 5).map Bc else (bk data t L 5).map Bc),(if 6<j then (S 6).map Bc else (bk data t L 6).map Bc))) rfl ?_ ⟨((S 0).map Bc,(S 1).map Bc,(S 2).map Bc,(S 3).map Bc,(S 4).map Bc,(S 5).map Bc,(S 6).map Bc),rfl,?_⟩
    .intro j hj;have hw:Aa ((j:Int)+1)=((j+1:Nat):Int):=C5 (n:=7) hj ω;simp only[Ao (ω:(j:Int)<((7:Nat):Int)),Ak,Av2 j hj,Ad,hw];rcases (ω:j=0\/j=1\/j=2\/j=3\/j=4\/j=5\/j=6) with rfl|rfl|rfl|rfl|rfl|rfl|rfl <;> (dsimp only[i7];simp[hB,hG])
    .have l:([(S 0).map Bc,(S 1).map Bc,(S 2).map Bc,(S 3).map Bc,(S 4).map Bc,(S 5).map Bc,(S 6).map Bc]:List (List Av)).flatten=((range 7).flatMap S).map Bc:=(by rw[show range 7 = [0,1,2,3,4,5,6] from rfl];simp[map_append]);dsimp only;rw[A8w _ ψ (by rw[l,Dc,f.length_eq];omega),l];rfl
 by_cases h:1000<L.length
 .rw[Aw h]at key;exact .inl ⟨h,key⟩
 .rw[Au h]at key;exact .inr ⟨ω,_,key,f⟩
def GI (data:List Al) (t:Af) (S D:Nat) (i:Ai):Prop:=Bo i<=S/\iR i/\∃d,C3 data i t=some d/\d<=D
theorem GI.mono (h:GI data t S D i) (b:S<=S') (c:D<=D'):GI data t S' D' i:=by obtain⟨h1,h2,d,h3,f⟩:=h;exact⟨ω,h2,d,h3,ω⟩
theorem Cw.imp {Q:Ai->Prop} (h:Cw P L) (hi:∀i,P i->Q i):Cw Q L:=⟨h.dst,λt ht=>hi _ (h.mo t ht),h.pos⟩
theorem GI.good (b:S<=1048576) (c:D<=6) (h:GI data t S D i):Av3 data t i:=h.mono b c
theorem Ag8 (b:DSz data) (c:Hx data) (hg:G4 data t=true) (g:S<=1048576) (q:D<=6) (k:∀p∈L,GI data t S D p.1/\1<=p.2) (j:pv (λ_=>1) L<Fc) (s:L.length<=2000) : (1000<L.length/\Qk data t (L.map Bc)=some ([],9))\/∃P,Qk data t (L.map Bc)=some (P.map Bc,0)/\Cw (GI data t S D) P/\P.length<=1000/\∀f:Ai->Nat,pv f P=pv f L:=by
 unfold Qk Wz;rw[As (by rw[Dc];omega),Am];simp only[Ad];obtain⟨T,a1,a2,a3,a4⟩:=Avx (P:=GI data t S D) (λi h=>⟨by have:=h.1;omega,h.2.1⟩) L [] (Cw.nil _) k (by show 0+_<Fc;omega) ζ data t.G t.U t.R;have a1:Rv (L.map Bc) [] [] data t.G t.U t.R=some (pls T,T.map Bc):=a1;rw[a1];simp only[Ad];have a4:∀f:Ai->Nat,pv f T=pv f L:=λf=>by rw[a4];show 0+_=_;omega
 rcases Av4 b c hg (a2.imp λi h=>h.good g q) (by rw[a4];exact j) (by simp at a3;omega) with⟨hb,h⟩|⟨h1,R,h2,h3⟩
 .left;exact⟨by simp only[length_nil]at a3;omega,by rw[h];rfl⟩
 .right;rw[h2];refine⟨R,rfl,⟨(h3.pairwise_iff (λ{x y} h=>h.symm)).2 a2.dst,λp hp=>a2.mo p (h3.mem_iff.1 hp),λp hp=>a2.pos p (h3.mem_iff.1 hp)⟩,by rw[h3.length_eq];exact h1,λf=>?_⟩;rw[<-a4 f];have:∀{A B:List (Ai×Nat)},A.Perm B->pv f A=pv f B:=λ{A B} h=>by induction h with| nil=>rfl| cons x _ ih=>simp only[pv,ih]| swap x y l=>simp only[pv];omega| trans _ _ h1 h2=>rw[h1,h2]
  exact this h3
theorem Ag9 (g:DSz data) (h:Hx data) (hg:G4 data t=true) (x:S<=1048576) (y:D<=6) (s:∀p∈L,GI data t S D p.1) (u:L.length<=2000):T7 data t (L.map Bc)=some true:=by
 have b:Uf data t=some true:=by have f:=hg;simp only[G4,Dz,D8]at f;obtain⟨q,l,k⟩:=Akk g;have hq:q=true:=k.2 h;subst hq;unfold Uf;rw[l,Aa0 data t 0 ω];simp only[Ad,Ak];rw[show (He data 0 t&&decide (Bl t<=200))=G4 data t from rfl,hg]
 have c:∃i,Aaa data t=some (i,true):=by unfold Aaa;rw[b,Ad];simp only[Eg,Am];have f:=hg;simp only[G4,Dz,D8]at f;obtain⟨i,hi,_⟩:=A5u 4000000 t ω ω;exact⟨i,by rw[hi];rfl⟩
 obtain⟨i,hi⟩:=c;unfold T7;rw[hi,Ad];simp only[Ak];have hc:Aab (L.map Bc) data t=some false:=by
  unfold Aab Aeh;refine bnd (a:= -1) ?_ rfl;refine F2 (L.map Bc) (λj=>(j:Int)) rfl (by rw[Dc];omega) ?_ ?_
  .intro j w' hj hw h1 h2 h3;rw[getElem?_map]at hw;obtain⟨w,hq,rfl⟩:=Option.map_eq_some_iff.1 hw;obtain⟨g1,g2,d,d1,d2⟩:=s w (Bq hq);have:Aac (Bc w) data t=some false:=(by unfold Aac Aef;show ((Mk data t w.1).bind λv3=>some (decide (v3>=0))).bind _=_;rw[Alh g h t hg w.1 ω,d1,Qs ω];simp only[Ad];rw[Ao ω];rfl);simp only[h1,h2,h3,Ak,Ad,this,Am]
  .intro h1;exact⟨_,by simp only[h1];rfl,rfl⟩
 rw[hc];rfl
theorem A80 {c:Nat} (f:∀p∈L,p.2<Fc) (hc:c<Fc) (g:L.length<=1000000):T8 (L.map Bc) (cR c)=some ((L.map λp=>(p.1,p.2*c)).map Bc):=by
 unfold T8;refine F2 (L.map Bc) (λj=>((j:Int),((L.take j).map λp=>(p.1,p.2*c)).map Bc)) ψ (by rw[Dc];omega) ?_ ?_
 .intro j w' hj hw h1 h2 h3;rw[getElem?_map]at hw;obtain⟨w,hq,rfl⟩:=Option.map_eq_some_iff.1 hw;have b:Hm (Bc w).C (cR c)=some (cR (w.2*c)):=Np.mul (Np.c (f w (Bq hq))) (Np.c hc);simp only[h1,h2,h3,Ak,Ad,b];rw[Dn (by rw[Dc,Dc,length_take,length_singleton];omega),Ad,Db hq,map_append,map_append];rfl
 .intro h1;refine⟨_,by simp only[h1];rfl,?_⟩;rw[Dc,Dq]
def KM:Nat:=400000
theorem Av5 {α:Type} (f:α->Nat) (c:Nat):∀L:List (α×Nat),pv f (L.map λp=>(p.1,p.2*c))=c*pv f L
 | []=>rfl
 | p::L=>by rw[map_cons,pv,Av5 f c L,pv,Nat.mul_add];have:p.2*c*f p.1=c*(p.2*f p.1):=(by ac_rfl);show p.2*c*f p.1+_=_;omega
theorem A81 (f:α->Nat) {A B:List (α×Nat)} (h:A.Perm B):pv f A=pv f B:=by induction h with| nil=>rfl| cons x _ ih=>simp only[pv,ih]| swap x y l=>simp only[pv];omega| trans _ _ h1 h2=>rw[h1,h2]
def pv2 (data:List Al) (t:Af) (f:Ai->Nat) (P Q:List (Ai×Nat)):Nat:=pv (λa=>pv (λb=>pv f (D7 data KM t a b)) Q) P
theorem Aha (f:α->Nat) {L:List (α×Nat)} {x:α×Nat} (h:L[j]? = some x):pv f (L.take (j+1))=pv f (L.take j)+x.2*f x.1:=by rw[Db h,J8];simp only[pv];omega
theorem Av6 (f:α->Nat) (L:List (α×Nat)) (j:Nat):pv f (L.take j)<=pv f L:=by have:=J8 f (L.take j) (L.drop j);rw[take_append_drop]at this;omega
theorem Ahb {f g:α->Nat} {L:List (α×Nat)} (h:∀p∈L,f p.1<=g p.1):pv f L<=pv g L:=A8a h
noncomputable def Ab9 (data:List Al) (t:Af) (v:Av) (q:List Av):Int×List (ByteArray×Int)×List Av->Option ((Int×List (ByteArray×Int)×List Av)⊕(Int×List (ByteArray×Int)×List Av)):=λ(b,j,g)=> bif b<(q.length:Int) then ((Ag q b).bind λf=> (Od (4000000) data t v.I f.I).bind λi=> (Hm v.C f.C).bind λh=> (T8 i h).bind λv105=> (Rv v105 j g data t.G t.U t.R).bind λc=> some (.inl ((Aa (b+1)),c.1,c.2))) else (some (.inr (b,j,g)))
theorem A82 (hz:DSz data) (hv:Hx data) (hg:G4 data t=true) (hS:S+S'<=400000) (hD:D+D'<=6) {v:Ai×Nat} (B:GI data t S D v.1) (E:v.2<Fc) (G:1<=v.2) {Q:List (Ai×Nat)} (R:Cw (GI data t S' D') Q) (a8:Q.length<=1000) (aa:pv (λ_=>1) Q<Fc) {g:List (Ai×Nat)} (J:Cw (GI data t (S+S') (D+D')) g) (Y:g.length<=900000000) (hb:pv (λ_=>1) g+729*(v.2*pv (λ_=>1) Q)<Fc) : ∃u,An (Ab9 data t (Bc v) (Q.map Bc)) (0,pls g,g.map Bc)=some ((Q.length:Int),pls u,u.map Bc)/\Cw (GI data t (S+S') (D+D')) u/\u.length<=g.length+729*Q.length/\∀f:Ai->Nat,pv f u=pv f g+v.2*pv (λb=>pv f (D7 data KM t v.1 b)) Q:=by
 have y:(((Q.map Bc).length:Nat):Int)=(Q.length:Int):=by rw[Dc]
 obtain⟨e,e1,u,rfl,e2,e3,e4⟩:=J2 (step:=Ab9 data t (Bc v) (Q.map Bc)) (λ(s:Int×List (ByteArray×Int)×List Av)=>∃(j:Nat) (u:List (Ai×Nat)),s=((j:Int),pls u,u.map Bc)/\j<=Q.length/\Cw (GI data t (S+S') (D+D')) u/\u.length<=g.length+729*j/\∀f:Ai->Nat,pv f u=pv f g+v.2*pv (λb=>pv f (D7 data KM t v.1 b)) (Q.take j)) (λs=>Q.length-s.1.toNat) (λe=>∃u,e=((Q.length:Int),pls u,u.map Bc)/\Cw (GI data t (S+S') (D+D')) u/\u.length<=g.length+729*Q.length/\∀f:Ai->Nat,pv f u=pv f g+v.2*pv (λb=>pv f (D7 data KM t v.1 b)) Q) (by
   rintro _ ⟨j,u,rfl,hj,hu,I,k⟩;rcases Cf j Q.length with h|h
   .left;have hx:Q[j]? = some Q[j]:=B4 h;generalize Q[j]=w at hx;have M:=Bq hx;obtain⟨w1,X,U,V,w4⟩:=R.mo w M;have wp:=R.pos w M;have wb:=Pn M;obtain⟨v1,v2,dv,v3,v4⟩:=B;have A:(Q.map Bc)[j]? = some (Bc w):=(by rw[getElem?_map,hx];rfl);have x:Od 4000000 data t (Bc v).I (Bc w).I=some ((D7 data KM t v.1 w.1).map Bc):=A8n hv.szv hz.sz.short KM t v.1 w.1 4000000 dv U (by unfold KM;omega) (by unfold KM;omega) v3 V ω (by have:=hg;simp only[G4,Dz,D8]at this;exact this.2) v2 X;obtain⟨g1,g2⟩:=Q3 data KM t v.1 w.1 dv U (by unfold KM;omega) v3 V ω v2 X;have a6:=Sw (show dv+U<=6 by omega);have Z:(D7 data KM t v.1 w.1).length<=729:=(by have:=Mw λp hp=>(g1 p hp).pos;omega);have N:Hm (Bc v).C (Bc w).C=some (cR (v.2*w.2)):=Np.mul (Np.c E) (Np.c ω);have a7:v.2*w.2<=v.2*pv (λ_=>1) Q:=Nat.mul_le_mul_left _ wb;have L:T8 ((D7 data KM t v.1 w.1).map Bc) (cR (v.2*w.2))=some (((D7 data KM t v.1 w.1).map λp=>(p.1,p.2*(v.2*w.2))).map Bc):=A80 (λp hp=>by have:=Pn hp;have:(1000:Nat)<Fc:=(by unfold Fc;decide);omega) ω ω;have l:∀f:Ai->Nat,pv f ((D7 data KM t v.1 w.1).map λp=>(p.1,p.2*(v.2*w.2)))=v.2*w.2*pv f (D7 data KM t v.1 w.1):=λf=>Av5 f _ _;have z:pv (λ_=>1) u+pv (λ_=>1) ((D7 data KM t v.1 w.1).map λp=>(p.1,p.2*(v.2*w.2)))<Fc:=(by rw[l,k];have k0:pv (λb=>pv (λ_=>1) (D7 data KM t v.1 b)) (Q.take (j+1))<=729*pv (λ_=>1) Q:=(by refine Nat.le_trans (Av6 _ Q (j+1)) ?_;rw[<-Oq];refine Ahb λp hp=>?_;obtain⟨p1,p2,dp,p3,p4⟩:=R.mo p hp;have:=(Q3 data KM t v.1 p.1 dv dp (by unfold KM;omega) v3 p3 ω v2 p2).2;have:=Sw (show dv+dp<=6 by omega);omega);have k1:=Aha (λb=>pv (λ_=>1) (D7 data KM t v.1 b)) hx;have k2:=Nat.mul_le_mul_left v.2 k0;rw[k1,Nat.mul_add]at k2;have k3:v.2*(729*pv (λ_=>1) Q)=729*(v.2*pv (λ_=>1) Q):=(by ac_rfl);have k4:v.2*(w.2*pv (λ_=>1) (D7 data KM t v.1 w.1))=v.2*w.2*pv (λ_=>1) (D7 data KM t v.1 w.1):=(by ac_rfl);omega);obtain⟨T,a1,a2,a3,a4⟩:=Avx (P:=GI data t (S+S') (D+D')) (λi h=>⟨by have:=h.1;omega,h.2.1⟩) ((D7 data KM t v.1 w.1).map λp=>(p.1,p.2*(v.2*w.2))) u hu (λp hp=>by obtain⟨q,hq,rfl⟩:=mem_map.1 hp;obtain⟨d,d1,d2⟩:=(g1 q hq).deg;refine⟨⟨by have:=(g1 q hq).siz;show Bo q.1<=_;omega,(g1 q hq).num,d,d1,ω⟩,?_⟩;exact Nat.mul_pos (g1 q hq).pos (Nat.mul_pos G wp)) z (by rw[Dc];omega) data t.G t.U t.R;refine⟨((j+1:Nat),pls T,T.map Bc),?_,⟨j+1,T,rfl,ω,a2,by rw[Dc]at a3;omega,λf=>?_⟩,ζ⟩
    .unfold Ab9;simp only[y,Ao (ω:(j:Int)<(Q.length:Int)),Ak,Br rfl A,Ad,x,N,L,a1,C5 h ω]
    .rw[a4,k,l,Aha _ hx,Nat.mul_add];have:v.2*(w.2*pv f (D7 data KM t v.1 w.1))=v.2*w.2*pv f (D7 data KM t v.1 w.1):=(by ac_rfl);omega
   .right;have:j=Q.length:=ω;subst this;rw[Dq]at k;exact⟨_,by unfold Ab9;simp only[y,As (ω:¬(Q.length:Int)<(Q.length:Int)),Am],u,rfl,hu,I,k⟩)
  (0,pls g,g.map Bc) ⟨0,g,rfl,ω,J,ω,λf=>by rw[take_zero];show _=_+v.2*0;omega⟩;exact⟨u,e1,e2,e3,e4⟩
theorem Av7:(729:Nat)<Fc:=by unfold Fc;decide
noncomputable def Aca (data:List Al) (t:Af) (p q:List Av):Int×List (ByteArray×Int)×List Av->Option ((Int×List (ByteArray×Int)×List Av)⊕(List (ByteArray×Int)×List Av)):=λ(v78,c,b)=> bif v78<(p.length:Int) then ((Ag p v78).bind λh=> (An (Ab9 data t h q) (0,c,b)).bind λ(_,g,f)=> some (.inl ((Aa (v78+1)),g,f))) else (some (.inr (c,b)))
theorem A83 (A:DSz data) (B:Hx data) (hg:G4 data t=true) (hS:S+S'<=400000) (hD:D+D'<=6) (hL:∀p∈L,GI data t S D p.1/\1<=p.2) (hM:∀p∈M,GI data t S' D' p.1/\1<=p.2) (Z:L.length<=2000) (Y:M.length<=2000) (ae:L≠[]) (ad:M≠[]) (hN:729*(pv (λ_=>1) L*pv (λ_=>1) M)<Fc) : (1000<729*(pv (λ_=>1) L*pv (λ_=>1) M)/\Mj data t (L.map Bc) (M.map Bc)=some ([],9))\/∃R,Mj data t (L.map Bc) (M.map Bc)=some (R.map Bc,0)/\Cw (GI data t (S+S') (D+D')) R/\R.length<=1000/\∀f:Ai->Nat,pv f R=pv2 data t f L M:=by
 have n1:1<=pv (λ_=>1) L:=by have h1:=Mw λp hp=>(hL p hp).2;cases L with| nil=>exact (ae rfl).elim| cons a l=>simp at h1;omega
 have n2:1<=pv (λ_=>1) M:=by have h1:=Mw λp hp=>(hM p hp).2;cases M with| nil=>exact (ad rfl).elim| cons a l=>simp at h1;omega
 have m1:pv (λ_=>1) L<=pv (λ_=>1) L*pv (λ_=>1) M:=Nat.le_mul_of_pos_right _ n2;have m2:pv (λ_=>1) M<=pv (λ_=>1) L*pv (λ_=>1) M:=Nat.le_mul_of_pos_left _ n1;unfold Mj;rw[Ag9 A B hg (show S<=1048576 by omega) (show D<=6 by omega) (λp hp=>(hL p hp).1) Z,Ag9 A B hg (show S'<=1048576 by omega) (show D'<=6 by omega) (λp hp=>(hM p hp).1) Y];simp only[Ad,Eg,Am];rcases Ag8 A B hg (show S<=1048576 by omega) (show D<=6 by omega) hL ω Z with⟨hb,h⟩|⟨P,p1,p2,p3,p5⟩
 .left;exact⟨by have:=Mw λp hp=>(hL p hp).2;omega,by rw[h];rfl⟩
 .rw[p1];simp only[Ad,show ((0:Int) != 0)=false from rfl,Am];rcases Ag8 A B hg (show S'<=1048576 by omega) (show D'<=6 by omega) hM ω Y with⟨hb,h⟩|⟨Q,q1,q2,q3,q5⟩
  .left;exact⟨by have:=Mw λp hp=>(hM p hp).2;omega,by rw[h];rfl⟩
  .rw[q1];simp only[Ad,show ((0:Int) != 0)=false from rfl,Am];have ac:P.length≠0:=λe=>by have:P = []:=Fu.1 e;have h:=p5 λ_=>1;rw[this]at h;have h:0=pv (λ_=>1) L:=h;omega
   have ab:Q.length≠0:=λe=>by have:Q = []:=Fu.1 e;have h:=q5 λ_=>1;rw[this]at h;have h:0=pv (λ_=>1) M:=h;omega
   have wP:Aa (((P.map Bc).length:Int)-1)=((P.length-1:Nat):Int):=(by rw[Dc,Aa,B6] <;> omega);have wQ:Aa (((Q.map Bc).length:Int)-1)=((Q.length-1:Nat):Int):=(by rw[Dc,Aa,B6] <;> omega);have q:∀{R:List (Ai×Nat)} {S D:Nat},S<=1048576->D<=6->Cw (GI data t S D) R->R.length≠0->∃(w:Av) (d:Nat),(R.map Bc)[R.length-1]? = some w/\Mk data t w.I=some (d:Int)/\d<=D:=λ{R S D} h1 h2 h3 h4=>by have hx:R[R.length-1]? = some (R[R.length-1]' ω):=B4 _;generalize R[R.length-1]'_=x at hx;obtain⟨g1,g2,d,g3,g4⟩:=h3.mo x (Bq hx);refine⟨Bc x,d,by rw[getElem?_map,hx];rfl,?_,g4⟩;show Mk data t x.1=_;rw[Alh A B t hg x.1 ω,g3,Qs ω]
   obtain⟨a,da,a1,a2,a3⟩:=q (show S<=1048576 by omega) ω p2 ac;obtain⟨b,db,b1,b2,b3⟩:=q (show S'<=1048576 by omega) ω q2 ab;have a6:Aa ((da:Int)+(db:Int))=(da:Int)+(db:Int):=ξ;have lP:(((P.map Bc).length:Nat):Int)=(P.length:Int):=(by rw[Dc]);rw[Cy (by rw[Dc];omega),Cy (by rw[Dc];omega)];simp only[Am,Ad,wP,wQ,Br rfl a1,Br rfl b1,a2,b2,a6];rw[As ω,Am];unfold Wz;simp only[Ad];have U:pv (λ_=>1) Q=pv (λ_=>1) M:=q5 _;have V:pv (λ_=>1) P=pv (λ_=>1) L:=p5 _;have z:∀j,729*(pv (λ_=>1) (P.take j)*pv (λ_=>1) Q)<Fc:=λj=>by have h1:=Av6 (λ_=>1) P j;have h2:=Nat.mul_le_mul_right (pv (λ_=>1) Q) h1;rw[V]at h2;rw[U]at h2 ⊢;omega
   have I:∀a,GI data t S D a->pv (λb=>pv (λ_=>1) (D7 data KM t a b)) Q<=729*pv (λ_=>1) Q:=λa ha=>by rw[<-Oq];refine Ahb λp hp=>?_;obtain⟨x1,x2,dp,x3,x4⟩:=q2.mo p hp;obtain⟨v1,v2,dv,v3,v4⟩:=ha;have:=(Q3 data KM t a p.1 dv dp (by unfold KM;omega) v3 x3 ω v2 x2).2;have:=Sw (show dv+dp<=6 by omega);omega
   have s:∀j,pv2 data t (λ_=>1) (P.take j) Q<=729*(pv (λ_=>1) (P.take j)*pv (λ_=>1) Q):=λj=>by
    unfold pv2;have h1:pv (λa=>pv (λb=>pv (λ_=>1) (D7 data KM t a b)) Q) (P.take j)<=pv (λa=>729*pv (λ_=>1) Q*1) (P.take j):=Ahb λp hp=>by rw[Nat.mul_one];exact I p.1 (p2.mo p (mem_of_mem_take hp))
    rw[Oq]at h1;refine Nat.le_trans h1 (Nat.le_of_eq ?_)
    ac_rfl
   have G:∃T:List (Ai×Nat),Cw (GI data t (S+S') (D+D')) T/\T.length<=900000000/\(∀f:Ai->Nat,pv f T=pv2 data t f P Q)/\∀{X:Type} {J:List (ByteArray×Int)×List Av->Option X} {x:X},J (pls T,T.map Bc)=some x->(An (Aca data t (P.map Bc) (Q.map Bc)) (0,[],[])).bind J=some x:=by
    have N:∀j,j<=P.length->∃u:List (Ai×Nat),Cw (GI data t (S+S') (D+D')) u/\u.length<=729*Q.length*j/\(∀f:Ai->Nat,pv f u=pv2 data t f (P.take j) Q)/\∀{X:Type} {J:List (ByteArray×Int)×List Av->Option X},(An (Aca data t (P.map Bc) (Q.map Bc)) (0,[],[])).bind J=(An (Aca data t (P.map Bc) (Q.map Bc)) ((j:Int),pls u,u.map Bc)).bind J:=by
     intro j;induction j with
     | zero=>intro _;exact⟨[],Cw.nil _,ψ,λf=>by rw[take_zero];rfl,λ{X J}=>rfl⟩
     | succ j ih=>
      intro hj;obtain⟨u,u1,u2,u3,u4⟩:=ih ω;have hx:P[j]? = some (P[j]' ω):=B4 _;generalize P[j]'_=v at hx;have hm:=Bq hx;have a7:(P.map Bc)[j]? = some (Bc v):=(by rw[getElem?_map,hx];rfl);have ah:=Pn hm;have af:=Aha (λ_=>1) hx;have b3:=z (j+1);have b4:=s j;rw[af,Nat.add_mul,Nat.mul_one]at b3;have ag:=u3 λ_=>1;have a8:729*Q.length*j<=729*1000*1000:=Nat.mul_le_mul ω ω;obtain⟨T,t1,t2,t3,t4⟩:=A82 A B hg hS hD (p2.mo v hm) ω (p2.pos v hm) q2 q3 ω u1 ω ω;refine⟨T,t2,by rw[Nat.mul_succ];omega,λf=>?_,λ{X J}=>?_⟩
      .rw[t4,u3];unfold pv2;rw[Aha _ hx]
      .rw[u4,Ks (s':=(((j+1:Nat):Int),pls T,T.map Bc))];unfold Aca;simp only[lP,Ao (ω:(j:Int)<(P.length:Int)),Ak,Br rfl a7,Ad,t1,C5 (show j<P.length by omega) ω]
    obtain⟨T,t1,t2,t3,t4⟩:=N P.length (Nat.le_refl _);rw[Dq]at t3;have a8:729*Q.length*P.length<=729*1000*1000:=Nat.mul_le_mul ω ω;refine⟨T,t1,ω,t3,λ{X J x} hJ=>?_⟩;rw[t4,Fg (e:=(pls T,T.map Bc)) (by unfold Aca;simp only[lP,As (ω:¬(P.length:Int)<(P.length:Int)),Am])];exact hJ
   obtain⟨T,t1,t2,t3,t4⟩:=G;have aa:pv (λ_=>1) T<Fc:=(by rw[t3];have h1:=s P.length;rw[Dq]at h1;have h2:=z P.length;rw[Dq]at h2;omega);have E:∀f:Ai->Nat,pv2 data t f P Q=pv2 data t f L M:=λf=>by unfold pv2;rw[p5];congr 1;funext a;exact q5 _
   rcases Av4 A B hg (t1.imp λi h=>h.good ω ω) aa ω with⟨hb,h⟩|⟨h1,R,h2,h3⟩
   .left;refine⟨by have g1:=Mw λp hp=>t1.pos p hp;have g2:=t3 λ_=>1;have g3:=s P.length;rw[Dq,V,U]at g3;omega,?_⟩;exact t4 (J:=λ(k,g)=>(Na k g data t.G t.U t.R).bind λc=>some (c.1,c.2)) (by show (Na (pls T) (T.map Bc) data t.G t.U t.R).bind _=_;rw[h];rfl)
   .right;refine⟨R,t4 (J:=λ(k,g)=>(Na k g data t.G t.U t.R).bind λc=>some (c.1,c.2)) (by show (Na (pls T) (T.map Bc) data t.G t.U t.R).bind _=_;rw[h2];rfl),⟨(h3.pairwise_iff (λ{x y} h=>h.symm)).2 t1.dst,λp hp=>t1.mo p (h3.mem_iff.1 hp),λp hp=>t1.pos p (h3.mem_iff.1 hp)⟩,by rw[h3.length_eq];exact h1,λf=>?_⟩;rw[A81 f h3,t3,E]
def Q4 (data:List Al) (t:Af):List Ai->(Ai->Nat)->Ai->Nat
 | [],f,a=>f a
 | r::rs,f,a=>pv (Q4 data t rs f) (D7 data KM t a r)
theorem Amk (data:List Al) (t:Af) (r:Ai) (f:Ai->Nat):∀(c:List Ai) (a:Ai),Q4 data t (c++[r]) f a=Q4 data t c (λb=>pv f (D7 data KM t b r)) a
 | [],a=>rfl
 | q::c,a=>by show pv (Q4 data t (c++[r]) f) (D7 data KM t a q)=pv (Q4 data t c λb=>pv f (D7 data KM t b r)) (D7 data KM t a q);exact Q2 λp _=>Amk data t r f c p.1
def dgo (data:List Al) (t:Af) (i:Ai):Nat:=match C3 data i t with|some d=>d|none=>0
def Ec (data:List Al) (t:Af) (is:List Ai):Nat:=(is.map (dgo data t)).sum
theorem A84 (data:List Al) (t:Af) (is:List Ai) (r:Ai):Ec data t (is++[r])=Ec data t is+dgo data t r:=by unfold Ec;simp
structure GG (data:List Al) (t:Af) (is:List Ai):Prop where
 num:∀i∈is,iR i
 deg:∀i∈is,C3 data i t=some (dgo data t i)
 siz:B7 is<=400000
 sum:Ec data t is<=6
 len:is.length<=6
def Aml (data:List Al) (t:Af) (f:Ai->Nat):Prop:=∀i j a b,Bo i<=KM->C3 data i t=some a->C3 data j t=some b->a+b<=6->iR i->iR j->pv f (D7 data KM t i j)=f i*f j
theorem Av8 {data:List Al} {t:Af} {f:Ai->Nat} (hf:Aml data t f):∀(b:List Ai) (a:Ai),GG data t (a::b)->Q4 data t b f a=f a*Gm (b.map f)
 | [],a,_=>by simp[Q4,Gm]
 | r::b,a,h=>by
  have s:=h.siz;have hd:=h.sum;have u:=h.len;have z:Ec data t (a::r::b)=dgo data t a+(dgo data t r+Ec data t b):=(by unfold Ec;simp);rw[z]at hd;simp only[B7]at s;simp only[Ed]at u;have j:=h.num a ψ;have c:=h.num r ψ;have l:=h.deg a ψ;have k:=h.deg r ψ;obtain⟨g1,_⟩:=Q3 data KM t a r _ _ (by unfold KM;omega) l k ω j c;show pv (Q4 data t b f) (D7 data KM t a r)=f a*(f r*Gm (b.map f));rw[Q2 (g:=λx=>Gm (b.map f)*f x) λp hp=>by
   have g:=g1 p hp;obtain⟨d,d1,d2⟩:=g.deg;have q:=g.siz;have y:dgo data t p.1=d:=(by unfold dgo;rw[d1]);have hp:GG data t (p.1::b):=by
    refine⟨λi hi=>?_,λi hi=>?_,by simp only[B7];omega,?_,by simp only[Ed];omega⟩
    .rcases E8.1 hi with rfl|hi
     .exact g.num
     .exact h.num i (by simp[hi])
    .rcases E8.1 hi with rfl|hi
     .rw[y];exact d1
     .exact h.deg i (by simp[hi])
    .have:Ec data t (p.1::b)=dgo data t p.1+Ec data t b:=(by unfold Ec;simp);omega
   rw[Av8 hf b p.1 hp,Nat.mul_comm],Oq,hf a r _ _ (by unfold KM;omega) l k ω j c]
  ac_rfl
structure PRg (data:List Al) (t:Af) (i0:Ai) (rs:List Ai) (R:List (Ai×Nat)):Prop where
 cw:Cw (GI data t (B7 (i0::rs)) (Ec data t (i0::rs))) R
 len:R.length<=1000
 val:∀f:Ai->Nat,pv f R=Q4 data t rs f i0
 cnt:pv (λ_=>1) R<=3 ^ (Ec data t (i0::rs)*rs.length)
theorem PRg.one (h:GG data t [i]):PRg data t i [] [(i,1)]:=by
 refine⟨⟨pairwise_singleton _ _,λp hp=>?_,λp hp=>?_⟩,ψ,λf=>?_,by simp[pv]⟩
 .simp only[E3]at hp;subst hp;exact⟨by simp[B7],h.num i ψ,_,h.deg i ψ,by simp[Ec]⟩
 .simp only[E3]at hp;subst hp;exact Nat.le_refl _
 .show 1*f i+0=f i;omega
theorem GG.take {c:Ai} (h:GG data t (c::b)) (j:Nat):GG data t (c::b.take j):=by
 have k:=h.siz;have hd:=h.sum;have q:=h.len;have g:b=b.take j++b.drop j:=(take_append_drop j b).symm;have u:B7 b=B7 (b.take j)+B7 (b.drop j):=by rw[<-U2,<-g]
 have s:Ec data t b=Ec data t (b.take j)+Ec data t (b.drop j):=by unfold Ec;rw[<-sum_append,<-map_append,<-g]
 have f:∀l,Ec data t (c::l)=dgo data t c+Ec data t l:=λl=>by unfold Ec;simp
 rw[f]at hd;simp only[B7]at k;simp only[Ed]at q;refine⟨λi hi=>?_,λi hi=>?_,by simp only[B7];omega,by rw[f];omega,by rw[Ed,length_take];omega⟩
 .rcases E8.1 hi with rfl|hi
  .exact h.num _ ψ
  .exact h.num i (by have:=mem_of_mem_take hi;simp[this])
 .rcases E8.1 hi with rfl|hi
  .exact h.deg _ ψ
  .exact h.deg i (by have:=mem_of_mem_take hi;simp[this])
theorem A85 (c:DSz data) (f:Hx data) (hg:G4 data t=true) (g:S<=1048576) (i:D<=6) (k:∀p∈M,GI data t S D p.1/\1<=p.2) (b:M.length<=2000) (x:pv (λ_=>1) M<Fc) : Mj data t [] (M.map Bc)=some ([],9)\/Mj data t [] (M.map Bc)=some ([],0):=by
 have hb:=Av7;unfold Mj;rw[show T7 data t []=some true from Ag9 c f hg g i (L:=[]) (λp hp=>by cases hp) ψ,Ag9 c f hg g i (λp hp=>(k p hp).1) b];simp only[Ad,Eg,Am];rcases Ag8 c f hg g i (L:=[]) (λp hp=>by cases hp) (by show 0<Fc;omega) ψ with⟨_,h⟩|⟨P,j,s,B,q⟩
 .have h:Qk data t []=some ([],9):=h;left;rw[h];rfl
 .have j:Qk data t []=some (P.map Bc,0):=j;have u:P = []:=(by have h1:=Mw s.pos;rw[q]at h1;have h1:P.length<=0:=h1;exact Fu.1 ω);subst u;rw[j];simp only[Ad,show ((0:Int) != 0)=false from rfl,Am];rcases Ag8 c f hg g i k x b with⟨_,h⟩|⟨Q,l,A,z,y⟩
  .left;rw[h];rfl
  .right;rw[l];rfl
theorem PRg.step (B:DSz data) (E:Hx data) (hg:G4 data t=true) {r:Ai} {R:List (Ai×Nat)} (h:PRg data t i b R) (u:GG data t (i::(b++[r]))) : (b≠[]/\Mj data t (R.map Bc) [⟨r,cR 1⟩]=some ([],9))\/∃x,Mj data t (R.map Bc) [⟨r,cR 1⟩]=some (x.map Bc,0)/\PRg data t i (b++[r]) x:=by
 have hs:=u.siz;have hd:=u.sum;have Y:=u.len;have N:∀l,Ec data t (i::l)=dgo data t i+Ec data t l:=λl=>by unfold Ec;simp
 have e5:B7 (i::(b++[r]))=B7 (i::b)+Bo r:=by simp only[B7,U2];omega
 have e6:Ec data t (i::(b++[r]))=Ec data t (i::b)+dgo data t r:=by rw[N,N,A84];omega
 have z:b.length<=4:=by simp only[Ed,E4,length_nil]at Y;omega
 have A:=u.num r ψ;have U:=u.deg r ψ;have s:=h.cnt;have G:(3:Nat) ^ (Ec data t (i::b)*b.length)<=3 ^ 24:=Nat.pow_le_pow_right δ (Nat.mul_le_mul (ω:_<=6) z);have Z:(729:Nat)*(3 ^ 24*1)<Fc:=by unfold Fc;decide
 have j:pv (λ_:Ai=>1) [(r,1)]=1:=rfl;have J:∀p∈[(r,1)],GI data t (Bo r) (dgo data t r) p.1/\1<=p.2:=λp hp=>by simp only[E3]at hp;subst hp;exact⟨⟨Nat.le_refl _,A,_,U,Nat.le_refl _⟩,Nat.le_refl _⟩
 have k:[(r,1)].map Bc = [⟨r,cR 1⟩]:=rfl;by_cases I:R = []
 .subst I;have y:b≠[]:=λe=>by subst e;have h0:(0:Nat)=1:=h.val λ_=>1;omega
  rcases A85 B E hg (S:=Bo r) (D:=dgo data t r) ω ω J ψ (by rw[j];have:=Av7;omega) with c|c
  .left;rw[<-k];exact⟨y,c⟩
  .right;refine⟨[],by rw[<-k];exact c,⟨Cw.nil _,ψ,λf=>?_,Nat.zero_le _⟩⟩;rw[Amk,<-h.val];rfl
 rcases A83 B E hg (S:=B7 (i::b)) (S':=Bo r) (D:=Ec data t (i::b)) (D':=dgo data t r) ω ω (L:=R) (M:=[(r,1)]) (λp hp=>⟨h.cw.mo p hp,h.cw.pos p hp⟩) J (by have:=h.len;omega) ψ I ψ (by rw[j];have:729*(pv (λ_=>1) R*1)<=729*(3 ^ 24*1):=ω;omega) with⟨hb,c⟩|⟨x,c1,c2,c3,c5⟩
 .left;rw[<-k];refine⟨λe=>?_,c⟩;subst e;rw[j]at hb;simp only[length_nil,Nat.mul_zero,Nat.pow_zero]at s;omega
 .right;have q:∀f:Ai->Nat,pv f x=pv (λa=>pv f (D7 data KM t a r)) R:=λf=>by rw[c5];unfold pv2;refine Q2 λp hp=>?_;show 1*pv f (D7 data KM t p.1 r)+0=pv f (D7 data KM t p.1 r);omega
  refine⟨x,by rw[<-k];exact c1,⟨by rw[e5,e6];exact c2,c3,λf=>by rw[q,h.val,Amk],?_⟩⟩
  .rw[q];have h1:pv (λa=>pv (λ_=>1) (D7 data KM t a r)) R<=pv (λ_=>3 ^ (Ec data t (i::(b++[r])))*1) R:=Ahb λp hp=>by obtain⟨x1,X,d,V,x4⟩:=h.cw.mo p hp;have g:=(Q3 data KM t p.1 r d _ (by unfold KM;omega) V U ω X A).2;rw[Nat.mul_one];exact Nat.le_trans g (Nat.pow_le_pow_right δ ω)
   rw[Oq]at h1;have h2:=Nat.mul_le_mul_left (3 ^ (Ec data t (i::(b++[r])))) s;refine Nat.le_trans h1 (Nat.le_trans h2 ?_);rw[<-Nat.pow_add];refine Nat.pow_le_pow_right δ ?_;rw[E4,length_singleton,Nat.mul_add,Nat.mul_one,Nat.add_comm];exact Nat.add_le_add_right (Nat.mul_le_mul_right _ ω) _
structure Gv where
 gn:Int
 gk:List Gv
def noV:Gv:=.mk 0 []
mutual
def gv (data:List Al):Ai->Af->Gv->Nat
 | ⟨n,ks⟩,t,w=>if t.G=6 then gvs data ks t.R w.gk else if t.G=7 then bc w.gk.length n.toNat else if t.G=5 then eS (gws data ks t) w.gk else 1
def gvs (data:List Al):List Ai->List Af->List Gv->Nat
 | i::is,t::ts,ws=>gv data i t (ws.headD noV)*gvs data is ts ws.tail
 | [],_,_=>1
 | _::_,[],_=>1
def gws (data:List Al):List Ai->Af->List (Gv->Nat)
 | [],_=>[]
 | ⟨n,ks⟩::es,t=>(λx=>if x.gn=n then gvs data ks (Mt data t n) x.gk else 0)::gws data es t
end
variable {a:A7} {res t:Af} {i j:Ai} {u:Aj} {x:Bs} {v:Int} {R:List (Ai×Nat)} {vars:List Af} {ts:List Aj} {data:List Al} {l m:List Bf} {D K L M S d k n:Nat} {p:Prop} {α β:Type}
theorem Nn (data:List Al) (i:Ai) (t:Af) (w:Gv):gv data i t w=if t.G=6 then gvs data i.K t.R w.gk else if t.G=7 then bc w.gk.length i.U.toNat else if t.G=5 then eS (gws data i.K t) w.gk else 1:=by cases i;simp only[gv]
theorem X7 (data:List Al) (i:Ai) (is:List Ai) (t:Af) (ts:List Af) (b:List Gv):gvs data (i::is) (t::ts) b=gv data i t (b.headD noV)*gvs data is ts b.tail:=by simp only[gvs]
theorem Ahc (data:List Al) (ts:List Af) (b:List Gv):gvs data [] ts b=1:=by simp only[gvs]
def gOf (data:List Al) (t:Af) (e:Ai) (x:Gv):Nat:=if x.gn=e.U then gvs data e.K (Mt data t e.U) x.gk else 0
theorem Vg (data:List Al) (t:Af):∀es:List Ai,gws data es t=es.map (gOf data t)
 | []=>by simp only[gws,map_nil]
 | ⟨n,b⟩::es=>by simp only[gws,Vg data t es,map_cons];rfl
theorem Av9 {g:Af->Ai->Ai->List (Ai×Nat)} (u:∀t i j w a b,Bo i<=k->C3 data i t=some a->C3 data j t=some b->pv (λx=>gv data x t w) (g t i j)=gv data i t w*gv data j t w) : ∀(ts:List Af) (is f:List Ai) (c:List Gv) (q l:Nat),B7 is<=k->Ch data is ts=some q->Ch data f ts=some l->pv (λr=>gvs data r ts c) (E5 g ts is f)=gvs data is ts c*gvs data f ts c:=by
 intro ts;induction ts with
 | nil=>
  intro is f c q l _ h1 h2;cases is with
  | cons i is=>simp only[Ch]at h1;cases h1
  | nil=>cases f with| cons j f=>simp only[Ch]at h2;cases h2| nil=>simp only[E5,pv,Ahc]
 | cons t ts ih=>
  intro is f c q l s h1 h2;cases is with
  | nil=>simp only[Ch]at h1;cases h1
  | cons i is=>
   cases f with
   | nil=>simp only[Ch]at h2;cases h2
   | cons j f=>
    simp only[B7]at s;rw[Lt]at h1 h2;cases a1:C3 data i t with
    | none=>rw[a1]at h1;cases h1
    | some a=>
     cases a2:Ch data is ts with
     | none=>rw[a1,a2]at h1;cases h1
     | some B=>
      cases b1:C3 data j t with
      | none=>rw[b1]at h2;cases h2
      | some b=>
       cases b2:Ch data f ts with
       | none=>rw[b1,b2]at h2;cases h2
       | some A=>
        have z:=u t i j (c.headD noV) a b ω a1 b1;have y:=ih is f c.tail B A ω a2 b2;show pv (λr=>gvs data r (t::ts) c) ((g t i j).flatMap λw=>Fd w.1 w.2 (E5 g ts is f))=_;rw[Ab0 (h:=λx=>pv (λr=>gvs data r ts c.tail) (E5 g ts is f)*gv data x t (c.headD noV)) (hg:=λp _=>by rw[Ab4];have:(λr=>gvs data (p.1::r) (t::ts) c)=λr=>gv data p.1 t (c.headD noV)*gvs data r ts c.tail:=(by funext r;rw[X7]);rw[this,Oq,Nat.mul_comm (gv data p.1 t _)]),Oq,z,y,X7,X7]
        ac_rfl
theorem A86:∀(k:Nat) (t:Af) (i j:Ai) (w:Gv) (y u:Nat),Bo i<=k->C3 data i t=some y->C3 data j t=some u->pv (λx=>gv data x t w) (D7 data k t i j)=gv data i t w*gv data j t w:=by
 intro k;induction k with
 | zero=>intro t i j w y u h;have:=Eb i;omega
 | succ k ih=>
  intro t i j w y u L hi hj;have B:=Eb i;rw[Nn data i,Nn data j,D7];by_cases c:t.G=6
  .rw[Aw c,Aw c,Aw c,X5,<-Av9 (k:=k) ih t.R i.K j.K w.gk y u ω (Pl c hi) (Pl c hj)];exact Q2 λp _=>by rw[Nn,Aw c]
  .rw[Au c,Au c,Au c];by_cases q:t.G=7
   .rw[Aw q,Aw q,Aw q,<-A8d];exact Q2 λp _=>by rw[Nn,Au c,Aw q]
   .rw[Au q,Au q,Au q];by_cases l:t.G=5
    .obtain⟨_,J⟩:=Vf data _ _ _ (Pm l hi);obtain⟨_,I⟩:=Vf data _ _ _ (Pm l hj);rw[Aw l,Aw l,Aw l,X5,Vg,Vg];rw[<-A8b (P:=λa=>Bo a<=k/\∃ts,Gu data t a.U=some ts/\Ch data a.K ts=some (pdg data t a)) (Q:=λb=>∃ts,Gu data t b.U=some ts/\Ch data b.K ts=some (pdg data t b)) (row:=Jx data t (E5 (D7 data k))) w.gk (λx _ a ha b hb=>?_) i.K j.K (λa ha=>⟨by have:=Jt ha;omega,J a ha⟩) I]
     .exact Q2 λp _=>by rw[Nn,Au c,Au q,Aw l,Vg]
     .obtain⟨G,ts,a1,a2⟩:=ha;obtain⟨A,b1,b2⟩:=hb;have E:=Eb a;unfold Jx;by_cases e:a.U=b.U
      .rw[Aw e,X5];by_cases ex:x.gn=a.U
       .have s:Mt data t a.U=ts:=(by unfold Mt;rw[a1]);have z:A=ts:=(by rw[<-e,a1]at b1;exact (Ew b1).symm);subst z;have D:=Av9 (k:=k) ih A a.K b.K x.gk _ _ ω a2 b2;unfold gOf;rw[Aw ex,Aw ω,s,<-e,s,<-D];exact Q2 λp _=>by rw[Aw ex];rw[s]
       .have B:∀r:List Ai,gOf data t ⟨a.U,r⟩ x=0:=λr=>by unfold gOf;rw[Au ex]
        have f:gOf data t a x=0:=(by unfold gOf;rw[Au ex]);rw[f,Nat.zero_mul,Q2 (g:=λ_=>0) λp _=>B p.1,A8c]
      .rw[Au e];show 0=_;by_cases ex:x.gn=a.U
       .have f:gOf data t b x=0:=(by unfold gOf;rw[Au ω]);rw[f,Nat.mul_zero]
       .have f:gOf data t a x=0:=(by unfold gOf;rw[Au ex]);rw[f,Nat.zero_mul]
    .rw[Au l,Au l,Au l];show 1*gv data ⟨0,[]⟩ t w+0=1*1;rw[Nn,Au c,Au q,Au l]
theorem A87 (data:List Al) (t:Af) (w:Gv):Aml data t λi=>gv data i t w:=λi j a b h1 h2 h3 _ _ _=>A86 KM t i j w a b h1 h2 h3
theorem A88 (data:List Al):∀n:Nat,(∀(i:Ai) (t:Af) (d:Nat),Bo i<=n->C3 data i t=some d->gv data i t noV=if d=0 then 1 else 0)/\(∀(is:List Ai) (ts:List Af) (d:Nat),B7 is<=n->Ch data is ts=some d->gvs data is ts []=if d=0 then 1 else 0):=by
 intro n;induction n with
 | zero=>refine⟨λi t d h=>by have:=Eb i;omega,λis ts d h hd=>?_⟩;have:=L9 is;have:is = []:=Fu.1 ω;subst this;cases ts with| nil=>simp only[Ch]at hd;cases hd;rfl| cons t ts=>simp only[Ch]at hd;cases hd
 | succ n ih=>
  have key:∀(i:Ai) (t:Af) (d:Nat),Bo i<=n+1->C3 data i t=some d->gv data i t noV=if d=0 then 1 else 0:=by
   intro i t d hi hd;have l:=Eb i;rw[Nn];by_cases f:t.G=6
   .rw[Aw f];exact ih.2 i.K t.R d ω (Pl f hd)
   .rw[Au f];by_cases c:t.G=7
    .rw[Aw c,(Sv c hd).2];cases d <;> rfl
    .rw[Au c];by_cases g:t.G=5
     .rw[Aw g,Vg];obtain⟨k,_⟩:=Vf data _ _ _ (Pm g hd);cases hk:i.K with| nil=>rw[hk]at k;rw[Aw (by simpa[pds] using k)];rfl| cons e es=>rw[hk,Ed]at k;rw[Au ω];rfl
     .rw[Au g];rw[Kh,Au f,Au c,Au g]at hd;split at hd
      .cases hd;rfl
      .cases hd
  refine⟨key,?_⟩;intro is;induction is with
  | nil=>intro ts d _ hd;cases ts with| nil=>simp only[Ch]at hd;cases hd;rfl| cons t ts=>simp only[Ch]at hd;cases hd
  | cons i is j=>
   intro ts d hi hd;cases ts with
   | nil=>simp only[Ch]at hd;cases hd
   | cons t ts=>
    simp only[B7]at hi;rw[Lt]at hd;cases h1:C3 data i t with
    | none=>rw[h1]at hd;cases hd
    | some a=>cases h2:Ch data is ts with| none=>rw[h1,h2]at hd;cases hd| some b=>rw[h1,h2]at hd;have hd:a+b=d:=Ew hd;rw[X7];show gv data i t noV*gvs data is ts []=_;rw[key i t a ω h1,j ts b ω h2,<-hd];cases a <;> cases b <;> simp
theorem A89 (data:List Al) (i:Ai) (t:Af) (w:Gv):∀n:Nat,Bo i<=n->C3 data i t=some 0->gv data i t w=1:=by
 have all:∀n:Nat,(∀(i:Ai) (t:Af) (w:Gv),Bo i<=n->C3 data i t=some 0->gv data i t w=1)/\(∀(is:List Ai) (ts:List Af) (c:List Gv),B7 is<=n->Ch data is ts=some 0->gvs data is ts c=1):=by
  intro n;induction n with
  | zero=>refine⟨λi t w h=>by have:=Eb i;omega,λis ts c h _=>?_⟩;have:=L9 is;have:is = []:=Fu.1 ω;subst this;exact Ahc _ _ _
  | succ n ih=>
   have key:∀(i:Ai) (t:Af) (w:Gv),Bo i<=n+1->C3 data i t=some 0->gv data i t w=1:=by
    intro i t w hi hd;have l:=Eb i;rw[Nn];by_cases g:t.G=6
    .rw[Aw g];exact ih.2 i.K t.R w.gk ω (Pl g hd)
    .rw[Au g];by_cases f:t.G=7
     .rw[Aw f,(Sv f hd).2,Jw]
     .rw[Au f];by_cases j:t.G=5
      .rw[Aw j,Vg];obtain⟨q,_⟩:=Vf data _ _ _ (Pm j hd);have:i.K = []:=Fu.1 ω;rw[this,map_nil,Ab3]
      .rw[Au j]
   refine⟨key,?_⟩;intro is;induction is with
   | nil=>intro ts c _ _;exact Ahc _ _ _
   | cons i is k=>
    intro ts c hi hd;cases ts with
    | nil=>simp only[Ch]at hd;cases hd
    | cons t ts=>
     simp only[B7]at hi;rw[Lt]at hd;cases h1:C3 data i t with
     | none=>rw[h1]at hd;cases hd
     | some a=>cases h2:Ch data is ts with| none=>rw[h1,h2]at hd;cases hd| some b=>rw[h1,h2]at hd;have hd:a+b=0:=Ew hd;have ha:a=0:=ω;have hb:b=0:=ω;subst ha;subst hb;rw[X7,key i t _ ω h1,k ts _ ω h2]
 exact λn=>(all n).1 i t w
def lc {α:Type} (f:α->Rat):List (Rat×α)->Rat
 | []=>0
 | p::l=>p.1*f p.2+lc f l
theorem Ahd (f:α->Rat) (l m:List (Rat×α)):lc f (l++m)=lc f l+lc f m:=by induction l with| nil=>simp only[nil_append,lc];grind| cons p l ih=>simp only[Eu,lc,ih];grind
theorem Ahe (f:β->Rat) (g:α->β) (l:List (Rat×α)):lc f (l.map λp=>(p.1,g p.2))=lc (λx=>f (g x)) l:=by induction l with| nil=>rfl| cons p l ih=>simp only[map_cons,lc,ih]
theorem A9a (f:β->Rat) (g:α->β) (c:Rat) (l:List (Rat×α)):lc f (l.map λp=>(c*p.1,g p.2))=c*lc (λx=>f (g x)) l:=by induction l with| nil=>simp only[map_nil,lc];grind| cons p l ih=>simp only[map_cons,lc,ih];grind
theorem Vh (f:β->Rat) (g:Rat×α->List (Rat×β)) (h:α->Rat) (l:List (Rat×α)) (hg:∀p,lc f (g p)=p.1*h p.2):lc f (l.flatMap g)=lc h l:=by induction l with| nil=>rfl| cons p l ih=>rw[flatMap_cons,Ahd,hg,ih,lc]
theorem Amm (f:α->Rat) (c:Rat) (l:List (Rat×α)):lc (λx=>c*f x) l=c*lc f l:=by induction l with| nil=>simp only[lc];grind| cons p l ih=>simp only[lc,ih];grind
theorem Awa (f:α->Rat) (c:Rat) (l:List (Rat×α)):lc (λx=>f x*c) l=lc f l*c:=by induction l with| nil=>simp only[lc];grind| cons p l ih=>simp only[lc,ih];grind
theorem Ka {f g:α->Rat} {l:List (Rat×α)} (h:∀p∈l,f p.2=g p.2):lc f l=lc g l:=by induction l with| nil=>rfl| cons p l ih=>simp only[lc,h p ψ,ih λq hq=>h q (by simp[hq])]
theorem X8 (l:List (Rat×α)):lc (λ_=>0) l=0:=by induction l with| nil=>rfl| cons p l ih=>simp only[lc,ih];grind
open Classical in
noncomputable def ind (p:Prop):Rat:=if p then 1 else 0
theorem Is (h:p):ind p=1:=Aw h
theorem Ij (h:¬p):ind p=0:=Au h
theorem Ahf {q r:Prop} (h:r↔p/\q):ind p*ind q=ind r:=by
 by_cases h1:p
 .by_cases h2:q
  .rw[Is h1,Is h2,Is (h.2 ⟨h1,h2⟩)];grind
  .rw[Ij h2,Ij λe=>h2 (h.1 e).2];grind
 .rw[Ij h1,Ij λe=>h1 (h.1 e).1];grind
theorem Amn:∀k:Nat,∃L:List (Rat×Nat),∀m:Nat,lc (λn=>(bc n m:Rat)) L=ind (m=k)
 | 0=>⟨[(1,0)],λm=>by cases m with| zero=>rw[Is rfl];simp only[lc,bc];grind| succ m=>rw[Ij ω];simp only[lc,bc];grind⟩
 | k+1=>by
  obtain⟨L,h⟩:=Amn k;refine⟨L.flatMap λp=>[(p.1,p.2+1),(- p.1,p.2)],λm=>?_⟩;cases m with
  | zero=>rw[Vh _ _ (λ_=>0) L λp=>by simp only[lc,Jw];grind,X8,Ij ω]
  | succ m=>
   rw[Vh _ _ (λn=>(bc n m:Rat)) L λp=>by simp only[lc,bc,Rat.natCast_add];grind,h m];by_cases e:m=k
   .rw[Is e,Is ω]
   .rw[Ij e,Ij ω]
def Amo (data:List Al) (t:Af) (i:Ai) (L:List (Rat×Gv)):Prop:=∀j d,C3 data j t=some d->lc (λw=>(gv data j t w:Rat)) L=ind (j=i)
theorem Awb (hk:∀t i d,Bo i<=k->C3 data i t=some d->∃L,Amo data t i L) : ∀(ts:List Af) (is:List Ai) (d:Nat),B7 is<=k->Ch data is ts=some d->∃L:List (Rat×List Gv),∀c f,Ch data c ts=some f->lc (λl=>(gvs data c ts l:Rat)) L=ind (c=is):=by
 intro ts;induction ts with
 | nil=>
  intro is d _ h;refine⟨[(1,[])],λc f h'=>?_⟩;cases is with
  | cons i is=>simp only[Ch]at h;cases h
  | nil=>cases c with| cons j c=>simp only[Ch]at h';cases h'| nil=>rw[Is rfl];simp only[lc,Ahc];grind
 | cons t ts ih=>
  intro is d s h;cases is with
  | nil=>simp only[Ch]at h;cases h
  | cons i is=>
   simp only[B7]at s;rw[Lt]at h;cases a1:C3 data i t with
   | none=>rw[a1]at h;cases h
   | some a=>
    cases a2:Ch data is ts with
    | none=>rw[a1,a2]at h;cases h
    | some b=>
     obtain⟨L,x⟩:=hk t i a ω a1;obtain⟨M,u⟩:=ih is b ω a2;refine⟨L.flatMap λp=>M.map λq=>(p.1*q.1,p.2::q.2),λc f h'=>?_⟩;cases c with
     | nil=>simp only[Ch]at h';cases h'
     | cons j c=>
      rw[Lt]at h';cases b1:C3 data j t with
      | none=>rw[b1]at h';cases h'
      | some z=>cases b2:Ch data c ts with| none=>rw[b1,b2]at h';cases h'| some y=>rw[Vh _ _ (λw=>(gv data j t w:Rat)*ind (c=is)) L λp=>by rw[A9a _ (λq=>p.2::q) p.1 M,Ka (g:=λq=>(gv data j t p.2:Rat)*(gvs data c ts q:Rat)) λq _=>by rw[X7,Rat.natCast_mul];rfl,Amm,u c y b2]];rw[Awa,x j z b1];exact Ahf ψ
theorem A9b (hk:∀t i d,Bo i<=k->C3 data i t=some d->∃L,Amo data t i L) {e:Ai} {ts:List Af} (u:B7 e.K<=k) (h1:Gu data t e.U=some ts) (h2:Ch data e.K ts=some d) : ∃L:List (Rat×Gv),∀e':Ai,(∃ts q,Gu data t e'.U=some ts/\Ch data e'.K ts=some q)->lc (λx=>(gOf data t e' x:Rat)) L=ind (e'=e):=by
 obtain⟨L,y⟩:=Awb hk ts e.K d u h2;refine⟨L.map λp=>(p.1,Gv.mk e.U p.2),λe' ⟨f,q,j,s⟩=>?_⟩;rw[Ahe _ (λc=>Gv.mk e.U c)];by_cases b:e.U=e'.U
 .have l:f=ts:=(by rw[<-b,h1]at j;exact (Ew j).symm);subst l;have hp:Mt data t e'.U=f:=(by unfold Mt;rw[j]);rw[Ka (g:=λc=>(gvs data e'.K f c:Rat)) λp _=>by unfold gOf;rw[Aw b,hp],y e'.K q s];by_cases h:e'.K=e.K
  .rw[Is h,Is];cases e;cases e';simp only at b h;rw[b,h]
  .rw[Ij h,Ij];rintro rfl;exact h rfl
 .rw[Ka (g:=λ_=>0) λp _=>by unfold gOf;rw[Au b];rfl,X8,Ij];rintro rfl;exact b rfl
theorem A9c {W:Ai->Gv->Nat} {P:Ai->Prop}:∀(es:List Ai),(∀e∈es,∃L:List (Rat×Gv),∀e',P e'->lc (λx=>(W e' x:Rat)) L=ind (e'=e)) -> ∃L:List (Rat×List Gv),∀fs:List Ai,(∀f∈fs,P f)->lc (λxs=>(eS (fs.map W) xs:Rat)) L=ind (fs=es):=by
 intro es;induction es with
 | nil=>intro _;refine⟨[(1,[])],λfs _=>?_⟩;cases fs with| nil=>rw[Is rfl];simp only[lc,map_nil,eS];grind| cons f fs=>rw[Ij ψ];simp only[lc,map_cons,eS];grind
 | cons e es ih=>intro he;obtain⟨L,c⟩:=he e ψ;obtain⟨M,b⟩:=ih λx hx=>he x (by simp[hx]);refine⟨L.flatMap λp=>M.flatMap λq=>[(p.1*q.1,p.2::q.2),(- (p.1*q.1),q.2)],λfs hf=>?_⟩;cases fs with| nil=>rw[Vh _ _ (λ_=>0) L λp=>by rw[Vh _ _ (λ_=>0) M λq=>by simp only[lc,map_nil,Ab3];grind,X8];grind,X8,Ij ψ]| cons f fs=>rw[Vh _ _ (λx=>(W f x:Rat)*ind (fs=es)) L λp=>by rw[Vh _ _ (λxs=>p.1*(W f p.2:Rat)*(eS (fs.map W) xs:Rat)) M λq=>by simp only[lc,map_cons,eS,Rat.natCast_add,Rat.natCast_mul];grind,Amm,b fs λx hx=>hf x (by simp[hx])];grind];rw[Awa,c f (hf f ψ)];exact Ahf ψ
theorem A9d (data:List Al):∀(k:Nat) (t:Af) (i:Ai) (d:Nat),Bo i<=k->C3 data i t=some d->∃L,Amo data t i L:=by
 intro k;induction k with
 | zero=>intro t i d h;have:=Eb i;omega
 | succ k ih=>
  intro t i d J hi;have I:=Eb i;by_cases b:t.G=6
  .obtain⟨L,x⟩:=Awb ih t.R i.K d ω (Pl b hi);refine⟨L.map λp=>(p.1,Gv.mk 0 p.2),λj f hj=>?_⟩;rw[Ahe _ (λq=>Gv.mk 0 q),Ka (g:=λq=>(gvs data j.K t.R q:Rat)) λp _=>by rw[Nn,Aw b],x j.K f (Pl b hj)];have u:i.U=0:=by
    rw[Kh,Aw b]at hi;split at hi
    .assumption
    .cases hi
   have s:j.U=0:=by
    rw[Kh,Aw b]at hj;split at hj
    .assumption
    .cases hj
   by_cases h:j.K=i.K
   .rw[Is h,Is];cases i;cases j;simp only at u s h;rw[u,s,h]
   .rw[Ij h,Ij];rintro rfl;exact h rfl
  .by_cases c:t.G=7
   .obtain⟨L,x⟩:=Amn d;refine⟨L.map λp=>(p.1,Gv.mk 0 (replicate p.2 noV)),λj f hj=>?_⟩;obtain⟨⟨a1,a2,a3⟩,a4⟩:=Sv c hi;obtain⟨⟨b1,b2,G⟩,E⟩:=Sv c hj;rw[Ahe _ (λn=>Gv.mk 0 (replicate n noV)),Ka (g:=λn=>(bc n f:Rat)) λp _=>by rw[Nn,Au b,Aw c,E,length_replicate],x];by_cases h:f=d
    .rw[Is h,Is];have A:=Fu.1 a3;have z:=Fu.1 G;have y:j.U=i.U:=ω;cases i;cases j;simp only at A z y;rw[A,z,y]
    .rw[Ij h,Ij];rintro rfl;exact h ω
   .by_cases l:t.G=5
    .obtain⟨_,D⟩:=Vf data _ _ _ (Pm l hi);obtain⟨L,x⟩:=A9c (W:=gOf data t) (P:=λe=>∃ts f,Gu data t e.U=some ts/\Ch data e.K ts=some f) i.K λe he=>by obtain⟨ts,h1,h2⟩:=D e he;have:=Jt he;have:=Eb e;exact A9b ih ω h1 h2
     refine⟨L.map λp=>(p.1,Gv.mk 0 p.2),λj f hj=>?_⟩;obtain⟨_,B⟩:=Vf data _ _ _ (Pm l hj);rw[Ahe _ (λq=>Gv.mk 0 q),Ka (g:=λxs=>(eS (j.K.map (gOf data t)) xs:Rat)) λp _=>by rw[Nn,Au b,Au c,Aw l,Vg],x j.K λe he=>by obtain⟨ts,h1,h2⟩:=B e he;exact⟨ts,_,h1,h2⟩];have u:i.U=0:=by
      rw[Kh,Au b,Au c,Aw l]at hi;split at hi
      .assumption
      .cases hi
     have s:j.U=0:=by
      rw[Kh,Au b,Au c,Aw l]at hj;split at hj
      .assumption
      .cases hj
     by_cases h:j.K=i.K
     .rw[Is h,Is];cases i;cases j;simp only at u s h;rw[u,s,h]
     .rw[Ij h,Ij];rintro rfl;exact h rfl
    .refine⟨[(1,noV)],λj f hj=>?_⟩;have e:∀{i:Ai} {d:Nat},C3 data i t=some d->i=⟨0,[]⟩:=λ{i d} h=>by
      rw[Kh,Au b,Au c,Au l]at h;split at h
      .rename_i h0;cases i;have h1:=h0.1;have h2:=Fu.1 h0.2;simp only at h1 h2;rw[h1,h2]
      .cases h
     rw[e hi,e hj,Is rfl];simp only[lc];rw[Nn,Au b,Au c,Au l];show (1:Rat)*((1:Nat):Rat)+0=1;rw[show ((1:Nat):Rat)=1 from rfl];grind
def fl (v:Int) (is:List Ai):List Bf:=is.map λi=>⟨v,i⟩
def PMg (data:List Al) (vars:List Af) (res:Af) (b:List (ByteArray×List Av)):Prop := ∀p∈b,∃(v:Int) (t:Af) (i0:Ai) (rs:List Ai) (R:List (Ai×Nat)),p.1=bs ((fl v (i0::rs)).flatMap D5)/\p.2=R.map Bc/\Em vars res v=some t/\PRg data t i0 rs R
theorem PMg.nil (data:List Al) (vars:List Af) (res:Af):PMg data vars res []:=λp hp=>by cases hp
theorem A9e {w:Int} {l m:List Ai} (h:bs ((fl v (i::l)).flatMap D5)=bs ((fl w (j::m)).flatMap D5)):v=w/\i=j/\l=m:=by
 have h1:=Als (By.flat By.fac _) (By.flat By.fac _) h;have h2:=(Alr (fl v (i::l)) (fl w (j::m)) [] [] Ji.nil Ji.nil (by rw[append_nil,append_nil];exact h1)).1;have h3:(⟨v,i⟩:Bf)::fl v l=⟨w,j⟩::fl w m:=h2;injection h3 with a b;injection a with a1 a2;subst a1;refine⟨rfl,a2,?_⟩;unfold fl at b;have inj:∀(l m:List Ai),(l.map λi=>(⟨v,i⟩:Bf))=(m.map λi=>(⟨v,i⟩:Bf))->l=m:=by
  intro l;induction l with
  | nil=>intro m h;cases m with
   | nil=>rfl
   | cons a m=>simp at h
  | cons a l ih=>intro m h;cases m with
   | nil=>simp at h
   | cons b m=>
    simp only[map_cons,List.cons.injEq,Bf.mk.injEq,true_and]at h
    rw[h.1,ih m h.2]
 exact inj l m b
noncomputable def Ahg (data:List Al) (t:Af) (F:List Bf) (b2:List (ByteArray×List Av)):List Av×Int->Option ((List Av×Int)⊕((List Av×Int×List (ByteArray×List Av))⊕List Av)):=λ(c,v39)=> bif v39<(F.length:Int) then ((Ag F v39).bind λv40=> (Mj data t c [(Av.mk v40.I (cR 1))]).bind λb=> bif (b.2 != (0:Int)) then (some (.inr (.inl ([],b.2,b2)))) else (some (.inl (b.1,(Aa (v39+1)))))) else (some (.inr (.inr c)))
theorem A9f (x:DSz data) (y:Hx data) (hg:G4 data t=true) {f:Ai} {b:List Ai} (u:GG data t (f::b)) (b2:List (ByteArray×List Av)) : ∃z,An (Ahg data t (fl v b) b2) ([⟨f,cR 1⟩],0)=some z/\((2<=b.length/\z = .inl ([],9,b2))\/∃R:List (Ai×Nat),z = .inr (R.map Bc)/\PRg data t f b R):=by
 have l:=u.len;simp only[Ed]at l;have g:((fl v b).length:Int)=(b.length:Int):=by unfold fl;rw[Dc]
 obtain⟨e,B,A⟩:=J2 (step:=Ahg data t (fl v b) b2) (λ(s:List Av×Int)=>∃(j:Nat) (R:List (Ai×Nat)),s=(R.map Bc,(j:Int))/\j<=b.length/\PRg data t f (b.take j) R) (λs=>b.length-s.2.toNat) (λz=>(2<=b.length/\z=(.inl ([],9,b2):((List Av×Int×List (ByteArray×List Av))⊕List Av)))\/∃R:List (Ai×Nat),z = .inr (R.map Bc)/\PRg data t f b R) (by
   rintro _ ⟨j,R,rfl,hj,q⟩;rcases Cf j b.length with h|h
   .have hx:b[j]? = some b[j]:=B4 h;generalize b[j]=r at hx;have k:(fl v b)[j]? = some ⟨v,r⟩:=(by unfold fl;rw[getElem?_map,hx];rfl);have i:=u.take (j+1);rw[Db hx]at i;unfold Ahg;simp only[g,Ao (ω:(j:Int)<(b.length:Int)),Ak,Br rfl k,Ad];rcases q.step x y hg i with⟨hb,c⟩|⟨D,c1,c2⟩
    .right;refine⟨_,by rw[c];rfl,.inl ⟨?_,rfl⟩⟩;have:(b.take j).length≠0:=λe=>hb (Fu.1 e);rw[length_take]at this;omega
    .left;refine⟨_,by rw[c1];rfl,⟨j+1,D,by rw[C5 h ω],ω,by rw[Db hx];exact c2⟩,?_⟩;rw[C5 h ω];show b.length-((j+1:Nat):Int).toNat<b.length-(j:Int).toNat;omega
   .right;have:j=b.length:=ω;subst this;rw[Dq]at q;exact⟨_,by unfold Ahg;simp only[g,As (ω:¬(b.length:Int)<(b.length:Int)),Am],.inr ⟨R,rfl,q⟩⟩)
  ([⟨f,cR 1⟩],0) ⟨0,[(f,1)],rfl,ω,by rw[take_zero];exact PRg.one (by have:=u.take 0;rwa [take_zero]at this)⟩;exact⟨e,B,A⟩
theorem A9g (hz:DSz data) (hv:Hx data) (hg:G4 data t=true) (ht:Em vars res v=some t) (I:Fh v) {c:Ai} {g:List Ai} (L:GG data t (c::g)) (b1:List (ByteArray×Int)) {b2:List (ByteArray×List Av)} (hm:PMg data vars res b2) : ∃l e a1,Rn (fl v (c::g)) b1 b2 data vars res.G res.U res.R=some (l,e,a1)/\PMg data vars res a1/\((e=9/\l = []/\2<=g.length)\/(e=0/\∃R:List (Ai×Nat),l=R.map Bc/\PRg data t c g R)):=by
 have hs:=L.siz;have a7:=L.len;simp only[Ed]at a7;have y:∀i∈c::g,Bo i<=1048576:=λi hi=>by have:=Jt hi;omega
 have D:∀i∈c::g,(D5 ⟨v,i⟩).length<=33554432:=λi hi=>Agn (y i hi) ⟨L.num i hi,I⟩;have a8:∀j,((fl v (c::g.take j)).flatMap D5).length<=6*33554432:=λj=>by
  refine Nat.le_trans (Aly (n:=33554432) _ λa ha=>?_) (Nat.mul_le_mul_right _ ?_)
  .unfold fl at ha;obtain⟨i,hi,rfl⟩:=mem_map.1 ha;refine D i ?_;rcases E8.1 hi with rfl|hi
   .simp
   .have:=mem_of_mem_take hi;simp[this]
  .unfold fl;rw[Dc,Ed,length_take];omega
 have q:Ag (fl v (c::g)) 0=some ⟨v,c⟩:=rfl;have B:Kt v c=some (bs (D5 ⟨v,c⟩)):=Afq v c I (L.num c ψ) (y c ψ);have s:Jo (bs (D5 ⟨v,c⟩)) []=some (((D5 ⟨v,c⟩).length:Int),D5 ⟨v,c⟩):=by have:=Vb (b:=[]) (By.fac ⟨v,c⟩) (by have:=D c ψ;simp;omega);rw[nil_append]at this;exact this
 have w1:Aa (0+1)=1:=by rw[Aa,B6] <;> omega
 have h:∀{X:Type} {J:List Int->Option X} {x:Option X},J ((fl v (c::g)).flatMap D5)=x->(An (S:=(Int×List Int)) (E:=(List Int)) (λ(v17,N)=> bif v17<((fl v (c::g)).length:Int) then ((Ag (fl v (c::g)) v17).bind λM=> (Kt M.v M.I).bind λv21=> (Hg v21 N).bind λv22=> some (.inl ((Aa (v17+1)),v22.2))) else (some (.inr N))
  ) (1,D5 ⟨v,c⟩)).bind J=x:=λ{X J x} hJ=>by
  refine bnd (a:=(fl v (c::g)).flatMap D5) ?_ hJ;rw[<-Option.bind_fun_some (An _ _)];have Z:fl v (c::g)=⟨v,c⟩::fl v g:=rfl;rw[Z];refine Abj (⟨v,c⟩:Bf) (fl v g) (λj=>(((j+1:Nat):Int),(fl v (c::g.take j)).flatMap D5)) (by simp[fl]) (by unfold fl;rw[Dc];omega) ?_ ?_
  .intro j f hf h1 h2 h3;have aa:∃i,g[j]? = some i/\f=⟨v,i⟩:=(by unfold fl at hf;rw[getElem?_map]at hf;obtain⟨i,h1,h2⟩:=Option.map_eq_some_iff.1 hf;exact⟨i,h1,h2.symm⟩);obtain⟨i,hi,rfl⟩:=aa;have A:i∈c::g:=(by have:=Bq hi;simp[this]);have hk:=a8 j;have ab:=D i A;have e1:Kt v i=some (bs (D5 ⟨v,i⟩)):=Afq v i I (L.num i A) (y i A);have e2:Hg (bs (D5 ⟨v,i⟩)) ((fl v (c::g.take j)).flatMap D5)=some (((D5 ⟨v,i⟩).length:Int),(fl v (c::g.take j)).flatMap D5++D5 ⟨v,i⟩):=Nl (By.fac _) ω;simp only[h1,h2,h3,Ak,Ad,e1,e2];have:fl v (c::g.take (j+1))=fl v (c::g.take j)++[⟨v,i⟩]:=(by unfold fl;rw[Db hi];simp);rw[this,flatMap_append];simp
  .intro h1;have V:(fl v g).length=g.length:=(by unfold fl;rw[Dc]);refine⟨(fl v (c::g)).flatMap D5,?_,rfl⟩;rw[V]at h1 ⊢;simp only[Dq,h1,Am]
 have G:By ((fl v (c::g)).flatMap D5):=By.flat By.fac _;have a6:Nat.beq (bs ((fl v (c::g)).flatMap D5)).size 0=false:=by rw[Xy];have:(fl v (c::g)).flatMap D5=118::((ti v++58::wx c)++(fl v g).flatMap D5):=rfl;rw[this];rfl
 have U:Ob v b1 b2 data vars res.G res.U res.R=some t:=Asw b1 b2 data vars res ht;have k:Er (fl v (c::g)) 1 ((fl v (c::g)).length:Int)=some (fl v g):=Ame ⟨v,c⟩ (fl v g);have u:decide ((0:Int)<((fl v (c::g)).length:Int))=true:=Ao (by unfold fl;rw[Dc,Ed];omega);cases Y:E7 b2 (bs ((fl v (c::g)).flatMap D5)) with
 | true=>have hex:∃R:List (Ai×Nat),Ik b2 (bs ((fl v (c::g)).flatMap D5)) []=R.map Bc/\PRg data t c g R:=(by unfold Ik;unfold E7 at Y;cases hf:b2.find? λp=>bs ((fl v (c::g)).flatMap D5)==p.1 with| none=>rw[find?_eq_none]at hf;obtain⟨p,hp,e⟩:=any_eq_true.1 Y;exact (hf p hp e).elim| some p=>obtain⟨w,t',j0,ss,R,g1,g2,g3,g4⟩:=hm p (mem_of_find?_eq_some hf);have e:=find?_some hf;have e:bs ((fl v (c::g)).flatMap D5)=p.1:=(Nf _ _).1 e;rw[g1]at e;obtain⟨rfl,rfl,rfl⟩:=A9e e;rw[ht]at g3;cases g3;exact⟨R,g2,g4⟩);obtain⟨R,r1,r2⟩:=hex;refine⟨R.map Bc,0,b2,?_,hm,.inr ⟨rfl,R,rfl,r2⟩⟩;unfold Rn;rw[u,Ak,q,Ad,B,Ad,s,Ad,w1];refine h ?_;rw[Pk G,Ad,Y,Ak,r1];rfl
 | false=>
  obtain⟨z,z1,z2⟩:=A9f hz hv hg (v:=v) L b2;rcases z2 with⟨hb,rfl⟩|⟨R,rfl,r2⟩
  .refine⟨[],9,b2,?_,hm,.inl ⟨rfl,rfl,hb⟩⟩;unfold Rn;rw[u,Ak,q,Ad,B,Ad,s,Ad,w1];refine h ?_;rw[Pk G,Ad,Y,Am,Ad];dsimp only;rw[Am,Ad,U,Ad,Ad,Oo,Ad,k,Ad];exact bnd z1 rfl
  .refine⟨R.map Bc,0,Gt b2 (bs ((fl v (c::g)).flatMap D5)) (R.map Bc),?_,λp hp=>?_,.inr ⟨rfl,R,rfl,r2⟩⟩
   .unfold Rn;rw[u,Ak,q,Ad,B,Ad,s,Ad,w1];refine h ?_;rw[Pk G,Ad,Y,Am,Ad];dsimp only;rw[Am,Ad,U,Ad,Ad,Oo,Ad,k,Ad];refine bnd z1 ?_;unfold Xf;dsimp only;rw[a6,Am,Ad]
   .rcases Akx _ _ _ p hp with hp|rfl
    .exact hm p hp
    .exact⟨v,t,c,g,R,rfl,rfl,ht,r2⟩
abbrev Hf:=(List Bf×Rat)×Ent
inductive Fq (K:Nat):List Aj->List Hf->Prop
 | nil:Fq K [] []
 | cons {t:Aj} {b:Hf} {ts:List Aj} {bs:List Hf}:t.M=⟨b.1.1,b.2.1⟩->rq t.C=b.1.2*(b.2.2:Rat)->RB K t.C->b.1.1.length<=1000->Fq K ts bs->Fq K (t::ts) (b::bs)
theorem Fq.len {bs:List Hf} (h:Fq K ts bs):ts.length=bs.length:=by induction h with| nil=>rfl| cons _ _ _ _ _ ih=>simp[ih]
theorem Fq.app {c:List Aj} {bs cs:List Hf} (h:Fq K ts bs) (h':Fq K c cs):Fq K (ts++c) (bs++cs):=by induction h with| nil=>exact h'| cons a b d e _ ih=>exact .cons a b d e ih
theorem Fq.mono {c:Nat} {bs:List Hf} (h:Fq K ts bs) (hk:K<=c):Fq c ts bs:=by induction h with| nil=>exact .nil| cons a b d e _ ih=>exact .cons a b (d.mono hk) e ih
theorem Fq.get {bs:List Hf} (h:Fq K ts bs):∀{j:Nat} {t:Aj},ts[j]? = some t->∃b,bs[j]? = some b/\t.M=⟨b.1.1,b.2.1⟩/\rq t.C=b.1.2*(b.2.2:Rat)/\RB K t.C/\b.1.1.length<=1000:=by
 induction h with
 | nil=>intro j t h;simp at h
 | @cons t b ts bs a1 a2 a3 a4 _ ih=>intro j u hj;cases j with| zero=>simp only[getElem?_cons_zero,Option.some.injEq]at hj;subst hj;exact⟨b,rfl,a1,a2,a3,a4⟩| succ j=>simp only[getElem?_cons_succ]at hj;simpa using ih hj
theorem Fq.mem {bs:List Hf} (h:Fq K ts bs) {t:Aj} (ht:t∈ts):∃b∈bs,t.M=⟨b.1.1,b.2.1⟩/\rq t.C=b.1.2*(b.2.2:Rat)/\RB K t.C:=by obtain⟨j,hj⟩:=Hu ht;obtain⟨b,b1,b2,f,c,_⟩:=h.get hj;exact⟨b,Bq b1,b2,f,c⟩
def Sx (l:Bz) (k c:Nat) (b:Hf):Hf:=(b.1,(b.2.1++atO l k,b.2.2*c))
def Km (B:List Hf) (l:Bz) (f:Nat->Nat) (n:Nat):List Hf:=(range n).flatMap λk=>if f k=0 then [] else B.map (Sx l k (f k))
theorem Ahh (B:List Hf) (l:Bz) (f:Nat->Nat) (n:Nat):Km B l f (n+1)=Km B l f n++(if f n=0 then [] else B.map (Sx l n (f n))):=by unfold Km;rw[range_succ,flatMap_append];simp
theorem Awc (B:List Hf) (l:Bz) (f:Nat->Nat) (n:Nat):(Km B l f n).length<=n*B.length:=by induction n with| zero=>simp[Km]| succ n ih=>rw[Ahh,E4,Nat.add_mul,Nat.one_mul];have:(if f n=0 then ([]:List Hf) else B.map (Sx l n (f n))).length<=B.length:=(by split <;> simp);omega
theorem A9h {c o:List Aj} {B:List Hf} {l:Bz} {f:Nat} {x:A7} (y:Fq K c B) (hx:rq x=(f:Rat)) (i:RB 200 x) (S:K<30000000000) (R:∀b∈B,b.2.1.length<=M) (N:M<=1000) (hl:o.length+c.length<=1000000000) :
  ∃T,An (Abx c l (k:Int) x) (0,o)=some ((c.length:Int),o++T)/\Fq (K+202) T (B.map (Sx l k f)):=by
 obtain⟨e,X,T,V,U⟩:=J2 (step:=Abx c l (k:Int) x) (λs=>∃(j:Nat) (T:List Aj),s=((j:Int),o++T)/\j<=c.length/\T.length=j/\Fq (K+202) T ((B.take j).map (Sx l k f))) (λs=>c.length-s.1.toNat)
  (λe=>∃T,e=((c.length:Int),o++T)/\Fq (K+202) T (B.map (Sx l k f))) (by
  rintro _ ⟨j,T,rfl,hj,L,q⟩
  rcases Cf j c.length with h|h
  .left
   have g:c[j]? = some c[j]:=B4 h
   generalize c[j]=t at g
   obtain⟨b,b1,b2,Z,Y,z⟩:=y.get g
   have J:=R b (Bq b1)
   have:=Avi l k
   obtain⟨u,I,G,E,D⟩:=A7y (F:=⟨b.1.1,z⟩) (A:=b.2.1) (B:=atO l k) b2 ω S Y i
   refine⟨_,?_,⟨j+1,T++[u],rfl,ω,by simp[L],?_⟩,ζ⟩
   .unfold Abx
    simp only[Ao (ω:(j:Int)<(c.length:Int)),Ak,Br rfl g,Ad,A7x,I,C5 h ω]
    rw[Dn ζ,Ad,append_assoc]
   .rw[Db b1,map_append]
    refine q.app (.cons G ?_ D z .nil)
    rw[E,Z,hx]
    show _=b.1.2*((b.2.2*f:Nat):Rat)
    rw[Rat.natCast_mul];grind
  .have:j=c.length:=ω
   subst this
   right
   rw[y.len,Dq]at q
   exact⟨_,by unfold Abx;simp only[As (ω:¬(c.length:Int)<(c.length:Int)),Am],T,rfl,q⟩) (0,o) ⟨0,[],ψ,ω,rfl,by simpa using Fq.nil⟩
 exact⟨T,by rw[<-V];exact X,U⟩
theorem A9i {g:List Aj} {B:List Hf} {l:Bz} {f:Nat->Nat} (z:Fq K g B) (hf:∀k,k<n->f k<Fc) (L:K<30000000000) (J:∀b∈B,b.2.1.length<=M) (y:M<=1000) (X:n<=1000) (Y:g.length<=1000000) :
  ∃T,An (Ag0 g l (Ls n f)) (0,[])=some ((n:Int),T)/\Fq (K+202) T (Km B l f n):=by
 obtain⟨e,V,T,S,R⟩:=J2 (step:=Ag0 g l (Ls n f)) (λs=>∃(j:Nat) (T:List Aj),s=((j:Int),T)/\j<=n/\Fq (K+202) T (Km B l f j)) (λs=>n-s.1.toNat)
  (λe=>∃T,e=((n:Int),T)/\Fq (K+202) T (Km B l f n)) (by
  rintro _ ⟨j,T,rfl,hj,q⟩
  unfold Ag0
  rw[Mu]
  rcases Cf j n with h|h
  .left
   have D:=Awc B l f j
   have I:=q.len
   have N:=z.len
   have A:j*B.length<=1000*1000000:=Nat.mul_le_mul ω ω
   have x:j*B.length+B.length<=1000*B.length:=by
    have:(j+1)*B.length<=1000*B.length:=Nat.mul_le_mul_right _ ω
    rw[Nat.add_mul]at this;omega
   have i:=hf j h
   simp only[Ao (ω:(j:Int)<(n:Int)),Ak,Br rfl (Mv f h),Ad,(Np.c i).sign,C5 h ω]
   by_cases h0:f j=0
   .refine⟨_,by rw[Aw h0];rfl,⟨j+1,T,rfl,ω,?_⟩,ζ⟩
    rw[Ahh,Aw h0,append_nil];exact q
   .have u:RB 200 (cR (f j)):=(Np.c i).rb
    obtain⟨U,G,E⟩:=A9h (o:=T) (l:=l) (k:=j) (f:=f j) z (Aby (f j)) u L J y ω
    refine⟨_,by rw[Au h0,G];rfl,⟨j+1,T++U,rfl,ω,?_⟩,ζ⟩
    rw[Ahh,Au h0]
    exact q.app E
  .have:j=n:=ω
   subst this
   right
   exact⟨_,by simp only[As (ω:¬(j:Int)<(j:Int)),Am],T,rfl,q⟩) (0,[]) ⟨0,[],rfl,ω,.nil⟩
 exact⟨T,by rw[<-S];exact V,R⟩
def Q5 (B:List Hf):List Grp->List Hf
 | []=>B
 | q::gs=>Q5 (Km B q.1 q.2.2 (q.2.1+1)) gs
theorem Awd {B:List Hf} {l:Bz} {f:Nat->Nat} {b:Hf} (hb:b∈Km B l f n):∃g∈B,b.1=g.1/\b.2∈Iz [g.2] l f n:=by
 unfold Km at hb;rw[mem_flatMap]at hb;obtain⟨k,c,hk⟩:=hb;split at hk
 .cases hk
 .rename_i h0;obtain⟨d,hd,rfl⟩:=mem_map.1 hk;refine⟨d,hd,rfl,?_⟩;unfold Iz;rw[mem_flatMap];exact⟨k,c,by rw[Au h0];exact mem_map.2 ⟨d.2,ψ,rfl⟩⟩
theorem Awe:∀(f:List Grp) {B C:List Ent},(∀b∈B,b∈C)->∀b∈Nm B f,b∈Nm C f
 | [],B,C,h,b,hb=>h b hb
 | q::f,B,C,h,b,hb=>by
  refine Awe f (B:=Iz B q.1 q.2.2 (q.2.1+1)) (λc hc=>?_) b hb;unfold Iz at hc ⊢;rw[mem_flatMap]at hc ⊢;obtain⟨k,i,g⟩:=hc;refine⟨k,i,?_⟩;split at g
  .cases g
  .rename_i h0;rw[Au h0];obtain⟨d,d1,d2⟩:=mem_map.1 g;exact mem_map.2 ⟨d,h d d1,d2⟩
theorem Amp:∀(f:List Grp) {B:List Hf} {b:Hf},b∈Q5 B f->∃g∈B,b.1=g.1/\b.2∈Nm [g.2] f
 | [],B,b,hb=>⟨b,hb,rfl,by simp[Nm]⟩
 | q::f,B,b,hb=>by obtain⟨c,c1,c2,c3⟩:=Amp f hb;obtain⟨d,d1,d2,d3⟩:=Awd c1;refine⟨d,d1,c2.trans d2,?_⟩;exact Awe f (λe he=>by simp only[E3]at he;rw[he];exact d3) b.2 c3
theorem A9j {B:List Hf} {l:Bz} {f:Nat->Nat} (h:∀b∈B,b.2.1.length<=M):∀b∈Km B l f n,b.2.1.length<=M+1:=by intro b hb;obtain⟨g,h1,_,h3⟩:=Awd hb;exact A79 (B:=[g.2]) (λc hc=>by simp only[E3]at hc;rw[hc];exact h g h1) b.2 h3
theorem A9k:∀(n:Nat) (rest:List Bi) (i:List Aj) (B:List Hf) (K M:Nat),rest.length<=n->Abw rest->Atk rest->Fq K i B->(∀b∈B,b.2.1.length<=M)->M+rest.length<=1000->K+202*rest.length<30000000000->B.length*2 ^ Dp rest<=1000000 -> ∃gs g,An Abz (i,rest)=some g/\Gs gs rest/\Fq (K+202*rest.length) g (Q5 B gs)/\g.length<=B.length*2 ^ Dp rest:=by
 intro n;induction n with
 | zero=>intro rest i B K M hn _ _ z _ _ _ _;have:rest = []:=Fu.1 ω;subst this;exact⟨[],i,Fg (by unfold Abz;simp),.nil,by simpa[Q5] using z,by rw[z.len];simp[Dp]⟩
 | succ n ih=>
  intro rest i B K M hn hS L z hM ad hK A;cases c:rest with
  | nil=>exact⟨[],i,Fg (by unfold Abz;simp),.nil,by simpa[Q5] using z.mono ω,by rw[z.len];simp[Dp]⟩
  | cons a r'=>
   rw[<-c];have h0:rest[0]? = some a:=(by rw[c];rfl);have aa:0<rest.length:=Eh h0;have hT:∀b∈rest,b.L.T.length<1099511627776:=λb hb=>by have:=(Ag1 (L.lin b hb)).1;omega
   have ae:=L.len;obtain⟨m,m1,m2,m3,m4,m5⟩:=A77 h0 hT ω;have s:rest=rest.take m++rest.drop m:=(take_append_drop m rest).symm;have J:=(s ▸ L:Atk (rest.take m++rest.drop m)).sub;have x:rest.take m≠[]:=(by intro h;have:=congrArg length h;rw[length_take]at this;simp only[length_nil]at this;omega);obtain⟨N,f,p1,p2,p3,p4⟩:=A76 J.1 x m4;have Y:Dp rest=Dp (rest.take m)+Dp (rest.drop m):=(by rw[<-Ss,take_append_drop]);have ab:=L.sum;have S:2 ^ Dp rest=2 ^ Dp (rest.take m)*2 ^ Dp (rest.drop m):=(by rw[Y,Nat.pow_add]);have a8:B.length<=1000000:=Nat.le_trans (Nat.le_mul_of_pos_right _ (Nat.pow_pos δ)) A;obtain⟨T,t1,t2⟩:=A9i (l:=a.L) (n:=N+1) z p4 ω hM ω ω (by rw[z.len];exact a8);have y:Abz (i,rest)=some (.inl (T,rest.drop m)):=(by have X:Ag rest 0=some a:=Br (n:=0) rfl h0;have R:Er rest (m:Int) (rest.length:Int)=some (rest.drop m):=(by unfold Er;simp[drop_take];omega);unfold Abz;simp only[Ao (ω:(rest.length:Int)>0),Ak,X,Ad,m1,Ut rfl m3,p1,t1,R]);have ac:(rest.drop m).length+m=rest.length:=(by rw[length_drop];omega);have a7:=Awc B a.L f (N+1);have I:(N+1)*B.length<=B.length*2 ^ Dp (rest.take m):=(by rw[Nat.mul_comm];refine Nat.mul_le_mul_left _ (Nat.le_trans (A78 N) (Nat.pow_le_pow_right δ p3)));have u:(Km B a.L f (N+1)).length*2 ^ Dp (rest.drop m)<=B.length*2 ^ Dp rest:=(by rw[S,<-Nat.mul_assoc];exact Nat.mul_le_mul_right _ (Nat.le_trans a7 I));obtain⟨gs,g,g1,g2,g3,g4⟩:=ih (rest.drop m) T (Km B a.L f (N+1)) (K+202) (M+1) ω (Pairwise.sublist (drop_sublist m rest) hS) J.2 t2 (A9j hM) ω ω (Nat.le_trans u A);refine⟨(a.L,N,f)::gs,g,by rw[Ks y,g1],?_,g3.mono ω,Nat.le_trans g4 u⟩;have V:∀b∈rest.drop m,G3 a.L b.L<0:=by
    intro b hb;cases hd:rest.drop m with
    | nil=>rw[hd]at hb;cases hb
    | cons d D=>
     have j:rest[m]? = some d:=(by have:=congrArg (λl=>l[0]?) hd;simpa using this);have a1:=m5 d j;have a6:¬G3 d.L a.L<0:=(by have G:=hS;rw[c]at G;have Z:d∈r':=(by have U:m=(m-1)+1:=ω;rw[c,U,getElem?_cons_succ]at j;exact Bq j);exact (pairwise_cons.1 G).1 d Z);have q:G3 a.L d.L<0:=by
      rcases Int.lt_trichotomy (G3 d.L a.L) 0 with k|k|k
      .exact (a6 k).elim
      .exact (a1 ((Lv.zero _ _ trivial trivial).1 k)).elim
      .rw[Lv.anti d.L a.L trivial trivial];omega
     rw[hd]at hb;rcases E8.1 hb with rfl|hb
     .exact q
     .have E:Abw (rest.drop m):=Pairwise.sublist (drop_sublist m rest) hS;rw[hd]at E;have h3:=(pairwise_cons.1 E).1 b hb;rcases Int.lt_trichotomy (G3 b.L d.L) 0 with k|k|k
      .exact (h3 k).elim
      .rw[(Lv.zero _ _ trivial trivial).1 k];exact q
      .exact Lv.trans a.L d.L b.L trivial trivial trivial q (by rw[Lv.anti b.L d.L trivial trivial];omega)
   have:=Gs.cons x m4 V p2 g2;rwa [take_append_drop]at this
def Jz (data:List Al) (t:Af) (v:Int) (i:Ai):List Bf:=if dgo data t i=0 then [] else [⟨v,i⟩]
abbrev No:=List Bf×Nat
def Kn (c:Rat) (p:No):Hf:=((p.1,c),([],p.2))
def X9 (data:List Al) (t:Af) (v:Int) (p:No) (w:Ai×Nat):No:=(p.1++Jz data t v w.1,p.2*w.2)
def upF (data:List Al) (t:Af) (v:Int) (R:List (Ai×Nat)) (b:List No):List No:=b.flatMap λp=>R.map (X9 data t v p)
theorem A9l (hc:Ky data vars res) {b1:List (ByteArray×Int)} (b2:List (ByteArray×List Av)) (k:D0 data vars res b1) (ht:Em vars res v=some t) (g:Fh v) (q:S<=1048576) (s:D<=6) (hi:GI data t S D i) : ∃b,Tl v i b1 b2 data vars res.G res.U res.R=some (Jz data t v i,b)/\D0 data vars res b:=by
 obtain⟨h1,h2,d,h3,u⟩:=hi;obtain⟨b,j,l⟩:=Aa7 (b2:=b2) hc k ⟨v,i⟩ g h2 (by show Bo i<=_;omega) (by show (Em vars res v).isSome=true;rw[ht];rfl);have c:D3 data vars res ⟨v,i⟩=(d:Int):=by unfold D3;rw[ht];show Hy (C3 data i t)=_;rw[h3,Qs ω]
 have f:dgo data t i=d:=by unfold dgo;rw[h3]
 refine⟨b,?_,l⟩;unfold Tl Jz;have j:M9 v i b1 b2 data vars res.G res.U res.R=some (D3 data vars res ⟨v,i⟩,b):=j;rw[j,Ad,c,f];by_cases h:d=0
 .rw[Aw h,h];rfl
 .rw[Au h];have:((d:Int)==0)=false:=Cy ω;simp only[this,Am]
theorem A9m {F fs:List Bf} (f:u.M=⟨F,[]⟩) (h:F.length+fs.length<=1000) (g:K<30000000000) (h1:RB K u.C) (b:n<Fc) : ∃w,Mi u (cR n) ⟨fs,[]⟩=some w/\w.M=⟨F++fs,[]⟩/\rq w.C=rq u.C*(n:Rat)/\RB (K+202) w.C:=by obtain⟨c,c1,c2,_,c4⟩:=Aga h1 (Np.c b).rb ω ω;refine⟨⟨c,⟨F++fs,[]⟩⟩,?_,rfl,by rw[c4,Aby],c2⟩;unfold Mi;rw[c1,Ad,f,Ama _ _ (by show F.length+fs.length<=_;omega) ψ];rfl
theorem A9n (data:List Al) (t:Af) (v:Int) (i:Ai):(Jz data t v i).length<=1:=by unfold Jz;split <;> simp
noncomputable def Acb (data:List Al) (vars:List Af) (res:Af) (b2:List (ByteArray×List Av)) (v:Int) (R:List Av) (u:Aj):Int×List (ByteArray×Int)×List Aj->Option ((Int×List (ByteArray×Int)×List Aj)⊕(Int×List (ByteArray×Int)×List Aj)):=λ(b,g,f)=> bif b<(R.length:Int) then ((Ag R b).bind λv193=> (Tl v v193.I g b2 data vars res.G res.U res.R).bind λc=> (Mi u v193.C (Bd.mk c.1 [])).bind λv196=> (Ca 104 f [v196]).bind λh=> some (.inl ((Aa (b+1)),c.2,h))) else (some (.inr (b,g,f)))
noncomputable def Acd (data:List Al) (vars:List Af) (res:Af) (b2:List (ByteArray×List Av)) (v:Int) (R:List Av) (ts:List Aj):Int×List (ByteArray×Int)×List Aj->Option ((Int×List (ByteArray×Int)×List Aj)⊕(Int×List (ByteArray×Int)×List Aj)):=λ(b,f,c)=> bif b<(ts.length:Int) then ((Ag ts b).bind λv175=> (An (Acb data vars res b2 v R v175) (0,f,c)).bind λ(_,h,g)=> some (.inl ((Aa (b+1)),h,g))) else (some (.inr (b,f,c)))
theorem A9o (hc:Ky data vars res) (b2:List (ByteArray×List Av)) (ht:Em vars res v=some t) (B:Fh v) (X:S<=1048576) (hD:D<=6) (Z:∀w∈R,GI data t S D w.1/\w.2<Fc) (Y:R.length<=1000) {p:No} {c:Rat} (hK:K<30000000000) (hu:u.M=⟨p.1,[]⟩) (A:rq u.C=c*(p.2:Rat)) (z:RB K u.C) (N:p.1.length<=900) {k:List (ByteArray×Int)} (U:D0 data vars res k) (o:List Aj) (ho:o.length<=100000000) :
  ∃(f:List (ByteArray×Int)) (T:List Aj),An (Acb data vars res b2 v (R.map Bc) u) (0,k,o)=some ((R.length:Int),f,o++T)/\D0 data vars res f/\T.length=R.length/\Fq (K+202) T ((R.map (X9 data t v p)).map (Kn c)):=by
 have i:(((R.map Bc).length:Nat):Int)=(R.length:Int):=by rw[Dc]
 obtain⟨e,e1,f,T,e2,e3,e4,e5⟩:=J2 (step:=Acb data vars res b2 v (R.map Bc) u) (λ(s:Int×List (ByteArray×Int)×List Aj)=>∃(j:Nat) (m:List (ByteArray×Int)) (T:List Aj),s=((j:Int),m,o++T)/\j<=R.length/\D0 data vars res m/\T.length=j/\Fq (K+202) T (((R.take j).map (X9 data t v p)).map (Kn c))) (λs=>R.length-s.1.toNat)
  (λ(e:Int×List (ByteArray×Int)×List Aj)=>∃(m:List (ByteArray×Int)) (T:List Aj),e=((R.length:Int),m,o++T)/\D0 data vars res m/\T.length=R.length/\Fq (K+202) T ((R.map (X9 data t v p)).map (Kn c))) (by
  rintro _ ⟨j,m,T,rfl,hj,g,E,b⟩
  rcases Cf j R.length with h|h
  .left
   have hx:R[j]? = some R[j]:=B4 h
   generalize R[j]=w at hx
   obtain⟨I,G⟩:=Z w (Bq hx)
   have y:(R.map Bc)[j]? = some (Bc w):=by rw[getElem?_map,hx];rfl
   obtain⟨x,f1,f2⟩:=A9l hc b2 g ht B X hD I
   have f1:Tl v (Bc w).I m b2 data vars res.G res.U res.R=some (Jz data t v w.1,x):=f1
   have V:=A9n data t v w.1
   obtain⟨q,l,M,L,J⟩:=A9m (fs:=Jz data t v w.1) hu ω hK z G
   have l:Mi u (Bc w).C ⟨Jz data t v w.1,[]⟩=some q:=l
   refine⟨((j+1:Nat),x,o++(T++[q])),?_,⟨j+1,x,T++[q],rfl,ω,f2,by simp[E],?_⟩,ζ⟩
   .unfold Acb
    simp only[i,Ao (ω:(j:Int)<(R.length:Int)),Ak,Br rfl y,Ad,f1,l,C5 h ω]
    rw[Dn ζ,Ad,append_assoc]
   .rw[Db hx,map_append,map_append]
    refine b.app (.cons M ?_ J (by show (p.1++Jz data t v w.1).length<=1000;rw[E4];omega) .nil)
    rw[L,A]
    show _=c*((p.2*w.2:Nat):Rat)
    rw[Rat.natCast_mul];grind
  .have:j=R.length:=ω
   subst this
   rw[Dq]at b
   exact .inr ⟨_,by unfold Acb;simp only[i,As (ω:¬(R.length:Int)<(R.length:Int)),Am],m,T,rfl,g,E,b⟩) (0,k,o) ⟨0,k,[],ψ,ω,U,rfl,by simpa using Fq.nil⟩
 exact⟨f,T,by rw[<-e2];exact e1,e3,e4,e5⟩
theorem A9p (hc:Ky data vars res) (b2:List (ByteArray×List Av)) (ht:Em vars res v=some t) (A:Fh v) (X:S<=1048576) (hD:D<=6) (Y:∀w∈R,GI data t S D w.1/\w.2<Fc) (y:R.length<=1000) {i:List No} {c:Rat} (Z:K<30000000000) (k:Fq K ts (i.map (Kn c))) (z:∀p∈i,p.1.length<=900) (hl:i.length*R.length<=90000000) (a1:i.length<=1000000) {q:List (ByteArray×Int)} (M:D0 data vars res q) :
  ∃(g:List (ByteArray×Int)) (T:List Aj),An (Acd data vars res b2 v (R.map Bc) ts) (0,q,[])=some ((ts.length:Int),g,T)/\D0 data vars res g/\Fq (K+202) T ((upF data t v R i).map (Kn c)):=by
 have x:ts.length=i.length:=by rw[k.len,Dc]
 obtain⟨e,e1,g,T,e2,e3,e4⟩:=J2 (step:=Acd data vars res b2 v (R.map Bc) ts) (λ(s:Int×List (ByteArray×Int)×List Aj)=>∃(j:Nat) (m:List (ByteArray×Int)) (T:List Aj),s=((j:Int),m,T)/\j<=ts.length/\D0 data vars res m/\T.length=j*R.length/\Fq (K+202) T ((upF data t v R (i.take j)).map (Kn c))) (λs=>ts.length-s.1.toNat)
  (λ(e:Int×List (ByteArray×Int)×List Aj)=>∃(m:List (ByteArray×Int)) (T:List Aj),e=((ts.length:Int),m,T)/\D0 data vars res m/\Fq (K+202) T ((upF data t v R i).map (Kn c))) (by
  rintro _ ⟨j,m,T,rfl,hj,l,V,f⟩
  rcases Cf j ts.length with h|h
  .left
   have hx:ts[j]? = some ts[j]:=B4 h
   generalize ts[j]=u at hx
   obtain⟨b,b1,B,b3,b4,b5⟩:=k.get hx
   rw[getElem?_map]at b1
   obtain⟨p,hp,rfl⟩:=Option.map_eq_some_iff.1 b1
   have N:j*R.length<=i.length*R.length:=Nat.mul_le_mul_right _ ω
   obtain⟨E,U,L,J,I,G⟩:=A9o hc b2 ht A X hD Y y Z B b3 b4 (z p (Bq hp)) l T ω
   refine⟨((j+1:Nat),E,T++U),?_,⟨j+1,E,T++U,rfl,ω,J,by rw[E4,V,I,Nat.add_mul,Nat.one_mul],?_⟩,ζ⟩
   .unfold Acd
    simp only[Ao (ω:(j:Int)<(ts.length:Int)),Ak,Br rfl hx,Ad,L,C5 h ω]
   .unfold upF at f ⊢
    rw[Avs _ hp,map_append]
    exact f.app G
  .have:j=ts.length:=ω
   subst this
   rw[x,Dq]at f
   exact .inr ⟨_,by unfold Acd;simp only[As (ω:¬(ts.length:Int)<(ts.length:Int)),Am],m,T,rfl,l,f⟩) (0,q,[]) ⟨0,q,[],rfl,ω,M,ψ,by simpa[upF] using Fq.nil⟩
 exact⟨g,T,by rw[<-e2];exact e1,e3,e4⟩
structure Nq (data:List Al) (vars:List Af) (res:Af) (F:List Bf):Prop where
 fac:∀f∈F,Fh f.v/\iR f.I/\1<=D3 data vars res f
 siz:(F.map λf=>Bo f.I).sum<=400000
 sum:Bw data vars res F<=6
theorem Ahi {f:Bf} (h:1<=D3 data vars res f):∃t d,Em vars res f.v=some t/\C3 data f.I t=some d/\1<=d/\d<=6/\D3 data vars res f=(d:Nat):=by
 unfold D3 at h ⊢;cases ht:Em vars res f.v with
 | none=>rw[ht]at h;exact absurd (show (1:Int)<=-1 from h) δ
 | some t=>
  rw[ht]at h;rcases Afh (C3 data f.I t) with⟨h1,_⟩|⟨d,h1,h2,h3⟩
  .have h:1<=Hy (C3 data f.I t):=h;omega
  .have h:1<=Hy (C3 data f.I t):=h;exact⟨t,d,rfl,h1,ω,h2,h3⟩
theorem Po (l m:List Bf):Bw data vars res (l++m)=Bw data vars res l+Bw data vars res m:=by unfold Bw;simp[sum_append]
theorem Mx {data:List Al} {vars:List Af} {res:Af}:∀{l:List Bf},(∀f∈l,1<=D3 data vars res f)->(l.length:Int)<=Bw data vars res l
 | [],_=>by simp[Bw]
 | f::l,h=>by have h1:=h f ψ;have h2:=Mx (l:=l) λg hg=>h g (by simp[hg]);have:Bw data vars res (f::l)=D3 data vars res f+Bw data vars res l:=(by unfold Bw;simp);simp only[Ed];omega
theorem Nq.app (h:Nq data vars res (l++m)):Nq data vars res l/\Nq data vars res m:=by have h1:=h.siz;have h2:=h.sum;rw[map_append,sum_append]at h1;rw[Po]at h2;have f1:=Mx (data:=data) (vars:=vars) (res:=res) (l:=l) λf hf=>(h.fac f (by simp[hf])).2.2;have f2:=Mx (data:=data) (vars:=vars) (res:=res) (l:=m) λf hf=>(h.fac f (by simp[hf])).2.2;exact⟨⟨λf hf=>h.fac f (by simp[hf]),ω,ω⟩,⟨λf hf=>h.fac f (by simp[hf]),ω,ω⟩⟩
theorem A9q {g:List Bf} (u:g≠[]) (hg:∀f∈g,f.v=v) (c:Nq data vars res g) : ∃t k rs,Em vars res v=some t/\Fh v/\g=fl v (k::rs)/\GG data t (k::rs)/\Bw data vars res g=(Ec data t (k::rs):Nat)/\rs.length+1<=Ec data t (k::rs):=by
 cases g with
 | nil=>exact (u rfl).elim
 | cons f0 g=>
  have j:=hg f0 ψ;obtain⟨t,d0,ht,_⟩:=Ahi (c.fac f0 ψ).2.2;rw[j]at ht;have x:∀l:List Bf,(∀f∈l,f.v=v)->l=fl v (l.map (·.I)):=(by intro l;induction l with| nil=>intro _;rfl| cons a l ih=>intro h;have h1:=h a ψ;have h2:=ih λf hf=>h f (by simp[hf]);show a::l=⟨v,a.I⟩::fl v (l.map (·.I));rw[<-h2,<-h1]);have hd:∀f∈f0::g,C3 data f.I t=some (dgo data t f.I)/\D3 data vars res f=(dgo data t f.I:Nat)/\1<=dgo data t f.I:=λf hf=>by obtain⟨t',d,t1,t2,t3,t4,t5⟩:=Ahi (c.fac f hf).2.2;rw[hg f hf,ht]at t1;cases t1;have:dgo data t f.I=d:=(by unfold dgo;rw[t2]);rw[this];exact⟨t2,t5,t3⟩
  have y:∀l:List Bf,(∀f∈l,f∈f0::g)->Bw data vars res l=(Ec data t (l.map (·.I)):Nat)/\l.length<=Ec data t (l.map (·.I)):=(by intro l;induction l with| nil=>intro _;exact⟨by simp[Bw,Ec],ψ⟩| cons a l ih=>intro h;obtain⟨_,h2,h3⟩:=hd a (h a ψ);obtain⟨i1,i2⟩:=ih λf hf=>h f (by simp[hf]);have G:Bw data vars res (a::l)=D3 data vars res a+Bw data vars res l:=(by unfold Bw;simp);have E:Ec data t ((a::l).map (·.I))=dgo data t a.I+Ec data t (l.map (·.I)):=(by unfold Ec;simp);rw[G,E];simp only[Ed];omega);obtain⟨A,z⟩:=y (f0::g) λf hf=>hf;have B:=c.sum;have s:∀l:List Bf,(l.map λf=>Bo f.I).sum=B7 (l.map (·.I)):=(by intro l;induction l with| nil=>rfl| cons a l ih=>simp only[map_cons,sum_cons,B7,ih]);have b:=c.siz;rw[s]at b;have q:(f0::g).map (·.I)=f0.I::g.map (·.I):=rfl;rw[q]at A z b;simp only[Ed]at z;have D:=x (f0::g) hg;rw[q]at D;refine⟨t,f0.I,g.map (·.I),ht,by rw[<-j];exact (c.fac f0 ψ).1,D,⟨λi hi=>?_,λi hi=>?_,b,ω,by rw[Ed,Dc];omega⟩,A,by rw[Dc];omega⟩
  .rw[<-q]at hi;obtain⟨f,hf,rfl⟩:=mem_map.1 hi;exact (c.fac f hf).2.1
  .rw[<-q]at hi;obtain⟨f,hf,rfl⟩:=mem_map.1 hi;exact (hd f hf).1
def Pp (data:List Al) (vars:List Af) (res:Af) (χ:Bf->Nat) (P:List Bf):Prop:=∀g∈P,∀t,Em vars res g.v=some t->Aml data t (λi=>χ ⟨g.v,i⟩)/\∀i,C3 data i t=some 0->iR i->Bo i<=400000->χ ⟨g.v,i⟩=1
structure Q6 (data:List Al) (vars:List Af) (res:Af) (P:List Bf) (FE:List No):Prop where
 pos:∀p∈FE,1<=p.2
 fac:∀p∈FE,∀f∈p.1,Fh f.v/\iR f.I/\Bo f.I<=(P.map λf=>Bo f.I).sum/\1<=D3 data vars res f/\∃g∈P,g.v=f.v
 asc:∀p∈FE,p.1.Pairwise λa b=>a.v<b.v
 sum:∀p∈FE,Bw data vars res p.1<=Bw data vars res P
 val:∀χ,Pp data vars res χ P->pv (λF=>Gm (F.map χ)) FE=Gm (P.map χ)
 len:FE.length<=10 ^ (Bw data vars res P).toNat
theorem Q6.nil (data:List Al) (vars:List Af) (res:Af):Q6 data vars res [] [([],1)]:=by
 have h:∀p∈[(([]:List Bf),1)],p=([],1):=λp hp=>by simpa using hp
 refine⟨λp hp=>?_,λp hp f hf=>?_,λp hp=>?_,λp hp=>?_,λχ _=>rfl,Nat.le_refl _⟩
 .rw[h p hp];exact Nat.le_refl _
 .rw[h p hp]at hf;cases hf
 .rw[h p hp];exact Pairwise.nil
 .rw[h p hp];exact Int.le_refl _
theorem Ahj:∀(l m:List Nat),Gm (l++m)=Gm l*Gm m
 | [],m=>by simp[Gm]
 | a::l,m=>by rw[Eu,Gm,Gm,Ahj l m,Nat.mul_assoc]
theorem Awf {α β:Type} (f:β->Nat) (g:α->β) (c:Nat):∀L:List (α×Nat),pv f (L.map λw=>(g w.1,c*w.2))=c*pv (λx=>f (g x)) L
 | []=>rfl
 | p::L=>by rw[map_cons,pv,Awf f g c L,pv,Nat.mul_add,Nat.mul_assoc]
theorem Q6.step {P:List Bf} {y:List No} (h:Q6 data vars res P y) (ht:Em vars res v=some t) (M:Fh v) {c:List Ai} (L:GG data t (j::c)) (J:Bw data vars res (fl v (j::c))=(Ec data t (j::c):Nat)) (V:c.length+1<=Ec data t (j::c)) (hP:∀f∈P,f.v<v) (a6:0<=Bw data vars res P) (x:PRg data t j c R):Q6 data vars res (P++fl v (j::c)) (upF data t v R y):=by
 have hs:=L.siz;have Y:=L.sum;have s:∀q∈upF data t v R y,∃p∈y,∃w∈R,q=X9 data t v p w:=λq hq=>by unfold upF at hq;obtain⟨p,hp,hq⟩:=mem_flatMap.1 hq;obtain⟨w,hw,rfl⟩:=mem_map.1 hq;exact⟨p,hp,w,hw,rfl⟩
 have B:∀w∈R,∀f∈Jz data t v w.1,f=⟨v,w.1⟩/\1<=dgo data t w.1:=λw hw f hf=>by
  unfold Jz at hf;split at hf
  .cases hf
  .rename_i h0;simp only[E3]at hf;exact⟨hf,ω⟩
 have z:∀w∈R,C3 data w.1 t=some (dgo data t w.1)/\dgo data t w.1<=Ec data t (j::c)/\D3 data vars res ⟨v,w.1⟩=(dgo data t w.1:Nat):=λw hw=>by obtain⟨_,_,d,d1,d2⟩:=x.cw.mo w hw;have e:dgo data t w.1=d:=(by unfold dgo;rw[d1]);rw[e];refine⟨d1,d2,?_⟩;unfold D3;rw[ht];show Hy (C3 data w.1 t)=_;rw[d1,Qs ω]
 have u:((P++fl v (j::c)).map λf=>Bo f.I).sum=(P.map λf=>Bo f.I).sum+B7 (j::c):=by
  rw[map_append,sum_append];congr 1;have key:∀l:List Ai,((fl v l).map λf=>Bo f.I).sum=B7 l:=λl=>by induction l with| nil=>rfl| cons a l ih=>show Bo a+((fl v l).map λf=>Bo f.I).sum=B7 (a::l);rw[ih];simp only[B7]
  exact key _
 have G:Bw data vars res (P++fl v (j::c))=Bw data vars res P+(Ec data t (j::c):Nat):=by rw[Po,J]
 have I:(Bw data vars res (P++fl v (j::c))).toNat=(Bw data vars res P).toNat+Ec data t (j::c):=ω;have A:(upF data t v R y).length<=y.length*R.length:=by unfold upF;exact Ag7 _ _ _ λp _=>by rw[Dc];exact Nat.le_refl _
 have Z:R.length<=3 ^ (Ec data t (j::c)*c.length):=Nat.le_trans (Mw x.cw.pos) x.cnt;refine⟨λq hq=>?_,λq hq f hf=>?_,λq hq=>?_,λq hq=>?_,λχ S=>?_,?_⟩
 .obtain⟨p,hp,w,hw,rfl⟩:=s q hq;exact Nat.mul_pos (h.pos p hp) (x.cw.pos w hw)
 .obtain⟨p,hp,w,hw,rfl⟩:=s q hq;rcases Ef.1 hf with hf|hf
  .obtain⟨a1,a2,a3,a4,g,g1,g2⟩:=h.fac p hp f hf;exact⟨a1,a2,by rw[u];omega,a4,g,by simp[g1],g2⟩
  .obtain⟨rfl,h1⟩:=B w hw f hf;obtain⟨U,E,_⟩:=x.cw.mo w hw;obtain⟨_,_,D⟩:=z w hw;exact⟨M,E,by rw[u];show Bo w.1<=_;omega,by rw[D];omega,⟨v,j⟩,by simp[fl],rfl⟩
 .obtain⟨p,hp,w,hw,rfl⟩:=s q hq;refine pairwise_append.2 ⟨h.asc p hp,?_,λa ha b hb=>?_⟩
  .unfold Jz;split <;> simp
  .obtain⟨rfl,_⟩:=B w hw b hb;obtain⟨_,_,_,_,g,g1,g2⟩:=h.fac p hp a ha;rw[<-g2];exact hP g g1
 .obtain⟨p,hp,w,hw,rfl⟩:=s q hq;have h1:=h.sum p hp;obtain⟨_,y2,D⟩:=z w hw;show Bw data vars res (p.1++Jz data t v w.1)<=_;rw[Po,G];have:Bw data vars res (Jz data t v w.1)<=(Ec data t (j::c):Nat):=by
   unfold Jz;split
   .show (0:Int)<=_;omega
   .show D3 data vars res ⟨v,w.1⟩+0<=_;rw[D];omega
  omega
 .obtain⟨m1,m2⟩:=S ⟨v,j⟩ (by simp[fl]) t ht;have e1:pv (λF=>Gm (F.map χ)) (upF data t v R y)=pv (λF=>pv (λi=>χ ⟨v,i⟩) R*Gm (F.map χ)) y:=by
   unfold upF;refine Ab0 _ _ _ _ λp hp=>?_;have e2:R.map (X9 data t v p)=R.map λw=>(p.1++Jz data t v w.1,p.2*w.2):=rfl;rw[e2,Awf (λF=>Gm (F.map χ)) (λi=>p.1++Jz data t v i) p.2 R];congr 1;rw[<-Nat.mul_comm (Gm _),<-Oq];refine Q2 λw hw=>?_;show Gm ((p.1++Jz data t v w.1).map χ)=Gm (p.1.map χ)*χ ⟨v,w.1⟩;rw[map_append,Ahj];congr 1;obtain⟨U,E,_⟩:=x.cw.mo w hw;obtain⟨N,_⟩:=z w hw;unfold Jz;split
   .rename_i h0;rw[h0]at N;rw[m2 w.1 N E ω];rfl
   .show χ ⟨v,w.1⟩*1=_;omega
  rw[e1,Oq,h.val χ λg hg=>S g (by simp[hg]),x.val,Av8 m1 c j L,map_append,Ahj,Nat.mul_comm];congr 1;show _=χ ⟨v,j⟩*Gm ((fl v c).map χ);unfold fl;rw[map_map];rfl
 .rw[I,Nat.pow_add];refine Nat.le_trans A (Nat.mul_le_mul h.len ?_);have hl:=x.len;rcases Cf (Ec data t (j::c)) 3 with k|k
  .have X:c.length<=1:=ω;have h1:(3:Nat) ^ (Ec data t (j::c)*c.length)<=3 ^ (Ec data t (j::c)):=Nat.pow_le_pow_right δ (by have:=Nat.mul_le_mul_left (Ec data t (j::c)) X;omega);have h2:(3:Nat) ^ (Ec data t (j::c))<=10 ^ (Ec data t (j::c)):=Nat.pow_le_pow_left δ _;omega
  .have h1:(10:Nat) ^ 3<=10 ^ (Ec data t (j::c)):=Nat.pow_le_pow_right δ k;omega
noncomputable def Ahk (r:List Bf) (v:Int):Int->Option (Int⊕Int):=λb=> bif b<(r.length:Int) then ((Ag r b).bind λc=> bif (c.v==v) then (some (.inl (Aa (b+1)))) else (some (.inr b))) else (some (.inr b))
theorem A9r {r:List Bf} {a:Bf} (h0:r[0]? = some a) (q:r.length<=1000) :
  ∃n:Nat,An (Ahk r a.v) 1=some (n:Int)/\1<=n/\n<=r.length/\(∀b∈r.take n,b.v=a.v)/\∀b,r[n]? = some b->b.v≠a.v:=by
 have hpos:=Eh h0
 obtain⟨e,l,n,k,i⟩:=J2 (step:=Ahk r a.v) (λs=>∃n:Nat,s=(n:Int)/\1<=n/\n<=r.length/\∀b∈r.take n,b.v=a.v) (λs=>r.length-s.toNat)
  (λe=>∃n:Nat,e=(n:Int)/\1<=n/\n<=r.length/\(∀b∈r.take n,b.v=a.v)/\∀b,r[n]? = some b->b.v≠a.v) (by
  rintro _ ⟨j,rfl,g,f,c⟩
  unfold Ahk
  rcases Cf j r.length with h|h
  .have hx:r[j]? = some r[j]:=B4 h
   generalize r[j]=b at hx
   simp only[Ao (ω:(j:Int)<(r.length:Int)),Ak,Br rfl hx,Ad,C5 h ω]
   by_cases hc:b.v=a.v
   .left
    rw[Fm hc]
    refine⟨_,rfl,⟨j+1,rfl,ω,ω,λd hd=>?_⟩,ω⟩
    rw[Db hx]at hd
    rcases Ef.1 hd with hd|hd
    .exact c d hd
    .simp only[E3]at hd
     rw[hd];exact hc
   .right
    rw[Cy hc]
    exact⟨_,rfl,j,rfl,g,f,c,λd hd=>by rw[hx]at hd;cases hd;exact hc⟩
  .right
   refine⟨_,by simp only[As (ω:¬(j:Int)<(r.length:Int)),Am],j,rfl,g,f,c,λd hd=>?_⟩
   have:=Eh hd
   omega) 1 ⟨1,rfl,ω,ω,λb hb=>by
    cases r with
    | nil=>simp at hpos
    | cons x r=>simp at hb h0;rw[hb,h0]⟩
 exact⟨n,by rw[<-k];exact l,i⟩
noncomputable def Ya (data:List Al) (vars:List Af) (res:Af):(List Aj×List Bf×List (ByteArray×Int)×List (ByteArray×List Av))->Option ((List Aj×List Bf×List (ByteArray×Int)×List (ByteArray×List Av))⊕((List Aj×Int×List (ByteArray×Int)×List (ByteArray×List Av))⊕(List Aj×List (ByteArray×Int)×List (ByteArray×List Av)))):=λ(v105,c,f,h)=> bif (c.length:Int)>(0:Int) then ((Ag c 0).bind λv109=> (An (Ahk c v109.v) 1).bind λg=> (Er c 0 g).bind λj=> (Rn j f h data vars res.G res.U res.R).bind λb=> bif (b.2.1 != (0:Int)) then (some (.inr (.inl ([],b.2.1,f,b.2.2)))) else ((An (Acd data vars res b.2.2 v109.v b.1 v105) (0,f,[])).bind λ(v201,l,k)=> (Er c g c.length).bind λi=> some (.inl (k,i,l,b.2.2)))) else (some (.inr (.inr (v105,f,h))))
theorem Awg (data:List Al) (t:Af) (v:Int) (R:List (Ai×Nat)):∀b:List No,(upF data t v R b).length=b.length*R.length
 | []=>by simp[upF]
 | p::b=>by have ih:=Awg data t v R b;unfold upF at ih ⊢;rw[flatMap_cons,E4,ih,Dc,Ed,Nat.add_mul];omega
def Q7 (l:List Bf):Prop:=∃v:Int,3<=(l.filter λf=>f.v==v).length
theorem Q7.app (h:Q7 m):Q7 (l++m):=by obtain⟨v,h⟩:=h;exact⟨v,by rw[filter_append,E4];omega⟩
theorem Q7.perm (hp:l.Perm m) (h:Q7 l):Q7 m:=by obtain⟨v,h⟩:=h;exact⟨v,by rw[<-(hp.filter _).length_eq];exact h⟩
theorem Ahl (h:d<=6):10 ^ d<=1000000:=Nat.le_trans (Nat.pow_le_pow_right δ h) δ
theorem A9s (hz:DSz data) (hv:Hx data) (hx:Ky data vars res) (af:∀v t,Em vars res v=some t->G4 data t=true) {c:Rat}:∀(n:Nat) (rest P:List Bf) (ts:List Aj) (B:List No) (K:Nat) (q:List (ByteArray×Int)) (G:List (ByteArray×List Av)),rest.length<=n->rest.Pairwise (λa b=>a.v<=b.v)->(∀f∈P,∀g∈rest,f.v<g.v)->Nq data vars res (P++rest)->Fq K ts (B.map (Kn c))->Q6 data vars res P B->(∀p∈B,p.1.length<=6)->K+202*rest.length<30000000000->D0 data vars res q->PMg data vars res G ->
  ∃z,An (Ya data vars res) (ts,rest,q,G)=some z/\((∃j s,Q7 rest/\z = .inl ([],9,j,s)/\D0 data vars res j/\PMg data vars res s)\/(∃E M j s,z = .inr (E,j,s)/\D0 data vars res j/\PMg data vars res s/\Fq (K+202*rest.length) E (M.map (Kn c))/\Q6 data vars res (P++rest) M)):=by
 intro n
 induction n with
 | zero=>
  intro rest P ts B K q G hn _ _ _ hR V _ _ k J
  have:rest = []:=Fu.1 ω
  subst this
  exact⟨.inr (ts,q,G),Fg (by unfold Ya;simp),.inr ⟨ts,B,q,G,rfl,k,J,by simpa using hR,by rw[append_nil];exact V⟩⟩
 | succ n ih=>
  intro rest P ts B K q G hn hS U N hR V am hK k J
  cases i:rest with
  | nil=>
   exact⟨.inr (ts,q,G),Fg (by unfold Ya;simp),.inr ⟨ts,B,q,G,rfl,k,J,by simpa using hR,by rw[append_nil];exact V⟩⟩
  | cons a r'=>
   rw[<-i]
   have h0:rest[0]? = some a:=by rw[i];rfl
   have ap:0<rest.length:=Eh h0
   have ak:=N.sum
   have a8:=Mx (data:=data) (vars:=vars) (res:=res) (l:=P++rest) λf hf=>(N.fac f hf).2.2
   rw[E4]at a8
   obtain⟨m,m1,m2,m3,m4,m5⟩:=A9r h0 ω
   have I:rest=rest.take m++rest.drop m:=(take_append_drop m rest).symm
   have Y:rest.take m≠[]:=by
    intro h
    have:=congrArg length h
    rw[length_take]at this
    simp only[length_nil]at this
    omega
   have a7:=N.app.2
   have ao:Nq data vars res (rest.take m):=by
    rw[I]at a7
    exact a7.app.1
   obtain⟨t,i0,rs,t1,t2,t3,t4,t5,t6⟩:=A9q Y m4 ao
   have aq:=(hx.sz a.v t t1)
   have X:Ag rest 0=some a:=Br (n:=0) rfl h0
   have ac:Er rest (m:Int) (rest.length:Int)=some (rest.drop m):=by
    unfold Er
    simp[drop_take]
    omega
   have a6:0<=Bw data vars res P:=by
    have:=Mx (data:=data) (vars:=vars) (res:=res) (l:=P) λf hf=>(N.fac f (by simp[hf])).2.2
    omega
   have aj:(Bw data vars res P).toNat<=6:=by
    have:=Mx (data:=data) (vars:=vars) (res:=res) (l:=rest) λf hf=>(N.fac f (by simp[hf])).2.2
    rw[Po]at ak
    omega
   obtain⟨l,e,A,q1,q2,q3⟩:=A9g hz hv (af a.v t t1) t1 t2 t4 q J
   rw[<-t3]at q1
   have ar:(rest.drop m).length+m=rest.length:=by rw[length_drop];omega
   rcases q3 with⟨rfl,rfl,hb⟩|⟨rfl,R,rfl,y⟩
   .refine⟨.inl ([],9,q,A),Fg ?_,.inl ⟨q,A,⟨a.v,?_⟩,rfl,k,q2⟩⟩
    rotate_left
    .rw[<-take_append_drop m rest,filter_append,E4,filter_eq_self.2 λf hf=>by simp[m4 f hf],t3]
     unfold fl
     rw[Dc,Ed];omega
    unfold Ya
    simp only[Ao (ω:(rest.length:Int)>0),Ak,X,Ad,m1,Ut rfl m3,q1]
    rfl
   .have aa:=V.len
    have ax:=Ahl aj
    have ai:=y.len
    have h9:B.length*R.length<=1000000:=by
     have ab:=V.step t1 t2 t4 (by rw[<-t3];exact t5) t6 (λf hf=>by
      have:=U f hf a (by rw[i];simp)
      exact this) a6 y
     have h1:=ab.len
     have h2:=Awg data t a.v R B
     rw[h2]at h1
     refine Nat.le_trans h1 (Ahl ?_)
     rw[<-t3]
     have e1:Bw data vars res (P++rest.take m)+Bw data vars res (rest.drop m)=Bw data vars res (P++rest):=by rw[Po,Po,Int.add_assoc,<-Po (rest.take m),take_append_drop]
     have e2:=Mx (data:=data) (vars:=vars) (res:=res) (l:=rest.drop m) λf hf=>(N.fac f (by have:=mem_of_mem_drop hf;simp[this])).2.2
     omega
    have ae:=t4.len
    simp only[Ed]at ae
    have ah:∀w∈R,GI data t (B7 (i0::rs)) (Ec data t (i0::rs)) w.1/\w.2<Fc:=λw hw=>by
     refine⟨y.cw.mo w hw,?_⟩
     have h1:=Pn hw
     have h2:=y.cnt
     have h3:(3:Nat) ^ (Ec data t (i0::rs)*rs.length)<=3 ^ 36:=Nat.pow_le_pow_right δ (Nat.mul_le_mul t4.sum (show rs.length<=6 by omega))
     have h4:(3:Nat) ^ 36<Fc:=by unfold Fc;decide
     omega
    obtain⟨j,T,u1,u2,u3⟩:=A9p hx A t1 t2 (by have:=t4.siz;omega) t4.sum ah ai ω hR (λp hp=>by have:=am p hp;omega) ω ω k
    have S:Ya data vars res (ts,rest,q,G)=some (.inl (T,rest.drop m,j,A)):=by
     unfold Ya
     simp only[Ao (ω:(rest.length:Int)>0),Ak,X,Ad,m1,Ut rfl m3,q1,show ((0:Int) != 0)=false from rfl,Am,u1,ac]
    have L:=V.step t1 t2 t4 (by rw[<-t3];exact t5) t6 (λf hf=>by
     have:=U f hf a (by rw[i];simp)
     exact this) a6 y
    rw[<-t3]at L
    have ad:∀b∈rest.drop m,a.v<b.v:=by
     intro b hb
     cases hd:rest.drop m with
     | nil=>rw[hd]at hb;cases hb
     | cons d D=>
      have u:rest[m]? = some d:=by
       have:=congrArg (λl=>l[0]?) hd
       simpa using this
      have au:=m5 d u
      have av:a.v<=d.v:=by
       have a1:=hS
       rw[i]at a1
       have ag:d∈r':=by
        have k:m=(m-1)+1:=ω
        rw[i,k,getElem?_cons_succ]at u
        exact Bq u
       exact (pairwise_cons.1 a1).1 d ag
      have Z:(rest.drop m).Pairwise (λa b=>a.v<=b.v):=Pairwise.sublist (drop_sublist m rest) hS
      rw[hd]at hb Z
      rcases E8.1 hb with rfl|hb
      .omega
      .have:=(pairwise_cons.1 Z).1 b hb
       omega
    have x:P++rest.take m++rest.drop m=P++rest:=by rw[append_assoc,take_append_drop]
    obtain⟨z,z1,z2⟩:=ih (rest.drop m) (P++rest.take m) T (upF data t a.v R B) (K+202) j A ω (Pairwise.sublist (drop_sublist m rest) hS) (λf hf g hg=>by
     rcases Ef.1 hf with hf|hf
     .exact U f hf g (mem_of_mem_drop hg)
     .rw[m4 f hf];exact ad g hg) (by rw[x];exact N) u3 L (λp hp=>by
     have h1:=L.sum p hp
     have h2:=Mx (data:=data) (vars:=vars) (res:=res) (l:=p.1) λf hf=>(L.fac p hp f hf).2.2.2.1
     have e1:Bw data vars res (P++rest.take m)+Bw data vars res (rest.drop m)=Bw data vars res (P++rest):=by rw[<-Po,x]
     have e2:=Mx (data:=data) (vars:=vars) (res:=res) (l:=rest.drop m) λf hf=>(N.fac f (by have:=mem_of_mem_drop hf;simp[this])).2.2
     omega) ω u2 q2
    rw[x]at z2
    refine⟨z,by rw[Ks S,z1],?_⟩
    rcases z2 with⟨y1,y2,y3,y4⟩|⟨E,M,p1,p2,w1,w2,w3,w4,w5⟩
    .exact .inl ⟨y1,y2,by rw[<-take_append_drop m rest];exact y3.app,y4⟩
    .exact .inr ⟨E,M,p1,p2,w1,w2,w3,w4.mono ω,w5⟩
def IsE (A:List Bi) (B:List Ent):Prop:=∃gs b,b.Perm A/\Abw b/\Gs gs b/\B=Nm [([],1)] gs
def Ace (vars:List Af) (res:Af) (L:List Bi):Prop:=L.Pairwise (λa b=>G3 a.L b.L<0)/\∀a∈L,1<=a.P/\Ic a.L=true/\a.L.T.length≠0/\Ju vars res a.L=true
theorem A9t (l m:List Bi):Dk (l++m)=Dk l+Dk m:=by unfold Dk;simp[sum_append]
theorem A9u:∀{u:List Grp} {rest:List Bi},Gs u rest->(∀a∈rest,Ic a.L=true/\Ju vars res a.L=true) -> ∀(B:List Ent) (S:Int),(∀b∈B,Ace vars res b.1/\Dk b.1<=S/\∀a∈b.1,∀r∈rest,G3 a.L r.L<0)->∀b∈Nm B u,Ace vars res b.1/\Dk b.1<=S+(Dp rest:Nat):=by
 intro u rest h;induction h with
 | nil=>intro _ B S z b hb;have:=z b hb;exact⟨this.1,by have:=this.2.1;omega⟩
 | @cons l N f g rest u x hg E I M ih=>
  intro A B S z;obtain⟨a0,j⟩:∃a,a∈g:=(by cases g with| nil=>exact (x rfl).elim| cons a _=>exact⟨a,ψ⟩);have s:=hg a0 j;have q:=A a0 (by simp[j]);rw[s]at q;have J:∀k,k<N+1->k≠0->l.T.length≠0/\k<=Dp g:=by
   intro k hk G;rcases I with⟨h1,h2⟩|⟨_,h2,_⟩
   .exact⟨h1,by rw[<-h2.1];omega⟩
   .omega
  intro b hb;have:=ih (λa ha=>A a (by simp[ha])) (Iz B l f (N+1)) (S+(Dp g:Nat)) (by
   intro b hb;unfold Iz at hb;rw[mem_flatMap]at hb;obtain⟨k,i,hk⟩:=hb;have i:=mem_range.1 i;split at hk
   .cases hk
   .rw[mem_map]at hk;obtain⟨d,hd,rfl⟩:=hk;obtain⟨d1,d2,d3⟩:=z d hd;have y:∀a∈d.1,G3 a.L l<0:=λa ha=>by have:=d3 a ha a0 (by simp[j]);rwa [s]at this
    unfold atO;by_cases h0:k=0
    .rw[Aw h0,append_nil];exact⟨d1,by show Dk d.1<=S+((Dp g:Nat):Int);omega,λa ha r c=>d3 a ha r (by simp[c])⟩
    .rw[Au h0];obtain⟨D,L⟩:=J k i h0;refine⟨⟨pairwise_append.2 ⟨d1.1,pairwise_singleton _ _,λa ha b hb=>?_⟩,λa ha=>?_⟩,?_,λa ha r c=>?_⟩
     .simp only[E3]at hb;subst hb;exact y a ha
     .rcases Ef.1 ha with ha|ha
      .exact d1.2 a ha
      .simp only[E3]at ha;subst ha;exact⟨by show (1:Int)<=(k:Int);omega,q.1,D,q.2⟩
     .show Dk (d.1++[⟨l,k⟩])<=_;rw[A9t];have:Dk [(⟨l,(k:Int)⟩:Bi)]=(k:Int):=(by simp[Dk]);omega
     .rcases Ef.1 ha with ha|ha
      .exact d3 a ha r (by simp[c])
      .simp only[E3]at ha;subst ha;exact E r c) b hb
  refine⟨this.1,?_⟩;rw[Ss];have:=this.2;omega
theorem A9v {L:List Bi} (h:Ace x.V x.E L) (s:Dk L<=6):Gf x ⟨[],L⟩:=by
 have i:(L.length:Int)<=Dk L:=by have key:∀l:List Bi,(∀a∈l,1<=a.P)->(l.length:Int)<=Dk l:=(by intro l;induction l with| nil=>intro _;simp[Dk]| cons f fs ih=>intro c;have h1:=c f ψ;have h2:=ih (λg hg=>c g (by simp[hg]));unfold Dk at *;simp only[map_cons,sum_cons,Ed];omega);exact key _ λa ha=>(h.2 a ha).1
 constructor
 .unfold Ix;have k:L.zipIdx.all (λq=>Ki x.V x.E L q.1 q.2)=true:=(by rw[I5];rintro⟨a,j⟩ hq;have hj:L[j]? = some a:=mk_mem_zipIdx_iff_getElem?.1 hq;obtain⟨h1,h2,h3,u⟩:=h.2 a (Bq hj);show Ki x.V x.E L a j=true;unfold Ki;have hp:Pi L a j=true:=(by unfold Pi;cases j with| zero=>rfl| succ j=>have c:=Eh hj;have hy:L[j]? = some L[j]:=B4 ω;have b:=pairwise_iff_getElem.1 h.1 j (j+1) ω c ω;have e:L[j+1]=a:=(by have:=B4 c;rw[hj]at this;exact (Ew this).symm);rw[e]at b;simp only[Nat.add_sub_cancel,hy,Bool.or_eq_true];exact .inr (decide_eq_true b));rw[hp,Ao h1,h2,u];simp only[Bool.true_and,Bool.and_true,Bool.not_eq_true',beq_eq_false_iff_ne,ne_eq];exact h3);show (([]:List Bf).zipIdx.all _&&L.zipIdx.all (λq=>Ki x.V x.E L q.1 q.2)&&decide (Bw x.D x.V x.E []+Dk L<=6))=true;rw[k];have:Bw x.D x.V x.E []=0:=rfl;rw[this];simp;exact s
 .exact⟨ψ,by show L.length<=1048576;omega,nofun,nofun,λa ha=>by have:=(Ag1 (h.2 a ha).2.1).1;omega⟩
def ec:List Ent->Bd->Nat
 | [],_=>0
 | b::bs,m=>(if Ei ⟨[],b.1⟩ m=0 then b.2 else 0)+ec bs m
theorem Rep.mem {c:Rat} {bs:List Ent} (h:Rep c K ts bs) {t:Aj} (ht:t∈ts):∃b∈bs,t.M=⟨[],b.1⟩/\rq t.C=c*(b.2:Rat)/\RB K t.C:=by obtain⟨j,hj⟩:=Hu ht;obtain⟨b,b1,b2⟩:=h.get hj;exact⟨b,Bq b1,b2⟩
def Amq (L:Nat) (p:List Aj):Prop:=∀t∈p,∃z:Int,rq t.C=(z:Rat)/\Bp z.natAbs<=L
theorem A9w {z:Int} (ha:K1 a) (h:rq a=(z:Rat)):a=Ci (decide (z<0)) z.natAbs 1:=by
 refine Af8 ha (U8 _ _ _ δ) ?_;rw[h,Sq _ _ _ δ,Agz];congr 1;unfold sg;by_cases h:z<0
 .rw[Ao h,Aw rfl];omega
 .rw[As h,Au δ];omega
theorem A9x {z:Int} (ha:K1 a) (h:rq a=(z:Rat)) (b:Bp z.natAbs<=L):RB (L+1) a:=by rw[A9w ha h];exact Qx _ _ _ _ ω (by rw[Sl];omega) ω
theorem Amq.of {p:List Aj} (hc:CP p) (h:∀m,∃z:Int,cf p m=(z:Rat)/\Bp z.natAbs<=L):Amq L p:=λt ht=>by obtain⟨z,b,z2⟩:=h t.M;exact⟨z,by rw[<-Age hc ht];exact b,z2⟩
structure IP (x:Bs) (n L:Nat) (f:Bd->Rat) (R:List Aj):Prop where
 cp:CP R
 val:∀m,cf R m=f m
 mo:∀t∈R,Gf x t.M
 len:R.length<=n
 int:Amq L R
theorem IP.can {f:Bd->Rat} {R:List Aj} (h:IP x n L f R) (c:n<=1000) (g:L<=1000000):Ir x R := Ir.of h.cp h.mo (λt ht=>by obtain⟨z,b,z2⟩:=h.int t ht;exact (A9x (h.cp.coe t ht).1 b z2).mono ω) (by have:=h.len;omega)
theorem IP.ext {y:Bs} {b c:Nat} {f g:Bd->Rat} {R S:List Aj} (h:IP x n L f R) (h':IP y b c g S) (e:∀m,f m=g m):R=S:=CP.ext h.cp h'.cp λm=>by rw[h.val,h'.val,e]
end Go.Ab
