/- Plain laws. -/
import Derived.Test.YtdifpebphbblaaaGreatDoorMnPl3
import Derived.Test.YtdifpebphbblaaaGreatDoorMnPl2
open List
namespace Go.Ab
open Go
variable {m q:Aq} {x:B0} {l:Cm} {v:Int} {b:List (ByteArray×Int)} {b2:List (ByteArray×List Dq)} {P f i u w:List Aq} {W c:List Cm} {U vars:List Int} {d j n:Nat} {R α:Type} {J:((List Aq×Int)⊕Unit)->Option R} {Q:R->Prop} {a:α} {g:α->Option (List Aq)} {cmp:α->α->Option Int}
theorem Q5:q∈stg x d P m↔∃p∈P,Ch x m+Ch x p<=d/\q=jn m p:=by
 unfold stg;rw[mem_map];constructor
 .rintro⟨p,hp,rfl⟩;rw[mem_filter,E8]at hp;exact⟨p,hp.1,hp.2,rfl⟩
 .rintro⟨p,hp,e,rfl⟩;exact⟨p,mem_filter.2 ⟨hp,decide_eq_true e⟩,rfl⟩
theorem N0 {b:List Aq}:q∈nxP x d P b↔q∈b\/∃m∈b,∃p∈P,Ch x m+Ch x p<=d/\q=jn m p:=by unfold nxP;rw[Fi,mem_flatMap];exact or_congr_right ⟨λ⟨m,e,h⟩=>⟨m,e,Q5.1 h⟩,λ⟨m,e,h⟩=>⟨m,e,Q5.2 h⟩⟩
theorem Aph {c:List Aq} (t:c.Nodup) (A:P.Nodup) (k:∀m∈c,∀s∈c,∀p∈P,∀j∈P,jn m p=jn s j->m=s/\p=j) (i:∀m∈c,∀p∈P,jn m p ∉ c):(nxP x d P c).Nodup:=by
 unfold nxP;refine nodup_append.2 ⟨t,Pa t (λm h=>?_) λm h s y u q o r=>?_,λa z b B e=>?_⟩
 .unfold stg;refine Lx (λp hp j f e=>?_) (A.sublist filter_sublist);exact (k m h m h p (mem_filter.1 hp).1 j (mem_filter.1 f).1 e).2
 .obtain⟨p,hp,_,rfl⟩:=Q5.1 o;obtain⟨j,f,_,e⟩:=Q5.1 r;exact u (k m h s y p hp j f e).1
 .subst e;obtain⟨m,h,o⟩:=mem_flatMap.1 B;obtain⟨p,hp,_,rfl⟩:=Q5.1 o;exact i m h p hp z
structure It (x:B0) (d:Nat) (U:List Int) (W:List Cm) (all:List Aq):Prop where
 ok:∀m∈all,MOk x d m
 nd:all.Nodup
 len:all.length<=1000
 one:Fz∈all
 uv:∀m∈all,∀f∈m.F,f.v∈U
 ua:∀m∈all,∀a∈m.A,a.L∈W
theorem It.init (x:B0) (d:Nat):It x d [] [] [Fz]:=by
 refine⟨λm hm=>?_,ψ,ψ,ψ,λm hm f hf=>?_,λm hm a ha=>?_⟩
 .rw[Fx.1 hm];exact (MOk.one x d).1
 .rw[Fx.1 hm]at hf;simp[Fz]at hf
 .rw[Fx.1 hm]at ha;simp[Fz]at ha
theorem It.ne {b:List Aq} (h:It x d U W b):0<b.length:=List.length_pos_of_mem h.one
theorem It.stV (hd:d<=6) {k:List Aq} (h:It x d U W k) (G:v ∉ U) {q:List Ae} (L:q.Nodup) (J:∀i∈q,MOk x d ⟨[⟨v,i⟩],[]⟩) (s:(nxP x d (q.map λi=>⟨[⟨v,i⟩],[]⟩) k).length<=1000):It x d (U++[v]) W (nxP x d (q.map λi=>⟨[⟨v,i⟩],[]⟩) k):=by
 have c:∀p∈q.map λi=>(⟨[⟨v,i⟩],[]⟩:Aq),∃i∈q,p=⟨[⟨v,i⟩],[]⟩:=λp hp=>by obtain⟨i,hi,rfl⟩:=mem_map.1 hp;exact⟨i,hi,rfl⟩
 refine⟨λm hm=>?_,Aph h.nd (Lx (λa _ b _ e=>by cases e;rfl) L) ?_ ?_,s,N0.2 (.inl h.one),λm hm f hf=>?_,λm hm a ha=>?_⟩
 .rcases N0.1 hm with hm|⟨o,j,p,hp,z,rfl⟩
  .exact h.ok m hm
  .obtain⟨i,hi,rfl⟩:=c p hp;exact (h.ok o j).jn hd (J i hi) z
 .intro m hm E I p hp D y e;obtain⟨i,_,rfl⟩:=c p hp;obtain⟨O,_,rfl⟩:=c D y;unfold jn at e;simp only[Aq.mk.injEq,append_nil]at e;obtain⟨N,B⟩:=e;obtain⟨A,M⟩:=append_inj' N rfl;refine⟨?_,by rw[M]⟩;cases m;cases E;simp only at B A;rw[B,A]
 .intro m hm p hp u;obtain⟨i,_,rfl⟩:=c p hp;exact G (h.uv _ u ⟨v,i⟩ (by simp[jn]))
 .rcases N0.1 hm with hm|⟨o,j,p,hp,_,rfl⟩
  .exact mem_append_left _ (h.uv m hm f hf)
  .obtain⟨i,_,rfl⟩:=c p hp;rcases Fi.1 hf with hf|hf
   .exact mem_append_left _ (h.uv o j f hf)
   .rw[Fx.1 hf];simp
 .rcases N0.1 hm with hm|⟨o,j,p,hp,_,rfl⟩
  .exact h.ua m hm a ha
  .obtain⟨i,_,rfl⟩:=c p hp;rcases Fi.1 ha with ha|ha
   .exact h.ua o j a ha
   .simp at ha
def atl (d:Nat) (l:Cm):List Aq:=(range d).map λk=>⟨[],[⟨l,((k+1:Nat):Int)⟩]⟩
theorem It.stF (hd:d<=6) {q:List Aq} (h:It x d U W q) (J:l ∉ W) (z:Ih l=true) (hi:Hv x.V x.E l=true) (s:(nxP x d (atl d l) q).length<=1000):It x d U (W++[l]) (nxP x d (atl d l) q):=by
 have c:∀p∈atl d l,∃k,k<d/\p=⟨[],[⟨l,((k+1:Nat):Int)⟩]⟩:=λp hp=>by obtain⟨i,hi,rfl⟩:=mem_map.1 hp;exact⟨i,mem_range.1 hi,rfl⟩
 refine⟨λm hm=>?_,Aph h.nd (Lx (λa _ b _ e=>by simp only[Aq.mk.injEq,List.cons.injEq,B8.mk.injEq,and_true,true_and]at e;omega) List.nodup_range) ?_ ?_,s,N0.2 (.inl h.one),λm hm f hf=>?_,λm hm a ha=>?_⟩
 .rcases N0.1 hm with hm|⟨o,j,p,hp,A,rfl⟩
  .exact h.ok m hm
  .obtain⟨k,hk,rfl⟩:=c p hp;exact (h.ok o j).jn hd (W1 z hi ω ω).1 A
 .intro m hm G I p hp E y e;obtain⟨i,_,rfl⟩:=c p hp;obtain⟨N,_,rfl⟩:=c E y;unfold jn at e;simp only[Aq.mk.injEq,append_nil]at e;obtain⟨D,M⟩:=e;obtain⟨B,L⟩:=append_inj' M rfl;refine⟨?_,by rw[L]⟩;cases m;cases G;simp only at D B;rw[D,B]
 .intro m hm p hp u;obtain⟨i,_,rfl⟩:=c p hp;exact J (h.ua _ u ⟨l,((i+1:Nat):Int)⟩ (by simp[jn]))
 .rcases N0.1 hm with hm|⟨o,j,p,hp,_,rfl⟩
  .exact h.uv m hm f hf
  .obtain⟨i,_,rfl⟩:=c p hp;rcases Fi.1 hf with hf|hf
   .exact h.uv o j f hf
   .simp at hf
 .rcases N0.1 hm with hm|⟨o,j,p,hp,_,rfl⟩
  .exact mem_append_left _ (h.ua m hm a ha)
  .obtain⟨i,_,rfl⟩:=c p hp;rcases Fi.1 ha with ha|ha
   .exact mem_append_left _ (h.ua o j a ha)
   .rw[Fx.1 ha];simp
theorem Azw {l:List Aq} (h:l.length<=100000):Uy l=some ([],l):=by unfold Uy Ma;rw[Cy ζ];rfl
theorem Api (hz:CSz x) (hf:H9 x) (hd:d<=6) (ha:∀m∈i,MOk x d m) (hP:∀p∈P,MOk x d p) (Y:i.length<=1000) (a6:P.length<=500) (U:0<i.length) {b1:List (ByteArray×Int)} (hm:D4 x.D x.V x.E b1) (hk:∀m∈i,Ia b1 m) : ∃E o,Me i P (d:Int) b1 b2 x.D x.V x.E.G x.E.U x.E.R=some (E,[],o)/\D4 x.D x.V x.E E /\ (((nxP x d P i).length<=1000/\o=nxP x d P i/\∀m∈nxP x d P i,Ia E m)\/(1000<(nxP x d P i).length/\1000<o.length)):=by
 have hc:=hf.ctx hz;have H:∃r,Me i P (d:Int) b1 b2 x.D x.V x.E.G x.E.U x.E.R=some r/\∃E o,r=(E,[],o)/\D4 x.D x.V x.E E /\
   (((nxP x d P i).length<=1000/\o=nxP x d P i/\∀m∈nxP x d P i,Ia E m)\/(1000<(nxP x d P i).length/\1000<o.length)):=by
  unfold Me;rw[Azw ω,Ag];refine Gb i (λj O=>∃b,O=((j:Int),b,i++(i.take j).flatMap (stg x d P))/\D4 x.D x.V x.E b/\Ja b1 b/\(1<=j->∀p∈P,Ia b p)/\(i++(i.take j).flatMap (stg x d P)).length<=1000) _ ⟨b1,ψ,hm,Ja.refl _,λh=>ω,by simpa using Y⟩ ω ?_ ?_
  .rintro j m _ hj J F K h3 ⟨b,rfl,T,N,L,I⟩;have V:=B4 J;have y:=ha m V;have m0:0<=Ch x m:=Int.le_trans ω y.nf;simp only[F,K,Am,Ag];refine Gb P (λp O=>∃c,O=((p:Int),c,i++(i.take j).flatMap (stg x d P)++stg x d (P.take p) m)/\D4 x.D x.V x.E c/\Ja b1 c/\∀q∈P.take p,Ia c q) _ ⟨b,by simp[stg],T,N,λq C=>by simp at C⟩ ω ?_ ?_
   .rintro p s _ hp G g1 g2 g3 ⟨c,rfl,B,A,D⟩;have u:=hP s (B4 G);have p0:0<=Ch x s:=Int.le_trans ω u.nf;have md:=y.dg;have pd:=u.dg;obtain⟨c1,e1,i1,S,_⟩:=Apb b2 hc B y.sz y.pr (show Db x.D x.V x.E m.F+Dx m.A<=6 from Int.le_trans md ω);obtain⟨c2,e2,i2,R,k2⟩:=Apb b2 hc i1 u.sz u.pr (show Db x.D x.V x.E s.F+Dx s.A<=6 from Int.le_trans pd ω);have M:∀q∈P.take (p+1),Ia c2 q:=λq C=>by
     rw[C5 G,Fi,Fx]at C;rcases C with C|rfl
     .exact ((D q C).mono S).mono R
     .exact k2
    have z:stg x d (P.take (p+1)) m=stg x d (P.take p) m++if Ch x m+Ch x s<=d then [jn m s] else []:=by
     unfold stg;rw[C5 G,filter_append,map_append];congr 1;by_cases k:Ch x m+Ch x s<=d
     .rw[Bc k,filter_cons_of_pos (by simpa using k)];rfl
     .rw[Bb k,filter_cons_of_neg (by simpa using k)];rfl
    have a1:(stg x d (P.take p) m).length<=500:=(by unfold stg;rw[Er];refine Nat.le_trans (length_filter_le _ _) ?_;rw[length_take];omega);simp only[g1,g2,g3,Am,Ag,e1,e2];rw[show Ac (Db x.D x.V x.E m.F+Dx m.A+(Db x.D x.V x.E s.F+Dx s.A))=Ch x m+Ch x s by show Ac (Ch x m+Ch x s)=_;rw[Ac,B6] <;> omega];by_cases k:Ch x m+Ch x s<=d
    .rw[Ap k];rw[Bc k]at z;have n1:=y.nf;have n2:=u.nf;simp only[Am,Ay8 m s ω ω,Ag];rw[Cy (by rw[Ew,length_singleton];omega),Ag];exact⟨_,rfl,.inl ⟨_,rfl,c2,by rw[z,<-append_assoc];rfl,i2,(A.trans S).trans R,M⟩⟩
    .rw[Ax k];rw[Bb k,append_nil]at z;exact⟨_,rfl,.inl ⟨_,rfl,c2,by rw[z],i2,(A.trans S).trans R,M⟩⟩
   .rintro g1 _ ⟨c,rfl,B,A,D⟩;rw[Dr]at D;refine⟨_,by simp only[g1];rfl,?_⟩;dsimp only;have e:i++(i.take j).flatMap (stg x d P)++stg x d (P.take P.length) m=i++(i.take (j+1)).flatMap (stg x d P):=(by rw[Dr,C5 J,flatMap_append,List.flatMap_singleton,append_assoc]);rw[e];by_cases Z:1000<(i++(i.take (j+1)).flatMap (stg x d P)).length
    .rw[Ap (show (((i++(i.take (j+1)).flatMap (stg x d P)).length:Nat):Int)>1000 by omega)];refine⟨_,rfl,.inr ⟨_,rfl,_,rfl,_,_,rfl,B,.inr ⟨?_,Z⟩⟩⟩;refine Nat.lt_of_lt_of_le Z ?_;unfold nxP;exact ((List.Sublist.refl i).append (Tp _ (List.take_sublist _ _))).length_le
    .rw[Ax (show ¬(((i++(i.take (j+1)).flatMap (stg x d P)).length:Nat):Int)>1000 by omega)];exact⟨_,rfl,.inl ⟨_,rfl,c,by rw[h3],B,A,λ_=>D,ω⟩⟩
  .rintro F _ ⟨b,rfl,T,N,L,I⟩;rw[Dr]at I;refine⟨_,by simp only[F];rfl,_,rfl,b,_,rfl,T,.inl ⟨I,by rw[Dr];rfl,λq C=>?_⟩⟩;rcases N0.1 C with C|⟨m,X,p,hp,_,rfl⟩
   .exact (hk q C).mono N
   .intro f t;rcases Fi.1 t with t|t
    .exact N _ (hk m X f t)
    .exact L U p hp f t
 obtain⟨_,F,E,o,rfl,K⟩:=H;exact⟨E,o,F,K⟩
theorem D5.lawC {g:α->α->Int} (h:D5 (λ_=>True) g):Rv g where
 irr x hx:=by rw[(h.zero x x trivial trivial).2 rfl]at hx;omega
 trs x y z:=h.trans x y z trivial trivial trivial
 ntr x y z h1 h2 hx:=by
  by_cases e:x=y
  .subst e;exact h2 hx
  .have b:g x y≠0:=λq=>e ((h.zero x y trivial trivial).1 q)
   have h3:g y x<0:=by rw[h.anti x y trivial trivial];omega
   exact h2 (h.trans y x z trivial trivial trivial h3 hx)
theorem D5.strict {g:α->α->Int} (h:D5 (λ_=>True) g) {R l:List α} (hp:R.Perm l) (i:l.Nodup) (c:R.Pairwise λa b=>¬g b a<0):R.Pairwise λa b=>g a b<0:=by have j:R.Nodup:=hp.nodup_iff.2 i;refine (j.and c).imp λ{a b} q=>?_;have f:g a b≠0:=λe=>q.1 ((h.zero a b trivial trivial).1 e);have:=q.2;rw[h.anti a b trivial trivial]at this;omega
theorem D5.uniq {g:α->α->Int} (h:D5 (λ_=>True) g) {L M:List α} (hp:L.Perm M) (h1:L.Pairwise λa b=>g a b<0) (h2:M.Pairwise λa b=>g a b<0):L=M := Perm.eq_of_pairwise (le:=λx y=>g x y<0) (λx y _ _ q c=>(h.lawC.irr x (h.trans x y x trivial trivial trivial q c)).elim) h1 h2 hp
def Kj (x:B0) (m n:Aq):Int:=Dw (D9 (Ch x m) (Ch x n)) (H3 m n)
theorem Tt (x:B0):D5 (λ_=>True) (Kj x) := D5.or (S:=λ_=>True) (λm:Aq=>Ch x m) (λm=>m) (λa b _ h=>h) D5.cmpI Aag (λ_ _=>⟨trivial,trivial⟩)
theorem Aat {E:Type} {step:Int->Option (Int⊕(E⊕Unit))} {J:(E⊕Unit)->Option R} (l:List α) (p:α×Nat->Bool) (c:E) (z:l.length<=1000000) (k:∀(j:Nat) (x:α),j<l.length->l[j]? = some x->(∀i y,i<j->l[i]? = some y->p (y,i)=true)->decide ((j:Int)<(l.length:Int))=true->Af l (j:Int)=some x->Ac ((j:Int)+1)=((j+1:Nat):Int)->step (j:Int)=some (if p (x,j)=true then .inl ((j+1:Nat):Int) else .inr (.inl c))) (q:decide ((l.length:Int)<(l.length:Int))=false->step (l.length:Int)=some (.inr (.inr ()))) (s:l.zipIdx.all p=true->∃r,J (.inr ())=some r/\Q r) (u:l.zipIdx.all p=false->∃r,J (.inl c)=some r/\Q r):∃r,(Ak step 0).bind J=some r/\Q r:=by
 refine Gb l (λj f=>f=(j:Int)/\∀i y,i<j->l[i]? = some y->p (y,i)=true) Q ⟨rfl,λi y h=>ω⟩ ω ?_ ?_
 .rintro j x _ B o t C D ⟨rfl,b⟩;refine⟨_,k j x B o b t C D,?_⟩;by_cases hp:p (x,j)=true
  .rw[Bc hp];refine .inl ⟨_,rfl,rfl,λi y G A=>?_⟩;by_cases e:i=j
   .subst e;rw[o]at A;cases A;exact hp
   .exact b i y ω A
  .rw[Bb hp];refine .inr ⟨_,rfl,u ?_⟩;cases F:l.zipIdx.all p with| false=>rfl| true=>exact absurd (Mq F o) hp
 .rintro t _ ⟨rfl,b⟩;exact⟨_,q t,s (Aep λj x o=>b j x (Gp o) o)⟩
def pV (x:B0) (vars:List Int) (q:Int×Nat):Bool:=(Ek x.V x.E q.1).isSome&&Kf (λv:Int=>v) vars q.1 q.2
def Aau (b:List Cm) (l:Cm) (j:Nat):Bool:=j==0||(match b[j-1]? with|some y=>decide (Hf y l<0) | none=>false)
def pF (x:B0) (b:List Cm) (q:Cm×Nat):Bool:=Ih q.1 && !(q.1.T.length==0)&&Hv x.V x.E q.1&&Aau b q.1 q.2
theorem Apj (f:Int->Int) (l:List Int) (v:Int):Kf f l v 0=true:=rfl
theorem Agi {l:List Int} {u:Int} (h:l[j]? = some u):Kf (λv:Int=>v) l v (j+1)=decide (u<v):=by unfold Kf;rw[Nat.add_sub_cancel,h];rfl
theorem Agj {l:List Cm} {v u:Cm} (h:l[j]? = some u):Aau l v (j+1)=decide (Hf u v<0):=by unfold Aau;rw[Nat.add_sub_cancel,h];rfl
theorem Tu (j:Nat):j=0\/∃k,j=k+1:=by cases j with
 | zero=>exact .inl rfl
 | succ k=>exact .inr ⟨k,rfl⟩
theorem Azx (s:List (ByteArray×Int)) (D:vars.length<=8) (y:vars.zipIdx.all (pV x vars)=true->∃r,J (.inr ())=some r/\Q r) (z:vars.zipIdx.all (pV x vars)=false->∃r,J (.inl ([],8))=some r/\Q r) : ∃r,(Ak (S:=Int) (E:=((List Aq×Int)⊕Unit)) (λb=> bif b<(vars.length:Int) then ((Af vars b).bind λc=> (M9 c s [] x.D x.V x.E.G x.E.U x.E.R).bind λi=> bif (!i) then (some (.inr (.inl ([],8)))) else (bif b>(0:Int) then ((Af vars (Ac (b-1))).bind λe=> bif e>=c then (some (.inr (.inl ([],8)))) else (some (.inl (Ac (b+1))))) else (some (.inl (Ac (b+1)))))) else (some (.inr (.inr ())))) 0).bind J=some r/\Q r:=by
 refine Aat vars (pV x vars) ([],8) ω (λj v C A q h p t=>?_) (λh=>by simp only[h];rfl) y z;simp only[h,p,t,Am,Ag,Aff s [] x.D x.V x.E];unfold pV;cases B:(Ek x.V x.E v).isSome with
 | false=>rfl
 | true=>
  simp only[Dn,Av,Bool.true_and];rcases Tu j with rfl|⟨k,rfl⟩
  .rw[Apj,Bc rfl,Ax (show ¬((0:Nat):Int)>0 by omega)];rfl
  .have o:vars[k]? = some (vars[k]' ω):=Cs _;generalize vars[k]'_=u at o;rw[Agi o,Ap (show ((k+1:Nat):Int)>0 by omega),show Ac (((k+1:Nat):Int)-1)=(k:Int) by rw[Ac,B6] <;> omega,Cp rfl o];simp only[Am,Ag];by_cases f:u<v
   .rw[Ax (show ¬u>=v by omega),Ap f,Bc rfl];rfl
   .rw[Ap (show u>=v by omega),Ax f];rfl
theorem Azy (z:List (ByteArray×Int)) {b:List Cm} (L:b.length<=6) (c:∀l∈b,l.T.length<=1048576) (D:b.zipIdx.all (pF x b)=true->∃r,J (.inr ())=some r/\Q r) (G:b.zipIdx.all (pF x b)=false->∃r,J (.inl ([],8))=some r/\Q r) : ∃r,(Ak (S:=Int) (E:=((List Aq×Int)⊕Unit)) (λe=> bif e<(b.length:Int) then ((Af b e).bind λh=> (Mc h).bind λq=> bif (!q) then (some (.inr (.inl ([],8)))) else (bif ((h.T.length:Int)==(0:Int)) then (some (.inr (.inl ([],8)))) else ((Na h z [] x.D x.V x.E.G x.E.U x.E.R).bind λp=> bif (!p) then (some (.inr (.inl ([],8)))) else (bif e>(0:Int) then ((Af b (Ac (e-1))).bind λi=> (Kv i h).bind λf=> bif f>=(0:Int) then (some (.inr (.inl ([],8)))) else (some (.inl (Ac (e+1))))) else (some (.inl (Ac (e+1)))))))) else (some (.inr (.inr ())))) 0).bind J=some r/\Q r:=by
 refine Aat b (pF x b) ([],8) ω (λj l M B y t H K=>?_) (λt=>by simp only[t];rfl) D G;have s:=c l (B4 B);simp only[t,H,K,Am,Ag,Amw];unfold pF;simp only;cases Ih l with
 | false=>rfl
 | true=>
  simp only[Dn,Av,Bool.true_and];by_cases C:l.T.length=0
  .rw[E5 (show (l.T.length:Int)=0 by omega),C];rfl
  .rw[Da (show (l.T.length:Int)≠0 by omega)];have I:(!(l.T.length==0))=true:=(by simp[C]);rw[I];simp only[Av,Amy z [] x.D x.V x.E l s,Ag,Bool.true_and];cases Hv x.V x.E l with
   | false=>rfl
   | true=>
    simp only[Dn,Av,Bool.true_and];rcases Tu j with rfl|⟨k,rfl⟩
    .rw[Ax (show ¬((0:Nat):Int)>0 by omega)];rfl
    .have o:b[k]? = some (b[k]' ω):=Cs _;generalize b[k]'_=u at o;have A:=c u (B4 o);rw[Agj o,Ap (show ((k+1:Nat):Int)>0 by omega),show Ac (((k+1:Nat):Int)-1)=(k:Int) by rw[Ac,B6] <;> omega,Cp rfl o];simp only[Am,Ag,Afc u l ω];by_cases F:Hf u l<0
     .rw[Ax (show ¬Hf u l>=0 by omega),Ap F,Bc rfl];rfl
     .rw[Ap (show Hf u l>=0 by omega),Ax F];rfl
theorem Agk {l:List α} (h:G7 x d ((l.take n).map g) u=none):G7 x d (l.map g) u=none:=by
 have e:l.map g=(l.take n).map g++(l.drop n).map g:=by rw[<-map_append,take_append_drop]
 rw[e,Tq,h];rfl
theorem Agl {l:List α} (e:l[n]? = some a) (h:G7 x d ((l.take n).map g) u=some w):G7 x d ((l.take (n+1)).map g) u=G7 x d [g a] w:=by rw[C5 e,map_append,Tq,h];rfl
theorem Apk (j:CSz x) (o:H9 x) (C:d<=6) (s:(Ek x.V x.E v).isSome=true) : ∃t,Ek x.V x.E v=some t/\H4 x.D t=true /\ ((∃b,J5 x.D t (d:Int)=some (Ik t::b,0)/\Kw x.D t (d:Int)=some (Ik t::b,0)/\stV x d v=some (b.map λi=>⟨[⟨v,i⟩],[]⟩)/\b.Nodup/\b.length<=499/\∀i∈b,∃k,1<=k/\k<=d/\B3 x.D i t=some k) \/ (J5 x.D t (d:Int)=some ([],9)/\Kw x.D t (d:Int)=some ([],9)/\stV x d v=none)):=by
 cases e:Ek x.V x.E v with
 | none=>rw[e]at s;cases s
 | some t=>
  have f:H4 x.D t=true:=by
   unfold Ek at e;by_cases h:v = -1
   .rw[Bc h]at e;cases e;exact o.2.2.1
   .rw[Bb h]at e;obtain⟨_,_,_,F⟩:=E9 e;exact H7.1 o.2.2.2 t F
  have c:=f;simp only[H4,Dt,E8]at c;have H:Pt x.D t=some true:=(by obtain⟨q,A,z⟩:=Alz j.ds;have I:q=true:=z.2 o.2.1;subst I;unfold Pt;rw[A,Zs x.D t 0 ω];simp only[Ag,Am];rw[show (Dk x.D 0 t&&decide (Bi t<=200))=H4 x.D t from rfl,f]);have K:Pv x.D t=some true:=(by obtain⟨w,y,u⟩:=Al1 j.ds;have G:w=true:=u.2 o.2.1;subst G;unfold Pv;rw[y,Zt x.D t 0 ω];simp only[Ag,Am];rw[show (Dk x.D 0 t&&decide (Bi t<=200))=H4 x.D t from rfl,f]);refine⟨t,rfl,f,?_⟩;rcases Azq o.2.1 j.ds.sz.short H K c.1 c.2 C with⟨L,p,r,M⟩|⟨p,r⟩
  .obtain⟨b,rfl,E,D,B⟩:=M.parts;exact .inl ⟨b,p,r,by unfold stV;simp only[e,p];rfl,E,B,D⟩
  .exact .inr ⟨p,r,by unfold stV;simp only[e,p];rfl⟩
theorem Apl (h:vars.zipIdx.all (pV x vars)=true):(∀v∈vars,(Ek x.V x.E v).isSome=true)/\vars.Pairwise (· < ·):=by
 have p:∀j v,vars[j]? = some v->(Ek x.V x.E v).isSome=true/\Kf (λv:Int=>v) vars v j=true:=λj v b=>by have:=Mq h b;unfold pV at this;rwa [Dt]at this
 refine⟨λv b=>?_,?_⟩
 .obtain⟨j,e⟩:=Kz b;exact (p j v e).1
 .rw[pairwise_iff_getElem];have f:∀j (e:j+1<vars.length),vars[j]<vars[j+1]:=λj e=>by have:=(p (j+1) _ (Cs e)).2;rw[Agi (Cs ω)]at this;exact of_decide_eq_true this
  intro i j r e k;have o:∀n i (c:i+n+1<vars.length),vars[i]<vars[i+n+1]:=(by intro n;induction n with| zero=>exact λi c=>f i c| succ n ih=>intro i c;have s:=ih i ω;have t:=f (i+n+1) ω;simp only[show i+(n+1)+1=i+n+1+1 by omega];omega);have:=o (j-i-1) i ω;simp only[show i+(j-i-1)+1=j by omega]at this;exact this
theorem Apm (h:c.zipIdx.all (pF x c)=true):(∀l∈c,Ih l=true/\l.T.length≠0/\Hv x.V x.E l=true)/\c.Pairwise (λa b=>Hf a b<0):=by
 have p:∀j l,c[j]? = some l->((Ih l=true/\(!(l.T.length==0))=true)/\Hv x.V x.E l=true)/\Aau c l j=true:=λj v s=>by have:=Mq h s;unfold pF at this;simpa only[Dt] using this
 refine⟨λl u=>?_,?_⟩
 .obtain⟨j,e⟩:=Kz u;have q:=(p j l e).1;exact⟨q.1.1,by simpa using q.1.2,q.2⟩
 .rw[pairwise_iff_getElem];have k:∀j (e:j+1<c.length),Hf c[j] c[j+1]<0:=λj e=>by have:=(p (j+1) _ (Cs e)).2;rw[Agj (Cs ω)]at this;exact of_decide_eq_true this
  intro i j z e y;have o:∀n i (f:i+n+1<c.length),Hf c[i] c[i+n+1]<0:=(by intro n;induction n with| zero=>exact λi f=>k i f| succ n ih=>intro i f;have r:=ih i ω;have t:=k (i+n+1) ω;simp only[show i+(n+1)+1=i+n+1+1 by omega];exact Afs.trans _ _ _ trivial trivial trivial r t);have:=o (j-i-1) i ω;simp only[show i+(j-i-1)+1=j by omega]at this;exact this
theorem Azz (a:α) (l:List α):Gk (a::l) 1 ((a::l).length:Int)=some l:=by unfold Gk;rw[Bc ⟨δ,by simp only[Hj];omega,ω⟩];simp
theorem Az0 (hz:CSz x) (H:H9 x) (T:d<=6) (hv:∀v∈vars,(Ek x.V x.E v).isSome=true) (hs:vars.Pairwise (· < ·)) (h8:vars.length<=8) {b0:List (ByteArray×Int)} (hm:D4 x.D x.V x.E b0) {J:((List Aq×Int)⊕(List (ByteArray×Int)×List Aq))->Option R} (G:G7 x d (vars.map (stV x d)) [Fz]=none->∃r,J (.inl ([],9))=some r/\Q r) (a7:∀b all,G7 x d (vars.map (stV x d)) [Fz]=some all->It x d vars [] all->D4 x.D x.V x.E b->(∀m∈all,Ia b m)->∃r,J (.inr (b,all))=some r/\Q r) : ∃r,(Ak (S:=(Int×List (ByteArray×Int)×List Aq)) (E:=((List Aq×Int)⊕(List (ByteArray×Int)×List Aq))) (λ(F,y,B)=> bif F<(vars.length:Int) then ((Af vars F).bind λz=> (Md z y [] x.D x.V x.E.G x.E.U x.E.R).bind λa0=> (J5 x.D a0 (d:Int)).bind λh=> bif (h.2 != (0:Int)) then (some (.inr (.inl ([],h.2)))) else ((Gk h.1 1 h.1.length).bind λK=> (Ak (S:=(Int×List Aq)) (E:=(Int×List Aq)) (λ(C,A)=> bif C<(K.length:Int) then ((Af K C).bind λa2=> (Bl 48 A [(Aq.mk [(Cn.mk z a2)] [])]).bind λO=> some (.inl ((Ac (C+1)),O))) else (some (.inr (C,A)))) (0,[])).bind λ(a8,N)=> (Me B N (d:Int) y [] x.D x.V x.E.G x.E.U x.E.R).bind λu=> bif ((u.2.2.length:Nat):Int)>(1000:Int) then (some (.inr (.inl ([],9)))) else (some (.inl ((Ac (F+1)),u.1,u.2.2))))) else (some (.inr (.inr (y,B))))) (0,b0,[(Aq.mk [] [])])).bind J=some r/\Q r:=by
 refine Gb vars (λj L=>∃b all,L=((j:Int),b,all)/\G7 x d ((vars.take j).map (stV x d)) [Fz]=some all/\It x d (vars.take j) [] all/\D4 x.D x.V x.E b/\∀m∈all,Ia b m) Q ⟨b0,[Fz],rfl,rfl,It.init x d,hm,λm hm f H=>by rw[Fx.1 hm]at H;simp[Fz]at H⟩ ω ?_ ?_
 .rintro j v _ hj s h1 h2 h3 ⟨b,all,rfl,D,q,hb,hk⟩;have U:=B4 s;obtain⟨t,ht,hg,⟨I,a1,_,a3,a4,a5,a6⟩|⟨a1,_,a3⟩⟩:=Apk hz H T (hv v U)
  .have V:Bi t<=200:=(by simp only[H4,Dt,E8]at hg;exact hg.2);have hP:∀i∈I,MOk x d ⟨[⟨v,i⟩],[]⟩:=λi e=>by obtain⟨k,k1,k2,k3⟩:=a6 i e;exact (Agh H T ht V k1 k2 k3).1
   have Z:∀p∈I.map λi=>(⟨[⟨v,i⟩],[]⟩:Aq),MOk x d p:=λp hp=>by obtain⟨i,e,rfl⟩:=mem_map.1 hp;exact hP i e
   have c:=Agl (x:=x) (d:=d) (g:=stV x d) s D;rw[a3,G7]at c;simp only[h1,h2,h3,Am,Ag,Afg b [] x.D x.V x.E ht,a1];rw[D3 (rfl:(0:Int)=0),Azz];simp only[Av,Ag];refine Gb I (λp L=>L=((p:Int),(I.take p).map λi=>(⟨[⟨v,i⟩],[]⟩:Aq))) _ ψ ω ?_ ?_
   .rintro p i _ hp e g1 g2 g3 rfl;simp only[g1,g2,g3,Am,Ag];rw[Cy ζ,Ag];exact⟨_,rfl,.inl ⟨_,rfl,by rw[C5 e,map_append];rfl⟩⟩
   .rintro g1 _ rfl;refine⟨_,by simp only[g1];rfl,?_⟩;dsimp only;rw[Dr];obtain⟨b',o,e1,e2,⟨M,rfl,q3⟩|⟨M,q2⟩⟩:=Api hz H T q.ok Z q.len (by rw[Er];omega) q.ne (b2:=[]) hb hk
    .rw[e1];simp only[Ag];rw[Ax (show ¬(((nxP x d (I.map λi=>(⟨[⟨v,i⟩],[]⟩:Aq)) all).length:Nat):Int)>1000 by omega)];rw[Bc M]at c;refine⟨_,rfl,.inl ⟨_,rfl,b',_,rfl,c,?_,e2,q3⟩⟩;rw[C5 s];refine q.stV T (λX=>?_) a4 hP M;obtain⟨i,e⟩:=Kz X;have Y:=Gp e;rw[length_take]at Y;rw[getElem?_take_of_lt ω]at e;have:=pairwise_iff_getElem.1 hs i j ω ω ω;rw[Cs ω]at e s;rw[Fe e,Fe s]at this;omega
    .rw[e1];simp only[Ag];rw[Ap (show ((o.length:Nat):Int)>1000 by omega)];rw[Bb ω]at c;exact⟨_,rfl,.inr ⟨_,rfl,G (Agk c)⟩⟩
  .have c:=Agl (x:=x) (d:=d) (g:=stV x d) s D;rw[a3,G7]at c;simp only[h1,h2,Am,Ag,Afg b [] x.D x.V x.E ht,a1];exact⟨_,rfl,.inr ⟨_,rfl,G (Agk c)⟩⟩
 .rintro h1 _ ⟨b,all,rfl,D,q,hb,hk⟩;rw[Dr]at D q;exact⟨_,by simp only[h1];rfl,a7 b all D q hb hk⟩
theorem Az1 (hz:CSz x) (hf:H9 x) (H:d<=6) (hv:∀l∈c,Ih l=true/\l.T.length≠0/\Hv x.V x.E l=true) (hs:c.Pairwise λa b=>Hf a b<0) (h6:c.length<=6) {V:List (ByteArray×Int)} (N:It x d U [] f) (hm:D4 x.D x.V x.E V) (a1:∀m∈f,Ia V m) {J:((List Aq×Int)⊕(List (ByteArray×Int)×List Aq))->Option R} (ab:G7 x d (c.map (stF d)) f=none->∃r,J (.inl ([],9))=some r/\Q r) (aa:∀b all,G7 x d (c.map (stF d)) f=some all->It x d U c all->D4 x.D x.V x.E b->(∀m∈all,Ia b m)->∃r,J (.inr (b,all))=some r/\Q r) : ∃r,(Ak (S:=(Int×List (ByteArray×Int)×List Aq)) (E:=((List Aq×Int)⊕(List (ByteArray×Int)×List Aq))) (λ(e,G,D)=> bif e<(c.length:Int) then ((Af c e).bind λI=> (Ak (S:=(Int×List Aq)) (E:=(Int×List Aq)) (λ(u,B)=> bif u<=(d:Int) then ((Bl 48 B [(Aq.mk [] [(B8.mk I u)])]).bind λM=> some (.inl ((Ac (u+1)),M))) else (some (.inr (u,B)))) (1,[])).bind λ(ac,L)=> (Me D L (d:Int) G [] x.D x.V x.E.G x.E.U x.E.R).bind λy=> bif ((y.2.2.length:Nat):Int)>(1000:Int) then (some (.inr (.inl ([],9)))) else (some (.inl ((Ac (e+1)),y.1,y.2.2)))) else (some (.inr (.inr (G,D))))) (0,V,f)).bind J=some r/\Q r:=by
 refine Gb c (λj X=>∃b all,X=((j:Int),b,all)/\G7 x d ((c.take j).map (stF d)) f=some all/\It x d U (c.take j) all/\D4 x.D x.V x.E b/\∀m∈all,Ia b m) Q ⟨V,f,rfl,rfl,N,hm,a1⟩ ω ?_ ?_
 .rintro j l _ hj A t h2 h3 ⟨b,all,rfl,O,s,C,F⟩;have Z:=B4 A;obtain⟨K,l2,T⟩:=hv l Z;have a8:∀p∈atl d l,MOk x d p:=λp hp=>by obtain⟨i,h,rfl⟩:=mem_map.1 hp;rw[mem_range]at h;exact (W1 K T ω ω).1
  have z:=Agl (x:=x) (d:=d) (g:=stF d) A O;rw[show stF d l=some (atl d l) from rfl,G7]at z;simp only[t,h2,h3,Am,Ag];refine La d (λp X=>X=(((p+1:Nat):Int),(range p).map λk=>(⟨[],[⟨l,((k+1:Nat):Int)⟩]⟩:Aq))) _ rfl ?_ ?_
  .rintro p _ hp rfl;simp only[Ap (show ((p+1:Nat):Int)<=(d:Int) by omega),Am];rw[Cy ζ,Ag];exact⟨_,rfl,.inl ⟨_,rfl,by rw[range_succ,map_append,Kh ω];rfl⟩⟩
  .rintro _ rfl;refine⟨_,by simp only[Ax (show ¬((d+1:Nat):Int)<=(d:Int) by omega)];rfl,?_⟩;dsimp only;change ∃q,((Me all (atl d l) (d:Int) b [] x.D x.V x.E.G x.E.U x.E.R).bind _)=some q/\_;obtain⟨b',o,e1,e2,⟨Y,rfl,q3⟩|⟨Y,q2⟩⟩:=Api hz hf H s.ok a8 s.len (by unfold atl;rw[Er,length_range];omega) s.ne (b2:=[]) C F
   .rw[e1];simp only[Ag];rw[Ax (show ¬(((nxP x d (atl d l) all).length:Nat):Int)>1000 by omega)];rw[Bc Y]at z;refine⟨_,rfl,.inl ⟨_,rfl,b',_,rfl,z,?_,e2,q3⟩⟩;rw[C5 A];refine s.stF H (λa6=>?_) K T Y;obtain⟨i,h⟩:=Kz a6;have a7:=Gp h;rw[length_take]at a7;rw[getElem?_take_of_lt ω]at h;have:=pairwise_iff_getElem.1 hs i j ω ω ω;rw[Cs ω]at h A;rw[Fe h,Fe A,(Afs.zero l l trivial trivial).2 rfl]at this;omega
   .rw[e1];simp only[Ag];rw[Ap (show ((o.length:Nat):Int)>1000 by omega)];rw[Bb ω]at z;exact⟨_,rfl,.inr ⟨_,rfl,ab (Agk z)⟩⟩
 .rintro t _ ⟨b,all,rfl,O,s,C,F⟩;rw[Dr]at O s;exact⟨_,by simp only[t];rfl,aa b all O s C F⟩
theorem Az2 (j:CSz x) (k:H9 x) (r:d<=6) (hb:D4 x.D x.V x.E b) {n:Aq} (e:MOk x d m) (c:MOk x d n) (i:Ia b m) (f:Ia b n) : Nn m n x.D x.V x.E.G x.E.U x.E.R b b2=some (Kj x m n):=by
 have h:=k.ctx j;have o:=e.dg;have p:=c.dg;unfold Nn;rw[Apc b2 h hb e.sz e.pr (show Db x.D x.V x.E m.F+Dx m.A<=6 from Int.le_trans o ω) i,Ag,
  Apc b2 h hb c.sz c.pr (show Db x.D x.V x.E n.F+Dx n.A<=6 from Int.le_trans p ω) f,Ag,Mu,Ag,Amu m n e.sz,Ag,Qx];rfl
theorem Az3 (B:CSz x) (F:H9 x) (G:d<=6) (hb:D4 x.D x.V x.E b) (i:It x d U W f) (e:∀m∈f,Ia b m) : ∃S,Yg f b b2 x.D x.V x.E.G x.E.U x.E.R=some S/\S.Perm f/\S.Pairwise λm n=>Kj x m n<0:=by
 have j:∀m∈f,∀n∈f,Nn m n x.D x.V x.E.G x.E.U x.E.R b b2=some (Kj x m n):=λm o n y=>Az2 B F G hb (i.ok m o) (i.ok n y) (e m o) (e n y);have L:=(Tt x).lawC;have z:=i.len;obtain⟨E,_,u,H⟩:=Aal (cmp:=λm n=>Nn m n x.D x.V x.E.G x.E.U x.E.R b b2) L f j ω;obtain⟨R,p,cf,_,s,hp,D⟩:=Aje (cmp:=λm n=>Nn m n x.D x.V x.E.G x.E.U x.E.R b b2) (l:=f) (r:=E) ⟨Kj x,L,j,u,(Tt x).strict u i.nd H⟩;refine⟨R,?_,hp,?_⟩
 .have q:=i.ne;cases k:f with| nil=>rw[k]at q;simp at q| cons m l=>rw[k]at p;exact p
 .refine Pairwise.imp_of_mem (λ{a c} t C h=>?_) D;have A:Nn a c x.D x.V x.E.G x.E.U x.E.R b b2=some (cf a c):=s a (hp.subset t) c (hp.subset C);rw[j a (hp.subset t) c (hp.subset C)]at A;rw[Fe A];exact h
theorem Az4 {l:List α} {x:α} (h:l[j]? = some x):Bk l (j:Int) x=l:=by rw[Ir rfl];have e:=Gp h;rw[Cs e]at h;rw[<-Fe h,List.set_getElem_self]
theorem Az5 (s:CSz x) (o:H9 x) (t:d<=6) (N:vars.length<=8) (O:c.length<=6) (D:∀l∈c,l.T.length<=1048576) : ∃r,M7 x vars c (d:Int)=some r /\ ((¬(vars.zipIdx.all (pV x vars)=true/\c.zipIdx.all (pF x c)=true)/\r=([],8)) \/ ((vars.zipIdx.all (pV x vars)=true/\c.zipIdx.all (pF x c)=true) /\ ((G7 x d (vars.map (stV x d)++c.map (stF d)) [Fz]=none/\r=([],9)) \/ ∃all S,G7 x d (vars.map (stV x d)++c.map (stF d)) [Fz]=some all/\It x d vars c all/\r=(S,0)/\S.Perm all/\S.Pairwise λm n=>Kj x m n<0))):=by
  obtain⟨r0,F,⟨_,R,rfl,H⟩|⟨Z,_⟩⟩:=Afx x s [] (λp hp=>by cases hp) ψ
  rotate_left
  . exact absurd ⟨o,λp hp=>by cases hp⟩ Z
  unfold M7;rw[F];simp only[Ag,Dn,Av,Ax (show ¬(d:Int)<0 by omega),Ax (show ¬(d:Int)>6 by omega)];refine Azx R N (λy=>?_) λJ=>⟨_,rfl,.inl ⟨(λh=>by rw[J]at h;cases h.1),rfl⟩⟩;dsimp only;refine Azy R O D (λi=>?_) λJ=>⟨_,rfl,.inl ⟨(λh=>by rw[J]at h;cases h.2),rfl⟩⟩;obtain⟨U,K⟩:=Apl y;obtain⟨f1,f2⟩:=Apm i;dsimp only;refine Az0 s o t U K N H (λI=>⟨_,rfl,.inr ⟨⟨y,i⟩,.inl ⟨by rw[Tq,I];rfl,rfl⟩⟩⟩) λb all M A E T=>?_;dsimp only;refine Az1 s o t f1 f2 O A E T (λI=>⟨_,rfl,.inr ⟨⟨y,i⟩,.inl ⟨by rw[Tq,M];exact I,rfl⟩⟩⟩) λb2 q G f k B=>?_;dsimp only;obtain⟨S,Y,z,X⟩:=Az3 s o t (b2:=[]) k f B;have u:=z.length_eq;have L:=f.len;rw[Y,Ag,Wv u.symm,Ag];refine Gb S (λj V=>V=((j:Int),S)) _ rfl ω ?_ ?_
  . rintro j m _ hj C e g2 g3 rfl;rw[u]at e;simp only[e,g2,g3,Am,Ag,Ayj m (f.ok m (z.subset (B4 C))).sz,Az4 C];exact⟨_,rfl,.inl ⟨_,rfl,rfl⟩⟩
  . rintro e _ rfl;rw[u]at e;exact⟨S,by rw[u];simp only[e];rfl,_,rfl,.inr ⟨⟨y,i⟩,.inr ⟨q,S,by rw[Tq,M];exact G,f,rfl,z,X⟩⟩⟩
theorem Agm (m:Aq) (b:MSz m):Qj m=some (m,m.F,m.A):=by
 have s:=b.nf;have c:=b.na;unfold Qj;refine Ga m.F (λj=>((j:Int),(m.F.take j))) rfl ω ?_ ?_
 .intro j x r e h k o;have p:=B4 e;have:=b.fi x p;simp only[h,k,o,Am,Ag,Aod 4000000 x.I ω ω];rw[Cy ζ,Ag,C5 e]
 .intro h;refine⟨m.F,ψ,?_⟩;dsimp only;refine Ga m.A (λj=>((j:Int),(m.A.take j))) rfl ω ?_ ?_
  .intro j x r e h k o;have p:=B4 e;have:=b.al x p;simp only[h,k,o,Am,Ag,Nd];rw[Cy ζ,Ag,Ag,Cy ζ,Ag,C5 e];rfl
  .intro h;exact⟨m.A,ψ,rfl⟩
def ptR (x:B0) (m:Aq):E3:=⟨m,Ch x m⟩
theorem Agn {l:List α} (h:Gf x d ((l.take n).map g) u=none):Gf x d (l.map g) u=none:=by
 have e:l.map g=(l.take n).map g++(l.drop n).map g:=by rw[<-map_append,take_append_drop]
 rw[e,Ts,h];rfl
theorem Ago {l:List α} (e:l[n]? = some a) (h:Gf x d ((l.take n).map g) u=some w):Gf x d ((l.take (n+1)).map g) u=Gf x d [g a] w:=by rw[C5 e,map_append,Ts,h];rfl
theorem W2 {b:List Aq} (h:b[j]? = some m):nxR x d P (b.take (j+1))=nxR x d P (b.take j)++m::stg x d P m:=by unfold nxR;rw[C5 h,flatMap_append,List.flatMap_singleton]
theorem Agp {b:List Aq} (j:Nat):(nxR x d P (b.take j)).Sublist (nxR x d P b):=Tp _ (List.take_sublist _ _)
theorem Apn (p:Nat):(stg x d (P.take p) m).Sublist (stg x d P m):=by unfold stg;exact ((List.take_sublist _ _).filter _).map _
theorem Az6 {p:Nat} (e:P[p]? = some q):stg x d (P.take (p+1)) m=stg x d (P.take p) m++if Ch x m+Ch x q<=d then [jn m q] else []:=by
 unfold stg;rw[C5 e,filter_append,map_append];congr 1;by_cases b:Ch x m+Ch x q<=d
 .rw[Bc b,filter_cons_of_pos (by simpa using b)];rfl
 .rw[Bb b,filter_cons_of_neg (by simpa using b)];rfl
theorem Az7 (hz:CSz x) (C:H9 x) (hd:d<=6) (hv:∀v∈vars,(Ek x.V x.E v).isSome=true) (h8:vars.length<=8) {J:((List Aq×Int)⊕List E3)->Option R} (ai:Gf x d (vars.map (stV x d)) [Fz]=none->∃r,J (.inl ([],9))=some r/\Q r) (b7:∀all,Gf x d (vars.map (stV x d)) [Fz]=some all->(∀m∈all,MOk x d m)->all.length<=1000->∃r,J (.inr (all.map (ptR x)))=some r/\Q r) :
  ∃r,(Ak (S:=(List E3×Int)) (E:=((List Aq×Int)⊕List E3)) (λ(G,D)=>
 bif D<(vars.length:Int) then (
 (Af vars D).bind λab=>
 (Nc x ab).bind λaa=>
 (Kw x.D aa.1 (d:Int)).bind λB=>
 bif (B.2 != (0:Int)) then (
 some (.inr (.inl ([],9)))
 )
 else (
 (Ak (S:=(Int×List E3)) (E:=((List Aq×Int)⊕(Int×List E3))) (λ(f,ae)=>
 bif f<(G.length:Int) then (
 (Af G f).bind λA=>
 (Ak (S:=(Int×List E3)) (E:=((List Aq×Int)⊕(Int×List E3))) (λ(b,I)=>
 bif b<(B.1.length:Int) then (
 (Af B.1 b).bind λa8=>
 (Od x.D aa.1 a8).bind λy=>
 bif (Ac (A.d+y))>(d:Int) then (
 some (.inl ((Ac (b+1)),I))
 )
 else (
 (Qj A.m).bind λu=>
 (show Option (List Cn) from
 bif y>(0:Int) then (
 (Bl 40 u.2.1 [(Cn.mk ab a8)]).bind λau=>
 some au
 )
 else (
 some u.2.1
 )
 ).bind λar=>
 (Bl 56 I [(E3.mk (Aq.mk ar u.2.2) (Ac (A.d+y)))]).bind λad=>
 bif ((ad.length:Nat):Int)>(1000:Int) then (
 some (.inr (.inl ([],9)))
 )
 else (
 some (.inl ((Ac (b+1)),ad))
 )
 )
 )
 else (
 some (.inr (.inr (b,I)))
 )
  ) (0,ae)).bind λz=>
 match z with
 | .inl (ao,am)=>(
 some (.inr (.inl (ao,am)))
 )
 | .inr (b9,aq)=>(
 some (.inl ((Ac (f+1)),aq))
 )
 )
 else (
 some (.inr (.inr (f,ae)))
 )
  ) (0,[])).bind λz=>
 match z with
 | .inl (ak,aj)=>(
 some (.inr (.inl (ak,aj)))
 )
 | .inr (b8,ap)=>(
 some (.inl (ap,(Ac (D+1))))
 )
 )
 )
 else (
 some (.inr (.inr G))
 )
  ) ([(E3.mk (Aq.mk [] []) 0)],0)).bind J=some r/\Q r:=by
 refine Gb vars (λj H=>∃all,H=(all.map (ptR x),(j:Int))/\Gf x d ((vars.take j).map (stV x d)) [Fz]=some all/\(∀m∈all,MOk x d m)/\all.length<=1000) Q
  ⟨[Fz],by rw[List.map_singleton];unfold ptR;rw[(MOk.one x d).2];rfl,rfl,λm F=>by rw[Fx.1 F];exact (MOk.one x d).1,ψ⟩ ω ?_ ?_
 .rintro j v _ hj af h1 h2 h3 ⟨all,rfl,K,O,az⟩
  have b0:=B4 af
  obtain⟨t,ht,hg,⟨s,_,a2,a3,a4,a5,a6⟩|⟨_,a2,a3⟩⟩:=Apk hz C hd (hv v b0)
  .have Y:Bi t<=200:=by
    simp only[H4,Dt,E8]at hg
    exact hg.2
   obtain⟨P,a7⟩:∃P,P=s.map (λi=>(⟨[⟨v,i⟩],[]⟩:Aq)):=⟨_,rfl⟩
   rw[<-a7]at a3
   have b6:P.length=s.length:=by rw[a7,Er]
   have c:=Ago (x:=x) (d:=d) (g:=stV x d) af K
   rw[a3,Gf]at c
   have V:∀o:List Aq,o.Sublist (nxR x d P all)->1000<o.length->Gf x d (vars.map (stV x d)) [Fz]=none:=λo Z hl=>by
    have:=Z.length_le
    rw[Bb ω]at c
    exact Agn c
   simp only[h1,h2,h3,Am,Ag,Z9,ht,a2]
   rw[D3 (rfl:(0:Int)=0)]
   simp only[Av]
   refine Gb all (λq H=>H=((q:Int),(nxR x d P (all.take q)).map (ptR x))/\(nxR x d P (all.take q)).length<=1000) _ ⟨rfl,by simp[nxR]⟩ ω ?_ ?_
   .rintro q m _ hq U g1 g2 g3 ⟨rfl,N⟩
    have b5:=B4 U
    have L:=O m b5
    have m0:0<=Ch x m:=Int.le_trans ω L.nf
    have md:=L.dg
    have mn:=L.nf
    have b3:(all.map (ptR x))[q]? = some (ptR x m):=by rw[getElem?_map,U];rfl
    rw[Er]
    simp only[g1,Am,Cp rfl b3,Ag]
    show ∃r,(Ak _ _).bind _=some r/\_
    refine La (s.length+1) (λi H=>∃o,H=((i:Int),o.map (ptR x))/\o=nxR x d P (all.take q)++(if i=0 then [] else m::stg x d (P.take (i-1)) m)/\o.length<=1000) _ ⟨_,rfl,ψ,N⟩ ?_ ?_
    .rintro i _ hi ⟨o,rfl,Z,ag⟩
     have w1:Ac ((i:Int)+1)=((i+1:Nat):Int):=Kh ω
     have ax:decide ((i:Int)<((Ik t::s).length:Int))=true:=Ap (by simp only[Hj];omega)
     rcases Tu i with rfl|⟨k,rfl⟩
     .have X:Od x.D t (Ik t)=some ((0:Nat):Int):=by
       rw[Al7 C.2.1 hz.ds.sz.short t _ Y (by have:=Tl C.2.1.szv _ t 0 (Aad x.D t);omega),Aad];rfl
      simp only[ax,Am,show Af (Ik t::s) ((0:Nat):Int)=some (Ik t) from rfl,Ag,X]
      rw[show Ac ((ptR x m).d+((0:Nat):Int))=Ch x m by show Ac (Ch x m+0)=_;rw[Ac,B6] <;> omega,Ax (show ¬Ch x m>(d:Int) by omega)]
      simp only[Av]
      rw[show (ptR x m).m=m from rfl,Agm m L.sz]
      simp only[Ag]
      rw[Ax (show ¬((0:Nat):Int)>0 by omega)]
      simp only[Av,Ag]
      rw[Cy (by rw[Er,length_singleton];omega),Ag]
      have ah:o.map (ptR x)++[(⟨⟨m.F,m.A⟩,Ch x m⟩:E3)]=(o++[m]).map (ptR x):=by rw[map_append];rfl
      rw[ah,Er]
      have T:o++[m]=nxR x d P (all.take q)++(if 0+1=0 then [] else m::stg x d (P.take (0+1-1)) m):=by
       rw[Z,Bc rfl,Bb ω,append_nil]
       simp[stg]
      by_cases h5:1000<(o++[m]).length
      .rw[Ap (show (((o++[m]).length:Nat):Int)>1000 by omega)]
       refine⟨_,rfl,.inr ⟨_,rfl,_,rfl,.inr ⟨_,rfl,_,rfl,.inr ⟨_,rfl,ai (V _ ?_ h5)⟩⟩⟩⟩
       rw[T]
       refine List.Sublist.trans ?_ (Agp (q+1))
       rw[W2 U,Bb ω]
       exact (List.Sublist.refl _).append ((Apn _).cons_cons m)
      .rw[Ax (show ¬(((o++[m]).length:Nat):Int)>1000 by omega)]
       exact⟨_,rfl,.inl ⟨_,rfl,o++[m],by rw[w1],T,ω⟩⟩
     .have hk:k<s.length:=ω
      have a1:s[k]? = some s[k]:=Cs hk
      generalize s[k]=h at a1
      have b4:P[k]? = some (⟨[⟨v,h⟩],[]⟩:Aq):=by rw[a7,getElem?_map,a1];rfl
      obtain⟨e,e1,e2,e3⟩:=a6 h (B4 a1)
      obtain⟨ba,ac⟩:=Agh C hd ht Y e1 e2 e3
      have X:Od x.D t h=some (e:Int):=by
       rw[Al7 C.2.1 hz.ds.sz.short t _ Y (by have:=Tl C.2.1.szv _ t e e3;omega),e3,Wf ω]
      have M:=Az6 (x:=x) (d:=d) (m:=m) b4
      rw[ac]at M
      rw[Bb ω,Nat.add_sub_cancel]at Z
      simp only[ax,Am,show Af (Ik t::s) ((k+1:Nat):Int)=some h from Cp rfl (by simpa using a1),Ag,X]
      rw[show Ac ((ptR x m).d+(e:Int))=Ch x m+e by show Ac (Ch x m+e)=_;rw[Ac,B6] <;> omega]
      by_cases ay:Ch x m+e<=d
      .rw[Ax (show ¬Ch x m+(e:Int)>(d:Int) by omega)]
       rw[Bc ay]at M
       simp only[Av]
       rw[show (ptR x m).m=m from rfl,Agm m L.sz]
       simp only[Ag]
       rw[Ap (show (e:Int)>0 by omega)]
       simp only[Am]
       rw[Cy (by rw[length_singleton];omega),Ag,Ag,Cy (by rw[Er,length_singleton];omega),Ag]
       have ah:o.map (ptR x)++[(⟨⟨m.F++[⟨v,h⟩],m.A⟩,Ch x m+e⟩:E3)]=(o++[jn m ⟨[⟨v,h⟩],[]⟩]).map (ptR x):=by
        rw[map_append,List.map_singleton]
        unfold ptR
        rw[Agg,ac]
        unfold jn
        rw[append_nil]
       rw[ah,Er]
       have T:o++[jn m ⟨[⟨v,h⟩],[]⟩]=nxR x d P (all.take q)++m::stg x d (P.take (k+1)) m:=by
        rw[Z,M,append_assoc];rfl
       by_cases h5:1000<(o++[jn m ⟨[⟨v,h⟩],[]⟩]).length
       .rw[Ap (show (((o++[jn m ⟨[⟨v,h⟩],[]⟩]).length:Nat):Int)>1000 by omega)]
        refine⟨_,rfl,.inr ⟨_,rfl,_,rfl,.inr ⟨_,rfl,_,rfl,.inr ⟨_,rfl,ai (V _ ?_ h5)⟩⟩⟩⟩
        rw[T]
        refine List.Sublist.trans ?_ (Agp (q+1))
        rw[W2 U]
        exact (List.Sublist.refl _).append ((Apn _).cons_cons m)
       .rw[Ax (show ¬(((o++[jn m ⟨[⟨v,h⟩],[]⟩]).length:Nat):Int)>1000 by omega)]
        exact⟨_,rfl,.inl ⟨_,rfl,_,by rw[w1],by rw[Bb ω,Nat.add_sub_cancel];exact T,ω⟩⟩
      .rw[Ap (show Ch x m+(e:Int)>(d:Int) by omega)]
       rw[Bb ay,append_nil]at M
       exact⟨_,rfl,.inl ⟨_,rfl,o,by rw[w1],by rw[Bb ω,Nat.add_sub_cancel,M];exact Z,ag⟩⟩
    .rintro _ ⟨o,rfl,Z,ag⟩
     refine⟨_,by rw[Ax (show ¬((s.length+1:Nat):Int)<((Ik t::s).length:Int) by simp only[Hj];omega)];rfl,_,rfl,.inl ⟨_,rfl,?_⟩⟩
     rw[Bb ω,Nat.add_sub_cancel,<-b6,Dr,<-W2 U]at Z
     subst Z
     exact⟨by rw[g3],ag⟩
   .rintro g1 _ ⟨rfl,N⟩
    rw[Dr]at N
    rw[Er]
    rw[Bc N]at c
    refine⟨_,by simp only[g1];rfl,_,rfl,.inl ⟨_,rfl,nxR x d P all,by rw[Dr],c,λm F=>?_,N⟩⟩
    rcases mem_flatMap.1 F with⟨m0,av,F⟩
    rcases Iq.1 F with rfl|F
    .exact O m av
    .obtain⟨p,hp,X,rfl⟩:=Q5.1 F
     rw[a7]at hp
     obtain⟨i,hi,rfl⟩:=mem_map.1 hp
     obtain⟨k,k1,k2,k3⟩:=a6 i hi
     exact (O m0 av).jn hd (Agh C hd ht Y k1 k2 k3).1 X
  .have c:=Ago (x:=x) (d:=d) (g:=stV x d) af K
   rw[a3,Gf]at c
   simp only[h1,h2,Am,Ag,Z9,ht,a2]
   exact⟨_,rfl,.inr ⟨_,rfl,ai (Agn c)⟩⟩
 .rintro h1 _ ⟨all,rfl,K,O,az⟩
  rw[Dr]at K
  exact⟨_,by simp only[h1];rfl,b7 all K O az⟩
theorem Apo {d e:Nat} (c:e<=d):∀n,n<=d->(range n).filter (λk=>decide (e+(k+1)<=d))=range (min n (d-e))
 | 0,_=>ψ
 | n+1,h=>by
  rw[range_succ,filter_append,Apo c n ω];by_cases b:e+(n+1)<=d
  .rw[filter_cons_of_pos (by simpa using b),filter_nil,show min n (d-e)=n by omega,show min (n+1) (d-e)=n+1 by omega,range_succ]
  .rw[filter_cons_of_neg (by simpa using b),filter_nil,append_nil,show min n (d-e)=min (n+1) (d-e) by omega]
theorem Az8 (b:Ih l=true) (hi:Hv x.V x.E l=true) {e:Nat} (h:Ch x m=e) (c:e<=d) : stg x d (atl d l) m=(range (d-e)).map λk=>jn m ⟨[],[⟨l,((k+1:Nat):Int)⟩]⟩:=by
 unfold stg atl;rw[List.filter_map,map_map];have:(range d).filter ((λp=>decide (Ch x m+Ch x p<=d)) ∘ λk=>(⟨[],[⟨l,((k+1:Nat):Int)⟩]⟩:Aq))=range (d-e):=by rw[<-show min d (d-e)=d-e by omega,<-Apo c d (Nat.le_refl _)];refine filter_congr λk o=>?_;rw[mem_range]at o;show decide (Ch x m+Ch x ⟨[],[⟨l,((k+1:Nat):Int)⟩]⟩<=d)=_;rw[(W1 b hi (d:=d) (show 1<=k+1 by omega) (show k+1<=d by omega)).2,h];simp only[decide_eq_decide];omega
 rw[this];rfl
theorem Az9 (hd:d<=6) {b:List Cm} (hv:∀l∈b,Ih l=true/\l.T.length≠0/\Hv x.V x.E l=true) (h6:b.length<=6) {c:List Aq} (aj:∀m∈c,MOk x d m) (ao:c.length<=1000) {J:((List Aq×Int)⊕List E3)->Option R} (aq:Gf x d (b.map (stF d)) c=none->∃r,J (.inl ([],9))=some r/\Q r) (ay:∀all,Gf x d (b.map (stF d)) c=some all->(∀m∈all,MOk x d m)->all.length<=1000->∃r,J (.inr (all.map (ptR x)))=some r/\Q r) :
  ∃r,(Ak (S:=(List E3×Int)) (E:=((List Aq×Int)⊕List E3)) (λ(B,A)=>
 bif A<(b.length:Int) then (
 (Af b A).bind λa8=>
 (Ak (S:=(Int×List E3)) (E:=((List Aq×Int)⊕(Int×List E3))) (λ(s,Z)=>
 bif s<(B.length:Int) then (
 (Af B s).bind λy=>
 (Ak (S:=(Int×List E3)) (E:=((List Aq×Int)⊕(Int×List E3))) (λ(f,Y)=>
 bif (Ac (y.d+f))<=(d:Int) then (
 (Qj y.m).bind λu=>
 (show Option (List B8) from
 bif f>(0:Int) then (
 (Nd a8).bind λa7=>
 (Bl 40 u.2.2 [(B8.mk a7 f)]).bind λah=>
 some ah
 )
 else (
 some u.2.2
 )
 ).bind λag=>
 (Bl 56 Y [(E3.mk (Aq.mk u.2.1 ag) (Ac (y.d+f)))]).bind λX=>
 bif ((X.length:Nat):Int)>(1000:Int) then (
 some (.inr (.inl ([],9)))
 )
 else (
 some (.inl ((Ac (f+1)),X))
 )
 )
 else (
 some (.inr (.inr (f,Y)))
 )
  ) (0,Z)).bind λz=>
 match z with
 | .inl (ad,ac)=>(
 some (.inr (.inl (ad,ac)))
 )
 | .inr (b0,af)=>(
 some (.inl ((Ac (s+1)),af))
 )
 )
 else (
 some (.inr (.inr (s,Z)))
 )
  ) (0,[])).bind λz=>
 match z with
 | .inl (ab,aa)=>(
 some (.inr (.inl (ab,aa)))
 )
 | .inr (az,ae)=>(
 some (.inl (ae,(Ac (A+1))))
 )
 )
 else (
 some (.inr (.inr B))
 )
  ) (c.map (ptR x),0)).bind J=some r/\Q r:=by
 refine Gb b (λj C=>∃all,C=(all.map (ptR x),(j:Int))/\Gf x d ((b.take j).map (stF d)) c=some all/\(∀m∈all,MOk x d m)/\all.length<=1000) Q
  ⟨c,rfl,rfl,aj,ao⟩ ω ?_ ?_
 .rintro j l _ hj am T h2 h3 ⟨all,rfl,H,M,ap⟩
  have av:=B4 am
  obtain⟨K,l2,l3⟩:=hv l av
  have b3:l.T.length<=16:=by
   have h:=K
   unfold Ih at h
   simp only[Dt,E8]at h
   exact h.1.2.2
  obtain⟨P,a6⟩:∃P,P=atl d l:=⟨_,rfl⟩
  have I:=Ago (x:=x) (d:=d) (g:=stF d) am H
  rw[show stF d l=some (atl d l) from rfl,<-a6,Gf]at I
  have O:∀o:List Aq,o.Sublist (nxR x d P all)->1000<o.length->Gf x d (b.map (stF d)) c=none:=λo t hl=>by
   have:=t.length_le
   rw[Bb ω]at I
   exact Agn I
  simp only[T,h2,h3,Am,Ag]
  refine Gb all (λq C=>C=((q:Int),(nxR x d P (all.take q)).map (ptR x))/\(nxR x d P (all.take q)).length<=1000) _ ⟨rfl,by simp[nxR]⟩ ω ?_ ?_
  .rintro q m _ hq V g1 g2 g3 ⟨rfl,L⟩
   have au:=B4 V
   have U:=M m au
   have m0:0<=Ch x m:=Int.le_trans ω U.nf
   have md:=U.dg
   have mn:=U.nf
   have ar:(all.map (ptR x))[q]? = some (ptR x m):=by rw[getElem?_map,V];rfl
   obtain⟨e,he⟩:∃e:Nat,Ch x m=e:=⟨(Ch x m).toNat,ω⟩
   have G:=Az8 K l3 he (show e<=d by omega)
   rw[<-a6]at G
   have D:∀k,k<=d-e->(nxR x d P (all.take q)++m::(range k).map λk=>jn m ⟨[],[⟨l,((k+1:Nat):Int)⟩]⟩).Sublist (nxR x d P all):=λk hk=>by
    refine List.Sublist.trans ?_ (Agp (q+1))
    rw[W2 V,G]
    exact (List.Sublist.refl _).append (((Af1 hk).map _).cons_cons m)
   rw[Er]
   simp only[g1,Am,Cp rfl ar,Ag]
   refine La (d-e+1) (λi C=>∃o,C=((i:Int),o.map (ptR x))/\o=nxR x d P (all.take q)++(if i=0 then [] else m::(range (i-1)).map λk=>jn m ⟨[],[⟨l,((k+1:Nat):Int)⟩]⟩)/\o.length<=1000) _ ⟨_,rfl,ψ,L⟩ ?_ ?_
   .rintro i _ hi ⟨o,rfl,t,ai⟩
    have w1:Ac ((i:Int)+1)=((i+1:Nat):Int):=Kh ω
    have w2:Ac ((ptR x m).d+(i:Int))=Ch x m+i:=by show Ac (Ch x m+i)=_;rw[Ac,B6] <;> omega
    rw[w2,Ap (show Ch x m+(i:Int)<=(d:Int) by omega)]
    simp only[Am]
    rw[show (ptR x m).m=m from rfl,Agm m U.sz]
    simp only[Ag]
    rcases Tu i with rfl|⟨k,rfl⟩
    .rw[Ax (show ¬((0:Nat):Int)>0 by omega)]
     simp only[Av,Ag]
     rw[Cy (by rw[Er,length_singleton];omega),Ag]
     have a1:o.map (ptR x)++[(⟨⟨m.F,m.A⟩,Ch x m+((0:Nat):Int)⟩:E3)]=(o++[m]).map (ptR x):=by
      rw[map_append,List.map_singleton,show Ch x m+((0:Nat):Int)=Ch x m by omega];rfl
     rw[a1,Er]
     have N:o++[m]=nxR x d P (all.take q)++m::(range 0).map λk=>jn m ⟨[],[⟨l,((k+1:Nat):Int)⟩]⟩:=by
      rw[t,Bc rfl,append_nil];rfl
     by_cases h5:1000<(o++[m]).length
     .rw[Ap (show (((o++[m]).length:Nat):Int)>1000 by omega)]
      exact⟨_,rfl,.inr ⟨_,rfl,_,rfl,.inr ⟨_,rfl,_,rfl,.inr ⟨_,rfl,aq (O _ (by rw[N];exact D 0 ω) h5)⟩⟩⟩⟩
     .rw[Ax (show ¬(((o++[m]).length:Nat):Int)>1000 by omega)]
      exact⟨_,rfl,.inl ⟨_,rfl,o++[m],by rw[w1],by rw[Bb ω];exact N,ω⟩⟩
    .rw[Bb ω,Nat.add_sub_cancel]at t
     rw[Ap (show ((k+1:Nat):Int)>0 by omega)]
     simp only[Am,Nd]
     rw[Cy ζ,Ag,Ag,Cy (by rw[length_singleton];omega),Ag,Ag,Cy (by rw[Er,length_singleton];omega),Ag]
     have a1:o.map (ptR x)++[(⟨⟨m.F,m.A++[⟨⟨l.Q,[]++l.T⟩,((k+1:Nat):Int)⟩]⟩,Ch x m+((k+1:Nat):Int)⟩:E3)]=(o++[jn m ⟨[],[⟨l,((k+1:Nat):Int)⟩]⟩]).map (ptR x):=by
      rw[map_append,List.map_singleton]
      unfold ptR
      rw[Agg,(W1 K l3 (d:=d) (show 1<=k+1 by omega) (show k+1<=d by omega)).2]
      unfold jn
      rw[append_nil];rfl
     rw[a1,Er]
     have N:o++[jn m ⟨[],[⟨l,((k+1:Nat):Int)⟩]⟩]=nxR x d P (all.take q)++m::(range (k+1)).map λk=>jn m ⟨[],[⟨l,((k+1:Nat):Int)⟩]⟩:=by
      rw[t,range_succ,map_append,append_assoc];rfl
     by_cases h5:1000<(o++[jn m ⟨[],[⟨l,((k+1:Nat):Int)⟩]⟩]).length
     .rw[Ap (show (((o++[jn m ⟨[],[⟨l,((k+1:Nat):Int)⟩]⟩]).length:Nat):Int)>1000 by omega)]
      exact⟨_,rfl,.inr ⟨_,rfl,_,rfl,.inr ⟨_,rfl,_,rfl,.inr ⟨_,rfl,aq (O _ (by rw[N];exact D (k+1) ω) h5)⟩⟩⟩⟩
     .rw[Ax (show ¬(((o++[jn m ⟨[],[⟨l,((k+1:Nat):Int)⟩]⟩]).length:Nat):Int)>1000 by omega)]
      exact⟨_,rfl,.inl ⟨_,rfl,_,by rw[w1],by rw[Bb ω,Nat.add_sub_cancel];exact N,ω⟩⟩
   .rintro _ ⟨o,rfl,t,ai⟩
    have w2:Ac ((ptR x m).d+((d-e+1:Nat):Int))=Ch x m+((d-e+1:Nat):Int):=by show Ac (Ch x m+_)=_;rw[Ac,B6] <;> omega
    refine⟨_,by rw[w2,Ax (show ¬Ch x m+((d-e+1:Nat):Int)<=(d:Int) by omega)];rfl,_,rfl,.inl ⟨_,rfl,?_⟩⟩
    rw[Bb ω,Nat.add_sub_cancel,<-G,<-W2 V]at t
    subst t
    exact⟨by rw[g3],ai⟩
  .rintro g1 _ ⟨rfl,L⟩
   rw[Dr]at L
   rw[Er]
   rw[Bc L]at I
   refine⟨_,by simp only[g1];rfl,_,rfl,.inl ⟨_,rfl,nxR x d P all,by rw[Dr],I,λm F=>?_,L⟩⟩
   rcases mem_flatMap.1 F with⟨m0,ak,F⟩
   rcases Iq.1 F with rfl|F
   .exact M m ak
   .obtain⟨p,hp,ax,rfl⟩:=Q5.1 F
    rw[a6]at hp
    obtain⟨i,hi,rfl⟩:=mem_map.1 hp
    rw[mem_range]at hi
    exact (M m0 ak).jn hd (W1 K l3 ω ω).1 ax
 .rintro T _ ⟨all,rfl,H,M,ap⟩
  rw[Dr]at H
  exact⟨_,by simp only[T];rfl,ay all H M ap⟩
theorem A0a {c:α->α->Int} {a0:Int} (A R:List α) (u y:α) (h:a0<=A.length) (b:cmp u y=some (c u y)) (i:A.length<=1000000):K9 cmp a0 (((A.length+1:Nat):Int),A++y::u::R) = if c u y<0 then some (.inl ((A.length:Int),A++u::y::R)) else some (.inr (((A.length+1:Nat):Int),A++y::u::R)):=by
 have f:Ac (((A.length+1:Nat):Int)-1)=(A.length:Int):=by rw[Ac,B6] <;> omega
 unfold K9;simp only[Ap (ω:((A.length+1:Nat):Int)>a0),Am,f,Cp (n:=A.length+1) rfl (An9 A R u y),Cp (n:=A.length) rfl (Aak A (u::R) y),Ag,b];by_cases e:c u y<0
 .rw[Ap e,Bc e];simp only[Am];rw[Ir (n:=A.length+1) rfl,Ir (n:=A.length) rfl,An8];have:Af ((A++y::u::R).set (A.length+1) y) (A.length:Int)=some y:=(by refine Cp rfl ?_;rw[getElem?_set_ne ω];exact Aak A (u::R) y);rw[this];rfl
 .rw[Ax e,Bb e];rfl
theorem A0b {c:α->α->Int} (P:List α):∀(n:Nat) (A B:List α) (u:α),A.length=n->(∀y∈A,cmp u y=some (c u y))->P.length+A.length<=1000000 -> ∃j i q,A=j++i/\Ak (K9 cmp ((P.length:Nat):Int)) (((P.length+A.length:Nat):Int),P++(A++u::B))=some (q,P++(j++u::(i++B)))/\(∀a∈i,c u a<0)/\∀x y,j=x++[y]->¬c u y<0:=by
 intro n;induction n with
 | zero=>intro A B u k _ _;rw[F9.1 k];refine⟨[],[],_,rfl,F5 (e:=(((P.length:Nat):Int),P++u::B)) ?_,(λa h=>by cases h),λx y h=>by simp at h⟩;unfold K9;simp only[length_nil,Nat.add_zero,Ax (show ¬((P.length:Nat):Int)>((P.length:Nat):Int) by omega),Av,Ag];rfl
 | succ n ih=>
  intro A B u k r G;rcases eq_nil_or_concat A with rfl|⟨b,y,h⟩
  .cases k
  .have h:A=b++[y]:=(by simpa using h);subst h;rw[Ew,length_singleton]at k G;have o:=A0a (c:=c) (a0:=((P.length:Nat):Int)) (P++b) B u y (by rw[Ew];omega) (r y ψ) (by rw[Ew];omega);have E:P++b++y::u::B=P++(b++[y]++u::B):=ψ;have D:(P++b).length+1=P.length+(b++[y]).length:=(by rw[Ew,Ew,length_singleton];omega);rw[E,D]at o;by_cases f:c u y<0
   .rw[Bc f]at o;obtain⟨j,i,q,M,L,J,I⟩:=ih b (y::B) u ω (λz s=>r z (by simp[s])) ω;refine⟨j,i++[y],q,by rw[M,append_assoc],?_,λa p=>?_,I⟩
    .rw[Kr o,Ew,show P++b++u::y::B=P++(b++u::y::B) by simp,L];simp
    .rcases Fi.1 p with p|p
     .exact J a p
     .rw[Fx.1 p];exact f
   .rw[Bb f]at o;refine⟨b++[y],[],((P.length+(b++[y]).length:Nat):Int),ψ,(F5 o).trans ψ,(λa h=>by cases h),λx z s=>?_⟩;have:=(append_inj' s rfl).2;cases this;exact f
theorem App (A:vars.length<=8) (s:vars.zipIdx.all (pV x vars)=true->∃r,J (.inr ())=some r/\Q r) (y:vars.zipIdx.all (pV x vars)=false->∃r,J (.inl ([],8))=some r/\Q r) : ∃r,(Ak (S:=Int) (E:=((List Aq×Int)⊕Unit)) (λe=> bif e<(vars.length:Int) then ((Af vars e).bind λf=> (Nc x f).bind λp=> bif (!p.2) then (some (.inr (.inl ([],8)))) else (bif e>(0:Int) then ((Af vars (Ac (e-1))).bind λc=> bif c>=f then (some (.inr (.inl ([],8)))) else (some (.inl (Ac (e+1))))) else (some (.inl (Ac (e+1)))))) else (some (.inr (.inr ())))) 0).bind J=some r/\Q r:=by
 refine Aat vars (pV x vars) ([],8) ω (λj v D z q h B C=>?_) (λh=>by simp only[h];rfl) s y;simp only[h,B,C,Am,Ag,Z9];unfold pV;cases i:Ek x.V x.E v with
 | none=>simp only[i];rfl
 | some t=>
  simp only[i,Dn,Av,Option.isSome_some,Bool.true_and];rcases Tu j with rfl|⟨k,rfl⟩
  .rw[Apj,Bc rfl,Ax (show ¬((0:Nat):Int)>0 by omega)];rfl
  .have o:vars[k]? = some (vars[k]' ω):=Cs _;generalize vars[k]'_=u at o;rw[Agi o,Ap (show ((k+1:Nat):Int)>0 by omega),show Ac (((k+1:Nat):Int)-1)=(k:Int) by rw[Ac,B6] <;> omega,Cp rfl o];simp only[Am,Ag];by_cases b:u<v
   .rw[Ax (show ¬u>=v by omega),Ap b,Bc rfl];rfl
   .rw[Ap (show u>=v by omega),Ax b];rfl
theorem Apq {b:List Cm} (D:b.length<=6) (f:∀l∈b,l.T.length<=1048576) (z:b.zipIdx.all (pF x b)=true->∃r,J (.inr ())=some r/\Q r) (A:b.zipIdx.all (pF x b)=false->∃r,J (.inl ([],8))=some r/\Q r) : ∃r,(Ak (S:=Int) (E:=((List Aq×Int)⊕Unit)) (λe=> bif e<(b.length:Int) then ((Af b e).bind λc=> (Rz c).bind λo=> bif (!o) then (some (.inr (.inl ([],8)))) else (bif ((c.T.length:Int)==(0:Int)) then (some (.inr (.inl ([],8)))) else ((R1 x c).bind λp=> bif (!p) then (some (.inr (.inl ([],8)))) else (bif e>(0:Int) then ((Af b (Ac (e-1))).bind λt=> (Pr t c).bind λC=> bif C>=(0:Int) then (some (.inr (.inl ([],8)))) else (some (.inl (Ac (e+1))))) else (some (.inl (Ac (e+1)))))))) else (some (.inr (.inr ())))) 0).bind J=some r/\Q r:=by
 refine Aat b (pF x b) ([],8) ω (λj l L y q F I K=>?_) (λF=>by simp only[F];rfl) z A;have i:=f l (B4 y);simp only[F,I,K,Am,Ag,Axd];unfold pF;simp only;cases Ih l with
 | false=>rfl
 | true=>
  simp only[Dn,Av,Bool.true_and];by_cases G:l.T.length=0
  .rw[E5 (show (l.T.length:Int)=0 by omega),G];rfl
  .rw[Da (show (l.T.length:Int)≠0 by omega)];have B:(!(l.T.length==0))=true:=(by simp[G]);rw[B];simp only[Av,Axe x l i,Ag,Bool.true_and];cases Hv x.V x.E l with
   | false=>rfl
   | true=>
    simp only[Dn,Av,Bool.true_and];rcases Tu j with rfl|⟨k,rfl⟩
    .rw[Ax (show ¬((0:Nat):Int)>0 by omega)];rfl
    .have h:b[k]? = some (b[k]' ω):=Cs _;generalize b[k]'_=u at h;have s:=f u (B4 h);rw[Agj h,Ap (show ((k+1:Nat):Int)>0 by omega),show Ac (((k+1:Nat):Int)-1)=(k:Int) by rw[Ac,B6] <;> omega,Cp rfl h];simp only[Am,Ag,Amr u l ω];by_cases H:Hf u l<0
     .rw[Ax (show ¬Hf u l>=0 by omega),Ap H,Bc rfl];rfl
     .rw[Ap (show Hf u l>=0 by omega),Ax H];rfl
theorem A0c {a b:Int} (h:a<b):D9 a b<0:=by unfold D9;rw[Bc h];decide
theorem A0d {n:Aq} (h:Ch x m<Ch x n):Kj x m n<0:=by unfold Kj Dw;have:=A0c h;rw[Bb ω];exact this
theorem A0e {n:Aq} (h:Ch x m=Ch x n):Kj x m n=H3 m n:=by unfold Kj Dw;rw[Bc (Ge.2 h)]
theorem A0f (l:List α) (f:α->Int) (k:Nat):(l.filter (λa=>decide (f a<(k:Int)))++l.filter λa=>decide (f a=(k:Int))).Perm (l.filter λa=>decide (f a<((k+1:Nat):Int))):=by
 induction l with
 | nil=>exact Perm.refl _
 | cons a l ih=>
  rcases Int.lt_trichotomy (f a) k with h|h|h
  .rw[filter_cons_of_pos (by simpa using h),filter_cons_of_neg ζ,filter_cons_of_pos ζ,G2];exact ih.cons a
  .rw[filter_cons_of_neg ζ,filter_cons_of_pos (by simpa using h),filter_cons_of_pos ζ];exact perm_middle.trans (ih.cons a)
  .rw[filter_cons_of_neg ζ,filter_cons_of_neg ζ,filter_cons_of_neg ζ];exact ih
theorem A0g (hd:d<=6) (D:∀m∈i,MOk x d m) (ad:i.length<=1000) (hn:i.Nodup) {J:List Aq->Option R} (hJ:∀T:List Aq,T.Perm i->(T.Pairwise λm n=>Kj x m n<0)->∃r,J T=some r/\Q r) : ∃r,(Ak (S:=(Int×List Aq)) (E:=(List Aq)) (λ(A,B)=> bif A<=(d:Int) then ((Ak (S:=(Int×List Aq)) (E:=(Int×List Aq)) (λ(u,z)=> bif u<((i.map (ptR x)).length:Int) then ((Af (i.map (ptR x)) u).bind λM=> bif (M.d != A) then (some (.inl ((Ac (u+1)),z))) else ((R2 M.m).bind λa6=> (Bl 48 z [a6]).bind λaa=> (Ak (S:=(Int×List Aq)) (E:=(Int×List Aq)) (λ(f,q)=> (show OB from bif f>((B.length:Nat):Int) then ((Af q f).bind λa1=> (Af q (Ac (f-1))).bind λZ=> (Nf a1 Z).bind λY=> some (decide (Y<(0:Int)))) else (some false)).bind λX=> bif X then ((Af q (Ac (f-1))).bind λL=> (Af q f).bind λV=> (Af q f).bind λaj=> (Af (Bk q f L) (Ac (f-1))).bind λai=> some (.inl ((Ac (f-1)),(Bk (Bk q f L) (Ac (f-1)) V)))) else (some (.inr (f,q)))) (((z.length:Nat):Int),aa)).bind λ(ah,a8)=> some (.inl ((Ac (u+1)),a8)))) else (some (.inr (u,z)))) (0,B)).bind λ(ag,a7)=> some (.inl ((Ac (A+1)),a7))) else (some (.inr B))) (0,[])).bind J=some r/\Q r:=by
 have O:∀m∈i,0<=Ch x m/\Ch x m<=d:=λm o=>⟨Int.le_trans ω (D m o).nf,(D m o).dg⟩;refine La (d+1) (λk C=>∃T:List Aq,C=((k:Int),T)/\T.Perm (i.filter λm=>decide (Ch x m<(k:Int)))/\T.Pairwise λm n=>¬Kj x n m<0) Q ⟨[],rfl,?_,Pairwise.nil⟩ ?_ ?_
 .rw[filter_eq_nil_iff.2 λm o=>by have:=(O m o).1;simp;omega]
 .rintro k _ hk ⟨T,rfl,p,F⟩;have ak:T.length<=1000:=(by rw[p.length_eq];exact Nat.le_trans (length_filter_le _ _) ad);have ae:∀m∈T,m∈i/\Ch x m<(k:Int):=λm o=>by have:=p.subset o;rw[mem_filter,E8]at this;exact this
  simp only[Ap (show (k:Int)<=(d:Int) by omega),Am];refine Gb i (λj C=>∃S:List Aq,C=((j:Int),T++S)/\S.Perm ((i.take j).filter λm=>decide (Ch x m=(k:Int)))/\S.Pairwise λm n=>¬H3 n m<0) _ ⟨[],ψ,Perm.refl _,Pairwise.nil⟩ ω ?_ ?_
  .rintro j m _ hj o H h2 h3 ⟨S,rfl,N,t⟩;have ab:=B4 o;have am:S.length<=1000:=(by rw[N.length_eq];refine Nat.le_trans (length_filter_le _ _) ?_;rw[length_take];omega);have I:∀s∈S,s∈i:=λs hs=>mem_of_mem_take (mem_filter.1 (N.subset hs)).1;have ac:(i.map (ptR x))[j]? = some (ptR x m):=(by rw[getElem?_map,o];rfl);rw[Er];simp only[H,Am,Cp rfl ac,Ag];by_cases G:Ch x m=(k:Int)
   .rw[D3 (show (ptR x m).d=(k:Int) from G)];simp only[Av];rw[show (ptR x m).m=m from rfl,Ayy m (D m ab).sz,Ag,Cy (by rw[Ew,length_singleton];omega),Ag];obtain⟨A1,A2,n',e1,e2,e3,e4⟩:=A0b (cmp:=Nf) (c:=H3) T S.length S [] m rfl (λy hy=>Axb m y (D m ab).sz) ω;have af:Ak (K9 Nf ((T.length:Nat):Int)) ((((T++S).length:Nat):Int),T++S++[m])=some (n',T++(A1++m::A2)):=(by rw[Ew,append_assoc];rw[append_nil]at e2;exact e2);have U:∀{β:Type} (K:Int×List Aq->Option β),((Ak (K9 Nf ((T.length:Nat):Int)) ((((T++S).length:Nat):Int),T++S++[m])).bind K)=K (n',T++(A1++m::A2)):=λK=>by rw[af];rfl
    refine⟨_,(U _).trans rfl,.inl ⟨_,rfl,A1++m::A2,by rw[h3],?_,?_⟩⟩
    .rw[C5 o,filter_append,filter_cons_of_pos (by simpa using G),filter_nil];refine perm_middle.trans ?_;rw[<-e1];exact (perm_append_singleton m S).symm.trans (N.append_right _)
    .exact Aoa Aag.lawC (by rw[<-e1];exact t) e3 e4
   .rw[D2 (show (ptR x m).d≠(k:Int) from G)];refine⟨_,rfl,.inl ⟨_,rfl,S,by rw[h3],?_,t⟩⟩;rw[C5 o,filter_append,filter_cons_of_neg (by simpa using G),filter_nil,append_nil];exact N
  .rintro H _ ⟨S,rfl,N,t⟩;rw[Dr]at N;have I:∀s∈S,s∈i/\Ch x s=(k:Int):=λs hs=>by have:=N.subset hs;rw[mem_filter,E8]at this;exact this
   rw[Er];refine⟨_,by simp only[H];rfl,_,rfl,.inl ⟨_,rfl,T++S,by rw[Kh ω],(p.append N).trans (A0f i (Ch x) k),?_⟩⟩;refine pairwise_append.2 ⟨F,?_,λa ha b hb h=>?_⟩
   .refine Pairwise.imp_of_mem (λ{a b} ha hb h=>?_) t;rw[A0e ((I b hb).2.trans (I a ha).2.symm)];exact h
   .have h2:=A0d (x:=x) (m:=a) (n:=b) (by rw[(I b hb).2];exact (ae a ha).2);exact (Tt x).lawC.irr a ((Tt x).trans a b a trivial trivial trivial h2 h)
 .rintro _ ⟨T,rfl,p,F⟩;have e:i.filter (λm=>decide (Ch x m<((d+1:Nat):Int)))=i:=filter_eq_self.2 λm o=>by have:=(O m o).2;simp;omega
  rw[e]at p;exact⟨_,by simp only[Ax (show ¬((d+1:Nat):Int)<=(d:Int) by omega)];rfl,hJ T p ((Tt x).strict p hn F)⟩
theorem Agq (G:CSz x) (o:H9 x) (e:d<=6) (J:vars.length<=8) (L:c.length<=6) (z:∀l∈c,l.T.length<=1048576) (y:vars.zipIdx.all (pV x vars)=true/\c.zipIdx.all (pF x c)=true->∀w,Gf x d (vars.map (stV x d)++c.map (stF d)) [Fz]=some w->w.Nodup) : ∃r,M8 x vars c (d:Int)=some r /\ ((¬(vars.zipIdx.all (pV x vars)=true/\c.zipIdx.all (pF x c)=true)/\r=([],8)) \/ ((vars.zipIdx.all (pV x vars)=true/\c.zipIdx.all (pF x c)=true) /\ ((Gf x d (vars.map (stV x d)++c.map (stF d)) [Fz]=none/\r=([],9)) \/ ∃all S,Gf x d (vars.map (stV x d)++c.map (stF d)) [Fz]=some all/\r=(S,0)/\S.Perm all/\S.Pairwise λm n=>Kj x m n<0))):=by obtain⟨b,R,O⟩:=Afm x G;have p:b=true:=O.2 o;subst p;unfold M8;rw[R];simp only[Ag,Dn,Av];refine App J (λs=>?_) λE=>⟨_,rfl,.inl ⟨(λh=>by rw[E]at h;cases h.1),rfl⟩⟩;dsimp only;refine Apq L z (λf=>?_) λE=>⟨_,rfl,.inl ⟨(λh=>by rw[E]at h;cases h.2),rfl⟩⟩;obtain⟨M,C⟩:=Apl s;obtain⟨f1,f2⟩:=Apm f;simp only[Ax (show ¬(d:Int)<0 by omega),Ax (show ¬(d:Int)>6 by omega),Av,Ag];refine Az7 G o e M J (λD=>⟨_,rfl,.inr ⟨⟨s,f⟩,.inl ⟨by rw[Ts,D];rfl,rfl⟩⟩⟩) λall I u A=>?_;dsimp only;refine Az9 e f1 L u A (λD=>⟨_,rfl,.inr ⟨⟨s,f⟩,.inl ⟨by rw[Ts,I];exact D,rfl⟩⟩⟩) λj B k q=>?_;dsimp only;have i:Gf x d (vars.map (stV x d)++c.map (stF d)) [Fz]=some j:=(by rw[Ts,I];exact B);exact A0g e k q (y ⟨s,f⟩ _ i) λT t N=>⟨_,rfl,.inr ⟨⟨s,f⟩,.inr ⟨j,T,i,rfl,t,N⟩⟩⟩
theorem A0h (i:CSz x) (B:vars.length<=8) (D:c.length<=6) (f:∀l∈c,l.T.length<=1048576) (d:Int) : ∃S e,M7 x vars c d=some (S,e)/\M8 x vars c d=some (S,e)/\S.length<=1000/\∀m∈S,MSz m:=by
 by_cases F:H9 x
 .by_cases hd:0<=d/\d<=6
  .obtain⟨n,rfl⟩:∃n:Nat,d=n:=⟨d.toNat,ω⟩;have s:n<=6:=ω;obtain⟨r,G,U⟩:=Az5 i F s B D f;rcases U with⟨t,rfl⟩|⟨y,h⟩
   .obtain⟨q,z,⟨_,rfl⟩|⟨y,_⟩⟩:=Agq i F s B D f (λy=>(t y).elim)
    .exact⟨_,_,G,z,ψ,λm C=>by cases C⟩
    .exact (t y).elim
   .rcases Apg x n (vars.map (stV x n)++c.map (stF n)) [Fz] [Fz] (Perm.refl _) with⟨E,k⟩|⟨w,w',E,k,N⟩
    .obtain⟨q,z,K⟩:=Agq i F s B D f (λ_ u o=>by rw[k]at o;cases o);rcases K with⟨t,_⟩|⟨_,⟨_,rfl⟩|⟨u,_,o,_⟩⟩
     .exact (t y).elim
     .rcases h with⟨_,rfl⟩|⟨u,_,o,_⟩
      .exact⟨_,_,G,z,ψ,λm C=>by cases C⟩
      .rw[E]at o;cases o
     .rw[k]at o;cases o
    .rcases h with⟨A,_⟩|⟨u,S,o,j,rfl,I,R⟩
     .rw[E]at A;cases A
     .rw[E]at o;cases o;obtain⟨q,z,K⟩:=Agq i F s B D f (λ_ u o=>by rw[k]at o;cases o;exact N.nodup_iff.1 j.nd);rcases K with⟨t,_⟩|⟨_,⟨A,_⟩|⟨u,T,o,rfl,pT,O⟩⟩
      .exact (t y).elim
      .rw[k]at A;cases A
      .rw[k]at o;cases o;have e:S=T:=(Tt x).uniq (I.trans (N.trans pT.symm)) R O;subst e;exact⟨S,0,G,z,by rw[I.length_eq];exact j.len,λm C=>(j.ok m (I.subset C)).sz⟩
  .obtain⟨V,M,⟨_,b',rfl,t⟩|⟨s,_⟩⟩:=Afx x i [] (λp hp=>by cases hp) ψ
   rotate_left
   .exact absurd ⟨F,λp hp=>by cases hp⟩ s
   have Z:M7 x vars c d=some ([],8):=by
    unfold M7;rw[M];simp only[Ag,Dn,Av];by_cases H:d<0
    .rw[Ap H];rfl
    .rw[Ax H,Ap (show d>6 by omega)];rfl
   have Y:∃r,M8 x vars c d=some r/\r=([],8):=by
    obtain⟨b,J,L⟩:=Afm x i;have t:b=true:=L.2 F;subst t;unfold M8;rw[J];simp only[Ag,Dn,Av];refine App B (λhT=>?_) λhF=>⟨_,rfl,rfl⟩;dsimp only;refine Apq D f (λX=>?_) λhF=>⟨_,rfl,rfl⟩;dsimp only;by_cases H:d<0
    .rw[Ap H];exact⟨_,rfl,rfl⟩
    .rw[Ax H,Ap (show d>6 by omega)];exact⟨_,rfl,rfl⟩
   obtain⟨r,h1,rfl⟩:=Y;exact⟨_,_,Z,h1,ψ,λm C=>by cases C⟩
 .obtain⟨V,M,⟨hy,_⟩|⟨_,rfl⟩⟩:=Afx x i [] (λp hp=>by cases hp) ψ
  .exact (F hy.1).elim
  obtain⟨b,J,L⟩:=Afm x i;have t:b=false:=(by cases b with| false=>rfl| true=>exact (F (L.1 rfl)).elim);subst t;refine⟨[],1,?_,?_,ψ,λm C=>by cases C⟩
  .unfold M7;rw[M];rfl
  .unfold M8;rw[J];rfl
theorem A0i (x:B0) (vars:List Int) (c:List Cm) (d:Int) (q:CSz x) (i:∀l∈c,l.T.length<=1048576):Uj x vars c d=some true:=by
 obtain⟨b,C,_⟩:=Ay2 x q [] ψ (λp hp=>by cases hp);have o:∃r,Uj x vars c d=some r/\r=true:=by
  unfold Uj;rw[C];cases b with
  | false=>exact⟨_,rfl,rfl⟩
  | true=>
  simp only[Ag,Dn,Av];by_cases z:vars.length<=8
  .rw[Ax (show ¬(vars.length:Int)>8 by omega)];simp only[Av,Ag];by_cases A:c.length<=6
   .rw[Ax (show ¬(c.length:Int)>6 by omega)];simp only[Av];refine Gb c (λj f=>f=(j:Int)) _ rfl ω ?_ ?_
    .rintro j l _ E D h F G rfl;obtain⟨k,H⟩:∃k,Rx l=some k:=⟨_,rfl⟩;simp only[h,F,G,Am,Ag,H];cases k with| false=>exact⟨_,rfl,.inr ⟨_,rfl,_,rfl,rfl⟩⟩| true=>exact⟨_,rfl,.inl ⟨_,rfl,rfl⟩⟩
    .rintro h _ rfl;refine⟨_,by simp only[h];rfl,?_⟩;dsimp only;obtain⟨S,e,y,u,B,s⟩:=A0h q z A i d;rw[y,u];simp only[Ag];rw[D3 (rfl:e=e),D3 (rfl:(S.length:Int)=(S.length:Int))];simp only[Av,Ag];refine Gb S (λj f=>f=(j:Int)) _ rfl ω ?_ ?_
     .rintro j m _ E I t K L rfl;simp only[t,K,L,Am,Ag,Ay5 m (s m (B4 I))];exact⟨_,rfl,.inl ⟨_,rfl,rfl⟩⟩
     .rintro t _ rfl;refine⟨_,by simp only[t];rfl,?_⟩;dsimp only;rw[Ayt];exact⟨_,rfl,rfl⟩
   .rw[Ap (show (c.length:Int)>6 by omega)];exact⟨_,rfl,rfl⟩
  .rw[Ap (show (vars.length:Int)>8 by omega)];exact⟨_,rfl,rfl⟩
 obtain⟨r,h,rfl⟩:=o;exact h
end Go.Ab
