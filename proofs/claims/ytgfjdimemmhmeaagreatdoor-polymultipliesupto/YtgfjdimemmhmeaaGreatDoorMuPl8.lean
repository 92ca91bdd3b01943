/- Plain laws. -/
import Derived.Test.YtgfjdimemmhmeaaGreatDoorMuPl7
open List
namespace Go.Ab
open Go
variable{x:Bh}{p:Ap}
theorem Bf6(R:Ap)(h:R.length<=1000000):Yg R=some (lim R):=by unfold Yg;by_cases e:1000<R.length;rw[An ω,Ak,Apw e];rw[Au ω,Al,Apv ω]
noncomputable def Aao(x:Bh)(p q:Ap):Nat×Int×List Aj->Do:=λ(a,b,f)=>bif b<(q.length:Int)then((Ag q b).bind λc=>(Yf x p c.M).bind λh=>(Am (Ae6 h c.C) (a,0,f)).bind λ(g,d,i)=>some (.inl (g,Aa (b+1),i)))else(some (.inr (a,f)))
theorem A0i(hz:CSz x)(hf:I1 x){q:Ap}(hp:GP x 10 8 40 p)(v:GP x 10 8 40 q)(J:Ta x p=some true)(I:Ta x q=some true):(U5 x p q/\Qa x p q=some ([],13))\/(¬U5 x p q/\∃R,Qa x p q=some (lim R)/\CP R/\(∀t∈R,Fm x t.M)/\∀χ u,(∀P,Kp x.D x.V x.E χ P)->Ch χ u R=Ch χ u p*Ch χ u q):=by
 have c:=hf.ctx hz;obtain⟨T1,t1,t2,t3,t4,t5⟩:=Az9 c hp.mo (by have:=hp.len;omega);obtain⟨T2,M,u2,u3,L,u5⟩:=Az9 c v.mo (by have:=v.len;omega);have wT:Aa (T1+T2)=T1+T2:=by rw[Aa,Bz]<;>omega
 have B:=hp.len;have a1:=v.len;have E:KT 8=181:=rfl;have w:¬U5 x p q->∃n o,Am (Aao x p q) (0,0,[])=some (n,o)/\n<=o.length/\CP (o.take n)/\o.length<=72900/\(∀t∈o.take n,Fm x t.M)/\∀χ u,(∀P,Kp x.D x.V x.E χ P)->Ch χ u (o.take n)=Ch χ u p*Ch χ u q:=λD=>by
  obtain⟨i,⟨n,o,N,rfl,V,q2,q3,q4,U⟩,e⟩:=Ov (step:=Aao x p q) (λj i=>∃n o N,i=(n,(j:Int),o)/\PSt (N*200) n o/\o.length<=N/\N<=j*7290/\(∀t∈o.take n,Fm x t.M)/\∀χ u,(∀P,Kp x.D x.V x.E χ P)->Ch χ u (o.take n)=Ch χ u p*Ch χ u (q.take j)) q.length (λj i hj ⟨n,o,N,A,b1,b2,b3,b4,b5⟩=>by
   subst A;have H:q[j]?=some (q[j]'hj):=Bi _;generalize q[j]'hj=t at H;have b:=Bm H;obtain⟨S,s1,s,s3,s4⟩:=Bfk hz hf (k:=8) (Z:=40) δ hp.cp (λt a=>⟨hp.mo t a,hp.sz t a⟩) hp.rb B (m:=t.M) ⟨v.mo t b,v.sz t b⟩ (λu d=>by
    by_cases h:D2 x u.M+D2 x t.M<=6
    .exact h
    .exact (D ⟨u,d,t,b,ω⟩).elim) δ
   obtain⟨n',o',e1,e2,e3,e4,e5⟩:=Bfn (k:=181) (l:=8) (G:=200) δ δ (Q:=Fm x) (S:=S) (λu d=>⟨by rw[<-E];exact(s u d).2,(s u d).1.1.2,(s u d).1.1⟩) δ δ (v.rb t b) b1 b2 ω b4;have wj:Aa ((j:Int)+1)=((j+1:Nat):Int):=ξ;refine⟨(n',((j+1:Nat):Int),o'),?_,n',o',N+S.length,rfl,e2,e3,ω,e4,λχ u hχ=>?_⟩
   .unfold Aao;dsimp only;rw[An ω,Ak,Bq rfl H,Ac,s1,Ac];refine Ff e1 ?_;dsimp only;rw[wj]
   .rw[e5,b5 χ u hχ,s4 χ u hχ,Cs H,Aj8];grind) (s0:=(0,0,[])) ⟨0,[],0,rfl,⟨Nat.le_refl _,CP.nil,λt a=>by cases a⟩,Nat.le_refl _,ω,(λt a=>by cases a),λχ u _=>by show(0:Rat)=_*0;grind⟩;rw[Dh]at U;refine⟨n,o,e.trans (Ej ?_),V.le,V.cp,ω,q4,U⟩;unfold Aao;dsimp only;rw[Au ω,Al]
 (have fin:∀{n:Nat}{o:Ap},Am (Aao x p q) (0,0,[])=some (n,o)->n<=o.length->o.length<=72900->((Am (Aao x p q) (0,0,[])).bind λ(K,z)=>(Kg z K).bind λy=>(Yg y).bind λf=>some (f.1,f.2))=some (lim (o.take n)):=λ{n o} W C h3=>by rw[W,Ac];dsimp only;rw[Ap1 C,Ac,Bf6 _ (by rw[length_take];omega)];rfl);(have F:∀{r:Ap}{T:Int},r.length≠0->(∀t∈r,Fm x t.M)->(∀t∈r,D2 x t.M<=T)->(T=0\/∃t∈r,D2 x t.M=T)->∃t∈r,D2 x t.M=T:=λ{r T} h0 hc W C=>by rcases C with rfl|C;(cases r with|nil=>exact(h0 rfl).elim|cons t r=>have k1:=W t ψ;have k2:=Aps (hc t ψ);exact⟨t,ψ,ω⟩);exact C);by_cases g:U5 x p q;refine .inl ⟨g,?_⟩;obtain⟨t,a,u,d,h⟩:=g;have k1:=t4 t a;have k2:=L u d;have Y:0<p.length:=List.length_pos_of_mem a;have X:0<q.length:=List.length_pos_of_mem d;unfold Qa;rw[J,Ac,I,Ac,An ω,An ω,t1,Ac,M,Ac,wT,An ω];rfl;refine .inr ⟨g,?_⟩;obtain⟨n,o,l1,l2,l3,l4,l5,l6⟩:=w g;refine⟨o.take n,?_,l3,l5,l6⟩;unfold Qa;rw[J,Ac,I,Ac];simp only[Fc,Al,Ac];(have hg:(bif decide ((p.length:Int)>0)then(bif decide ((q.length:Int)>0)then((Tb x p).bind λv5=>(Tb x q).bind λv6=>some (decide (Aa (v5+v6)>6)))else some false)else some false)=some false:=by by_cases Y:p.length=0;rw[Au ω];rfl;by_cases X:q.length=0;rw[An ω,Au ω];rfl;obtain⟨t,a,k1⟩:=F Y hp.mo t4 t5;obtain⟨u,d,k2⟩:=F X v.mo L u5;rw[An ω,An ω,Ak,Ak,t1,Ac,M,Ac,wT,Au λh=>g ⟨t,a,u,d,ω⟩]);refine Ff hg ?_;rw[Al];exact fin l1 l2 l4
theorem A0j{t:Aj}(h:TSz t)(b:Sq t):RB 8 t.C:=⟨h.co.num,h.co.den,b.1,b.2.1⟩
theorem GP.of(c:I1 x/\K1 x.D x.V x.E p=true)(hp:∀t∈p,TSz t)(b:∀t∈p,Sq t)(f:p.length<=4):GP x 4 8 40 p:=by have hc:Kd x p:=⟨c.2,hp⟩;exact⟨hc.cp,hc.mo,λt a=>(b t a).2.2,λt a=>A0j (hp t a) (b t a),f⟩
theorem A0k(c:I1 x/\K1 x.D x.V x.E p=true)(hp:∀t∈p,TSz t)(b:∀t∈p,Sq t)(f:p.length<=10):GP x 10 8 40 p:=by have d:Kd x p:=⟨c.2,hp⟩;exact⟨d.cp,d.mo,λt a=>(b t a).2.2,λt a=>A0j (hp t a) (b t a),f⟩
theorem Bf7(x:Bh)(p q:Ap)(c:CSz x)(N:p.length<=1048576)(hp:∀t∈p,TSz t)(M:q.length<=1048576)(n:∀t∈q,TSz t):Agd x p q=some true:=by
 unfold Agd;obtain⟨b,W,m⟩:=Bf4 x c [p,q] ψ (λs A=>by
  simp only[En,not_mem_nil,or_false]at A;rcases A with rfl|rfl
  .exact⟨N,hp⟩
  .exact⟨M,n⟩);rw[W,Ac];cases b with
 |false=>rfl
 |true=>
  have m:=m rfl;obtain⟨V,J⟩:=m p ψ;obtain⟨U,I⟩:=m q ψ;simp only[Fc,Al];have fin:∀(R:Ap)(e:Int),N6 x p q=some (R,e)->Qa x p q=some (R,e)->Qb R R=some true->((N6 x p q).bind λC=>(Qa x p q).bind λF=>bif(C.2==F.2)then((Qb C.1 F.1).bind λv5=>bif v5 then((Aba).bind λG=>some G)else(some false))else(some false))=some true:=λR e a d h3=>by rw[a,Ac,d,Ac];dsimp only;rw[Ew rfl,Ak,h3,Ac,Ak,Ba3];rfl
  obtain⟨z,j,o⟩:=Awp x c p hp;obtain⟨H,i,K⟩:=Awp x c q n;by_cases y:z=true/\H=true
  .obtain⟨rfl,rfl⟩:=y;have w:I1 x:=(o.1 rfl).1;have P:=A0k (o.1 rfl) hp J V;have Q:=A0k (K.1 rfl) n I U;rcases Bf5 c w P Q δ δ δ δ δ δ with⟨u,a⟩|⟨u,R,g,k,L⟩
   .rcases A0i c w P Q j i with⟨_,d⟩|⟨l,_⟩
    .exact fin _ _ a d Ao1
    .exact (l u).elim
   .rcases A0i c w P Q j i with⟨l,_⟩|⟨_,S,f,E,D,B⟩
    .exact (u l).elim
    .have e:S=R:=Bfy E k.cp D k.mo λχ v a d=>by rw[B χ v a,L χ v a d]
     subst e;by_cases Y:1000<S.length
     .rw[Apw Y]at g f;exact fin _ _ g f Ao1
     .rw[Apv ω]at g f;exact fin _ _ g f (k.same ω δ)
  .have X:N6 x p q=some ([],1):=by
    have he:=Bbk c (ps:=[p,q]) (λr T=>by simp only[En,not_mem_nil,or_false]at T;rcases T with rfl|rfl<;>assumption) ψ (λh=>y ⟨o.2 ⟨h.1,h.2 p ψ⟩,K.2 ⟨h.1,h.2 q ψ⟩⟩)
    unfold N6;rw[he];rfl
   refine fin _ _ X ?_ Ao1;unfold Qa;rw[j,Ac];cases z with
   |false=>rfl
   |true=>rw[i];cases H with|false=>rfl|true=>exact(y ⟨rfl,rfl⟩).elim
end Go.Ab
