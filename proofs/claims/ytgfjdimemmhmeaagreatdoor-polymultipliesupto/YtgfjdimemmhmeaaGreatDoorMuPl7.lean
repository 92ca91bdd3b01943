/- Plain laws. -/
import Derived.Test.YtgfjdimemmhmeaaGreatDoorMuPl5
import Derived.Test.YtgfjdimemmhmeaaGreatDoorMuPl6
open List
namespace Go.Ab
open Go
structure He where
 gn:Int
 gk:List He
def noV:He:=.mk 0 []
mutual
def gv(Δ:List Ao):Af->Ah->He->Nat
 |⟨n,e⟩,t,w=>if t.G=6 then gvs Δ e t.R w.gk else if t.G=7 then bc w.gk.length n.toNat else if t.G=5 then eS (gws Δ e t) w.gk else 1
def gvs(Δ:List Ao):List Af->List Ah->List He->Nat
 |i::is,t::ts,e=>gv Δ i t (e.headD noV)*gvs Δ is ts e.tail
 |[],_,_=>1
 |_::_,[],_=>1
def gws(Δ:List Ao):List Af->Ah->List (He->Nat)
 |[],_=>[]
 |⟨n,e⟩::g,t=>(λx=>if x.gn=n then gvs Δ e (Mq Δ t n) x.gk else 0)::gws Δ g t
end
variable{m:A4}{w w':A4->Nat}{i:Af}{t:Ah}{s:Aj}{x:Bh}{l:Bp}{d v:Int}{C:Ds}{S p q:Ap}{Δ:Ad}{F:Ba}{A K N Z' a b j k n:Nat}{E α β:Type}
theorem Oz(Δ:Ad)(i:Af)(t:Ah)(w:He):gv Δ i t w=if t.G=6 then gvs Δ i.K t.R w.gk else if t.G=7 then bc w.gk.length i.U.toNat else if t.G=5 then eS (gws Δ i.K t) w.gk else 1:=by cases i;simp only[gv]
theorem Aaj(Δ:Ad)(i:Af)(is:A2)(t:Ah)(ts:A1)(b:Λ He):gvs Δ (i::is) (t::ts) b=gv Δ i t (b.headD noV)*gvs Δ is ts b.tail:=by simp only[gvs]
theorem Aj6(Δ:Ad)(ts:A1)(b:Λ He):gvs Δ [] ts b=1:=by simp only[gvs]
def gOf(Δ:Ad)(t:Ah)(e:Af)(x:He):Nat:=if x.gn=e.U then gvs Δ e.K (Mq Δ t e.U) x.gk else 0
theorem Xq(Δ:Ad)(t:Ah):∀e:A2,gws Δ e t=e.map (gOf Δ t)
 |[]=>by simp only[gws,map_nil]
 |⟨n,b⟩::e=>by simp only[gws,Xq Δ t e,map_cons];rfl
theorem Azw{g:Ah->Af->Af->A0}(u:∀t i j w a b,Br i<=k->C7 Δ i t=some a->C7 Δ j t=some b->pv (λx=>gv Δ x t w) (g t i j)=gv Δ i t w*gv Δ j t w):∀(ts:A1)(is f:A2)(c:Λ He)(q l:Nat),Bv is<=k->Cg Δ is ts=some q->Cg Δ f ts=some l->pv (λr=>gvs Δ r ts c) (D3 g ts is f)=gvs Δ is ts c*gvs Δ f ts c:=by intro ts;induction ts with|nil=>(intro is f c q l _ e o;cases is with|cons i is=>simp only[Cg]at e;cases e|nil=>cases f with|cons j f=>simp only[Cg]at o;cases o|nil=>simp only[D3,pv,Aj6])|cons t ts ih=>intro is f c q l s e o;cases is with|nil=>simp only[Cg]at e;cases e|cons i is=>cases f with|nil=>simp only[Cg]at o;cases o|cons j f=>simp only[Bv]at s;rw[Mn]at e o;cases D:C7 Δ i t with|none=>rw[D]at e;cases e|some a=>cases H:Cg Δ is ts with|none=>rw[D,H]at e;cases e|some B=>cases G:C7 Δ j t with|none=>rw[G]at o;cases o|some b=>cases I:Cg Δ f ts with|none=>rw[G,I]at o;cases o|some A=>have z:=u t i j (c.headD noV) a b ω D G;have y:=ih is f c.tail B A ω H I;show pv (λr=>gvs Δ r (t::ts) c) ((g t i j).flatMap λw=>E9 w.1 w.2 (D3 g ts is f))=_;rw[Si (h:=λx=>pv (λr=>gvs Δ r ts c.tail) (D3 g ts is f)*gv Δ x t (c.headD noV)) (hg:=λp _=>by rw[Xm];have:(λr=>gvs Δ (p.1::r) (t::ts) c)=λr=>gv Δ p.1 t (c.headD noV)*gvs Δ r ts c.tail:=(by funext r;rw[Aaj]);rw[this,Ln,Nat.mul_comm (gv Δ p.1 t _)]),Ln,z,y,Aaj,Aaj];ac_rfl
theorem Azx:∀(k:Nat)(t:Ah)(i j:Af)(w:He)(y u:Nat),Br i<=k->C7 Δ i t=some y->C7 Δ j t=some u->pv (λx=>gv Δ x t w) (Dc Δ k t i j)=gv Δ i t w*gv Δ j t w:=by intro k;induction k with|zero=>intro t i j w y u h;have:=Dy i;omega|succ k ih=>intro t i j w y u L M R;have B:=Dy i;rw[Oz Δ i,Oz Δ j,Dc];by_cases c:t.G=6;rw[Av c,Av c,Av c,Ux,<-Azw (k:=k) ih t.R i.K j.K w.gk y u ω (Oq c M) (Oq c R)];(exact Px λp _=>by rw[Oz,Av c]);rw[As c,As c,As c];by_cases q:t.G=7;rw[Av q,Av q,Av q,<-Bcc];(exact Px λp _=>by rw[Oz,As c,Av q]);rw[As q,As q,As q];by_cases l:t.G=5;obtain⟨_,J⟩:=Xk Δ _ _ _ (Ot l M);obtain⟨_,I⟩:=Xk Δ _ _ _ (Ot l R);rw[Av l,Av l,Av l,Ux,Xq,Xq];rw[<-Bcb (P:=λa=>Br a<=k/\∃ts,Gz Δ t a.U=some ts/\Cg Δ a.K ts=some (pdg Δ t a)) (Q:=λb=>∃ts,Gz Δ t b.U=some ts/\Cg Δ b.K ts=some (pdg Δ t b)) (row:=Ho Δ t (D3 (Dc Δ k))) w.gk (λx _ a H b V=>?_) i.K j.K (λa H=>⟨by have:=Jh H;omega,J a H⟩) I];(exact Px λp _=>by rw[Oz,As c,As q,Av l,Xq]);obtain⟨G,ts,T,W⟩:=H;obtain⟨A,U,X⟩:=V;have E:=Dy a;unfold Ho;by_cases e:a.U=b.U;rw[Av e,Ux];by_cases o:x.gn=a.U;have s:Mq Δ t a.U=ts:=(by unfold Mq;rw[T]);have z:A=ts:=(by rw[<-e,T]at U;exact(E6 U).symm);subst z;have D:=Azw (k:=k) ih A a.K b.K x.gk _ _ ω W X;unfold gOf;rw[Av o,Av ω,s,<-e,s,<-D];(exact Px λp _=>by rw[Av o];rw[s]);(have B:∀r:A2,gOf Δ t ⟨a.U,r⟩ x=0:=λr=>by unfold gOf;rw[As o]);have f:gOf Δ t a x=0:=(by unfold gOf;rw[As o]);rw[f,Nat.zero_mul,Px (g:=λ_=>0) λp _=>B p.1,Ayk];rw[As e];show 0=_;by_cases o:x.gn=a.U;have f:gOf Δ t b x=0:=(by unfold gOf;rw[As ω]);rw[f,Nat.mul_zero];have f:gOf Δ t a x=0:=(by unfold gOf;rw[As o]);rw[f,Nat.zero_mul];rw[As l,As l,As l];show 1*gv Δ ⟨0,[]⟩ t w+0=1*1;rw[Oz,As c,As q,As l]
theorem Bew(Δ:Ad)(t:Ah)(w:He):Apo Δ t λi=>gv Δ i t w:=λi j a b e g h _ _ _=>Azx KM t i j w a b e g h
theorem Apy(Δ:Ad):∀n:Nat,(∀(i:Af)(t:Ah)(d:Nat),Br i<=n->C7 Δ i t=some d->gv Δ i t noV=if d=0 then 1 else 0)/\(∀(is:A2)(ts:A1)(d:Nat),Bv is<=n->Cg Δ is ts=some d->gvs Δ is ts []=if d=0 then 1 else 0):=by intro n;induction n with|zero=>(refine⟨λi t d h=>by have:=Dy i;omega,λis ts d h o=>?_⟩;have:=Ly is;have:is=[]:=F5.1 ω;subst this;cases ts with|nil=>simp only[Cg]at o;cases o;rfl|cons t ts=>simp only[Cg]at o;cases o)|succ n ih=>(have r:∀(i:Af)(t:Ah)(d:Nat),Br i<=n+1->C7 Δ i t=some d->gv Δ i t noV=if d=0 then 1 else 0:=by intro i t d B o;have l:=Dy i;rw[Oz];by_cases f:t.G=6;rw[Av f];exact ih.2 i.K t.R d ω (Oq f o);rw[As f];by_cases c:t.G=7;rw[Av c,(Q3 c o).2];cases d<;>rfl;rw[As c];by_cases g:t.G=5;rw[Av g,Xq];obtain⟨k,_⟩:=Xk Δ _ _ _ (Ot g o);(cases D:i.K with|nil=>rw[D]at k;rw[Av (by simpa[pds]using k)];rfl|cons e G=>rw[D,Eo]at k;rw[As ω];rfl);rw[As g];rw[Lg,As f,As c,As g]at o;split at o;cases o;rfl;cases o);refine⟨r,?_⟩;intro is;induction is with|nil=>(intro ts d _ o;cases ts with|nil=>simp only[Cg]at o;cases o;rfl|cons t ts=>simp only[Cg]at o;cases o)|cons i is j=>intro ts d B o;cases ts with|nil=>simp only[Cg]at o;cases o|cons t ts=>simp only[Bv]at B;rw[Mn]at o;cases u:C7 Δ i t with|none=>rw[u]at o;cases o|some a=>cases y:Cg Δ is ts with|none=>rw[u,y]at o;cases o|some b=>rw[u,y]at o;have o:a+b=d:=E6 o;rw[Aaj];show gv Δ i t noV*gvs Δ is ts []=_;rw[r i t a ω u,j ts b ω y,<-o];cases a<;>cases b<;>simp
theorem Bex(Δ:Ad)(i:Af)(t:Ah)(w:He):∀n:Nat,Br i<=n->C7 Δ i t=some 0->gv Δ i t w=1:=by(have all:∀n:Nat,(∀(i:Af)(t:Ah)(w:He),Br i<=n->C7 Δ i t=some 0->gv Δ i t w=1)/\(∀(is:A2)(ts:A1)(c:Λ He),Bv is<=n->Cg Δ is ts=some 0->gvs Δ is ts c=1):=by intro n;induction n with|zero=>refine⟨λi t w h=>by have:=Dy i;omega,λis ts c h _=>?_⟩;have:=Ly is;have:is=[]:=F5.1 ω;subst this;exact Aj6 _ _ _|succ n ih=>(have o:∀(i:Af)(t:Ah)(w:He),Br i<=n+1->C7 Δ i t=some 0->gv Δ i t w=1:=by intro i t w y e;have l:=Dy i;rw[Oz];by_cases g:t.G=6;rw[Av g];exact ih.2 i.K t.R w.gk ω (Oq g e);rw[As g];by_cases f:t.G=7;rw[Av f,(Q3 f e).2,Kn];rw[As f];by_cases j:t.G=5;rw[Av j,Xq];obtain⟨q,_⟩:=Xk Δ _ _ _ (Ot j e);have:i.K=[]:=F5.1 ω;rw[this,map_nil,Aek];rw[As j]);refine⟨o,?_⟩;intro is;induction is with|nil=>intro ts c _ _;exact Aj6 _ _ _|cons i is k=>intro ts c y e;cases ts with|nil=>simp only[Cg]at e;cases e|cons t ts=>simp only[Bv]at y;rw[Mn]at e;cases r:C7 Δ i t with|none=>rw[r]at e;cases e|some a=>cases u:Cg Δ is ts with|none=>rw[r,u]at e;cases e|some b=>rw[r,u]at e;have e:a+b=0:=E6 e;have B:a=0:=ω;have D:b=0:=ω;subst B;subst D;rw[Aaj,o i t _ ω r,k ts _ ω u]);exactλn=>(all n).1 i t w
theorem Azy(h:∀f∈m.F,Fj f.v/\iR f.I/\Br f.I<=1048576/\1<=Dt x.D x.V x.E f)(e:m.F.Pairwise λa b=>a.v<b.v)(g:Xn x.V x.E m.A)(c:D2 x m<=6):Fm x m:=by(have o:0<=Co m.A:=by rw[(Aai λa e=>(g.2 a e).1).1];omega);unfold D2 at c;exact Azn (m:=⟨m.F,[]⟩) (Azs h e ω) g c
theorem Fm.good(h:Fm x m):Xn x.V x.E m.A:=⟨h.f.srt,h.f.atm⟩
theorem Aj7{Ξ:A1}{Θ:Ah}(f:Bd)(l:Ba):Bo Δ Ξ Θ (f::l)=Dt Δ Ξ Θ f+Bo Δ Ξ Θ l:=by unfold Bo;simp
theorem Azz{Z:Nat}(q:Jb x Z m){h c:Ba}(k:(h++c).Sublist m.F)(G:∀g∈h,g.v<v)(H:∀g∈c,v<g.v)(u:Fj v)(hi:iR i)(s:Br i<=Z')(A:Z<=Z')(z:Z'<=1048576)(I:1<=Dt x.D x.V x.E ⟨v,i⟩)(y:Bo x.D x.V x.E (h++c)+Dt x.D x.V x.E ⟨v,i⟩+Co m.A<=6):Jb x Z' ⟨h++⟨v,i⟩::c,m.A⟩/\D2 x ⟨h++⟨v,i⟩::c,m.A⟩=Bo x.D x.V x.E (h++c)+Dt x.D x.V x.E ⟨v,i⟩+Co m.A:=by(have l:∀g∈h++⟨v,i⟩::c,g=⟨v,i⟩\/g∈m.F:=λg o=>by simp only[Ea,En]at o;rcases o with o|rfl|o;exact .inr (k.subset (by simp[o]));exact .inl rfl;exact .inr (k.subset (by simp[o])));(have B:D2 x ⟨h++⟨v,i⟩::c,m.A⟩=Bo x.D x.V x.E (h++c)+Dt x.D x.V x.E ⟨v,i⟩+Co m.A:=by show Bo x.D x.V x.E (h++⟨v,i⟩::c)+Co m.A=_;rw[L5,L5,Aj7];omega);have j:=Pairwise.sublist k q.1.f.asc;rw[pairwise_append]at j;refine⟨⟨Azy (λf e=>?_) ?_ q.1.good (by rw[B];exact y),λf e=>?_⟩,B⟩;rcases l f e with rfl|e;exact⟨u,hi,by show Br i<=_;omega,I⟩;exact⟨(q.1.2.fr f e).2,(q.1.2.fr f e).1,q.1.2.fi f e,q.1.f.fac f e⟩;show(h++⟨v,i⟩::c).Pairwise _;rw[pairwise_append,pairwise_cons];refine⟨j.1,⟨λg o=>H g o,j.2.1⟩,λa D b r=>?_⟩;rcases En.1 r with rfl|r;exact G a D;exact j.2.2 a D b r;rcases l f e with rfl|e;exact s;exact Nat.le_trans (q.2 f e) A
theorem Bey{j:Af}(hi:Br i<=k)(r:C7 Δ i t=some a)(u:C7 Δ j t=some b)(l:a+b<=6)(h:iR i)(g:iR j)(D:1<=a){p:Af×Nat}(hp:p∈Dc Δ k t i j){d:Nat}(B:C7 Δ p.1 t=some d):1<=d:=by have c:=Azx k t i j noV a b hi r u;have e:=(Apy Δ (Br i)).1 i t a (Nat.le_refl _) r;rw[As ω]at e;rw[e,Nat.zero_mul]at c;have o:=Apk (λx=>gv Δ x t noV) hp;rw[c]at o;have y:=((Mt Δ k t i j a b hi r u l h g).1 p hp).pos;have f:=(Apy Δ (Br p.1)).1 p.1 t d (Nat.le_refl _) B;by_cases q:d=0;rw[Av q]at f;have o:p.2*gv Δ p.1 t noV<=0:=o;rw[f]at o;omega;omega
structure CK(cs:List Rat)(K:Nat):Prop where
 rb:∀N a,N<=100000000->J3 a->CbR cs N (rq a)->RB K a
 le:K<=10000000
structure BS(x:Bh)(cs:List Rat)(K Z:Nat)(d:Int)(C:List (A4×Nat))(n:Nat)(b:List Aj):Prop where
 pis:PIS cs K C n b
 len:b.length<=C.length
 mo:∀q∈C,Jb x Z q.1/\D2 x q.1<=d/\1<=q.2
theorem BS.nil(x:Bh)(cs:B3)(K Z:Nat)(d:Int):BS x cs K Z d [] 0 []:=⟨PIS.nil cs K,Nat.le_refl _,λq e=>by cases e⟩
theorem Apz{w:α->Nat}(e:∀m,1<=w m)(C:Λ (α×Nat)):pv (λ_=>1) C<=pv w C:=Uy λp _=>e p.1
theorem BS.add{cs:B3}{Z:Nat}{b:Ap}(hc:CK cs K)(h:BS x cs K Z d C n b)(B:∀m,1<=w m){c:Ay}(D:RB (K+10) c)(g:Jb x Z m)(hd:D2 x m<=d)(h1:1<=N)(l:CbR cs N (rq c))(H:pv w (C++[(m,N)])<=100000):∃f o,J6 n m c b=some (f,o)/\BS x cs K Z d (C++[(m,N)]) f o/\∀χ v,Ch χ v (o.take f)=Ch χ v (b.take n)+rq c*(mX χ v m:Rat):=by have y:=hc.le;(have r:∀q∈C++[(m,N)],1<=q.2:=λq e=>by simp only[Ea,Fh]at e;rcases e with e|rfl;exact(h.mo q e).2.2;exact h1);have I:=Apz B (C++[(m,N)]);have G:=L3 r;have u:=h.len;rw[Fe,length_singleton]at G;obtain⟨f,o,k,s,j,i⟩:=h.pis.plus D g.1.2 l hc.rb ω ω ω;refine⟨f,o,k,⟨j,by rw[Fe,length_singleton];omega,λq e=>?_⟩,i⟩;simp only[Ea,Fh]at e;rcases e with e|rfl;exact h.mo q e;exact⟨g,hd,h1⟩
noncomputable def Ae2(s:Aj)(k:Int)(j:Bs):Nat×Int×List Aj->De:=λ(h,b,i)=>bif b<(j.length:Int)then((Ag j b).bind λg=>(Pn s.M).bind λc=>(Ag c.2.1 k).bind λe=>(Ik s.C g.C).bind λo=>(J6 h (A4.mk (Cl c.2.1 k (Bd.mk e.v g.I)) c.2.2) o i).bind λf=>some (.inl (f.1,Aa (b+1),f.2)))else(some (.inr (h,b,i)))
theorem Bez{cs:B3}{Z:Nat}(P:CK cs K)(hw:∀m,1<=w m){f b:Ba}{g:Bd}(X:s.M.F=f++g::b)(Y:MSz s.M)(hr:RB K s.C)(hN:CbR cs N (rq s.C))(G:1<=N){W:A0}(hW:∀p∈W,1<=p.2/\p.2<=729/\Jb x Z ⟨f++⟨g.v,p.1⟩::b,s.M.A⟩/\D2 x ⟨f++⟨g.v,p.1⟩::b,s.M.A⟩<=d)(a1:W.length<=100000){C0:Ds}{u:Nat}(h:BS x cs K Z d C0 u q)(hb:pv w (C0++W.map λp=>(⟨f++⟨g.v,p.1⟩::b,s.M.A⟩,p.2*N))<=100000):∃n o,Am (Ae2 s (f.length:Int) (W.map A3)) (u,0,q)=some (n,(W.length:Int),o)/\BS x cs K Z d (C0++W.map λp=>(⟨f++⟨g.v,p.1⟩::b,s.M.A⟩,p.2*N)) n o/\∀χ v,Ch χ v (o.take n)=Ch χ v (q.take u)+rq s.C*(pv (λi=>mX χ v ⟨f++⟨g.v,i⟩::b,s.M.A⟩) W:Nat):=by obtain⟨z,⟨n,o,rfl,L,J⟩,e⟩:=Ov (step:=Ae2 s (f.length:Int) (W.map A3)) (λj z=>∃n o,z=(n,(j:Int),o)/\BS x cs K Z d (C0++(W.take j).map λp=>(⟨f++⟨g.v,p.1⟩::b,s.M.A⟩,p.2*N)) n o/\∀χ v,Ch χ v (o.take n)=Ch χ v (q.take u)+rq s.C*(pv (λi=>mX χ v ⟨f++⟨g.v,i⟩::b,s.M.A⟩) (W.take j):Nat)) W.length (λj z Q ⟨n,o,B,b1,b2⟩=>by subst B;have r:W[j]?=some (W[j]'Q):=Bi _;generalize W[j]'Q=p at r;obtain⟨V,p2,U,S⟩:=hW p (Bm r);obtain⟨c,_,c2,c3,c4,H⟩:=Adz hr (Ll (n:=p.2) (k:=3) (Ip ω) δ) (by have:=P.le;omega) δ;rw[Sh]at H;have E:pv w ((C0++(W.take j).map λp=>(⟨f++⟨g.v,p.1⟩::b,s.M.A⟩,p.2*N))++[(⟨f++⟨g.v,p.1⟩::b,s.M.A⟩,p.2*N)])<=100000:=(by have I:W=W.take (j+1)++W.drop (j+1):=(take_append_drop _ _).symm;rw[I,Cs r,map_append,map_append,<-append_assoc,Hn]at hb;rw[append_assoc];exact Nat.le_trans (Nat.le_add_right _ _) hb);obtain⟨M,T,I,e2,e3⟩:=b1.add P hw (c:=c) (m:=⟨f++⟨g.v,p.1⟩::b,s.M.A⟩) (N:=p.2*N) (c3.mono ω) U S (Nat.mul_pos V G) (by rw[H];exact hN.smul p.2) E;refine⟨(M,((j+1:Nat):Int),T),?_,M,T,rfl,?_,λχ v=>?_⟩;unfold Ae2;have R:Aa ((j:Int)+1)=((j+1:Nat):Int):=ξ;have D:(f++g::b)[f.length]?=some g:=ψ;have y:Cl (f++g::b) (f.length:Int) (Bd.mk g.v (A3 p).I)=f++⟨g.v,p.1⟩::b:=(by rw[Gw (n:=f.length) rfl];simp[A3]);have l:((W.map A3).length:Int)=(W.length:Int):=(by rw[C3]);have A:Ag (W.map A3) (j:Int)=some (A3 p):=Bq rfl (by rw[getElem?_map,r];rfl);dsimp only;rw[l,An ω,Ak,A,Ac,Aj5 _ Y,Ac];dsimp only;rw[X,Bq rfl D,Ac];show(Ik s.C (cR p.2)).bind _=_;rw[c2,Ac,y];show(J6 n ⟨f++⟨g.v,p.1⟩::b,s.M.A⟩ c o).bind _=_;rw[I,Ac,R];rw[Cs r,map_append,<-append_assoc];exact e2;rw[e3,b2,H,Aew _ r,Rat.natCast_add,Rat.natCast_mul];grind) (s0:=(u,0,q)) ⟨u,q,rfl,by simpa using h,λχ v=>by rw[take_zero];simp only[pv];grind⟩;rw[Dh]at L J;refine⟨n,o,e.trans (Ej ?_),L,J⟩;unfold Ae2;(have l:((W.map A3).length:Int)=(W.length:Int):=by rw[C3]);dsimp only;rw[l,Au ω,Al]
noncomputable def Ae3(Δ:Ad)(t:Ah)(v:Int)(i:Af)(S:Ap):Nat×Int×List Aj->Do:=λ(G,r,l)=>
 bif r<(S.length:Int)then(
 (Ag S r).bind λf=>
 (Am (S:=Int) (E:=Int) (λg=>
 bif g<(f.M.F.length:Int)then(
 (Ag f.M.F g).bind λH=>
 bif H.v<v then(
 some (.inl (Aa (g+1)))
 )
 else(
 some (.inr g)
 )
 )
 else(
 some (.inr g)
 )
  ) 0).bind λc=>
 (show OB from
 bif c<(f.M.F.length:Int)then(
 (Ag f.M.F c).bind λI=>
 some (I.v==v)
 )
 else(
 some false
 )
 ).bind λA=>
 bif A then(
 (Ag f.M.F c).bind λz=>
 (Yu Δ t z.I i).bind λy=>
 (Am (Ae2 f c y) (G,0,l)).bind λ(s,D,x)=>
 some (.inl (s,Aa (r+1),x))
 )
 else(
 (Pn f.M).bind λj=>
 (B5 40 j.2.1 [Bd.mk 0 (Af.mk 0 [])]).bind λb=>
 (show Option (List Bd)from
 (Jn b.length (Aa (c+1)) ((b.length:Nat):Int)).bind λq=>
 match q with
 |.inl e=>(
 (Iy b.length c ((b.length:Nat):Int)).bind λo=>
 (Lt b (0+e.1) (e.2-e.1) (0+o.1) (o.2-o.1)).bind λu=>
 some u
 )
 |.inr _=>(
 (Iy b.length c ((b.length:Nat):Int)).bind λJ=>
 some b
 )
 ).bind λk=>
 (Ag k c).bind λB=>
 (J6 G (A4.mk (Cl k c (Bd.mk v i)) j.2.2) f.C l).bind λh=>
 some (.inl (h.1,Aa (r+1),h.2))
 )
 )
 else(
 some (.inr (G,l))
 )
theorem Az0{l:Λ α}{x:α}(h:l[k]?=some x):l=l.take k++x::l.drop (k+1):=by have e:=Dq h;rw[Bi e]at h;cases h;rw[List.getElem_cons_drop,take_append_drop]
theorem Ap0(χ:Bd->Nat)(c b:Ba)(g:Bd):Ey ((c++g::b).map χ)=Ey ((c++b).map χ)*χ g:=by rw[map_append,map_cons,Aaf,Ey,map_append,Aaf];ac_rfl
structure Aak(x:Bh)(Y:Nat)(v:Int)(t:Ah)(i:Af)(b:Nat):Prop where
 ty:E5 x.V x.E v=some t
 v64:Fj v
 ir:iR i
 sz:Br i<=Y
 dg:C7 x.D i t=some b
 pos:1<=b
 le:b<=6
theorem Aak.deg{Y:Nat}(h:Aak x Y v t i b):Dt x.D x.V x.E ⟨v,i⟩=(b:Int):=by unfold Dt;rw[show(⟨v,i⟩:Bd).v=v from rfl,h.ty];show G0 (C7 x.D i t)=_;rw[h.dg];have:=h.le;unfold G0;simp;omega
structure FW(x:Bh)(v:Int)(t:Ah)(i:Af)(b:Nat)(w w':A4->Nat):Prop where
 one:∀m,1<=w' m
 put:∀m pre post,m.F=pre++post->Fm x m->(∀g∈pre,g.v<v)->(∀g∈post,v<g.v)->w' ⟨pre++⟨v,i⟩::post,m.A⟩<=w m
 mul:∀m pre post g a,m.F=pre++g::post->Fm x m->(∀g∈pre,g.v<v)->(∀g∈post,v<g.v)->g.v=v->C7 x.D g.I t=some a->∀j,w' ⟨pre++⟨v,j⟩::post,m.A⟩*3^(a+b)<=w m
theorem Be0(hz:CSz x)(hf:I1 x){cs:B3}{Z Y:Nat}(hc:CK cs K)(hi:Aak x Y v t i b)(hZ:Z+Y<=400000)(hw:FW x v t i b w w')(hj:S[j]?=some s)(ax:S.length<=1000000)(J:Jb x Z s.M)(hd:D2 x s.M<=d)(b0:d+b<=6)(hr:RB K s.C)(hN:CbR cs N (rq s.C))(ac:1<=N) :
  ∃V,pv w' V<=N*w s.M/\∀C0 n0 o0,BS x cs K (Z+Y) (d+b) C0 n0 o0->pv w' (C0++V)<=100000->∃n o,Ae3 x.D t v i S (n0,(j:Int),o0)=some (.inl (n,((j+1:Nat):Int),o))/\BS x cs K (Z+Y) (d+b) (C0++V) n o/\∀χ u,(∀P,Kp x.D x.V x.E χ P)->Ch χ u (o.take n)=Ch χ u (o0.take n0)+rq s.C*((mX χ u s.M*χ ⟨v,i⟩:Nat):Rat):=by
 have R:=hf.ctx hz
 have aq:=Dq hj
 have wj:Aa ((j:Int)+1)=((j+1:Nat):Int):=by rw[Aa,Bz]<;>omega
 have a6:=Bq rfl hj
 have b4:=J.1.cmo.nf
 have ab:=J.1.f.asc
 obtain⟨k,_,k1,k2,k3,k4⟩:=Api (step:=λL=>
 bif L<(s.M.F.length:Int)then(
 (Ag s.M.F L).bind λa3=>
 bif a3.v<v then(
 some (.inl (Aa (L+1)))
 )
 else(
 some (.inr L)
 )
 )
 else(
 some (.inr L)
 )) (n:=s.M.F.length) (stop:=λj=>∀f,s.M.F[j]?=some f->¬f.v<v) (λj hj hs=>by
  have T:s.M.F[j]?=some (s.M.F[j]'hj):=Bi _
  generalize s.M.F[j]'hj=q at T
  have ae:q.v<v:=by
   by_cases e:q.v<v
   .exact e
   .exact (hs λq' a0=>by rw[T]at a0;cases a0;exact e).elim
  have w1:Aa ((j:Int)+1)=((j+1:Nat):Int):=by rw[Aa,Bz]<;>omega
  simp only[An (ω:(j:Int)<(s.M.F.length:Int)),Ak,Bq rfl T,Ac,An ae,w1]) (λj hj hs=>by
  have T:s.M.F[j]?=some (s.M.F[j]'hj):=Bi _
  generalize s.M.F[j]'hj=q at T
  simp only[An (ω:(j:Int)<(s.M.F.length:Int)),Ak,Bq rfl T,Ac,Au (hs q T),Al]) (by
  simp only[Au (ω:¬(s.M.F.length:Int)<(s.M.F.length:Int)),Al]) s.M.F.length 0 ω
 have I:∀g∈s.M.F.take k,g.v<v:=λg H=>by
  obtain⟨n,r⟩:=Gl H
  rw[getElem?_take]at r
  split at r
  .rename_i ah
   by_cases e:g.v<v
   .exact e
   .exact (k3 n ω ah λf hf=>by rw[r]at hf;cases hf;exact e).elim
  .cases r
 have hp:=pairwise_iff_getElem.1 ab
 by_cases X:∃g,s.M.F[k]?=some g/\g.v=v
 .obtain⟨g,H,B⟩:=X
  have D:=Dq H
  have A:=Az0 H
  have z:∀q∈s.M.F.drop (k+1),v<q.v:=λq hq=>by
   obtain⟨n,r⟩:=Gl hq
   rw[getElem?_drop]at r
   have h1:=Dq r
   have:=hp k (k+1+n) D h1 ω
   rw[Bi D]at H
   rw[Bi h1]at r
   cases H;cases r
   omega
  have a1:=Bm H
  have ak:=J.1.f.fac g a1
  have M:E5 x.V x.E g.v=some t:=by rw[B];exact hi.ty
  have az:Dt x.D x.V x.E g=G0 (C7 x.D g.I t):=by unfold Dt;rw[M]
  obtain⟨t',a,e1,e2,e3,e4,e5⟩:=U2 ak
  rw[M]at e1
  cases e1
  have G:(s.M.F.take k++s.M.F.drop (k+1)).Sublist s.M.F:=by
   conv=>rhs;rw[A]
   exact List.Sublist.append (List.Sublist.refl _) (List.sublist_cons_self _ _)
  have a7:D2 x s.M=Bo x.D x.V x.E (s.M.F.take k++s.M.F.drop (k+1))+(a:Int)+Co s.M.A:=by
   unfold D2
   conv=>lhs;rw[A]
   rw[L5,L5,Aj7,e5];omega
  have au:0<=Co s.M.A:=by rw[(Aai λa ha=>(J.1.f.atm a ha).1).1];omega
  have ar:0<=Bo x.D x.V x.E (s.M.F.take k++s.M.F.drop (k+1)):=by
   have:=L6 (Δ:=x.D) (Ξ:=x.V) (Θ:=x.E) (l:=s.M.F.take k++s.M.F.drop (k+1)) λf hf=>J.1.f.fac f (G.subset hf)
   omega
  have Q:a+b<=6:=ω
  have ay:=J.2 g a1
  have U:=(J.1.2.fr g a1).1
  have am:=hi.sz
  obtain⟨W,w1,w2⟩:=Bdh R.vd.szv R.sh (R.sz _ _ hi.ty) (i:=g.I) (j:=i) ω ω e2 hi.dg Q U hi.ir
  obtain⟨m1,m2⟩:=Mt x.D KM t g.I i a b (by unfold KM;omega) e2 hi.dg Q U hi.ir
  have av:=Nc Q
  have ao:∀p∈W,1<=p.2/\p.2<=729/\Jb x (Z+Y) ⟨s.M.F.take k++⟨g.v,p.1⟩::s.M.F.drop (k+1),s.M.A⟩/\D2 x ⟨s.M.F.take k++⟨g.v,p.1⟩::s.M.F.drop (k+1),s.M.A⟩<=d+b:=λp hp=>by
   obtain⟨q,q1,q2⟩:=w2.mem hp
   have hG:=m1 q q1
   obtain⟨dd,d1,d2⟩:=hG.deg
   have b3:=Bey (by unfold KM;omega) e2 hi.dg Q U hi.ir e3 q1 d1
   rw[q2]at d1
   have E:Dt x.D x.V x.E ⟨g.v,p.1⟩=(dd:Int):=by
    unfold Dt
    rw[show(⟨g.v,p.1⟩:Bd).v=g.v from rfl,M]
    show G0 (C7 x.D p.1 t)=_
    rw[d1]
    unfold G0
    simp;omega
   have ad:=hG.siz
   have a8:=hG.num
   rw[q2]at ad a8
   obtain⟨c1,c2⟩:=Azz J G (v:=g.v) (by rw[B];exact I) (by rw[B];exact z) (by rw[B];exact hi.v64) a8 (Z':=Z+Y) ω ω ω (by rw[E];omega) (by rw[E];omega)
   exact⟨w2.pos p hp,by have:=w2.num hp;omega,c1,by rw[c2,E];omega⟩
  refine⟨W.map λp=>(⟨s.M.F.take k++⟨g.v,p.1⟩::s.M.F.drop (k+1),s.M.A⟩,p.2*N),?_,λC0 n0 o0 hB hb=>?_⟩
  .rw[Ajr w' (λy=>(⟨s.M.F.take k++⟨g.v,y⟩::s.M.F.drop (k+1),s.M.A⟩:A4)) N W]
   refine Nat.mul_le_mul_left N ?_
   have aa:=hw.mul s.M _ _ g a A J.1 I z B e2
   have a2:pv (λy=>w' ⟨s.M.F.take k++⟨g.v,y⟩::s.M.F.drop (k+1),s.M.A⟩) W*3^(a+b)<=3^(a+b)*w s.M:=by
    rw[Nat.mul_comm _ (3^(a+b)),<-Ln]
    have h1:pv (λy=>3^(a+b)*w' ⟨s.M.F.take k++⟨g.v,y⟩::s.M.F.drop (k+1),s.M.A⟩) W<=pv (λ_=>w s.M*1) W:=Uy λp _=>by
     have:=aa p.1
     rw[Nat.mul_one,Nat.mul_comm,B];exact this
    refine Nat.le_trans h1 ?_
    rw[Ln,w2.eq,Nat.mul_comm]
    exact Nat.mul_le_mul_right _ m2
   rw[Nat.mul_comm]at a2
   exact Nat.le_of_mul_le_mul_left a2 (Nat.pow_pos δ)
  .have ap:W.length<=100000:=by have:=w2.len;omega
   obtain⟨n,o,l1,l2,l3⟩:=Bez hc hw.one A J.1.2 hr hN ac ao ap hB hb
   have ai:(s.M.F.take k).length=k:=by rw[length_take];omega
   rw[ai]at l1
   refine⟨n,o,?_,l2,λχ u hχ=>?_⟩
   .unfold Ae3
    dsimp only
    rw[An ω,Ak,a6,Ac]
    refine Ff k2 ?_
    rw[An ω,Ak,Bq rfl H,Ac,Ew B,Ac,Ak,Ac,w1,Ac]
    refine Ff l1 ?_
    dsimp only
    rw[wj]
   .rw[l3]
    have hM:=(hχ [⟨v,i⟩] ⟨v,i⟩ ψ t hi.ty).1
    have e9:=hM g.I i a b (by unfold KM;omega) e2 hi.dg Q U hi.ir
    have aj:(⟨v,g.I⟩:Bd)=g:=by rw[<-B]
    have e8:pv (λy=>mX χ u ⟨s.M.F.take k++⟨g.v,y⟩::s.M.F.drop (k+1),s.M.A⟩) W=mX χ u s.M*χ ⟨v,i⟩:=by
     have e7:(λy=>mX χ u ⟨s.M.F.take k++⟨g.v,y⟩::s.M.F.drop (k+1),s.M.A⟩)=λy=>(Ey ((s.M.F.take k++s.M.F.drop (k+1)).map χ)*Fa u s.M.A)*χ ⟨v,y⟩:=by
      funext y
      unfold mX
      dsimp only
      rw[Ap0,B];ac_rfl
     rw[e7,Ln,w2.eq,e9]
     have e6:mX χ u s.M=Ey ((s.M.F.take k++s.M.F.drop (k+1)).map χ)*χ g*Fa u s.M.A:=by
      unfold mX
      conv=>lhs;rw[A]
      rw[Ap0]
     dsimp only
     rw[e6,aj];ac_rfl
    rw[e8]
 .have A:s.M.F=s.M.F.take k++s.M.F.drop k:=(take_append_drop _ _).symm
  have z:∀q∈s.M.F.drop k,v<q.v:=λq hq=>by
   obtain⟨n,r⟩:=Gl hq
   rw[getElem?_drop]at r
   have h1:=Dq r
   have D:k<s.M.F.length:=ω
   have H:s.M.F[k]?=some (s.M.F[k]'D):=Bi _
   have h2:=k4 D _ H
   have h3:(s.M.F[k]'D).v≠v:=λe=>X ⟨_,H,e⟩
   by_cases e:n=0
   .subst e
    rw[Nat.add_zero,H]at r
    cases r
    omega
   .have:=hp k (k+n) D h1 ω
    rw[Bi h1]at r
    cases r
    omega
  have G:(s.M.F.take k++s.M.F.drop k).Sublist s.M.F:=by rw[<-A];exact List.Sublist.refl _
  have a7:D2 x s.M=Bo x.D x.V x.E (s.M.F.take k++s.M.F.drop k)+Co s.M.A:=by
   rw[<-A];rfl
  have E:=hi.deg
  have a5:=hi.pos
  have am:=hi.sz
  obtain⟨c1,c2⟩:=Azz J G (v:=v) I z hi.v64 hi.ir (Z':=Z+Y) ω ω ω (by rw[E];omega) (by rw[E];omega)
  refine⟨[(⟨s.M.F.take k++⟨v,i⟩::s.M.F.drop k,s.M.A⟩,N)],?_,λC0 n0 o0 hB hb=>?_⟩
  .simp only[pv,Nat.add_zero]
   exact Nat.mul_le_mul_left N (hw.put s.M _ _ A J.1 I z)
  .obtain⟨n,o,p1,p2,p3⟩:=hB.add hc hw.one (c:=s.C) (hr.mono ω) c1 (by rw[c2,E];omega) ac hN hb
   obtain⟨q,q1,q2,q3⟩:=Azv s.M.F k ⟨0,⟨0,[]⟩⟩ ⟨v,i⟩ k1 ω
   have ag:(bif decide ((k:Int)<(s.M.F.length:Int))then(Ag s.M.F (k:Int)).bind λa4=>some (a4.v==v)else some false)=some false:=by
    by_cases h:k<s.M.F.length
    .have T:s.M.F[k]?=some (s.M.F[k]'h):=Bi _
     rw[An (ω:(k:Int)<(s.M.F.length:Int)),Ak,Bq rfl T,Ac,Cx λe=>X ⟨_,T,e⟩]
    .rw[Au ω];rfl
   have af:q[k]?=some (q[k]' ω):=Bi _
   refine⟨n,o,?_,p2,λχ u hχ=>?_⟩
   .unfold Ae3
    dsimp only
    rw[An ω,Ak,a6,Ac]
    refine Ff k2 ?_
    refine Ff ag ?_
    rw[Al,Aj5 _ J.1.2,Ac]
    dsimp only
    rw[Dj (by rw[length_singleton];omega),Ac]
    refine Ff q1 ?_
    rw[Bq rfl af,Ac,Gw (n:=k) rfl,q3,p1,Ac,wj]
   .rw[p3]
    have e6:mX χ u ⟨s.M.F.take k++⟨v,i⟩::s.M.F.drop k,s.M.A⟩=mX χ u s.M*χ ⟨v,i⟩:=by
     unfold mX
     dsimp only
     rw[Ap0,<-A];ac_rfl
    rw[e6]
structure TS(x:Bh)(cs:List Rat)(K Z:Nat)(d:Int)(C:List (A4×Nat))(S:List Aj):Prop where
 cp:CP S
 rb:∀t∈S,RB K t.C
 cmb:∀m,CbR cs (Im C m) (cf S m)
 mo:∀q∈C,Jb x Z q.1/\D2 x q.1<=d/\1<=q.2
theorem BS.ts{cs:B3}{Z:Nat}{b:Ap}(h:BS x cs K Z d C n b):TS x cs K Z d C (b.take n):=⟨h.pis.base.cp,λt e=>(h.pis.base.tm t e).1,h.pis.cmb,h.mo⟩
theorem TS.mem{cs:B3}{Z:Nat}(h:TS x cs K Z d C S){t:Aj}(e:t∈S):Jb x Z t.M/\D2 x t.M<=d/\1<=Im C t.M/\CbR cs (Im C t.M) (rq t.C):=by have h1:=h.cmb t.M;rw[Z1 h.cp e]at h1;have h2:=h1.pos (h.cp.coe t e).2;obtain⟨q,c,b⟩:=Azu h2;obtain⟨g,o,_⟩:=h.mo q c;rw[b]at g o;exact⟨g,o,h2,h1⟩
theorem TS.nodup{cs:B3}{Z:Nat}(h:TS x cs K Z d C S):(S.map (·.M)).Nodup:=by unfold Nodup;rw[pairwise_map];refine h.cp.srt.imp λ{a b} g e=>?_;unfold ltT at g;rw[Lj.2 e]at g;omega
theorem Az1(w:A4->Nat)(A B:A4->Nat):∀L:Λ A4,pv w (L.map λm=>(m,A m+B m))=pv w (L.map λm=>(m,A m))+pv w (L.map λm=>(m,B m))
 |[]=>rfl
 |m::L=>by simp only[map_cons,pv,Az1 w A B L,Nat.add_mul];omega
open Classical in
theorem Be1(w:A4->Nat):∀(C:Ds){L:Λ A4},L.Nodup->pv w (L.map λm=>(m,Im C m))<=pv w C:=by intro C;induction C with|nil=>intro L _;(have g:∀L:Λ A4,pv w (L.map λm=>(m,Im [] m))=0:=λL=>by induction L with|nil=>rfl|cons m L ih=>rw[map_cons,pv,ih];unfold Im;simp[pv]);rw[g];exact Nat.zero_le _|cons q C ih=>intro L o;have e:(λm=>(m,Im (q::C) m))=λm=>(m,q.2*(if q.1=m then 1 else 0)+Im C m):=(by funext m;unfold Im;rw[pv]);rw[e,Az1,pv];(have g:∀L:Λ A4,q.1∉L->pv w (L.map λm=>(m,q.2*(if q.1=m then 1 else 0)))=0:=λL=>by induction L with|nil=>intro _;rfl|cons m L ih=>intro h;simp only[En,not_or]at h;rw[map_cons,pv,ih h.2];dsimp only;rw[As h.1];simp);(have r:∀L:Λ A4,L.Nodup->pv w (L.map λm=>(m,q.2*(if q.1=m then 1 else 0)))<=q.2*w q.1:=λL=>by induction L with|nil=>intro _;exact Nat.zero_le _|cons m L ih=>intro h;rw[List.nodup_cons]at h;rw[map_cons,pv];dsimp only;by_cases e:q.1=m;rw[Av e,g L (by rw[e];exact h.1),Nat.mul_one,e];omega;rw[As e,Nat.mul_zero,Nat.zero_mul,Nat.zero_add];exact ih h.2);have:=r L o;have:=ih o;omega
theorem TS.wle{cs:B3}{Z:Nat}(h:TS x cs K Z d C S)(w:A4->Nat)(j:Nat):pv w ((S.take j).map λt=>(t.M,Im C t.M))<=pv w C:=by have h1:=Be1 w C h.nodup;rw[map_map]at h1;(have e:S.map ((λm=>(m,Im C m))∘λt=>t.M)=(S.take j).map (λt=>(t.M,Im C t.M))++(S.drop j).map (λt=>(t.M,Im C t.M)):=by rw[<-map_append,take_append_drop];rfl);rw[e,Hn]at h1;omega
theorem TS.len{cs:B3}{Z:Nat}(h:TS x cs K Z d C S)(e:∀m,1<=w m):S.length<=pv w C:=by have h1:=h.wle w S.length;rw[Dh]at h1;have h2:=Apz e (S.map λt=>(t.M,Im C t.M));(have h3:(S.map λt=>(t.M,Im C t.M)).length<=pv (λ_=>1) (S.map λt=>(t.M,Im C t.M)):=L3 λp hp=>by obtain⟨t,g,rfl⟩:=mem_map.1 hp;exact(h.mem g).2.2.1);rw[C3]at h3;omega
theorem Aj8(χ:Bd->Nat)(u:Bp->Nat)(p:Ap)(t:Aj):Ch χ u (p++[t])=Ch χ u p+rq t.C*(mX χ u t.M:Rat):=by rw[Xp];simp only[Ch,mX];grind
theorem Ap1{o:Λ α}(h:n<=o.length):Kg o n=some (o.take n):=by unfold Kg;rw[Av h]
theorem Be2(D:CSz x)(Q:I1 x){cs:B3}{Z Y:Nat}(hc:CK cs K)(hi:Aak x Y v t i b)(N:Z+Y<=400000)(hw:FW x v t i b w w')(l:∀m,1<=w m)(h:TS x cs K Z d C S)(y:d+b<=6)(hA:pv w C<=100000):∃H E,Yo x S v i=some H/\TS x cs K (Z+Y) (d+b) E H/\pv w' E<=pv w C/\∀χ u,(∀P,Kp x.D x.V x.E χ P)->Ch χ u H=Ch χ u S*(χ ⟨v,i⟩:Rat):=by have c:=Q.ctx D;have X:=h.len l;obtain⟨k,⟨n,o,C0,rfl,A,G,z⟩,e⟩:=Ov (step:=Ae3 x.D t v i S) (λj k=>∃n o C0,k=(n,(j:Int),o)/\BS x cs K (Z+Y) (d+b) C0 n o/\pv w' C0<=pv w ((S.take j).map λt=>(t.M,Im C t.M))/\∀χ u,(∀P,Kp x.D x.V x.E χ P)->Ch χ u (o.take n)=Ch χ u (S.take j)*(χ ⟨v,i⟩:Rat)) S.length (λj k T ⟨n,o,C0,q,b1,b2,R⟩=>by subst q;have r:S[j]?=some (S[j]'T):=Bi _;generalize S[j]'T=s at r;have f:=Bm r;obtain⟨m1,m2,m3,m4⟩:=h.mem f;obtain⟨V,U,v2⟩:=Be0 D Q hc hi N hw r ω m1 m2 y (h.rb s f) m4 m3;have g:pv w' (C0++V)<=pv w ((S.take (j+1)).map λt=>(t.M,Im C t.M)):=(by rw[Cs r,map_append,Hn,Hn];simp only[map_cons,map_nil,pv,Nat.add_zero];omega);have J:=h.wle w (j+1);obtain⟨I,o',g1,g2,g3⟩:=v2 C0 n o b1 ω;refine⟨_,g1,I,o',C0++V,rfl,g2,g,λχ u B=>?_⟩;rw[g3 χ u B,R χ u B,Cs r,Aj8,Rat.natCast_mul];grind) (s0:=(0,0,[])) ⟨0,[],[],rfl,BS.nil _ _ _ _ _,by simp[pv],λχ u _=>by show(0:Rat)=0*_;grind⟩;rw[Dh]at z;refine⟨o.take n,C0,?_,A.ts,Nat.le_trans G (h.wle w _),z⟩;have L:=hi.sz;have W:=hi.pos;have M:=hi.le;unfold Yo;rw[Ain,hi.ty,Ac];dsimp only;rw[Anm c.vd c.sh t i (c.sz v t hi.ty) ω,hi.dg,Ac,Cx (by unfold G0;simp;omega),Al];refine Ff (e.trans (Ej (e:=(n,o)) ?_)) ?_;unfold Ae3;dsimp only;rw[Au ω,Al];dsimp only;rw[Ap1 A.pis.base.le];rfl
def nF(x:Bh)(g:Bd):Nat:=(Dt x.D x.V x.E g).toNat
def eF(x:Bh)(v:Int)(F:Ba):Nat:=(F.map λg=>if v<=g.v then nF x g else 0).sum
def sF(x:Bh)(F:Ba):Nat:=(F.map (nF x)).sum
def wF(x:Bh)(v:Int)(R:Nat)(m:A4):Nat:=3^(eF x v m.F+R+Cq m.A)
theorem Az2(x:Bh)(v:Int)(R:Nat)(m:A4):1<=wF x v R m:=Nat.pow_pos δ
theorem Aj9(x:Bh)(v:Int)(F G:Ba):eF x v (F++G)=eF x v F+eF x v G:=by unfold eF;simp
theorem Xr(x:Bh)(v:Int)(g:Bd)(F:Ba):eF x v (g::F)=(if v<=g.v then nF x g else 0)+eF x v F:=by unfold eF;simp
theorem Az3(x:Bh)(h:∀g∈F,g.v<v):eF x v F=0:=by induction F with|nil=>rfl|cons g F ih=>rw[Xr,ih λq e=>h q (by simp[e]),As (by have:=h g ψ;omega)]
theorem Ap2(x:Bh){b:Int}(h:v<=b)(F:Ba):eF x b F<=eF x v F:=by induction F with|nil=>exact Nat.le_refl _|cons g F ih=>rw[Xr,Xr];by_cases e:b<=g.v;rw[Av e,Av ω];omega;rw[As e];omega
theorem Be3(x:Bh)(v:Int)(F:Ba):eF x v F<=sF x F:=by induction F with|nil=>exact Nat.le_refl _|cons g F ih=>rw[Xr];unfold sF at *;rw[map_cons,sum_cons];split<;>omega
theorem Be4(x:Bh){b:Int}(h:v<=b)(R:Nat)(m:A4):wF x b R m<=wF x v R m:=by unfold wF;exact Nat.pow_le_pow_right δ (by have:=Ap2 x h m.F;omega)
theorem Be5{Y:Nat}(hi:Aak x Y v t i b)(R:Nat):FW x v t i b (wF x v (R+b)) (wF x (v+1) R):=by refine⟨λm=>Az2 _ _ _ _,λm o e c _ B D=>?_,λm o e g a c G B D r H j=>?_⟩;unfold wF;refine Nat.pow_le_pow_right δ ?_;dsimp only;rw[c,Aj9,Aj9,Xr,Az3 x (v:=v+1) (F:=o) (λg r=>by have:=B g r;omega),As (by show ¬v+1<=v;omega)];have:=Ap2 x (show v<=v+1 by omega) e;omega;have h:g∈m.F:=(by rw[c];simp);obtain⟨t',y,l,k,u,s,q⟩:=U2 (G.f.fac g h);rw[r,hi.ty]at l;cases l;rw[H]at k;cases k;have I:nF x g=a:=(by unfold nF;rw[q];simp);unfold wF;rw[<-Nat.pow_add];refine Nat.pow_le_pow_right δ ?_;dsimp only;rw[c,Aj9,Aj9,Xr,Xr,Az3 x (v:=v+1) (F:=o) (λg r=>by have:=B g r;omega),As (by show ¬v+1<=v;omega),Av ω,I];have:=Ap2 x (show v<=v+1 by omega) e;omega
noncomputable def Aka(x:Bh)(F:Ba):List Aj×Int->Ο ((List Aj×Int)⊕List Aj):=λ(f,b)=>bif b<(F.length:Int)then((Ag F b).bind λe=>(Yo x f e.v e.I).bind λc=>some (.inl (c,Aa (b+1))))else(some (.inr f))
theorem Be6(h:∀f∈F,1<=Dt x.D x.V x.E f):Bo x.D x.V x.E F=(sF x F:Nat):=by induction F with|nil=>rfl|cons f F ih=>have o:=h f ψ;rw[Aj7,ih λg e=>h g (by simp[e])];unfold sF nF;rw[map_cons,sum_cons];omega
theorem Be7(hz:CSz x)(hf:I1 x){cs:B3}{Z Y:Nat}(hc:CK cs K)(y:Jb x Y m)(hZ:Z+6*Y<=400000){R:Nat}(h:TS x cs K Z d C S)(a7:d+(sF x m.F:Nat)<=6){v0:Int}(G:∀f∈m.F,v0<=f.v)(hA:pv (wF x v0 (R+sF x m.F)) C<=A)(a8:A<=100000):∃o i k,Am (Aka x m.F) (S,0)=some o/\TS x cs K (Z+m.F.length*Y) (d+(sF x m.F:Nat)) i o/\pv (wF x k R) i<=A/\∀χ u,(∀P,Kp x.D x.V x.E χ P)->Ch χ u o=Ch χ u S*(Ey (m.F.map χ):Rat):=by have a1:=y.1.cmo.nf;have B:=pairwise_iff_getElem.1 y.1.f.asc;(have c:∀j,sF x m.F=sF x (m.F.take j)+sF x (m.F.drop j):=λj=>by unfold sF;rw[<-sum_append,<-map_append,take_append_drop]);obtain⟨D,⟨o,i,k,rfl,M,q2,q3,L⟩,e⟩:=Ov (step:=Aka x m.F) (λj D=>∃o i k,D=(o,(j:Int))/\TS x cs K (Z+j*Y) (d+(sF x (m.F.take j):Nat)) i o/\(∀f∈m.F.drop j,k<=f.v)/\pv (wF x k (R+sF x (m.F.drop j))) i<=A/\∀χ u,(∀P,Kp x.D x.V x.E χ P)->Ch χ u o=Ch χ u S*(Ey ((m.F.take j).map χ):Rat)) m.F.length (λj D Q ⟨o,i,k,l,b1,b2,b3,b4⟩=>by subst l;have H:m.F[j]?=some (m.F[j]'Q):=Bi _;have E:∃f,m.F[j]'Q=f:=⟨_,rfl⟩;obtain⟨f,s⟩:=E;rw[s]at H;have g:=Bm H;obtain⟨t,b,e1,e2,e3,e4,e5⟩:=U2 (y.1.f.fac f g);have T:Aak x Y f.v t f.I b:=⟨e1,(y.1.2.fr f g).2,(y.1.2.fr f g).1,y.2 f g,e2,e3,e4⟩;have r:nF x f=b:=(by unfold nF;rw[e5];simp);have z:m.F.drop j=f::m.F.drop (j+1):=(by rw[drop_eq_getElem_cons Q,s]);have I:sF x (m.F.drop j)=b+sF x (m.F.drop (j+1)):=(by rw[z];unfold sF;rw[map_cons,sum_cons,r]);have l:sF x (m.F.take (j+1))=sF x (m.F.take j)+b:=(by rw[Cs H];unfold sF;rw[map_append,sum_append];simp[r]);have h1:=c j;have J:j*Y+Y=(j+1)*Y:=(by rw[Nat.add_mul,Nat.one_mul]);have a6:(j+1)*Y<=6*Y:=Nat.mul_le_mul_right _ ω;have V:pv (wF x f.v ((R+sF x (m.F.drop (j+1)))+b)) i<=A:=(by refine Nat.le_trans (Uy λp _=>?_) b3;have:=Be4 x (b2 f (by rw[z];simp)) (R+sF x (m.F.drop (j+1))+b) p.1;rw[I,show R+(b+sF x (m.F.drop (j+1)))=R+sF x (m.F.drop (j+1))+b by omega];exact this);obtain⟨X,C2,g1,W,g3,g4⟩:=Be2 hz hf hc T (Z:=Z+j*Y) ω (Be5 T (R+sF x (m.F.drop (j+1)))) (λm=>Az2 _ _ _ _) b1 ω ω;have wj:Aa ((j:Int)+1)=((j+1:Nat):Int):=ξ;refine⟨(X,((j+1:Nat):Int)),?_,X,C2,f.v+1,rfl,?_,λq hq=>?_,ω,λχ u N=>?_⟩;unfold Aka;dsimp only;rw[An ω,Ak,Bq rfl H,Ac,g1,Ac,wj];rw[Nat.add_assoc,J]at W;rw[l];have:d+((sF x (m.F.take j)+b:Nat):Int)=d+(sF x (m.F.take j):Nat)+(b:Int):=ω;rw[this];exact W;obtain⟨n,r⟩:=Gl hq;rw[getElem?_drop]at r;have U:=Dq r;have:=B j (j+1+n) Q U ω;rw[Bi U]at r;cases r;rw[s]at this;omega;rw[g4 χ u N,b4 χ u N,Bb1 H,Rat.natCast_mul,Rat.mul_assoc]) (s0:=(S,0)) ⟨S,C,v0,rfl,by simpa[sF]using h,by simpa using G,by simpa using hA,λχ u _=>by simp only[take_zero,map_nil,Ey];grind⟩;rw[Dh]at M L;refine⟨o,i,k,e.trans (Ej ?_),M,by simpa[sF]using q3,L⟩;unfold Aka;dsimp only;rw[Au ω,Al]
theorem Az4{Z:Nat}(q:Jb x Z m){h c:A7}(j:(h++c).Sublist m.A)(D:∀a∈h,Eh a.L l<0)(G:∀a∈c,Eh l a.L<0){k:Int}(u:Ii l=true/\l.T.length≠0/\J2 x.V x.E l=true)(H:1<=k)(y:Bo x.D x.V x.E m.F+Co (h++c)+k<=6):Jb x Z ⟨m.F,h++⟨l,k⟩::c⟩/\D2 x ⟨m.F,h++⟨l,k⟩::c⟩=Bo x.D x.V x.E m.F+Co (h++c)+k:=by(have s:∀a∈h++⟨l,k⟩::c,a=⟨l,k⟩\/a∈m.A:=λa e=>by simp only[Ea,En]at e;rcases e with e|rfl|e;exact .inr (j.subset (by simp[e]));exact .inl rfl;exact .inr (j.subset (by simp[e])));(have B:D2 x ⟨m.F,h++⟨l,k⟩::c⟩=Bo x.D x.V x.E m.F+Co (h++c)+k:=by show Bo x.D x.V x.E m.F+Co (h++⟨l,k⟩::c)=_;unfold Co;simp only[map_append,map_cons,sum_append,sum_cons];omega);have i:=Pairwise.sublist j q.1.f.srt;rw[pairwise_append]at i;refine⟨⟨Azy (λf o=>⟨(q.1.2.fr f o).2,(q.1.2.fr f o).1,q.1.2.fi f o,q.1.f.fac f o⟩) q.1.f.asc ⟨?_,λa e=>?_⟩ (by rw[B];exact y),q.2⟩,B⟩;show(h++⟨l,k⟩::c).Pairwise _;rw[pairwise_append,pairwise_cons];refine⟨i.1,⟨λg I=>G g I,i.2.1⟩,λa e b r=>?_⟩;rcases En.1 r with rfl|r;exact D a e;exact i.2.2 a e b r;rcases s a e with rfl|e;exact⟨H,u.1,u.2.1,u.2.2⟩;exact q.1.f.atm a e
noncomputable def Ae4(s:Aj)(i:Int)(h:Ei):Nat×Int×List Aj->De:=λ(f,e,g)=>bif e<(h.length:Int)then((Pn s.M).bind λb=>(Ag b.2.2 i).bind λl=>(Ag h e).bind λk=>(Ik s.C k).bind λj=>(J6 f (A4.mk b.2.1 (Cl b.2.2 i (Bf.mk l.L e))) j g).bind λc=>some (.inl (c.1,Aa (e+1),c.2)))else(some (.inr (f,e,g)))
def Rp(a b d:Nat):Nat:=max 1 (Rc a b d)
theorem Be8:∀a,a<7->∀b,b<7->a+b<=6->pv (λ_=>1) ((range (a+b)).map λd=>(d,Rp a b (d+1)))<=3^(a+b):=by decide +kernel
theorem Be9:∀a,a<7->∀b,b<7->a+b<=6->∀d,d<7->Rc a b d<=729:=by decide +kernel
def tav(F:Ba)(f c:A7)(l:Bp)(a b N:Nat)(j:Nat):Ds:=(range j).map λd=>(⟨F,f++⟨l,((d+1:Nat):Int)⟩::c⟩,Rp a b (d+1)*N)
theorem Ap3(F:Ba)(f c:A7)(l:Bp)(a b N j:Nat):tav F f c l a b N (j+1)=tav F f c l a b N j++[(⟨F,f++⟨l,((j+1:Nat):Int)⟩::c⟩,Rp a b (j+1)*N)]:=by unfold tav;rw[range_succ,map_append];rfl
theorem Bfa(F:Ba)(f c:A7)(l:Bp)(a b N:Nat){i:Nat}(h:i<=j):∃r,tav F f c l a b N j=tav F f c l a b N i++r:=by obtain⟨d,rfl⟩:∃d,j=i+d:=⟨j-i,ω⟩;clear h;induction d with|zero=>exact⟨[],ψ⟩|succ d ih=>obtain⟨r,e⟩:=ih;rw[show i+(d+1)=(i+d)+1 by omega,Ap3,e];exact⟨_,append_assoc ..⟩
theorem Bfb{cs:B3}{Z:Nat}(T:CK cs K)(hw:∀m,1<=w m){i f:A7}{g:Bf}(S:s.M.A=i++g::f)(V:MSz s.M)(H:RB K s.C)(Y:CbR cs N (rq s.C))(E:1<=N)(P:a+b<=6)(X:∀j,j<a+b->Jb x Z ⟨s.M.F,i++⟨g.L,((j+1:Nat):Int)⟩::f⟩/\D2 x ⟨s.M.F,i++⟨g.L,((j+1:Nat):Int)⟩::f⟩<=d){C0:Ds}{q:Nat}{l:Ap}(h:BS x cs K Z d C0 q l)(hb:pv w (C0++tav s.M.F i f g.L a b N (a+b))<=100000):∃n o,Am (Ae4 s (i.length:Int) (Ls (a+b+1) (Rc a b))) (q,1,l)=some (n,((a+b+1:Nat):Int),o)/\BS x cs K Z d (C0++tav s.M.F i f g.L a b N (a+b)) n o/\∀χ v,Ch χ v (o.take n)=Ch χ v (l.take q)+rq s.C*(sm (a+b) (λj=>Rc a b (j+1)*mX χ v ⟨s.M.F,i++⟨g.L,((j+1:Nat):Int)⟩::f⟩):Nat):=by obtain⟨z,⟨n,o,rfl,L,J⟩,e⟩:=Ov (step:=Ae4 s (i.length:Int) (Ls (a+b+1) (Rc a b))) (λj z=>∃n o,z=(n,((j+1:Nat):Int),o)/\BS x cs K Z d (C0++tav s.M.F i f g.L a b N j) n o/\∀χ v,Ch χ v (o.take n)=Ch χ v (l.take q)+rq s.C*(sm j (λj=>Rc a b (j+1)*mX χ v ⟨s.M.F,i++⟨g.L,((j+1:Nat):Int)⟩::f⟩):Nat)) (a+b) (λj z hj ⟨n,o,A,b1,b2⟩=>by subst A;obtain⟨R,M⟩:=X j hj;have U:=Be9 a ω b ω P (j+1) ω;have y:1<=Rp a b (j+1)/\Rc a b (j+1)<=Rp a b (j+1):=(by unfold Rp;omega);obtain⟨c,_,c2,c3,c4,Q⟩:=Adz H (Ll (n:=Rc a b (j+1)) (k:=3) (Ip ω) δ) (by have:=T.le;omega) δ;rw[Sh]at Q;have D:pv w ((C0++tav s.M.F i f g.L a b N j)++[(⟨s.M.F,i++⟨g.L,((j+1:Nat):Int)⟩::f⟩,Rp a b (j+1)*N)])<=100000:=(by obtain⟨r,H⟩:=Bfa s.M.F i f g.L a b N (show j+1<=a+b by omega);rw[H,Ap3,<-append_assoc,Hn,<-append_assoc]at hb;exact Nat.le_trans (Nat.le_add_right _ _) hb);obtain⟨G,W,e1,e2,e3⟩:=b1.add T hw (c:=c) (m:=⟨s.M.F,i++⟨g.L,((j+1:Nat):Int)⟩::f⟩) (N:=Rp a b (j+1)*N) (c3.mono ω) R M (Nat.mul_pos y.1 E) (by rw[Q];exact(Y.smul (Rc a b (j+1))).mono (Nat.mul_le_mul_right _ y.2)) D;refine⟨(G,((j+1+1:Nat):Int),W),?_,G,W,rfl,?_,λχ v=>?_⟩;unfold Ae4;have I:Aa (((j+1:Nat):Int)+1)=((j+1+1:Nat):Int):=ξ;have B:(i++g::f)[i.length]?=some g:=ψ;have u:Cl (i++g::f) (i.length:Int) (Bf.mk g.L ((j+1:Nat):Int))=i++⟨g.L,((j+1:Nat):Int)⟩::f:=(by rw[Gw (n:=i.length) rfl];simp);dsimp only;rw[K4,An ω,Ak,Aj5 _ V,Ac];dsimp only;rw[S,Bq rfl B,Ac,Bq rfl (Mr (Rc a b) (show j+1<a+b+1 by omega)),Ac,c2,Ac,u,e1,Ac,I];rw[Ap3,<-append_assoc];exact e2;rw[e3,b2,Q,sm,Rat.natCast_add,Rat.natCast_mul];grind) (s0:=(q,1,l)) ⟨q,l,rfl,by simpa[tav]using h,λχ v=>by simp only[sm];grind⟩;refine⟨n,o,e.trans (Ej ?_),L,J⟩;unfold Ae4;dsimp only;rw[K4,Au ω,Al]
noncomputable def Ae5(l:Bp)(k:Int)(S:Ap):Nat×Int×List Aj->Do:=λ(o,e,j)=>
 bif e<(S.length:Int)then(
 (Ag S e).bind λc=>
 bif((l.T.length:Int)==(0:Int))then(
 (La l.Q).bind λM=>
 (Agq M k).bind λL=>
 (Ik c.C L).bind λH=>
 (J6 o c.M H j).bind λx=>
 some (.inl (x.1,Aa (e+1),x.2))
 )
 else(
 (Am (S:=Int) (E:=Int) (λg=>
 bif g<(c.M.A.length:Int)then(
 (Ag c.M.A g).bind λJ=>
 (Lb J.L l).bind λP=>
 bif P<(0:Int)then(
 some (.inl (Aa (g+1)))
 )
 else(
 some (.inr g)
 )
 )
 else(
 some (.inr g)
 )
  ) 0).bind λf=>
 (show OB from
 bif f<(c.M.A.length:Int)then(
 (Ag c.M.A f).bind λQ=>
 (Lb Q.L l).bind λI=>
 some (I==(0:Int))
 )
 else(
 some false
 )
 ).bind λG=>
 bif G then(
 (Ag c.M.A f).bind λD=>
 (Yv D.P k).bind λB=>
 (Am (Ae4 c f B.1) (o,1,j)).bind λ(y,R,A)=>
 some (.inl (y,Aa (e+1),A))
 )
 else(
 (Pn c.M).bind λs=>
 (B5 40 s.2.2 [Bf.mk (Bp.mk 0 []) 0]).bind λb=>
 (show Option (List Bf)from
 (Jn b.length (Aa (f+1)) ((b.length:Nat):Int)).bind λr=>
 match r with
 |.inl i=>(
 (Iy b.length f ((b.length:Nat):Int)).bind λh=>
 (Lt b (0+i.1) (i.2-i.1) (0+h.1) (h.2-h.1)).bind λz=>
 some z
 )
 |.inr _=>(
 (Iy b.length f ((b.length:Nat):Int)).bind λT=>
 some b
 )
 ).bind λu=>
 (Ag u f).bind λU=>
 (J6 o (A4.mk s.2.1 (Cl u f (Bf.mk l k))) c.C j).bind λq=>
 some (.inl (q.1,Aa (e+1),q.2))
 )
 )
 )
 else(
 some (.inr (o,j))
 )
theorem Ap4(u:Bp->Nat)(c b:A7)(g:Bf):Fa u (c++g::b)=Fa u (c++b)*bc (u g.L) g.P.toNat:=by rw[U3,Fa,U3];ac_rfl
structure Ap5(x:Bh)(l:Bp)(b:Nat):Prop where
 lin:Ii l=true/\l.T.length≠0/\J2 x.V x.E l=true
 pos:1<=b
 le:b<=6
structure AW(x:Bh)(l:Bp)(b:Nat)(w w':A4->Nat):Prop where
 one:∀m,1<=w' m
 put:∀m pre post,m.A=pre++post->Fm x m->(∀a∈pre,Eh a.L l<0)->(∀a∈post,Eh l a.L<0)->w' ⟨m.F,pre++⟨l,(b:Int)⟩::post⟩<=w m
 mul:∀m pre post g,m.A=pre++g::post->Fm x m->(∀a∈pre,Eh a.L l<0)->(∀a∈post,Eh l a.L<0)->g.L=l->∀j,w' ⟨m.F,pre++⟨l,j⟩::post⟩*3^(g.P.toNat+b)<=w m
theorem Bfc{cs:B3}{Z:Nat}(hc:CK cs K)(hi:Ap5 x l b)(hw:AW x l b w w')(Q:S[j]?=some s)(ao:S.length<=1000000)(I:Jb x Z s.M)(hd:D2 x s.M<=d)(aq:d+b<=6)(hr:RB K s.C)(hN:CbR cs N (rq s.C))(aa:1<=N) :
  ∃V,pv w' V<=N*w s.M/\∀C0 U R,BS x cs K Z (d+b) C0 U R->pv w' (C0++V)<=100000->∃n o,Ae5 l (b:Int) S (U,(j:Int),R)=some (.inl (n,((j+1:Nat):Int),o))/\BS x cs K Z (d+b) (C0++V) n o/\∀χ u,Ch χ u (o.take n)=Ch χ u (R.take U)+rq s.C*((mX χ u s.M*bc (u l) b:Nat):Rat):=by
 have am:=Dq Q
 have wj:Aa ((j:Int)+1)=((j+1:Nat):Int):=by rw[Aa,Bz]<;>omega
 have X:=Bq rfl Q
 have au:=I.1.cmo.na
 have a8:=I.1.f.srt
 have G:∀a∈s.M.A,Lb a.L l=some (Eh a.L l):=λa ha=>Aik _ _ (by have:=I.1.2.al a ha;omega)
 have a6:((l.T.length:Int)==(0:Int))=false:=Cx (by have:=hi.lin.2.1;omega)
 obtain⟨k,_,k1,k2,k3,k4⟩:=Api (step:=λJ=>
 bif J<(s.M.A.length:Int)then(
 (Ag s.M.A J).bind λac=>
 (Lb ac.L l).bind λa4=>
 bif a4<(0:Int)then(
 some (.inl (Aa (J+1)))
 )
 else(
 some (.inr J)
 )
 )
 else(
 some (.inr J)
 )) (n:=s.M.A.length) (stop:=λj=>∀f,s.M.A[j]?=some f->¬Eh f.L l<0) (λj Q Y=>by
  have H:s.M.A[j]?=some (s.M.A[j]'Q):=Bi _
  generalize s.M.A[j]'Q=q at H
  have ae:Eh q.L l<0:=by
   by_cases e:Eh q.L l<0
   .exact e
   .exact (Y λq' a2=>by rw[H]at a2;cases a2;exact e).elim
  have w1:Aa ((j:Int)+1)=((j+1:Nat):Int):=by rw[Aa,Bz]<;>omega
  simp only[An (ω:(j:Int)<(s.M.A.length:Int)),Ak,Bq rfl H,Ac,G q (Bm H),An ae,w1]) (λj Q Y=>by
  have H:s.M.A[j]?=some (s.M.A[j]'Q):=Bi _
  generalize s.M.A[j]'Q=q at H
  simp only[An (ω:(j:Int)<(s.M.A.length:Int)),Ak,Bq rfl H,Ac,G q (Bm H),Au (Y q H),Al]) (by
  simp only[Au (ω:¬(s.M.A.length:Int)<(s.M.A.length:Int)),Al]) s.M.A.length 0 ω
 have E:∀g∈s.M.A.take k,Eh g.L l<0:=λg P=>by
  obtain⟨n,r⟩:=Gl P
  rw[getElem?_take]at r
  split at r
  .rename_i ah
   by_cases e:Eh g.L l<0
   .exact e
   .exact (k3 n ω ah λf hf=>by rw[r]at hf;cases hf;exact e).elim
  .cases r
 have hp:=pairwise_iff_getElem.1 a8
 have ar:=I.1.f.fsum0
 by_cases M:∃g,s.M.A[k]?=some g/\g.L=l
 .obtain⟨g,P,A⟩:=M
  have z:=Dq P
  have y:=Az0 P
  have i:∀q∈s.M.A.drop (k+1),Eh l q.L<0:=λq hq=>by
   obtain⟨n,r⟩:=Gl hq
   rw[getElem?_drop]at r
   have T:=Dq r
   have:=hp k (k+1+n) z T ω
   rw[Bi z]at P
   rw[Bi T]at r
   cases P;cases r
   rw[<-A];exact this
  have a7:=Bm P
  have ap:=(I.1.f.atm g a7).1
  have D:(s.M.A.take k++s.M.A.drop (k+1)).Sublist s.M.A:=by
   conv=>rhs;rw[y]
   exact List.Sublist.append (List.Sublist.refl _) (List.sublist_cons_self _ _)
  have ak:Co s.M.A=Co (s.M.A.take k++s.M.A.drop (k+1))+g.P:=by
   conv=>lhs;rw[y]
   unfold Co
   simp only[map_append,map_cons,sum_append,sum_cons]
   omega
  have h0:0<=Co (s.M.A.take k++s.M.A.drop (k+1)):=by rw[(Aai λa ha=>(I.1.f.atm a (D.subset ha)).1).1];omega
  have ad:D2 x s.M=Bo x.D x.V x.E s.M.F+Co s.M.A:=rfl
  obtain⟨a,ha⟩:∃a:Nat,g.P=(a:Int):=⟨g.P.toNat,ω⟩
  have a0:a+b<=6:=ω
  have a3:=hi.pos
  have hW:∀j,j<a+b->Jb x Z ⟨s.M.F,s.M.A.take k++⟨g.L,((j+1:Nat):Int)⟩::s.M.A.drop (k+1)⟩/\D2 x ⟨s.M.F,s.M.A.take k++⟨g.L,((j+1:Nat):Int)⟩::s.M.A.drop (k+1)⟩<=d+b:=λj Q=>by
   obtain⟨c1,c2⟩:=Az4 I D (l:=g.L) (by rw[A];exact E) (by rw[A];exact i) (by rw[A];exact hi.lin) (k:=((j+1:Nat):Int)) ω ω
   exact⟨c1,by rw[c2];omega⟩
  have hP:=Azc a b a0
  refine⟨tav s.M.F (s.M.A.take k) (s.M.A.drop (k+1)) g.L a b N (a+b),?_,λC0 U R hB hb=>?_⟩
  .have L:=hw.mul s.M _ _ g y I.1 E i A
   have aj:g.P.toNat=a:=ω
   rw[aj]at L
   have e1:tav s.M.F (s.M.A.take k) (s.M.A.drop (k+1)) g.L a b N (a+b)=((range (a+b)).map λd=>(d,Rp a b (d+1))).map λp=>((λd:Nat=>(⟨s.M.F,s.M.A.take k++⟨g.L,((d+1:Nat):Int)⟩::s.M.A.drop (k+1)⟩:A4)) p.1,p.2*N):=by
    unfold tav
    rw[map_map];rfl
   rw[e1,Ajr w' (λd:Nat=>(⟨s.M.F,s.M.A.take k++⟨g.L,((d+1:Nat):Int)⟩::s.M.A.drop (k+1)⟩:A4)) N]
   refine Nat.mul_le_mul_left N ?_
   have h3:=Be8 a ω b ω a0
   generalize((range (a+b)).map λd=>(d,Rp a b (d+1)))=W at h3
   have a5:3^(a+b)*pv (λd:Nat=>w' ⟨s.M.F,s.M.A.take k++⟨g.L,((d+1:Nat):Int)⟩::s.M.A.drop (k+1)⟩) W<=3^(a+b)*w s.M:=by
    rw[<-Ln]
    have T:pv (λd:Nat=>3^(a+b)*w' ⟨s.M.F,s.M.A.take k++⟨g.L,((d+1:Nat):Int)⟩::s.M.A.drop (k+1)⟩) W<=pv (λ_=>w s.M*1) W:=Uy λp _=>by
     have:=L ((p.1+1:Nat):Int)
     rw[Nat.mul_one,Nat.mul_comm,A];exact this
    refine Nat.le_trans T ?_
    rw[Ln,Nat.mul_comm]
    exact Nat.mul_le_mul_right _ h3
   exact Nat.le_of_mul_le_mul_left a5 (Nat.pow_pos δ)
  .obtain⟨n,o,l1,l2,l3⟩:=Bfb hc hw.one y I.1.2 hr hN aa a0 hW hB hb
   have ai:(s.M.A.take k).length=k:=by rw[length_take];omega
   rw[ai]at l1
   refine⟨n,o,?_,l2,λχ u=>?_⟩
   .unfold Ae5
    dsimp only
    rw[An ω,Ak,X,Ac,a6,Al]
    refine Ff k2 ?_
    rw[An ω,Ak,Bq rfl P,Ac,G g a7,Ac,Ew ((Ja.zero _ _ trivial trivial).2 A),Ac,Ak,Ac,ha,hP,Ac]
    refine Ff l1 ?_
    dsimp only
    rw[wj]
   .rw[l3]
    have e8:sm (a+b) (λj=>Rc a b (j+1)*mX χ u ⟨s.M.F,s.M.A.take k++⟨g.L,((j+1:Nat):Int)⟩::s.M.A.drop (k+1)⟩)=mX χ u s.M*bc (u l) b:=by
     have e7:∀j:Nat,mX χ u ⟨s.M.F,s.M.A.take k++⟨g.L,(j:Int)⟩::s.M.A.drop (k+1)⟩=(Ey (s.M.F.map χ)*Fa u (s.M.A.take k++s.M.A.drop (k+1)))*bc (u l) j:=λj=>by
      unfold mX
      dsimp only
      rw[Ap4,Int.toNat_natCast,A];ac_rfl
     have e6:mX χ u s.M=(Ey (s.M.F.map χ)*Fa u (s.M.A.take k++s.M.A.drop (k+1)))*bc (u l) a:=by
      unfold mX
      conv=>lhs;rw[y]
      rw[Ap4,ha,Int.toNat_natCast,A];ac_rfl
     have a1:=Xj (u l) a b (a+b+1) ω
     rw[Ad9,Axu (show 0<a by omega),Nat.zero_mul,Nat.zero_add]at a1
     rw[e6,Nat.mul_assoc,<-a1]
     generalize Ey (s.M.F.map χ)*Fa u (s.M.A.take k++s.M.A.drop (k+1))=B at e7
     have Y:∀n,sm n (λj=>Rc a b (j+1)*mX χ u ⟨s.M.F,s.M.A.take k++⟨g.L,((j+1:Nat):Int)⟩::s.M.A.drop (k+1)⟩)=B*sm n (λj=>Rc a b (j+1)*bc (u l) (j+1)):=λn=>by
      induction n with
      |zero=>rfl
      |succ n ih=>rw[sm,sm,ih,e7,Nat.mul_add];congr 1;ac_rfl
     exact Y _
    rw[e8]
 .have y:s.M.A=s.M.A.take k++s.M.A.drop k:=(take_append_drop _ _).symm
  have i:∀q∈s.M.A.drop k,Eh l q.L<0:=λq hq=>by
   obtain⟨n,r⟩:=Gl hq
   rw[getElem?_drop]at r
   have T:=Dq r
   have z:k<s.M.A.length:=ω
   have P:s.M.A[k]?=some (s.M.A[k]'z):=Bi _
   have h2:=k4 z _ P
   have h3:(s.M.A[k]'z).L≠l:=λe=>M ⟨_,P,e⟩
   have h4:Eh l (s.M.A[k]'z).L<0:=by
    have e0:Eh (s.M.A[k]'z).L l≠0:=λe=>h3 ((Ja.zero _ _ trivial trivial).1 e)
    rw[Ja.anti _ _ trivial trivial]
    omega
   by_cases e:n=0
   .subst e
    rw[Nat.add_zero,P]at r
    cases r
    exact h4
   .have:=hp k (k+n) z T ω
    rw[Bi T]at r
    cases r
    exact Ja.trans _ _ _ trivial trivial trivial h4 this
  have D:(s.M.A.take k++s.M.A.drop k).Sublist s.M.A:=by rw[<-y];exact List.Sublist.refl _
  have ad:D2 x s.M=Bo x.D x.V x.E s.M.F+Co (s.M.A.take k++s.M.A.drop k):=by
   rw[<-y];rfl
  have a3:=hi.pos
  obtain⟨c1,c2⟩:=Az4 I D (l:=l) E i hi.lin (k:=(b:Int)) ω ω
  refine⟨[(⟨s.M.F,s.M.A.take k++⟨l,(b:Int)⟩::s.M.A.drop k⟩,N)],?_,λC0 U R hB hb=>?_⟩
  .simp only[pv,Nat.add_zero]
   exact Nat.mul_le_mul_left N (hw.put s.M _ _ y I.1 E i)
  .obtain⟨n,o,p1,p2,p3⟩:=hB.add hc hw.one (c:=s.C) (hr.mono ω) c1 (by rw[c2];omega) aa hN hb
   obtain⟨q,q1,q2,q3⟩:=Azv s.M.A k ⟨⟨0,[]⟩,0⟩ ⟨l,(b:Int)⟩ k1 ω
   have ag:(bif decide ((k:Int)<(s.M.A.length:Int))then(Ag s.M.A (k:Int)).bind λa9=>(Lb a9.L l).bind λab=>some (ab==(0:Int))else some false)=some false:=by
    by_cases h:k<s.M.A.length
    .have H:s.M.A[k]?=some (s.M.A[k]'h):=Bi _
     rw[An (ω:(k:Int)<(s.M.A.length:Int)),Ak,Bq rfl H,Ac,G _ (Bm H),Ac,Cx λe=>M ⟨_,H,(Ja.zero _ _ trivial trivial).1 e⟩]
    .rw[Au ω];rfl
   have af:q[k]?=some (q[k]' ω):=Bi _
   refine⟨n,o,?_,p2,λχ u=>?_⟩
   .unfold Ae5
    dsimp only
    rw[An ω,Ak,X,Ac,a6,Al]
    refine Ff k2 ?_
    refine Ff ag ?_
    rw[Al,Aj5 _ I.1.2,Ac]
    dsimp only
    rw[Dj (by rw[length_singleton];omega),Ac]
    refine Ff q1 ?_
    rw[Bq rfl af,Ac,Gw (n:=k) rfl,q3,p1,Ac,wj]
   .rw[p3]
    have e6:mX χ u ⟨s.M.F,s.M.A.take k++⟨l,(b:Int)⟩::s.M.A.drop k⟩=mX χ u s.M*bc (u l) b:=by
     unfold mX
     dsimp only
     rw[Ap4,<-y,Int.toNat_natCast];ac_rfl
    rw[e6]
theorem Bfd{cs:B3}{Z:Nat}(Q:CK cs K)(hi:Ap5 x l b)(R:AW x l b w w')(i:∀m,1<=w m)(h:TS x cs K Z d C S)(q:d+b<=6)(L:pv w C<=100000):∃H A,Yp S l (b:Int)=some H/\TS x cs K Z (d+b) A H/\pv w' A<=pv w C/\∀χ u,Ch χ u H=Ch χ u S*(bc (u l) b:Rat):=by have J:=h.len i;have M:=hi.pos;obtain⟨g,⟨n,o,C0,rfl,z,B,y⟩,e⟩:=Ov (step:=Ae5 l (b:Int) S) (λj g=>∃n o C0,g=(n,(j:Int),o)/\BS x cs K Z (d+b) C0 n o/\pv w' C0<=pv w ((S.take j).map λt=>(t.M,Im C t.M))/\∀χ u,Ch χ u (o.take n)=Ch χ u (S.take j)*(bc (u l) b:Rat)) S.length (λj g P ⟨n,o,C0,k,T,b2,G⟩=>by subst k;have r:S[j]?=some (S[j]'P):=Bi _;generalize S[j]'P=s at r;have c:=Bm r;obtain⟨U,W,X,m4⟩:=h.mem c;obtain⟨V,I,v2⟩:=Bfc Q hi R r ω U W q (h.rb s c) m4 X;have f:pv w' (C0++V)<=pv w ((S.take (j+1)).map λt=>(t.M,Im C t.M)):=(by rw[Cs r,map_append,Hn,Hn];simp only[map_cons,map_nil,pv,Nat.add_zero];omega);have E:=h.wle w (j+1);obtain⟨D,o',g1,g2,g3⟩:=v2 C0 n o T ω;refine⟨_,g1,D,o',C0++V,rfl,g2,f,λχ u=>?_⟩;rw[g3,G,Cs r,Aj8,Rat.natCast_mul];grind) (s0:=(0,0,[])) ⟨0,[],[],rfl,BS.nil _ _ _ _ _,by simp[pv],λχ u=>by show(0:Rat)=0*_;grind⟩;rw[Dh]at y;refine⟨o.take n,C0,?_,z.ts,Nat.le_trans B (h.wle w _),y⟩;unfold Yp;rw[Cx ω,Al];refine Ff (e.trans (Ej (e:=(n,o)) ?_)) ?_;unfold Ae5;dsimp only;rw[Au ω,Al];dsimp only;rw[Ap1 z.pis.base.le];rfl
def eA(p:Bp->Bool)(L:A7):Nat:=(L.map λa=>bif p a.L then a.P.toNat else 0).sum
def wA(p:Bp->Bool)(R:Nat)(m:A4):Nat:=3^(eA p m.A+R)
def pGe(l b:Bp):Bool:=decide (¬Eh b l<0)
def pGt(l b:Bp):Bool:=decide (Eh l b<0)
theorem Ap6(p:Bp->Bool)(R:Nat)(m:A4):1<=wA p R m:=Nat.pow_pos δ
theorem Akb(p:Bp->Bool)(F G:A7):eA p (F++G)=eA p F+eA p G:=by unfold eA;simp
theorem Xs(p:Bp->Bool)(g:Bf)(F:A7):eA p (g::F)=(bif p g.L then g.P.toNat else 0)+eA p F:=by unfold eA;simp
theorem Ap7{p q:Bp->Bool}(h:∀l,p l=true->q l=true)(F:A7):eA p F<=eA q F:=by induction F with|nil=>exact Nat.le_refl _|cons g F ih=>rw[Xs,Xs];cases e:p g.L;rw[Al];omega;rw[Ak,h _ e,Ak];omega
theorem Bfe{p:Bp->Bool}{F:A7}(h:∀g∈F,p g.L=false):eA p F=0:=by induction F with|nil=>rfl|cons g F ih=>rw[Xs,ih λq e=>h q (by simp[e]),h g ψ,Al]
theorem Bff(F:A7):eA (λ_=>true) F=Cq F:=by induction F with|nil=>rfl|cons g F ih=>rw[Xs,ih,Ak,Cq]
theorem Bfg{p q:Bp->Bool}(h:∀l,p l=true->q l=true)(R:Nat)(m:A4):wA p R m<=wA q R m:=by unfold wA;exact Nat.pow_le_pow_right δ (by have:=Ap7 h m.A;omega)
theorem Az5{a b:Bp}(h:Eh a b<0):¬Eh b a<0:=by rw[Ja.anti a b trivial trivial];omega
theorem Az6{b:Bp}(h:pGt l b=true):pGe l b=true:=decide_eq_true (Az5 (of_decide_eq_true h))
theorem Bfh{b c:Bp}(h:Eh l b<0)(g:pGe b c=true):pGt l c=true:=by have o:¬Eh c b<0:=of_decide_eq_true g;refine decide_eq_true ?_;by_cases e:Eh c b=0;rw[(Ja.zero _ _ trivial trivial).1 e];exact h;exact Ja.trans _ _ _ trivial trivial trivial h (by rw[Ja.anti c b trivial trivial];omega)
theorem Bfi(R:Nat):AW x l b (wA (pGe l) (R+b)) (wA (pGt l) R):=by have low:∀e:A7,(∀a∈e,Eh a.L l<0)->eA (pGt l) e=0:=λe h=>Bfe λg r=>decide_eq_false (Az5 (h g r));have c:pGt l l=false:=decide_eq_false (Z9.irr l);refine⟨λm=>Ap6 _ _ _,λm e o f _ u B=>?_,λm e o g f D u B r j=>?_⟩;unfold wA;refine Nat.pow_le_pow_right δ ?_;dsimp only;rw[f,Akb,Akb,Xs,low e u,c,Al];have:=Ap7 (p:=pGt l) (q:=pGe l) (λi h=>Az6 h) o;omega;unfold wA;rw[<-Nat.pow_add];refine Nat.pow_le_pow_right δ ?_;dsimp only;have y:pGe l g.L=true:=decide_eq_true (by rw[r];exact Z9.irr l);rw[f,Akb,Akb,Xs,Xs,low e u,c,Al,y,Ak];have:=Ap7 (p:=pGt l) (q:=pGe l) (λi h=>Az6 h) o;omega
noncomputable def Akc(L:A7):List Aj×Int->Ο ((List Aj×Int)⊕List Aj):=λ(c,b)=>bif b<(L.length:Int)then((Ag L b).bind λe=>(Yp c e.L e.P).bind λf=>some (.inl (f,Aa (b+1))))else(some (.inr c))
theorem Az7(L M:A7):Cq (L++M)=Cq L+Cq M:=by induction L with|nil=>simp[Cq]|cons a L ih=>rw[Fd,Cq,Cq,ih];omega
theorem Bfj{cs:B3}{Z Y:Nat}(Q:CK cs K)(l:Jb x Y m)(h:TS x cs K Z d C S)(a6:d+(Cq m.A:Nat)<=6)(T:pv (wA (λ_=>true) (Cq m.A)) C<=A)(a7:A<=100000):∃o c,Am (Akc m.A) (S,0)=some o/\TS x cs K Z (d+(Cq m.A:Nat)) c o/\pv (λ_=>1) c<=A/\∀χ u,Ch χ u o=Ch χ u S*(Fa u m.A:Rat):=by have X:=l.1.cmo.na;have z:=pairwise_iff_getElem.1 l.1.f.srt;(have g:∀j,Cq m.A=Cq (m.A.take j)+Cq (m.A.drop j):=λj=>by rw[<-Az7,take_append_drop]);obtain⟨B,⟨o,c,p,rfl,L,q2,V,J⟩,e⟩:=Ov (step:=Akc m.A) (λj B=>∃o c p,B=(o,(j:Int))/\TS x cs K Z (d+(Cq (m.A.take j):Nat)) c o/\(∀a∈m.A.drop j,∀D,pGe a.L D=true->p D=true)/\pv (wA p (Cq (m.A.drop j))) c<=A/\∀χ u,Ch χ u o=Ch χ u S*(Fa u (m.A.take j):Rat)) m.A.length (λj B P ⟨o,c,p,i,W,b2,b3,b4⟩=>by subst i;have H:m.A[j]?=some (m.A[j]'P):=Bi _;have E:∃f,m.A[j]'P=f:=⟨_,rfl⟩;obtain⟨f,k⟩:=E;rw[k]at H;have s:=Bm H;obtain⟨a1,a2,a3,a4⟩:=l.1.f.atm f s;obtain⟨b,hb⟩:∃b:Nat,f.P=(b:Int):=⟨f.P.toNat,ω⟩;have r:f.P.toNat=b:=ω;have y:m.A.drop j=f::m.A.drop (j+1):=(by rw[drop_eq_getElem_cons P,k]);have G:Cq (m.A.drop j)=b+Cq (m.A.drop (j+1)):=(by rw[y,Cq,r]);have i:Cq (m.A.take (j+1))=Cq (m.A.take j)+b:=(by rw[Cs H,Az7,Cq,r];rfl);have h1:=g j;have hi:Ap5 x f.L b:=⟨⟨a2,a3,a4⟩,ω,by have:=l.1.f.deg;have:=(l.1.cmo.al f s).2.2.2;omega⟩;have N:pv (wA (pGe f.L) (Cq (m.A.drop (j+1))+b)) c<=A:=(by refine Nat.le_trans (Uy λq _=>?_) b3;have:=Bfg (b2 f (by rw[y];simp)) (Cq (m.A.drop (j+1))+b) q.1;rw[G,Nat.add_comm b];exact this);obtain⟨R,C2,g1,g2,g3,g4⟩:=Bfd Q hi (Bfi (Cq (m.A.drop (j+1)))) (λm=>Ap6 _ _ _) W ω ω;have U:Aa ((j:Int)+1)=((j+1:Nat):Int):=ξ;refine⟨(R,((j+1:Nat):Int)),?_,R,C2,pGt f.L,rfl,?_,λq hq D I=>?_,ω,λχ u=>?_⟩;unfold Akc;dsimp only;rw[An ω,Ak,Bq rfl H,Ac,hb,g1,Ac,U];rw[i];have:d+((Cq (m.A.take j)+b:Nat):Int)=d+(Cq (m.A.take j):Nat)+(b:Int):=ω;rw[this];exact g2;obtain⟨n,r⟩:=Gl hq;rw[getElem?_drop]at r;have M:=Dq r;have:=z j (j+1+n) P M ω;rw[Bi M]at r;cases r;rw[k]at this;exact Bfh this I;have:Fa u (m.A.take (j+1))=Fa u (m.A.take j)*bc (u f.L) b:=(by rw[Cs H,U3,Fa,Fa,Nat.mul_one,r]);rw[g4,b4,this,Rat.natCast_mul,Rat.mul_assoc]) (s0:=(S,0)) ⟨S,C,λ_=>true,rfl,by simpa[Cq]using h,λ_ _ _ _=>rfl,by simpa using T,λχ u=>by simp only[take_zero,Fa];grind⟩;rw[Dh]at L J;refine⟨o,c,e.trans (Ej ?_),L,Nat.le_trans (Apz (λm=>Ap6 _ _ _) c) V,J⟩;unfold Akc;dsimp only;rw[Au ω,Al]
theorem Ap8{m:A4}:∀{p:Ap},(∀t∈p,t.M≠m)->cf p m=0
 |[],_=>rfl
 |t::p,h=>by rw[Pu,Ap8 λu g=>h u (by simp[g]),As λe=>h t ψ e];grind
theorem Jb.mono{Z:Nat}(h:Jb x Z m)(b:Z<=Z'):Jb x Z' m:=⟨h.1,λf hf=>Nat.le_trans (h.2 f hf) b⟩
theorem Az8(h:Fm x m):D2 x m=((sF x m.F+Cq m.A:Nat):Int):=by unfold D2;rw[Be6 h.f.fac,h.f.as.1];omega
def KT(k:Nat):Nat:=1+10*(k+10)
open Classical in
theorem Bfk{x:Bh}(W:CSz x)(H:I1 x){k Z:Nat}(hk:k<=100000){p:Ap}(hp:CP p)(r:∀t∈p,Jb x Z t.M)(y:∀t∈p,RB k t.C)(I:p.length<=10){m:A4}(o:Jb x Z m)(V:∀t∈p,D2 x t.M+D2 x m<=6)(hZ:7*Z<=400000):∃S,Yf x p m=some S/\(∀t∈S,Jb x (7*Z) t.M/\RB (KT k) t.C)/\S.length<=7290/\∀χ u,(∀P,Kp x.D x.V x.E χ P)->Ch χ u S=Ch χ u p*(mX χ u m:Rat):=by
 have G:CK (p.map λt=>rq t.C) (KT k):=⟨λN a X ha h=>by have e:(p.map λt=>rq t.C)=(p.map (·.C)).map rq:=(by rw[map_map];rfl);rw[e]at h;have:=h.rb (l:=p.map (·.C)) (k:=k) (λc G=>by obtain⟨t,g,rfl⟩:=mem_map.1 G;exact y t g) ω (by rw[C3];omega) X ha;refine this.mono ?_;rw[C3];unfold KT;have:=Nat.mul_le_mul_right (k+10) I;omega,by unfold KT;omega⟩;have a0:=Az8 o.1;have a1:=o.1.f.deg;have h0:TS x (p.map λt=>rq t.C) (KT k) Z (6-D2 x m) (p.map λt=>(t.M,1)) p:=⟨hp,λt g=>(y t g).mono (by unfold KT;omega),λJ=>by
  by_cases e:∃t∈p,t.M=J
  .obtain⟨t,g,rfl⟩:=e;rw[Z1 hp g];refine(CbR.mem (mem_map.2 ⟨t,g,rfl⟩)).mono ?_;have:=Apk (λJ=>if J=t.M then 1 else 0) (L:=p.map λt=>(t.M,1)) (p:=(t.M,1)) (mem_map.2 ⟨t,g,rfl⟩);dsimp only at this;rw[Av rfl]at this;exact this
  .rw[Ap8 λt g h=>e ⟨t,g,h⟩];exact CbR.zero _ _,λq hq=>by
  obtain⟨t,g,rfl⟩:=mem_map.1 hq;have:=V t g;exact⟨r t g,by show D2 x t.M<=_;omega,Nat.le_refl _⟩⟩;have B:∀q:Ap,(∀t∈q,t∈p)->pv (wF x (-9223372036854775808) (Cq m.A+sF x m.F)) (q.map λt=>(t.M,1))<=q.length*729:=λq=>by induction q with|nil=>intro _;exact Nat.zero_le _|cons t q ih=>intro h;have h1:=ih λu hu=>h u (by simp[hu]);have D:=h t ψ;have h2:=Az8 (r t D).1;have h3:=V t D;have h4:=Be3 x (-9223372036854775808) t.M.F;have h5:wF x (-9223372036854775808) (Cq m.A+sF x m.F) t.M<=3^6:=(by unfold wF;exact Nat.pow_le_pow_right δ ω);have h7:(3:Nat)^6=729:=δ;rw[map_cons,pv,Eo,Nat.add_mul];dsimp only;omega
 have a2:=B p λ_ h=>h;obtain⟨S1,C1,v',f1,f2,f3,f4⟩:=Be7 W H G o ω (R:=Cq m.A) h0 ω (v0:= -9223372036854775808) (λf H=>by have:=(o.1.2.fr f H).2;unfold Fj at this;omega) (A:=7290) ω δ;have M:pv (wA (λ_=>true) (Cq m.A)) C1<=7290:=Nat.le_trans (Uy λq _=>by unfold wA wF;rw[Bff];exact Nat.pow_le_pow_right δ ω) f3;obtain⟨S2,C2,g1,Q,g3,g4⟩:=Bfj G o f2 ω M δ;have T:=o.1.cmo.nf;(have U:Z+m.F.length*Z<=7*Z:=by have:=Nat.mul_le_mul_right Z T;omega);refine⟨S2,?_,λt g=>⟨((Q.mem g).1).mono U,Q.rb t g⟩,Nat.le_trans (Q.len (w:=λ_=>1) λ_=>Nat.le_refl _) g3,λχ u hχ=>?_⟩;unfold Yf;refine Ff f1 ?_;refine Ff g1 ?_;rfl;rw[g4,f4 χ u hχ,Rat.mul_assoc,<-Rat.natCast_mul];rfl
noncomputable def dgF(x:Bh)(F:Ba):Int×Int->D8:=λ(o,b)=>bif b<(F.length:Int)then((Ag F b).bind λc=>(Rw x c.v).bind λf=>(show OB from bif(!f.2)then(some true)else(bif b>(0:Int)then((Ag F (Aa (b-1))).bind λh=>some (decide (h.v>=c.v)))else(some false))).bind λg=>bif g then(some (.inr (.inl (-1))))else((Tg x.D f.1 c.I).bind λe=>bif e<(1:Int)then(some (.inr (.inl (-1))))else(some (.inl (Aa (o+e),Aa (b+1))))))else(some (.inr (.inr o)))
noncomputable def dgA(x:Bh)(L:A7):Int×Int->D8:=λ(h,g)=>bif g<(L.length:Int)then((Ag L g).bind λe=>(Th e.L).bind λo=>bif(!o)then(some (.inr (.inl (-1))))else(bif((e.L.T.length:Int)==(0:Int))then(some (.inr (.inl (-1))))else((Ti x e.L).bind λc=>bif(!c)then(some (.inr (.inl (-1))))else(bif g>(0:Int)then((Ag L (Aa (g-1))).bind λb=>(Lb b.L e.L).bind λr=>bif r>=(0:Int)then(some (.inr (.inl (-1))))else(bif e.P<(1:Int)then(some (.inr (.inl (-1))))else(bif e.P>(6:Int)then(some (.inr (.inl (-1))))else(some (.inl (Aa (h+e.P),Aa (g+1)))))))else(bif e.P<(1:Int)then(some (.inr (.inl (-1))))else(bif e.P>(6:Int)then(some (.inr (.inl (-1))))else(some (.inl (Aa (h+e.P),Aa (g+1))))))))))else(some (.inr (.inr h)))
theorem Bfl(Q:Kz x.D x.V x.E)(h:Fm x m):Rr x m=some (D2 x m):=by have S:=h.cmo.nf;have U:=h.cmo.na;have u:=pairwise_iff_getElem.1 h.f.asc;have y:=pairwise_iff_getElem.1 h.f.srt;have I:=h.f.deg;(have B:∀j,0<=Bo x.D x.V x.E (m.F.take j)/\Bo x.D x.V x.E (m.F.take j)<=Bo x.D x.V x.E m.F:=λj=>by have h1:=L6 (Δ:=x.D) (Ξ:=x.V) (Θ:=x.E) (l:=m.F.take j) λf T=>h.f.fac f (mem_of_mem_take T);have h2:=L6 (Δ:=x.D) (Ξ:=x.V) (Θ:=x.E) (l:=m.F.drop j) λf T=>h.f.fac f (mem_of_mem_drop T);have h3:=L5 (Δ:=x.D) (Ξ:=x.V) (Θ:=x.E) (m.F.take j) (m.F.drop j);rw[take_append_drop]at h3;omega);(have J:∀j,0<=Co (m.A.take j)/\Co (m.A.take j)<=Co m.A:=λj=>by have h1:=(Aai (l:=m.A.take j) λa W=>(h.f.atm a (mem_of_mem_take W)).1).1;have h2:=(Aai (l:=m.A.drop j) λa W=>(h.f.atm a (mem_of_mem_drop W)).1).1;(have h3:Co m.A=Co (m.A.take j)+Co (m.A.drop j):=by unfold Co;rw[<-sum_append,<-map_append,take_append_drop]);omega);unfold D2 at I⊢;(have R:Am (dgF x m.F) (0,0)=some (.inr (Bo x.D x.V x.E m.F)):=by obtain⟨i,rfl,e⟩:=Ov (step:=dgF x m.F) (λj i=>i=(Bo x.D x.V x.E (m.F.take j),(j:Int))) m.F.length (λj i r q=>by subst q;have o:m.F[j]?=some (m.F[j]'r):=Bi _;have k:∃f,m.F[j]'r=f:=⟨_,rfl⟩;obtain⟨f,g⟩:=k;rw[g]at o;have c:=Bm o;obtain⟨t,b,M,X,Z,Y,V⟩:=U2 (h.f.fac f c);(have E:Bo x.D x.V x.E (m.F.take (j+1))=Bo x.D x.V x.E (m.F.take j)+(b:Int):=by rw[Cs o,L5,Aj7,V];have:Bo x.D x.V x.E []=0:=rfl;omega);have b1:=B j;have b2:=B (j+1);have H:=J 0;(have A:Aa (Bo x.D x.V x.E (m.F.take j)+(b:Int))=Bo x.D x.V x.E (m.F.take (j+1)):=by rw[E,Aa,Bz]<;>omega);(have z:Aa ((j:Int)+1)=((j+1:Nat):Int):=by rw[Aa,Bz]<;>omega);(have s:(show OB from bif(!(true:Bool))then some true else(bif(j:Int)>(0:Int)then((Ag m.F (Aa ((j:Int)-1))).bind λD=>some (decide (D.v>=f.v)))else some false))=some false:=by by_cases H:j=0;subst H;rfl;(have e:Aa ((j:Int)-1)=((j-1:Nat):Int):=by rw[Aa,Bz]<;>omega);have P:m.F[j-1]?=some m.F[j-1]:=Bi ω;have:=u (j-1) j ω r ω;rw[g]at this;show(bif(j:Int)>(0:Int)then _ else _)=_;rw[An ω,Ak,e,Bq rfl P,Ac,Au ω]);refine⟨_,?_,rfl⟩;unfold dgF;dsimp only;rw[An ω,Ak,Bq rfl o,Ac,Ain,M,Ac];refine Ff s ?_;(have G:G0 (some b)=(b:Int):=by unfold G0;simp;omega);rw[Al,Anm Q.vd Q.sh t f.I (Q.sz _ _ M) (h.2.fi f c),X,Ac,G,Au ω,Al,A,z]) (s0:=(0,0)) rfl;rw[Dh]at e;refine e.trans (Ej ?_);unfold dgF;dsimp only;rw[Au ω,Al]);(have N:Am (dgA x m.A) (Bo x.D x.V x.E m.F,0)=some (.inr (Bo x.D x.V x.E m.F+Co m.A)):=by obtain⟨i,rfl,e⟩:=Ov (step:=dgA x m.A) (λj i=>i=(Bo x.D x.V x.E m.F+Co (m.A.take j),(j:Int))) m.A.length (λj i r q=>by subst q;have o:m.A[j]?=some (m.A[j]'r):=Bi _;have k:∃f,m.A[j]'r=f:=⟨_,rfl⟩;obtain⟨f,g⟩:=k;rw[g]at o;have c:=Bm o;obtain⟨a1,a2,a3,a4⟩:=h.f.atm f c;have a6:=(h.cmo.al f c).2.2.2;(have E:Co (m.A.take (j+1))=Co (m.A.take j)+f.P:=by rw[Cs o];unfold Co;rw[map_append,sum_append];simp);have b1:=J j;have b2:=J (j+1);have H:=B 0;have L:=B m.F.length;rw[Dh]at L;(have A:Aa (Bo x.D x.V x.E m.F+Co (m.A.take j)+f.P)=Bo x.D x.V x.E m.F+Co (m.A.take (j+1)):=by rw[E,Aa,Bz]<;>omega);(have z:Aa ((j:Int)+1)=((j+1:Nat):Int):=by rw[Aa,Bz]<;>omega);refine⟨_,?_,rfl⟩;unfold dgA;dsimp only;rw[An ω,Ak,Bq rfl o,Ac,Avx,a2,Ac,Fc,Al,Cx ω,Al,Av1 x f.L (h.2.al f c),a4,Ac,Fc,Al];by_cases H:j=0;subst H;rw[Au ω,Al,Au ω,Al,Au ω,Al,A,z];(have e:Aa ((j:Int)-1)=((j-1:Nat):Int):=by rw[Aa,Bz]<;>omega);have P:m.A[j-1]?=some m.A[j-1]:=Bi ω;have:=y (j-1) j ω r ω;rw[g]at this;rw[An ω,Ak,e,Bq rfl P,Ac,Aik _ _ (by have:=h.2.al _ (Bm P);omega),Ac,Au ω,Al,Au ω,Al,Au ω,Al,A,z]) (s0:=(Bo x.D x.V x.E m.F,0)) (by show _=(_+Co [],_);have:Co []=0:=rfl;rw[this,Int.add_zero];rfl);rw[Dh]at e;refine e.trans (Ej ?_);unfold dgA;dsimp only;rw[Au ω,Al]);unfold Rr;refine Ff R ?_;dsimp only;refine Ff N ?_;dsimp only;rw[Au ω,Al]
theorem Az9(J:Kz x.D x.V x.E)(h:∀t∈p,Fm x t.M)(D:p.length<=1000):∃T,Tb x p=some T/\0<=T/\T<=6/\(∀t∈p,D2 x t.M<=T)/\(T=0\/∃t∈p,D2 x t.M=T):=by obtain⟨i,⟨T,rfl,A,z,q,l⟩,e⟩:=Ov (step:=λ(G,g)=>bif g<(p.length:Int)then((Ag p g).bind λy=>(Rr x y.M).bind λH=>some (.inl ((if H>G then H else G),Aa (g+1))))else(some (.inr G))) (λj i=>∃T:Int,i=(T,(j:Int))/\0<=T/\T<=6/\(∀t∈p.take j,D2 x t.M<=T)/\(T=0\/∃t∈p.take j,D2 x t.M=T)) p.length (λj i I ⟨T,k,M,P,B,c⟩=>by subst k;have r:p[j]?=some (p[j]'I):=Bi _;generalize p[j]'I=t at r;have b:=h t (Bm r);have Q:=Aps b;have E:=b.f.deg;(have s:Aa ((j:Int)+1)=((j+1:Nat):Int):=by rw[Aa,Bz]<;>omega);refine⟨((if D2 x t.M>T then D2 x t.M else T),((j+1:Nat):Int)),?_,_,rfl,?_,?_,λu o=>?_,?_⟩;simp only[An (ω:(j:Int)<(p.length:Int)),Ak,Bq rfl r,Ac,Bfl J b,s];split<;>omega;split<;>omega;rw[Cs r,Ea,Fh]at o;rcases o with o|rfl;have:=B u o;split<;>omega;split<;>omega;rw[Cs r];by_cases e:D2 x t.M>T;rw[Av e];exact .inr ⟨t,ψ,rfl⟩;rw[As e];rcases c with c|⟨u,o,c⟩;exact .inl c;exact .inr ⟨u,by simp[o],c⟩) (s0:=(0,0)) ⟨0,rfl,δ,δ,λt L=>by simp at L,.inl rfl⟩;rw[Dh]at q l;refine⟨T,?_,A,z,q,l⟩;unfold Tb;refine Ff (e.trans (Ej (e:=T) ?_)) rfl;simp only[Au (ω:¬(p.length:Int)<(p.length:Int)),Al]
open Classical in
theorem Bfm{K r:Nat}{n:Nat}{b:Ap}(h:PSt K n b){m:A4}{c:Ay}(M:RB r c)(P:MSz m)(R:K+r+3<30000000000)(hb:b.length<=100000){Q:A4->Prop}(T:∀t∈b.take n,Q t.M)(y:Q m):∃g o,J6 n m c b=some (g,o)/\o.length<=b.length+1/\PSt (K+r+3) g o/\(∀t∈o.take g,Q t.M)/\∀χ v,Ch χ v (o.take g)=Ch χ v (b.take n)+rq c*(mX χ v m:Rat):=by obtain⟨g,o,U,V,B,H⟩:=Ax0 h M P R hb;refine⟨g,o,U,V,B,λt I=>?_,λχ v=>?_⟩;by_cases e:m=t.M;rw[<-e];exact y;have D:=H t.M;rw[As e,Z1 B.cp I]at D;by_cases J:∃u∈b.take n,u.M=t.M;obtain⟨u,G,W⟩:=J;rw[<-W];exact T u G;rw[Ap8 λu G h=>J ⟨u,G,h⟩]at D;exact((B.cp.coe t I).2 (by rw[D];grind)).elim;rw[Aj3 (p:=b.take n++[⟨c,m⟩]) (q:=o.take g) λL=>?_,Xp];simp only[Ch,mX];grind;rw[H,Sg];congr 1;show _=(if D5 m L=0 then rq c else 0)+0;by_cases e:m=L;rw[Av e,Av (Lj.2 e)];grind;rw[As e,As λh=>e (Lj.1 h)];grind
noncomputable def Ae6(S:Ap)(c:Ay):Nat×Int×List Aj->De:=λ(g,e,f)=>bif e<(S.length:Int)then((Ag S e).bind λh=>(Ik h.C c).bind λo=>(J6 g h.M o f).bind λb=>some (.inl (b.1,Aa (e+1),b.2)))else(some (.inr (g,e,f)))
theorem Bfn{l G:Nat}(hG:k+l+5<=G)(M:73000*G<30000000000){Q:A4->Prop}(E:∀t∈S,RB k t.C/\MSz t.M/\Q t.M)(hk:k<=10000000)(Z:l<=10000000){c:Ay}(W:RB l c){f:Nat}{b:Ap}(h:PSt (N*G) f b)(hN:b.length<=N)(J:N+S.length<=72900)(I:∀t∈b.take f,Q t.M):∃n o,Am (Ae6 S c) (f,0,b)=some (n,(S.length:Int),o)/\PSt ((N+S.length)*G) n o/\o.length<=N+S.length/\(∀t∈o.take n,Q t.M)/\∀χ v,Ch χ v (o.take n)=Ch χ v (b.take f)+Ch χ v S*rq c:=by obtain⟨i,⟨n,o,rfl,D,B,A,s⟩,e⟩:=Ov (step:=Ae6 S c) (λj i=>∃n o,i=(n,(j:Int),o)/\PSt ((N+j)*G) n o/\o.length<=N+j/\(∀t∈o.take n,Q t.M)/\∀χ v,Ch χ v (o.take n)=Ch χ v (b.take f)+Ch χ v (S.take j)*rq c) S.length (λj i H ⟨n,o,q,b1,b2,Y,X⟩=>by subst q;have r:S[j]?=some (S[j]'H):=Bi _;generalize S[j]'H=t at r;obtain⟨t1,t2,t3⟩:=E t (Bm r);obtain⟨z,_,z2,z3,z4,z5⟩:=Adz t1 W ω ω;have L:(N+j)*G+G<=73000*G:=(by rw[<-Nat.succ_mul];exact Nat.mul_le_mul_right _ ω);obtain⟨x,P,V,e2,g,U,R⟩:=Bfm b1 z3 t2 ω ω Y t3;have y:Aa ((j:Int)+1)=((j+1:Nat):Int):=ξ;refine⟨(x,((j+1:Nat):Int),P),?_,x,P,rfl,?_,ω,U,λχ v=>?_⟩;unfold Ae6;dsimp only;rw[An ω,Ak,Bq rfl r,Ac,z2,Ac,V,Ac,y];refine⟨g.le,g.cp,λu T=>⟨((g.tm u T).1).mono ?_,(g.tm u T).2⟩⟩;have:(N+(j+1))*G=(N+j)*G+G:=(by rw[show N+(j+1)=(N+j)+1 by omega,Nat.succ_mul]);omega;rw[R,X,z5,Cs r,Aj8];grind) (s0:=(f,0,b)) ⟨f,b,rfl,by simpa using h,ω,I,λχ v=>by show _=_+0*_;grind⟩;rw[Dh]at s;refine⟨n,o,e.trans (Ej ?_),D,B,A,s⟩;unfold Ae6;dsimp only;rw[Au ω,Al]
def lc{α:Type}(f:α->Rat):Λ (Rat×α)->Rat
 |[]=>0
 |p::l=>p.1*f p.2+lc f l
theorem Akd(f:α->Rat)(l m:Λ (Rat×α)):lc f (l++m)=lc f l+lc f m:=by induction l with|nil=>simp only[nil_append,lc];grind|cons p l ih=>simp only[Fd,lc,ih];grind
theorem Ake(f:β->Rat)(g:α->β)(l:Λ (Rat×α)):lc f (l.map λp=>(p.1,g p.2))=lc (λx=>f (g x)) l:=by induction l with|nil=>rfl|cons p l ih=>simp only[map_cons,lc,ih]
theorem Bfo(f:β->Rat)(g:α->β)(c:Rat)(l:Λ (Rat×α)):lc f (l.map λp=>(c*p.1,g p.2))=c*lc (λx=>f (g x)) l:=by induction l with|nil=>simp only[map_nil,lc];grind|cons p l ih=>simp only[map_cons,lc,ih];grind
theorem Xt(f:β->Rat)(g:Rat×α->Λ (Rat×β))(h:α->Rat)(l:Λ (Rat×α))(hg:∀p,lc f (g p)=p.1*h p.2):lc f (l.flatMap g)=lc h l:=by induction l with|nil=>rfl|cons p l ih=>rw[flatMap_cons,Akd,hg,ih,lc]
theorem Ap9(f:α->Rat)(c:Rat)(l:Λ (Rat×α)):lc (λx=>c*f x) l=c*lc f l:=by induction l with|nil=>simp only[lc];grind|cons p l ih=>simp only[lc,ih];grind
theorem A0a(f:α->Rat)(c:Rat)(l:Λ (Rat×α)):lc (λx=>f x*c) l=lc f l*c:=by induction l with|nil=>simp only[lc];grind|cons p l ih=>simp only[lc,ih];grind
theorem K6{f g:α->Rat}{l:Λ (Rat×α)}(h:∀p∈l,f p.2=g p.2):lc f l=lc g l:=by induction l with|nil=>rfl|cons p l ih=>simp only[lc,h p ψ,ih λq e=>h q (by simp[e])]
theorem Aal(l:Λ (Rat×α)):lc (λ_=>0) l=0:=by induction l with|nil=>rfl|cons p l ih=>simp only[lc,ih];grind
open Classical in
noncomputable def ind(p:Prop):Rat:=if p then 1 else 0
theorem Jc{p:Prop}(h:p):ind p=1:=Av h
theorem It{p:Prop}(h:¬p):ind p=0:=As h
theorem Akf{p q r:Prop}(h:r↔p/\q):ind p*ind q=ind r:=by by_cases g:p;by_cases o:q;rw[Jc g,Jc o,Jc (h.2 ⟨g,o⟩)];grind;rw[It o,It λe=>o (h.1 e).2];grind;rw[It g,It λe=>g (h.1 e).1];grind
theorem Aqa:∀k:Nat,∃L:Λ (Rat×Nat),∀m:Nat,lc (λn=>(bc n m:Rat)) L=ind (m=k)
 |0=>⟨[(1,0)],λm=>by cases m with|zero=>rw[Jc rfl];simp only[lc,bc];grind|succ m=>rw[It ω];simp only[lc,bc];grind⟩
 |k+1=>by obtain⟨L,h⟩:=Aqa k;refine⟨L.flatMap λp=>[(p.1,p.2+1),(- p.1,p.2)],λm=>?_⟩;cases m with|zero=>rw[Xt _ _ (λ_=>0) L λp=>by simp only[lc,Kn];grind,Aal,It ω]|succ m=>rw[Xt _ _ (λn=>(bc n m:Rat)) L λp=>by simp only[lc,bc,Rat.natCast_add];grind,h m];by_cases e:m=k;rw[Jc e,Jc ω];rw[It e,It ω]
def Aqb(Δ:Ad)(t:Ah)(i:Af)(L:Λ (Rat×He)):Prop:=∀j d,C7 Δ j t=some d->lc (λw=>(gv Δ j t w:Rat)) L=ind (j=i)
theorem A0b(G:∀t i d,Br i<=k->C7 Δ i t=some d->∃L,Aqb Δ t i L):∀(ts:A1)(is:A2)(d:Nat),Bv is<=k->Cg Δ is ts=some d->∃L:Λ (Rat×List He),∀c f,Cg Δ c ts=some f->lc (λl=>(gvs Δ c ts l:Rat)) L=ind (c=is):=by intro ts;induction ts with|nil=>(intro is d _ h;refine⟨[(1,[])],λc f e=>?_⟩;cases is with|cons i is=>simp only[Cg]at h;cases h|nil=>cases c with|cons j c=>simp only[Cg]at e;cases e|nil=>rw[Jc rfl];simp only[lc,Aj6];grind)|cons t ts ih=>intro is d s h;cases is with|nil=>simp only[Cg]at h;cases h|cons i is=>simp only[Bv]at s;rw[Mn]at h;cases o:C7 Δ i t with|none=>rw[o]at h;cases h|some a=>cases B:Cg Δ is ts with|none=>rw[o,B]at h;cases h|some b=>obtain⟨L,x⟩:=G t i a ω o;obtain⟨M,u⟩:=ih is b ω B;refine⟨L.flatMap λp=>M.map λq=>(p.1*q.1,p.2::q.2),λc f e=>?_⟩;cases c with|nil=>simp only[Cg]at e;cases e|cons j c=>rw[Mn]at e;cases r:C7 Δ j t with|none=>rw[r]at e;cases e|some z=>cases D:Cg Δ c ts with|none=>rw[r,D]at e;cases e|some y=>rw[Xt _ _ (λw=>(gv Δ j t w:Rat)*ind (c=is)) L λp=>by rw[Bfo _ (λq=>p.2::q) p.1 M,K6 (g:=λq=>(gv Δ j t p.2:Rat)*(gvs Δ c ts q:Rat)) λq _=>by rw[Aaj,Rat.natCast_mul];rfl,Ap9,u c y D]];rw[A0a,x j z r];exact Akf ψ
theorem Bfp(r:∀t i d,Br i<=k->C7 Δ i t=some d->∃L,Aqb Δ t i L){e:Af}{ts:A1}{d:Nat}(s:Bv e.K<=k)(y:Gz Δ t e.U=some ts)(B:Cg Δ e.K ts=some d):∃L:Λ (Rat×He),∀e':Af,(∃ts l,Gz Δ t e'.U=some ts/\Cg Δ e'.K ts=some l)->lc (λx=>(gOf Δ t e' x:Rat)) L=ind (e'=e):=by obtain⟨L,u⟩:=A0b r ts e.K d s B;refine⟨L.map λp=>(p.1,He.mk e.U p.2),λe' ⟨c,l,f,q⟩=>?_⟩;rw[Ake _ λb=>He.mk e.U b];by_cases o:e.U=e'.U;have j:c=ts:=(by rw[<-o,y]at f;exact(E6 f).symm);subst j;have hp:Mq Δ t e'.U=c:=(by unfold Mq;rw[f]);rw[K6 (g:=λb=>(gvs Δ e'.K c b:Rat)) λp _=>by unfold gOf;rw[Av o,hp],u e'.K l q];by_cases h:e'.K=e.K;rw[Jc h,Jc];cases e;cases e';simp only at o h;rw[o,h];rw[It h,It];rintro rfl;exact h rfl;rw[K6 (g:=λ_=>0) λp _=>by unfold gOf;rw[As o];rfl,Aal,It];rintro rfl;exact o rfl
theorem Bfq{W:Af->He->Nat}{P:Af->Prop}:∀(es:A2),(∀e∈es,∃L:Λ (Rat×He),∀e',P e'->lc (λx=>(W e' x:Rat)) L=ind (e'=e))->∃L:Λ (Rat×List He),∀g:A2,(∀f∈g,P f)->lc (λxs=>(eS (g.map W) xs:Rat)) L=ind (g=es):=by intro es;induction es with|nil=>(intro _;refine⟨[(1,[])],λg _=>?_⟩;cases g with|nil=>rw[Jc rfl];simp only[lc,map_nil,eS];grind|cons f g=>rw[It ψ];simp only[lc,map_cons,eS];grind)|cons e es ih=>intro o;obtain⟨L,c⟩:=o e ψ;obtain⟨M,b⟩:=ih λx h=>o x (by simp[h]);refine⟨L.flatMap λp=>M.flatMap λq=>[(p.1*q.1,p.2::q.2),(- (p.1*q.1),q.2)],λg r=>?_⟩;cases g with|nil=>rw[Xt _ _ (λ_=>0) L λp=>by rw[Xt _ _ (λ_=>0) M λq=>by simp only[lc,map_nil,Aek];grind,Aal];grind,Aal,It ψ]|cons f g=>rw[Xt _ _ (λx=>(W f x:Rat)*ind (g=es)) L λp=>by rw[Xt _ _ (λxs=>p.1*(W f p.2:Rat)*(eS (g.map W) xs:Rat)) M λq=>by simp only[lc,map_cons,eS,Rat.natCast_add,Rat.natCast_mul];grind,Ap9,b g λx h=>r x (by simp[h])];grind];rw[A0a,c f (r f ψ)];exact Akf ψ
theorem Bfr(Δ:Ad):∀(k:Nat)(t:Ah)(i:Af)(d:Nat),Br i<=k->C7 Δ i t=some d->∃L,Aqb Δ t i L:=by intro k;induction k with|zero=>intro t i d h;have:=Dy i;omega|succ k ih=>intro t i d J r;have I:=Dy i;by_cases b:t.G=6;obtain⟨L,x⟩:=A0b ih t.R i.K d ω (Oq b r);refine⟨L.map λp=>(p.1,He.mk 0 p.2),λj f o=>?_⟩;rw[Ake _ λq=>He.mk 0 q,K6 (g:=λq=>(gvs Δ j.K t.R q:Rat)) λp _=>by rw[Oz,Av b],x j.K f (Oq b o)];(have u:i.U=0:=by rw[Lg,Av b]at r;split at r;assumption;cases r);(have s:j.U=0:=by rw[Lg,Av b]at o;split at o;assumption;cases o);by_cases h:j.K=i.K;rw[Jc h,Jc];cases i;cases j;simp only at u s h;rw[u,s,h];rw[It h,It];rintro rfl;exact h rfl;by_cases c:t.G=7;obtain⟨L,x⟩:=Aqa d;refine⟨L.map λp=>(p.1,He.mk 0 (replicate p.2 noV)),λj f o=>?_⟩;obtain⟨⟨U,V,T⟩,X⟩:=Q3 c r;obtain⟨⟨b1,b2,G⟩,E⟩:=Q3 c o;rw[Ake _ λn=>He.mk 0 (replicate n noV),K6 (g:=λn=>(bc n f:Rat)) λp _=>by rw[Oz,As b,Av c,E,length_replicate],x];by_cases h:f=d;rw[Jc h,Jc];have A:=F5.1 T;have z:=F5.1 G;have y:j.U=i.U:=ω;cases i;cases j;simp only at A z y;rw[A,z,y];rw[It h,It];rintro rfl;exact h ω;by_cases l:t.G=5;obtain⟨_,D⟩:=Xk Δ _ _ _ (Ot l r);(obtain⟨L,x⟩:=Bfq (W:=gOf Δ t) (P:=λe=>∃ts f,Gz Δ t e.U=some ts/\Cg Δ e.K ts=some f) i.K λe Q=>by obtain⟨ts,H,M⟩:=D e Q;have:=Jh Q;have:=Dy e;exact Bfp ih ω H M);refine⟨L.map λp=>(p.1,He.mk 0 p.2),λj f o=>?_⟩;obtain⟨_,B⟩:=Xk Δ _ _ _ (Ot l o);rw[Ake _ λq=>He.mk 0 q,K6 (g:=λxs=>(eS (j.K.map (gOf Δ t)) xs:Rat)) λp _=>by rw[Oz,As b,As c,Av l,Xq],x j.K λe Q=>by obtain⟨ts,H,M⟩:=B e Q;exact⟨ts,_,H,M⟩];(have u:i.U=0:=by rw[Lg,As b,As c,Av l]at r;split at r;assumption;cases r);(have s:j.U=0:=by rw[Lg,As b,As c,Av l]at o;split at o;assumption;cases o);by_cases h:j.K=i.K;rw[Jc h,Jc];cases i;cases j;simp only at u s h;rw[u,s,h];rw[It h,It];rintro rfl;exact h rfl;refine⟨[(1,noV)],λj f o=>?_⟩;(have e:∀{i:Af}{d:Nat},C7 Δ i t=some d->i=⟨0,[]⟩:=λ{i d} h=>by rw[Lg,As b,As c,As l]at h;split at h;rename_i R;cases i;have H:=R.1;have M:=F5.1 R.2;simp only at H M;rw[H,M];cases h);rw[e r,e o,Jc rfl];simp only[lc];rw[Oz,As b,As c,As l];show(1:Rat)*((1:Nat):Rat)+0=1;rw[show((1:Nat):Rat)=1 from rfl];grind
theorem Aqc{α β:Type}(f:α->β->Rat)(D:Λ (Rat×β)):∀L:Λ (Rat×α),lc (λp=>lc (λx=>f p x) D) L=lc (λx=>lc (λp=>f p x) L) D
 |[]=>(Aal D).symm
 |q::L=>by have e:lc (λx=>lc (λp=>f p x) (q::L)) D=q.1*lc (λx=>f q.2 x) D+lc (λx=>lc (λp=>f p x) L) D:=(by clear Aqc;induction D with|nil=>simp only[lc];grind|cons d D ih=>simp only[lc]at ih⊢;grind);rw[e,<-Aqc f D L];rfl
def pk{C:Type}(g:C->Nat):Λ C->Nat
 |[]=>1
 |c::K=>g c*pk g K
theorem Aqd{C:Type}{g h:C->Nat}:∀{K:Λ C},(∀c∈K,g c=h c)->pk g K=pk h K
 |[],_=>rfl
 |c::K,e=>by simp only[pk];rw[e c ψ,Aqd λd o=>e d (by simp[o])]
theorem A0c{C:Type}:∀K:Λ C,pk (λ_=>1) K=1
 |[]=>rfl
 |c::K=>by simp only[pk,A0c K]
theorem A0d{C:Type}{g h:C->Nat}{c:C}:∀{K:Λ C},K.Nodup->c∈K->g c=1->(∀d,d≠c->h d=g d)->pk h K=h c*pk g K
 |[],_,o,_,_=>by cases o
 |d::K,r,o,y,u=>by have r:=List.nodup_cons.1 r;by_cases e:d=c;subst e;simp only[pk];rw[y,Nat.one_mul,Aqd λx B=>u x λe=>r.1 (e▸B)];(have o:c∈K:=by rcases En.1 o with rfl|o;exact(e rfl).elim;exact o);simp only[pk];rw[u d e,A0d r.2 o y u,Nat.mul_left_comm]
theorem A0e{C:Type}:∀l:Λ C,∃K:Λ C,K.Nodup/\∀c∈l,c∈K
 |[]=>⟨[],List.nodup_nil,λ_ h=>by cases h⟩
 |c::l=>by obtain⟨K,g,o⟩:=A0e l;by_cases h:c∈K;refine⟨K,g,λd e=>?_⟩;rcases En.1 e with rfl|e;exact h;exact o d e;refine⟨c::K,List.nodup_cons.2 ⟨h,g⟩,λd e=>?_⟩;rcases En.1 e with rfl|e;simp;simp[o d e]
def Nd{C E P:Type}(val:C->P->E->Nat)(c:C)(p:P):Ο E->Nat
 |none=>1
 |some e=>val c p e
open Classical in
theorem Bfs{X C E P:Type}{val:C->P->E->Nat}{look:C->X->Ο E}{T:C->Ο E}{D:Λ (Rat×X)}(z:P):∀(K:Λ C)(w:X->Rat),K.Nodup->(∀c∈K,∃L:Λ (Rat×P),∀x∈D,lc (λp=>(Nd val c p (look c x.2):Rat)) L=ind (look c x.2=T c))->(∀A:C->P,lc (λx=>w x*(pk (λc=>Nd val c (A c) (look c x)) K:Rat)) D=0)->lc (λx=>w x*ind (∀c∈K,look c x=T c)) D=0:=by intro K;induction K with|nil=>intro w _ _ h;rw[<-h λ_=>z];refine K6 λq _=>?_;rw[Jc λc B=>by cases B];rfl|cons c K ih=>intro w o u h;have o:=List.nodup_cons.1 o;obtain⟨L,G⟩:=u c ψ;(have r:=ih (λx=>w x*ind (look c x=T c)) o.2 (λd e=>u d (by simp[e])) λA=>by(have y:lc (λp=>lc (λx=>w x*((Nd val c p (look c x)*pk (λc=>Nd val c (A c) (look c x)) K:Nat):Rat)) D) L=0:=by rw[K6 (g:=λ_=>0) λp _=>?_,Aal];have H:=h λd=>if d=c then p.2 else A d;rw[<-H];refine K6 λx _=>?_;simp only[pk,Av];(have I:pk (λd=>Nd val d (if d=c then p.2 else A d) (look d x.2)) K=pk (λd=>Nd val d (A d) (look d x.2)) K:=Aqd λd e=>by have:¬d=c:=(by rintro rfl;exact o.1 e);rw[As this]);rw[I]);rw[Aqc]at y;rw[<-y];refine K6 λx J=>?_;rw[K6 (g:=λp=>(w x.2*(pk (λc=>Nd val c (A c) (look c x.2)) K:Rat))*(Nd val c p (look c x.2):Rat)) λp _=>by rw[Rat.natCast_mul];grind,Ap9,G x J];grind);rw[<-r];refine K6 λx _=>?_;have:ind (look c x.2=T c)*ind (∀d∈K,look d x.2=T d)=ind (∀d∈c::K,look d x.2=T d):=Akf ψ;rw[<-this];grind
noncomputable def look{C E:Type}(c:C):Λ (C×E)->Ο E
 |[]=>none
 |q::l=>open Classical in if q.1=c then some q.2 else look c l
theorem Aam{C E:Type}{c:C}{e:E}:∀{l:Λ (C×E)},look c l=some e->(c,e)∈l
 |[],h=>by cases h
 |q::l,h=>by rw[look]at h;split at h;rename_i g;cases h;cases g;simp;exact mem_cons_of_mem _ (Aam h)
theorem Aan{C E:Type}{c:C}:∀{l:Λ (C×E)},(∀q∈l,q.1≠c)->look c l=none
 |[],_=>rfl
 |q::l,h=>by rw[look,As (h q ψ)];exact Aan λr e=>h r (by simp[e])
def prq{C E P:Type}(val:C->P->E->Nat)(A:C->P):Λ (C×E)->Nat
 |[]=>1
 |q::l=>val q.1 (A q.1) q.2*prq val A l
theorem A0f{C E P:Type}{val:C->P->E->Nat}{A:C->P}{K:Λ C}(f:K.Nodup):∀{l:Λ (C×E)},(∀q∈l,q.1∈K)->(l.Pairwise λa b=>a.1≠b.1)->prq val A l=pk (λc=>Nd val c (A c) (look c l)) K
 |[],_,_=>(A0c K).symm
 |q::l,h,hp=>by have hp:=pairwise_cons.1 hp;rw[A0d (g:=λc=>Nd val c (A c) (look c l)) f (h q ψ) (by rw[Aan λr o e=>hp.1 r o e.symm];rfl) λd u=>by rw[look,As λe=>u e.symm],prq,A0f f (λr o=>h r (by simp[o])) hp.2];rw[look,Av rfl];rfl
theorem A0g{C:Type}{R:C->C->Prop}(k:∀a b,R a b->¬R b a):∀{l m:Λ (C×E)},(l.Pairwise λa b=>R a.1 b.1)->(m.Pairwise λa b=>R a.1 b.1)->(∀c,look c l=look c m)->l=m:=by(have o:∀a b,R a b->a≠b:=λa b h e=>by subst e;exact k a a h h);intro l;induction l with|nil=>(intro m _ _ h;cases m with|nil=>rfl|cons r m=>have:=h r.1;rw[look,look,Av rfl]at this;cases this)|cons q l ih=>intro m x u h;cases m with|nil=>have:=h q.1;rw[look,look,Av rfl]at this;cases this|cons r m=>have i:=pairwise_cons.1 x;have g:=pairwise_cons.1 u;have B:=h q.1;rw[look,Av rfl]at B;have D:=h r.1;have G:look r.1 (r::m)=some r.2:=(by rw[look,Av rfl]);rw[G]at D;(have e:q=r:=by rcases En.1 (Aam B.symm)with e|e;exact e;rcases En.1 (Aam D)with f|f;exact f.symm;exact(k _ _ (g.1 _ e) (i.1 _ f)).elim);subst e;congr 1;refine ih i.2 g.2 λc=>?_;by_cases y:q.1=c;subst y;rw[Aan λs j e=>o _ _ (i.1 s j) e.symm,Aan λs j e=>o _ _ (g.1 s j) e.symm];have:=h c;rwa [look,look,As y,As y]at this
theorem A0h{X C P:Type}{val:C->P->E->Nat}{Ok:C->E->Prop}{z:P}(B:∀c e,Ok c e->val c z e=0)(I:∀c i,Ok c i->∃L:Λ (Rat×P),∀e,Ok c e->lc (λp=>(val c p e:Rat)) L=ind (e=i)){ent:X->Λ (C×E)}{x0:X}{D:Λ (Rat×X)}(w:X->Rat)(h0:∀q∈ent x0,Ok q.1 q.2)(s:∀x∈D,(∀q∈ent x.2,Ok q.1 q.2)/\(ent x.2).Pairwise λa b=>a.1≠b.1)(h:∀A:C->P,lc (λx=>w x*(prq val A (ent x):Rat)) D=0):lc (λx=>w x*ind (∀c,look c (ent x)=look c (ent x0))) D=0:=by obtain⟨K,y,u⟩:=A0e ((ent x0).map (·.1)++D.flatMap λx=>(ent x.2).map (·.1));have l:∀q∈ent x0,q.1∈K:=λq r=>u _ (Ea.2 (.inl (mem_map.2 ⟨q,r,rfl⟩)));have g:∀x∈D,∀q∈ent x.2,q.1∈K:=λx o q r=>u _ (Ea.2 (.inr (mem_flatMap.2 ⟨x,o,mem_map.2 ⟨q,r,rfl⟩⟩)));(have M:=Bfs (val:=val) (look:=λc x=>look c (ent x)) (T:=λc=>look c (ent x0)) (D:=D) z K w y (λc _=>by cases Q:look c (ent x0)with|none=>(refine⟨[(1,z)],λx o=>?_⟩;cases f:look c (ent x.2)with|none=>rw[Jc rfl];simp only[lc,Nd];show(1:Rat)*((1:Nat):Rat)+0=1;rw[show((1:Nat):Rat)=1 from rfl];grind|some e=>rw[It ψ];simp only[lc,Nd];rw[B c e ((s x o).1 _ (Aam f))];show(1:Rat)*((0:Nat):Rat)+0=0;rw[show((0:Nat):Rat)=0 from rfl];grind)|some i=>obtain⟨L,G⟩:=I c i (h0 _ (Aam Q));refine⟨L++[(- lc (λ_=>1) L,z)],λx o=>?_⟩;rw[Akd];cases f:look c (ent x.2)with|none=>rw[It ψ];simp only[lc,Nd];show lc (λ_=>((1:Nat):Rat)) L+(- lc (λ_=>1) L*((1:Nat):Rat)+0)=0;rw[show((1:Nat):Rat)=1 from rfl];grind|some e=>have ok:=(s x o).1 _ (Aam f);simp only[lc,Nd];rw[G e ok,B c e ok,show((0:Nat):Rat)=0 from rfl];by_cases H:e=i;rw[Jc H,Jc (by rw[H])];grind;rw[It H,It λk=>H (E6 k)];grind) λA=>by rw[<-h A];exact K6 λx o=>by rw[A0f y (g x o) (s x o).2]);rw[<-M];refine K6 λx o=>?_;congr 1;by_cases J:∀c,look c (ent x.2)=look c (ent x0);rw[Jc J,Jc λc _=>J c];rw[It J,It λk=>J λc=>?_];by_cases j:c∈K;exact k c j;rw[Aan (c:=c) λq r e=>j (e▸g x o q r),Aan (c:=c) λq r e=>j (e▸l q r)]
def Pz(m:A4):Λ (Int×Af):=m.F.map λf=>(f.v,f.I)
def Xu(m:A4):Λ (Bp×Nat):=m.A.map λa=>(a.L,a.P.toNat)
def gF(x:Bh)(v:Int)(p:He)(i:Af):Nat:=match E5 x.V x.E v with|some t=>gv x.D i t p|none=>1
def gX(x:Bh)(A:Int->He)(f:Bd):Nat:=gF x f.v (A f.v) f.I
def cV(B:Bp->Nat)(l:Bp):Nat:=if l.T.length=0 then l.Q.toNat else B l
theorem Bft(B:Bp->Nat):L7 (cV B):=λl h=>by unfold cV;rw[Av h]
theorem Bfu(x:Bh)(A:Int->He)(P:Ba):Kp x.D x.V x.E (gX x A) P:=λg _ t h=>by(have e:∀i,gX x A ⟨g.v,i⟩=gv x.D i t (A g.v):=λi=>by unfold gX gF;rw[h]);have o:(λi=>gX x A ⟨g.v,i⟩)=λi=>gv x.D i t (A g.v):=funext e;exact⟨by rw[o];exact Bew x.D t _,λi r _ _=>by rw[e];exact Bex x.D i t _ (Br i) (Nat.le_refl _) r⟩
theorem Bfv(x:Bh)(A:Int->He)(m:A4):Ey (m.F.map (gX x A))=prq (gF x) A (Pz m):=by unfold Pz;generalize m.F=F;induction F with|nil=>rfl|cons f F ih=>simp only[map_cons,Ey,prq,ih];rfl
theorem Bfw{B:Bp->Nat}(h:∀a∈m.A,a.L.T.length≠0):Fa (cV B) m.A=prq (λ_ n d=>bc n d) B (Xu m):=by unfold Xu;revert h;generalize m.A=L;intro h;induction L with|nil=>rfl|cons a L ih=>simp only[map_cons,Fa,prq,ih λb e=>h b (by simp[e])];unfold cV;rw[As (h a ψ)]
theorem Aqe(χ:Bd->Nat)(v:Bp->Nat):∀p:Ap,Ch χ v p=lc (λm=>(mX χ v m:Rat)) (p.map λt=>(rq t.C,t.M))
 |[]=>rfl
 |t::p=>by rw[Ch,Aqe χ v p];rfl
theorem Aqf(m:A4):∀p:Ap,cf p m=lc (λn=>ind (n=m)) (p.map λt=>(rq t.C,t.M))
 |[]=>rfl
 |t::p=>by rw[Pu,Aqf m p,map_cons,lc];by_cases h:t.M=m;rw[Av h,Jc h];grind;rw[As h,It h];grind
theorem Bfx{D:Cy}(u:∀q∈D,Fm x q.2)(h:∀χ v,(∀P,Kp x.D x.V x.E χ P)->L7 v->lc (λm=>(mX χ v m:Rat)) D=0)(g:Fm x m):lc (λn=>ind (n=m)) D=0:=by
 (have W:∀{m:A4},Fm x m->∀q∈Pz m,∃t d,E5 x.V x.E q.1=some t/\C7 x.D q.2 t=some d/\1<=d:=λ{m} g q o=>by obtain⟨f,hf,rfl⟩:=mem_map.1 o;obtain⟨t,d,r,H,h3,_⟩:=U2 (g.f.fac f hf);exact⟨t,d,r,H,h3⟩);(have y:∀{m:A4},Fm x m->∀q∈Xu m,1<=q.2:=λ{m} g q o=>by obtain⟨a,Q,rfl⟩:=mem_map.1 o;have:=(g.f.atm a Q).1;show 1<=a.P.toNat;omega);have j:∀{m:A4},Fm x m->(Pz m).Pairwise λa b=>a.1<b.1:=λ{m} g=>pairwise_map.2 g.f.asc;have s:∀{m:A4},Fm x m->(Xu m).Pairwise λa b=>Eh a.1 b.1<0:=λ{m} g=>pairwise_map.2 g.f.srt;(have a0:∀a b:Bp,Eh a b<0->¬Eh b a<0:=λa b h=>by rw[Ja.anti a b trivial trivial];omega);(have S:∀B:Bp->Nat,lc (λn=>(Fa (cV B) n.A:Rat)*ind (∀c,look c (Pz n)=look c (Pz m))) D=0:=λB=>by refine A0h (val:=gF x) (Ok:=λv i=>∃t d,E5 x.V x.E v=some t/\C7 x.D i t=some d/\1<=d) (z:=noV) ?_ ?_ (ent:=Pz) (x0:=m) (λn=>(Fa (cV B) n.A:Rat)) (W g) (λq o=>⟨W (u q o),(j (u q o)).imp λ{a b} h=>ω⟩) λA=>?_;rintro c e ⟨t,d,r,H,h3⟩;unfold gF;rw[r];show gv x.D e t noV=0;rw[(Apy x.D (Br e)).1 e t d (Nat.le_refl _) H,As ω];rintro c G ⟨t,d,r,H,h3⟩;obtain⟨L,J⟩:=Bfr x.D (Br G) t G d (Nat.le_refl _) H;refine⟨L,?_⟩;rintro e ⟨t',d',E,M,X⟩;rw[r]at E;cases E;rw[<-J e d' M];refine K6 λp _=>?_;unfold gF;rw[r];have:=h (gX x A) (cV B) (Bfu x A) (Bft B);rw[<-this];refine K6 λq _=>?_;unfold mX;rw[Bfv,Rat.natCast_mul];grind);(have N:lc (λn=>ind (∀c,look c (Pz n)=look c (Pz m))*ind (∀c,look c (Xu n)=look c (Xu m))) D=0:=by refine A0h (val:=λ(_:Bp) n d=>bc n d) (Ok:=λ_ d=>1<=d) (z:=0) ?_ ?_ (ent:=Xu) (x0:=m) (λn=>ind (∀c,look c (Pz n)=look c (Pz m))) (y g) (λq o=>⟨y (u q o),(s (u q o)).imp λ{a b} h e=>by rw[e,(Ja.zero b.1 b.1 trivial trivial).2 rfl]at h;omega⟩) λB=>?_;intro c e he;(cases e with|zero=>omega|succ e=>rfl);intro c G _;obtain⟨L,J⟩:=Aqa G;exact⟨L,λe _=>J e⟩;rw[<-S B];refine K6 λq o=>?_;rw[Bfw λa Q=>((u q o).f.atm a Q).2.2.1];grind);rw[<-N];refine K6 λq o=>?_;have T:=u q o;refine(Akf ?_).symm;constructor;intro e;rw[e];exact⟨λ_=>rfl,λ_=>rfl⟩
 .rintro⟨Z,Y⟩;have f1:=A0g (R:=λa b:Int=>a<b) (λa b h=>ω) (j T) (j g) Z;have f2:=A0g (R:=λa b:Bp=>Eh a b<0) a0 (s T) (s g) Y;have g1:q.2.F=m.F:=List.map_inj_right (f:=λf:Bd=>(f.v,f.I)) (λa b h=>by cases a;cases b;simp only[Prod.mk.injEq]at h;rw[h.1,h.2]) |>.1 f1
  have g2:q.2.A=m.A:=by
   have a1:∀l k:A7,(∀a∈l,1<=a.P)->(∀a∈k,1<=a.P)->l.map (λa=>(a.L,a.P.toNat))=k.map (λa=>(a.L,a.P.toNat))->l=k:=by
    intro l;induction l with
    |nil=>intro k _ _ h;cases k with
     |nil=>rfl
     |cons b k=>cases h
    |cons a l ih=>intro k r H h;cases k with
     |nil=>cases h
     |cons b k=>
      simp only[map_cons,List.cons.injEq,Prod.mk.injEq]at h
      have V:=r a ψ
      have U:=H b ψ
      rw[ih k (λc hc=>r c (by simp[hc])) (λc hc=>H c (by simp[hc])) h.2]
      congr 1
      cases a;cases b
      simp only at h V U ⊢
      rw[h.1.1]
      congr 1
      omega
   exact a1 _ _ (λa Q=>(T.f.atm a Q).1) (λa Q=>(g.f.atm a Q).1) f2
  cases I:q.2 with|mk F A=>rw[I]at g1 g2;simp only at g1 g2;rw[g1,g2]
theorem Aqg{α:Type}(f:α->Rat):∀l:Λ (Rat×α),lc f (l.map λp=>(- p.1,p.2)) = - lc f l
 |[]=>by simp only[map_nil,lc];grind
 |p::l=>by simp only[map_cons,lc,Aqg f l];grind
theorem Bfy(hp:CP p)(y:CP q)(mp:∀t∈p,Fm x t.M)(b:∀t∈q,Fm x t.M)(h:∀χ v,(∀P,Kp x.D x.V x.E χ P)->L7 v->Ch χ v p=Ch χ v q):p=q:=by refine hp.ext y λm=>?_;by_cases c:Fm x m;have u:=Bfx (x:=x) (D:=p.map (λt=>(rq t.C,t.M))++(q.map λt=>(rq t.C,t.M)).map λe=>(- e.1,e.2)) (λe g=>by rcases Ea.1 g with g|g;obtain⟨t,o,rfl⟩:=mem_map.1 g;exact mp t o;obtain⟨d,B,rfl⟩:=mem_map.1 g;obtain⟨t,o,rfl⟩:=mem_map.1 B;exact b t o) (λχ v G H=>by rw[Akd,Aqg,<-Aqe,<-Aqe,h χ v G H];grind) c;rw[Akd,Aqg,<-Aqf,<-Aqf]at u;grind;have:∀{r:Ap},(∀t∈r,Fm x t.M)->cf r m=0:=λ{r} I=>Aw0 λt o e=>c (Lj.1 e▸I t o);rw[this mp,this b]
theorem Bfz:∀(k:Nat)(i:Af)(a:Int),Br i<=k->k<1099511627776->-1099511627776<=a->a<=1099511627776->∃r,Vy k i a=some r/\(r.1=true->r.2=a-Br i/\0<=r.2)/\r.2<=a/\-1<=r.2+1099511627776:=by intro k;induction k with|zero=>intro i a h;have:=Dy i;omega|succ k ih=>intro i a h Q R T;have E:=Dy i;have G:=Ly i.K;have w:Aa (a-1)=a-1:=ξ;rw[Vy,w];by_cases M:a-1<0;rw[An M];exact⟨_,rfl,nofun,by show a-1<=a;omega,by show -1<=a-1+1099511627776;omega⟩;rw[Au M,Al];(have D:∀j,Bv (i.K.take j)<=Bv i.K:=λj=>by have:=Uh (i.K.take j) (i.K.drop j);rw[take_append_drop]at this;omega);refine Ft (λs=>∃j:Nat,s.1=j/\j<=i.K.length/\s.2=a-1-Bv (i.K.take j)/\0<=s.2) (λs=>i.K.length-s.1.toNat) (λz=>(∃c,z=.inl (false,c)/\c<=a/\-1<=c+1099511627776)\/(∃c,z=.inr c/\c=a-1-Bv i.K/\0<=c)) ⟨0,rfl,ω,by simp[Bv],by show 0<=a-1;omega⟩ ?_ ?_;rintro⟨_,b⟩ ⟨j,rfl,U,o,f⟩;dsimp only at o f;rcases Cj j i.K.length with H|H;have e:i.K[j]?=some i.K[j]:=Bi H;generalize i.K[j]=x at e;have J:=Jh (Bm e);obtain⟨⟨y,z⟩,B,A,u,q⟩:=ih x b ω ω ω ω;have I:Bv (i.K.take (j+1))=Bv (i.K.take j)+Br x:=(by rw[Cs e,Uh];simp[Bv]);simp only[An (ω:(j:Int)<(i.K.length:Int)),Ak,Bq rfl e,Ac,B,Dl H ω];(cases y with|false=>exact .inr ⟨_,rfl,.inl ⟨z,rfl,by dsimp only at u;omega,q⟩⟩|true=>obtain⟨l,g⟩:=A rfl;exact .inl ⟨_,rfl,⟨j+1,rfl,ω,by dsimp only at l⊢;rw[I];omega,g⟩,by simp only[Int.toNat_natCast];omega⟩);have:j=i.K.length:=ω;subst this;rw[Dh]at o;exact .inr ⟨.inr b,ψ,.inr ⟨b,rfl,o,f⟩⟩;rintro z (⟨c,rfl,P,L⟩|⟨c,rfl,P,L⟩);exact⟨_,rfl,nofun,P,L⟩;exact⟨_,rfl,λ_=>⟨by dsimp only;omega,L⟩,by dsimp only;omega,by dsimp only;omega⟩
theorem Bf0(i:Af)(h:Br i<=1048576):∃b,Abt i=some b/\(b=true->Br i<=40):=by unfold Abt;obtain⟨r,e,g,_⟩:=Bfz 4000000 i 40 ω ω ω ω;exact⟨r.1,by rw[e];rfl,λo=>by have:=g o;omega⟩
theorem Bf1(m:A4)(i:MSz m):∃b,Abf m=some b/\(b=true->∀f∈m.F,Br f.I<=40):=by unfold Abf;by_cases u:(m.F.length:Int)>8;rw[An u];exact⟨false,rfl,λh=>by cases h⟩;rw[Au u];by_cases y:(m.A.length:Int)>8;rw[An y];exact⟨false,rfl,λh=>by cases h⟩;rw[Au y];simp only[Al,Ac];refine Ft (λv=>∃j:Nat,v=j/\j<=m.F.length/\∀f∈m.F.take j,Br f.I<=40) (λv=>m.F.length-v.toNat) (λz=>z=.inl false\/(z=.inr ()/\∀f∈m.F,Br f.I<=40)) ⟨0,rfl,ω,ψ⟩ ?_ ?_;rintro v ⟨j,rfl,B,c⟩;rcases Cj j m.F.length with e|e;have o:m.F[j]?=some m.F[j]:=Bi e;generalize m.F[j]=x at o;obtain⟨b,D,g⟩:=Bf0 x.I (i.fi x (Bm o));simp only[An (ω:(j:Int)<(m.F.length:Int)),Ak,Bq rfl o,Ac,D,Dl e ω];(cases b with|false=>exact .inr ⟨_,rfl,.inl rfl⟩|true=>refine .inl ⟨_,rfl,⟨j+1,rfl,ω,λf r=>?_⟩,by simp only[Int.toNat_natCast];omega⟩;rw[Cs o]at r;rcases Ea.1 r with r|r;exact c f r;rw[Fh]at r;subst r;exact g rfl);have:j=m.F.length:=ω;subst this;rw[Dh]at c;exact .inr ⟨.inr (),ψ,.inr ⟨rfl,c⟩⟩;rintro z (rfl|⟨rfl,c⟩);exact⟨false,rfl,λh=>by cases h⟩;dsimp only;refine Ft (λv=>∃j:Nat,v=j/\j<=m.A.length) (λv=>m.A.length-v.toNat) (λ_=>True) ⟨0,rfl,ω⟩ ?_ ?_;rintro v ⟨j,rfl,B⟩;rcases Cj j m.A.length with e|e;have o:m.A[j]?=some m.A[j]:=Bi e;generalize m.A[j]=x at o;simp only[An (ω:(j:Int)<(m.A.length:Int)),Ak,Bq rfl o,Ac,Agg,Dl e ω];(cases decide ((x.L.T.length:Int)<=70)with|true=>exact .inl ⟨_,rfl,⟨j+1,rfl,ω⟩,by simp only[Int.toNat_natCast];omega⟩|false=>exact .inr ⟨_,rfl,trivial⟩);have:j=m.A.length:=ω;subst this;exact .inr ⟨.inr (),ψ,trivial⟩;rintro(z|z) _;exact⟨_,rfl,λ_=>c⟩;exact⟨_,rfl,λ_=>c⟩
def Sq(t:Aj):Prop:=t.C.U.length<=8/\t.C.B.length<=8/\∀f∈t.M.F,Br f.I<=40
theorem Bf2(a:Ay):∃b,Abg a=some b/\(b=true->a.U.length<=8/\a.B.length<=8):=by unfold Abg;by_cases h:(a.U.length:Int)<=8;rw[An h];exact⟨_,rfl,λe=>by rw[Es]at e;omega⟩;rw[Au h];exact⟨_,rfl,λe=>by cases e⟩
theorem Bf3(p:Ap)(s:p.length<=1048576)(hp:∀t∈p,TSz t):∃b,Abb p 10=some b/\(b=true->p.length<=10/\∀t∈p,Sq t):=by unfold Abb;refine Ft (λv=>∃j:Nat,v=j/\j<=p.length/\j<=11/\∀t∈p.take j,Sq t) (λv=>p.length-v.toNat) (λz=>z=.inl false\/(z=.inr ()/\(p.length<=10->∀t∈p,Sq t))) ⟨0,rfl,ω,ω,ψ⟩ ?_ ?_;rintro v ⟨j,rfl,B,i,f⟩;rcases Cj j p.length with r|r;by_cases q:j<=10;have o:p[j]?=some p[j]:=Bi r;generalize p[j]=x at o;obtain⟨b,u,l⟩:=Bf1 x.M (hp x (Bm o)).mo;simp only[An (ω:(j:Int)<(p.length:Int)),An (ω:(j:Int)<=10),Ak,Bq rfl o,Ac,u,Dl r ω];(cases b with|false=>exact .inr ⟨_,rfl,.inl rfl⟩|true=>simp only[Fc,Al];obtain⟨c,y,g⟩:=Bf2 x.C;rw[y,Ac];cases c with|false=>exact .inr ⟨_,rfl,.inl rfl⟩|true=>refine .inl ⟨_,rfl,⟨j+1,rfl,ω,ω,λt e=>?_⟩,by simp only[Int.toNat_natCast];omega⟩;rw[Cs o]at e;rcases Ea.1 e with e|e;exact f t e;rw[Fh]at e;subst e;exact⟨(g rfl).1,(g rfl).2,l rfl⟩);refine .inr ⟨.inr (),?_,.inr ⟨rfl,λh=>ω⟩⟩;simp only[An (ω:(j:Int)<(p.length:Int)),Au (ω:¬(j:Int)<=10),Ak,Al,Ac];have:j=p.length:=ω;subst this;rw[Dh]at f;exact .inr ⟨.inr (),ψ,.inr ⟨rfl,λ_=>f⟩⟩;rintro z (rfl|⟨rfl,k⟩);exact⟨false,rfl,λh=>by cases h⟩;refine⟨decide ((p.length:Int)<=10),rfl,λh=>?_⟩;rw[Es]at h;exact⟨ω,k ω⟩
theorem Bf4(x:Bh)(k:CSz x)(ps:D4)(s:ps.length<=1048576)(hp:∀p∈ps,p.length<=1048576/\∀t∈p,TSz t):∃b,Aa9 x ps=some b/\(b=true->∀p∈ps,p.length<=10/\∀t∈p,Sq t):=by unfold Aa9;refine Ft (λv=>∃j:Nat,v=j/\j<=ps.length/\∀p∈ps.take j,p.length<=10/\∀t∈p,Sq t) (λv=>ps.length-v.toNat) (λz=>z=.inl false\/(z=.inr ()/\∀p∈ps,p.length<=10/\∀t∈p,Sq t)) ⟨0,rfl,ω,ψ⟩ ?_ ?_;rintro v ⟨j,rfl,y,c⟩;rcases Cj j ps.length with r|r;have o:ps[j]?=some ps[j]:=Bi r;generalize ps[j]=p at o;obtain⟨i,g⟩:=hp p (Bm o);obtain⟨b,u,l⟩:=Bf3 p i g;simp only[An (ω:(j:Int)<(ps.length:Int)),Ak,Bq rfl o,Ac,u,Dl r ω];(cases b with|false=>exact .inr ⟨_,rfl,.inl rfl⟩|true=>refine .inl ⟨_,rfl,⟨j+1,rfl,ω,λq e=>?_⟩,by simp only[Int.toNat_natCast];omega⟩;rw[Cs o]at e;rcases Ea.1 e with e|e;exact c q e;rw[Fh]at e;subst e;exact l rfl);have:j=ps.length:=ω;subst this;rw[Dh]at c;exact .inr ⟨.inr (),ψ,.inr ⟨rfl,c⟩⟩;rintro z (rfl|⟨rfl,f⟩);exact⟨false,rfl,λh=>by cases h⟩;obtain⟨b,u⟩:=Bbe x k;exact⟨b,by dsimp only;rw[u];rfl,λ_=>f⟩
structure GP(x:Bh)(n k Z:Nat)(p:List Aj):Prop where
 cp:CP p
 mo:∀t∈p,Fm x t.M
 sz:∀t∈p,∀f∈t.M.F,Br f.I<=Z
 rb:∀t∈p,RB k t.C
 len:p.length<=n
theorem GP.nil(x:Bh)(n k Z:Nat):GP x n k Z []:=⟨CP.nil,λ_ h=>(by cases h),λ_ h=>(by cases h),λ_ h=>(by cases h),Nat.zero_le _⟩
theorem GP.can{Z:Nat}(h:GP x n k Z p)(hn:n<=1000)(hk:k<=1048576):Kd x p:=Kd.of h.cp h.mo (λt e=>(h.rb t e).mono hk) (by have:=h.len;omega)
theorem GP.tm{Z:Nat}(h:GP x n k Z p):∀t∈p,TmZ x k Z (λ_=>True) t:=λt e=>⟨λ_ _=>trivial,⟨h.mo t e,h.sz t e⟩,h.rb t e,(h.cp.coe t e).2⟩
theorem GP.same{Z:Nat}(h:GP x n k Z p)(hn:n<=1048576)(hk:k<=34359738000):Qb p p=some true:=Ao0 p (by have:=h.len;omega) λt e=>⟨(h.mo t e).2,(h.rb t e).mono hk⟩
abbrev MA(x:Bh)(χ:Bd->Nat):Prop:=∀P,Kp x.D x.V x.E χ P
theorem Bf5(i:CSz x)(D:I1 x){m l Z:Nat}(hp:GP x n k Z p)(e:GP x m l Z q)(G:n<=1000)(y:m<=1000)(u:n*m<=4000)(H:k+l<=1000000)(z:Z<=33333)(A:k+l+3638+n*(m*(3*(k+l)+3652))<=1000000000):(U5 x p q/\N6 x p q=some ([],13))\/(¬U5 x p q/\∃R,N6 x p q=some (lim R)/\GP x R.length (k+l+3639+n*(m*(3*(k+l)+3652))) (6*Z) R/\∀χ v,MA x χ->L7 v->Ch χ v R=Ch χ v p*Ch χ v q):=by have r:p.length*(q.length*(3*(k+l)+3652))<=n*(m*(3*(k+l)+3652)):=Nat.mul_le_mul hp.len (Nat.mul_le_mul_right _ e.len);have B:p.length*q.length<=n*m:=Nat.mul_le_mul hp.len e.len;have s:=hp.len;have j:=e.len;rcases Bet i D (W:=λ_=>True) H z (hp.can G ω) (e.can y ω) hp.tm e.tm ω ω ω ω with h|⟨I,R,g,f,b,c⟩;exact .inl h;exact .inr ⟨I,R,g,⟨f,λt o=>(b t o).1.1.1,λt o=>(b t o).1.1.2,λt o=>(b t o).2.mono ω,Nat.le_refl _⟩,λχ v r B=>c χ v (λt _=>r _) (λt _=>r _) B⟩
end Go.Ab
