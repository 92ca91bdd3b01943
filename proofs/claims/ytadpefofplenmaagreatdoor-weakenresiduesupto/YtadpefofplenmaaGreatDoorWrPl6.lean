/- Plain laws. -/
import Derived.Test.YtadpefofplenmaaGreatDoorWrPl5
import Derived.Test.YtadpefofplenmaaGreatDoorWrPl4
open List
namespace Go.Ab
open Go
variable{x:A8}{Θ t:Ai}{v:Aq->Nat}{m:Aw}{i:Ay}{P Q:Ay->Prop}{χ:Bl->Nat}{C:Ev}{L M:Bs}{b1:At}{Δ:A0}{A:A2}{R p q:Ad}{Ξ:A1}{F l:Be}{B:Λ Dy}{K N b d j k n:Nat}{a:Rat}{α β:Type}{g:α->Nat}
theorem Bc6(b2:As)(I:Mm Δ Ξ Θ)(J:Fa Δ Ξ Θ b1)(m:Aw)(l:Eo m)(hp:Nn Δ Ξ Θ m=true):∃p:Int×List (Β×Int),N6 m b1 b2 Δ Ξ Θ.G Θ.U Θ.R=some p/\(p.1=B6 Δ Ξ Θ m.F+Bq m.A\/(6<p.1/\6<B6 Δ Ξ Θ m.F+Bq m.A))/\Fa Δ Ξ Θ p.2:=by have A:=l.nf;have W:=l.na;unfold Nn at hp;rw[Dr,Gu,Gu]at hp;unfold N6;refine Fz (λ(e,u,g)=>∃j:Nat,u=j/\j<=m.F.length/\Fa Δ Ξ Θ g/\0<=e/\e<=12/\(e=B6 Δ Ξ Θ (m.F.take j)\/(6<e/\6<B6 Δ Ξ Θ (m.F.take j)))) (λ(_,u,_)=>m.F.length-u.toNat) (λ(e,g)=>Fa Δ Ξ Θ g/\0<=e/\e<=12/\(e=B6 Δ Ξ Θ m.F\/(6<e/\6<B6 Δ Ξ Θ m.F))) ⟨0,rfl,ω,J,ω,ω,.inl (by simp[B6])⟩ ?_ ?_;rintro⟨e,u,g⟩ ⟨j,rfl,T,q,G,r,k⟩;rcases Cb j m.F.length with h|h;have o:m.F[j]?=some m.F[j]:=Bn h;generalize m.F[j]=f at o;have c:=B5 o;have D:=hp.1 f c;rw[Eh]at D;have z:=(Ahj Δ Ξ Θ f).2;have E:B6 Δ Ξ Θ (m.F.take (j+1))=B6 Δ Ξ Θ (m.F.take j)+Ee Δ Ξ Θ f:=Amp _ o;simp only[Al (ω:(j:Int)<(m.F.length:Int)),Ak,B1 rfl o,Ac,Dd h ω];by_cases s:e<=6;(have x:(E2 Ξ Θ f.v).isSome=true:=by unfold Ee at D;cases U:E2 Ξ Θ f.v with|none=>rw[U]at D;have D:(0:Int)<=-1:=D;omega|some t=>rfl);obtain⟨B,d1,d2⟩:=Adf b2 I q f (l.fr f c).2 (l.fr f c).1 (l.fi f c) x;rw[Al s];simp only[Ak,d1,Ac];have b:Aa (e+Ee Δ Ξ Θ f)=e+Ee Δ Ξ Θ f:=ξ;exact .inl ⟨_,rfl,⟨j+1,rfl,ω,d2,by simp only[b];omega,by simp only[b];omega,by simp only[b,E];omega⟩,ζ⟩;rw[Am s];exact .inl ⟨_,rfl,⟨j+1,rfl,ω,q,G,r,by simp only[E];omega⟩,ζ⟩;have:j=m.F.length:=ω;subst this;rw[Du]at k;exact .inr ⟨(e,g),ψ,q,G,r,k⟩;rintro⟨e,g⟩ ⟨q,G,r,k⟩;simp only;refine Fz (λ(v,i)=>∃j:Nat,i=j/\j<=m.A.length/\0<=v/\v<=13/\(v=B6 Δ Ξ Θ m.F+Bq (m.A.take j)\/(6<v/\6<B6 Δ Ξ Θ m.F+Bq (m.A.take j)))) (λ(_,i)=>m.A.length-i.toNat) (λv=>(v=B6 Δ Ξ Θ m.F+Bq m.A\/(6<v/\6<B6 Δ Ξ Θ m.F+Bq m.A))) ⟨0,rfl,ω,G,ω,by simpa[Bq]using k⟩ ?_ ?_;rintro⟨v,i⟩ ⟨j,rfl,T,V,H,gv⟩;rcases Cb j m.A.length with h|h;have o:m.A[j]?=some m.A[j]:=Bn h;generalize m.A[j]=a at o;have D:=hp.2 a (B5 o);rw[Dr,Eh]at D;have E:=Amq o;simp only[Al (ω:(j:Int)<(m.A.length:Int)),Ak,B1 rfl o,Ac,Dd h ω];by_cases s:v<=6;rw[Al s];simp only[Ak];by_cases y:7<a.P;rw[Ar y];have b:Aa (v+7)=v+7:=ξ;exact .inl ⟨_,rfl,⟨j+1,rfl,ω,by simp only[b];omega,by simp only[b];omega,by simp only[b,E];omega⟩,ζ⟩;rw[Au y];have b:Aa (v+a.P)=v+a.P:=ξ;exact .inl ⟨_,rfl,⟨j+1,rfl,ω,by simp only[b];omega,by simp only[b];omega,by simp only[b,E];omega⟩,ζ⟩;rw[Am s];exact .inl ⟨_,rfl,⟨j+1,rfl,ω,V,H,by simp only[E];omega⟩,ζ⟩;have:j=m.A.length:=ω;subst this;rw[Du]at gv;exact .inr ⟨v,ψ,gv⟩;intro v k;exact⟨(v,g),rfl,k,q⟩
def D3(x:A8)(m:Aw):Int:=B6 x.D x.V x.E m.F+Bq m.A
structure Zv(x:A8)(m:Aw):Prop where
 fac:∀f∈m.F,1<=Ee x.D x.V x.E f
 asc:m.F.Pairwise λa b=>a.v<b.v
 atm:∀a∈m.A,1<=a.P/\Co a.L=true/\a.L.T.length≠0/\Ej x.V x.E a.L=true
 srt:m.A.Pairwise λa b=>Dh a.L b.L<0
 deg:D3 x m<=6
theorem D0.f(h:D0 x m):Zv x m:=by have hc:=h.1;unfold It at hc;rw[Dr,Dr,Eh]at hc;obtain⟨⟨h1,h2⟩,h3⟩:=hc;(have o:∀j f,m.F[j]?=some f->1<=Ee x.D x.V x.E f/\Lf (·.v) m.F f j=true:=λj f e=>by have:=Ju h1 e;unfold Mn at this;rw[Dr,Eh]at this;exact this);(have r:∀j a,m.A[j]?=some a->(1<=a.P/\Co a.L=true/\a.L.T.length≠0/\Ej x.V x.E a.L=true)/\Qm m.A a j=true:=λj a e=>by have:=Ju h2 e;unfold Kf at this;simp only[Dr,Eh,Bool.not_eq_true',beq_eq_false_iff_ne,ne_eq]at this;exact⟨⟨this.1.1.1.1,this.1.1.1.2,this.1.1.2,this.1.2⟩,this.2⟩);refine⟨λf k=>?_,Ax2 _ _ λj f e=>(o j f e).2,λa ha=>?_,?_,h3⟩;obtain⟨j,e⟩:=Fo k;exact(o j f e).1;obtain⟨j,e⟩:=Fo ha;exact(r j a e).1;have step:∀j x y,m.A[j]?=some x->m.A[j+1]?=some y->Dh x.L y.L<0:=(by intro j x y hx hy;have:=(r (j+1) y hy).2;unfold Qm at this;rw[Nat.add_sub_cancel,hx]at this;simpa using this);have b:∀d j x y,m.A[j]?=some x->m.A[j+d+1]?=some y->Dh x.L y.L<0:=(by intro d;induction d with|zero=>exactλj x y h1 h2=>step j x y h1 h2|succ d ih=>intro j x y h1 h2;have c:m.A[j+d+1]?=some (m.A[j+d+1]'(by have:=D8 h2;omega)):=Bn _;exact Pl.trs _ _ _ (ih j x _ h1 c) (step _ _ _ c h2));rw[pairwise_iff_getElem];intro i j hi e g;obtain⟨d,hd⟩:∃d,j=i+d+1:=⟨j-i-1,ω⟩;subst hd;exact b d i _ _ (Bn hi) (Bn e)
theorem Zv.fsum0(h:Zv x m):0<=B6 x.D x.V x.E m.F:=by(have e:∀l:Be,(∀f∈l,1<=Ee x.D x.V x.E f)->0<=B6 x.D x.V x.E l:=λl=>by induction l with|nil=>intro _;simp[B6]|cons f l ih=>intro b;have h1:=b f ψ;have h2:=ih λg o=>b g (by simp[o]);unfold B6 at *;simp only[map_cons,sum_cons];omega);exact e _ h.fac
theorem Wx{l:A2}(h:∀a∈l,1<=a.P):Bq l=(Bw l:Nat)/\l.length<=Bw l:=by induction l with|nil=>exact⟨rfl,Nat.le_refl _⟩|cons a l ih=>obtain⟨e,c⟩:=ih λb o=>h b (by simp[o]);have f:=h a ψ;unfold Bq at *;simp only[map_cons,sum_cons,Bw,Fd];omega
theorem Zv.as(h:Zv x m):Bq m.A=(Bw m.A:Nat)/\m.A.length<=Bw m.A:=Wx λa ha=>(h.atm a ha).1
theorem Bc7(h:Zv x m):Nn x.D x.V x.E m=true:=by unfold Nn;rw[Dr,Gu,Gu];refine⟨λf b=>decide_eq_true (by have:=h.fac f b;omega),λa e=>?_⟩;obtain⟨o,_,_,c⟩:=h.atm a e;rw[c,Al ω];rfl
theorem Bc8(b2:As)(r:Mm x.D x.V x.E)(u:Fa x.D x.V x.E b1)(h:D0 x m):∃b,N6 m b1 b2 x.D x.V x.E.G x.E.U x.E.R=some (D3 x m,b)/\Fa x.D x.V x.E b:=by obtain⟨⟨d,b⟩,y,D,o⟩:=Bc6 b2 r u m h.2 (Bc7 h.f);have:=h.f.deg;unfold D3 at *;dsimp only at D o;have e:d=B6 x.D x.V x.E m.F+Bq m.A:=ω;subst e;exact⟨b,y,o⟩
theorem Aiq(h:D0 x m):0<=D3 x m:=by have e:=h.f.fsum0;have o:=h.f.as;unfold D3;omega
theorem Ayg(b2:As)(W:Mm x.D x.V x.E)(E:Fa x.D x.V x.E b1)(q:Ad)(D:q.length<=1000000)(h:∀u∈q,D0 x u.M):∃G b,Sr q b1 b2 x.D x.V x.E.G x.E.U x.E.R=some (G,b)/\Fa x.D x.V x.E b/\0<=G/\G<=6/\(∀u∈q,D3 x u.M<=G)/\(G=0\/∃u∈q,D3 x u.M=G):=by unfold Sr;obtain⟨e,B,G,b,rfl,A⟩:=Jh (step:=(λ(J,T,k)=>bif T<(q.length:Int)then((Af q T).bind λl=>(N6 l.M k b2 x.D x.V x.E.G x.E.U x.E.R).bind λU=>some (.inl ((if U.1>J then U.1 else J),Aa (T+1),U.2)))else(some (.inr (J,k))):Int×Int×List (Β×Int)->Ο ((Int×Int×List (Β×Int))⊕(Int×List (Β×Int))))) (λs=>∃(j:Nat)(G:Int)(b:At),s=(G,(j:Int),b)/\j<=q.length/\Fa x.D x.V x.E b/\0<=G/\G<=6/\(∀u∈q.take j,D3 x u.M<=G)/\(G=0\/∃u∈q,D3 x u.M=G)) (λs=>q.length-s.2.1.toNat) (λe=>∃G b,e=(G,b)/\Fa x.D x.V x.E b/\0<=G/\G<=6/\(∀u∈q,D3 x u.M<=G)/\(G=0\/∃u∈q,D3 x u.M=G)) (by rintro _ ⟨j,G,b,rfl,hj,E,X,z,g,r⟩;dsimp only;rcases Cb j q.length with V|V;left;have H:q[j]?=some q[j]:=Bn V;generalize q[j]=u at H;have i:=B5 H;have I:=h u i;obtain⟨c,c1,c2⟩:=Bc8 b2 W E I;have y:=I.f.deg;refine⟨(if D3 x u.M>G then D3 x u.M else G,((j+1:Nat):Int),c),?_,⟨j+1,_,c,rfl,ω,c2,by split<;>omega,by split<;>omega,λw o=>?_,by split;exact .inr ⟨u,i,rfl⟩;exact r⟩,ζ⟩;rw[Al ω,Ak,B1 rfl H,Ac,c1,Ac,Dd V ω];rw[C4 H]at o;rcases Ef.1 o with o|o;have:=g w o;split<;>omega;rw[De]at o;subst o;split<;>omega;right;have:j=q.length:=ω;subst this;rw[Du]at g;exact⟨(G,b),by rw[Am ω,Aj],G,b,rfl,E,X,z,g,r⟩) (0,0,b1) ⟨0,0,b1,rfl,ω,E,ω,ω,λu I=>by simp at I,.inl rfl⟩;exact⟨G,b,Ct B rfl,A⟩
def E3(v:Aq->Nat):A2->Nat
 |[]=>1
 |a::l=>bc (v a.L) a.P.toNat*E3 v l
theorem Uf(v:Aq->Nat)(l m:A2):E3 v (l++m)=E3 v l*E3 v m:=by induction l with|nil=>simp[E3]|cons a l ih=>simp only[Er,E3,ih,Nat.mul_assoc]
theorem Ayh(v:Aq->Nat){l m:A2}(h:l.Perm m):E3 v l=E3 v m:=by induction h with|nil=>rfl|cons a _ ih=>simp only[E3,ih]|swap a b l=>simp only[E3];rw[<-Nat.mul_assoc,<-Nat.mul_assoc,Nat.mul_comm (bc (v b.L) _)]|trans _ _ e o=>exact e.trans o
theorem Aoo{v:Aq->Nat}{l:Aq}:∀{g:A2},(∀a∈g,a.L=l)->E3 v g=Fq (v l) g
 |[],_=>rfl
 |a::g,h=>by simp only[E3,Fq];rw[h a ψ,Aoo λb e=>h b (by simp[e])]
def I3(v:Aq->Nat):Λ Dy->Nat
 |[]=>0
 |b::bs=>b.2*E3 v b.1+I3 v bs
theorem Bc9(v:Aq->Nat)(B C:Λ Dy):I3 v (B++C)=I3 v B+I3 v C:=by induction B with|nil=>simp[I3]|cons b B ih=>simp only[Er,I3,ih,Nat.add_assoc]
theorem Bda(v:Aq->Nat)(l:Aq)(k c:Nat)(B:Λ Dy):I3 v (B.map λb=>(b.1++atO l k,b.2*c))=I3 v B*(c*bc (v l) k):=by(have e:E3 v (atO l k)=bc (v l) k:=by unfold atO;by_cases h:k=0;subst h;rw[Ar rfl,Jw];rfl;rw[Au h];simp[E3]);induction B with|nil=>simp[I3]|cons b B ih=>simp only[map_cons,I3,ih,Uf,e];rw[Nat.add_mul];congr 1;rw[Nat.mul_assoc,Nat.mul_assoc,<-Nat.mul_assoc c,Nat.mul_comm c,Nat.mul_assoc]
theorem Ayi(v:Aq->Nat)(B:Λ Dy)(l:Aq)(f:Nat->Nat):∀n,I3 v (Ek B l f n)=I3 v B*sm n λk=>f k*bc (v l) k
 |0=>by simp[Ek,I3,sm]
 |n+1=>by rw[Ns,Bc9,Ayi v B l f n];show _=I3 v B*(sm n (λk=>f k*bc (v l) k)+f n*bc (v l) n);rw[Nat.mul_add];congr 1;by_cases h:f n=0;rw[Ar h,h];simp[I3];rw[Au h,Bda]
def Om(v:Aq->Nat):Prop:=∀l:Aq,l.T.length=0->v l=l.Q.toNat
theorem Gs.val(c:Om v):∀{b:Λ Grp}{A:A2},Gs b A->∀B,I3 v (H7 B b)=I3 v B*E3 v A:=by intro b A h;induction h with|nil=>intro B;simp[H7,E3]|@cons l N f g rest b i e k j q ih=>intro B;show I3 v (H7 (Ek B l f (N+1)) b)=_;rw[ih,Ayi,Uf,Aoo e,<-Nat.mul_assoc];congr 2;(rcases j with⟨_,_,_,h3⟩|⟨h1,h2,h3⟩);exact h3 (v l);subst h2;rw[c l h1];simp[sm,Jw,h3]
theorem IsE.val(f:Om v)(h:IsE A B):I3 v B=E3 v A:=by obtain⟨gs,i,c,g,b,rfl⟩:=h;rw[b.val f,<-Ayh v c];simp[I3,E3]
def eW(c:Rat)(B:Λ Dy):Df:=B.map λb=>(c*(b.2:Rat),⟨[],b.1⟩)
theorem Bdb(g:CSz x)(h:D0 x m):FOk x.D x.V x.E m.F:=by(have c:∀f∈m.F,(E2 x.V x.E f.v).isSome=true:=λf b=>by have e:=h.f.fac f b;unfold Ee at e;cases o:E2 x.V x.E f.v with|none=>rw[o]at e;exact absurd (show(1:Int)<=-1 from e) δ|some t=>rfl);refine⟨h.f.asc,λf b=>⟨⟨(h.2.fr f b).2,(h.2.fr f b).1,h.2.fi f b⟩,c f b,h.f.fac f b⟩,h.cmo.nf,λf b=>?_⟩;have e:=c f b;rw[Auv,Eh]at e;have:=g.nv;omega
theorem Ayj(e:D0 x m){L:A2}(h:Ww x.V x.E L)(b:B6 x.D x.V x.E m.F+Bq L<=6):D0 x ⟨m.F,L⟩:=by have y:=e.f.fsum0;obtain⟨o,u⟩:=Axj h ω;have r:=e.1;unfold It at r o;rw[Dr,Dr]at r o;refine⟨?_,⟨e.2.nf,u.na,e.2.fi,e.2.fr,u.al⟩⟩;unfold It;rw[Dr,Dr];exact⟨⟨r.1.1,o.1.2⟩,decide_eq_true b⟩
theorem IsE.goods(h:IsE A B)(g:∀a∈A,Co a.L=true/\Ej x.V x.E a.L=true):∀b∈B,Ww x.V x.E b.1/\Bq b.1<=(Bw A:Nat):=by intro b hb;obtain⟨gs,j,c,i,f,rfl⟩:=h;obtain⟨h1,h2⟩:=Aih (Ξ:=x.V) (Θ:=x.E) f (λa ha=>g a (c.mem_iff.1 ha)) [([],1)] 0 (λb hb=>by simp only[De]at hb;subst hb;exact⟨⟨Pairwise.nil,λ_ h=>by cases h⟩,by simp[Bq],λ_ h=>by cases h⟩) b hb;rw[Pk c]at h2;exact⟨h1,ω⟩
noncomputable def Air(x:A8)(t:Ae)(q:Ad):(Int×List (Β×Int)×List (Β×List Cn)×List (Β×Int)×List Ae)->Ο ((Int×List (Β×Int)×List (Β×List Cn)×List (Β×Int)×List Ae)⊕((List Ae×Int)⊕(Int×List (Β×Int)×List (Β×List Cn)×List (Β×Int)×List Ae))):=λ(c,j,i,h,g)=>bif c<(q.length:Int)then((Af q c).bind λf=>(Ir t.C f.C).bind λo=>(Rb t.M f.M).bind λk=>(Ra o k j i x.D x.V x.E.G x.E.U x.E.R).bind λb=>bif(b.2.1 != (0:Int))then(some (.inr (.inl ([],b.2.1))))else((L8 b.1 h g).bind λe=>some (.inl (Aa (c+1),b.2.2.1,b.2.2.2,e.1,e.2))))else(some (.inr (.inr (c,j,i,h,g))))
theorem Ayk(h:D0 x m){b:An}(o:Ij b)(r:rq b=1)(c:RB 3 b):Ha x [⟨b,m⟩]:=Ha.of ⟨pairwise_singleton _ _,λt e=>by simp only[De]at e;subst e;exact⟨o,by show rq b≠0;rw[r];decide⟩⟩ (λt e=>by simp only[De]at e;subst e;exact h) (λt e=>by simp only[De]at e;subst e;exact c.mono δ) ψ
theorem Zw(k:t.G=6)(h:Ei Δ i t=some d):Dx Δ i.K t.R=some d:=by rw[Oe,Ar k]at h;by_cases e:i.U=0;rw[Ar e]at h;exact h;rw[Au e]at h;cases h
theorem Ais(k:t.G=7)(h:Ei Δ i t=some d):(0<=i.U/\i.U<=6/\i.K.length=0)/\i.U.toNat=d:=by rw[Oe,Au ω,Ar k]at h;by_cases e:0<=i.U/\i.U<=6/\i.K.length=0;rw[Ar e]at h;exact⟨e,Fv h⟩;rw[Au e]at h;cases h
theorem Zx(k:t.G=5)(h:Ei Δ i t=some d):I0 Δ i.K t=some d:=by rw[Oe,Au ω,Au ω,Ar k]at h;by_cases e:i.U=0;rw[Ar e]at h;exact h;rw[Au e]at h;cases h
def pv{α:Type}(f:α->Nat):Λ (α×Nat)->Nat
 |[]=>0
 |p::l=>p.2*f p.1+pv f l
theorem Li(f:α->Nat)(l m:Λ (α×Nat)):pv f (l++m)=pv f l+pv f m:=by induction l with|nil=>simp[pv]|cons p l ih=>simp only[Er,pv,ih];omega
theorem Aop(f:α->Nat)(g:β->α)(l:Λ (β×Nat)):pv f (l.map λp=>(g p.1,p.2))=pv (λx=>f (g x)) l:=by induction l with|nil=>rfl|cons p l ih=>simp only[map_cons,pv,ih]
theorem Aea{f:α->Nat}{l:Λ (α×Nat)}(h:∀p∈l,f p.1=g p.1):pv f l=pv g l:=by induction l with|nil=>rfl|cons p l ih=>simp only[pv,h p ψ,ih λq e=>h q (by simp[e])]
theorem Ait(c:Nat)(f:α->Nat)(l:Λ (α×Nat)):pv (λx=>c*f x) l=c*pv f l:=by induction l with|nil=>rfl|cons p l ih=>simp only[pv,ih,Nat.mul_add];rw[Nat.mul_left_comm]
theorem Ayl(f:β->Nat)(g:α×Nat->Λ (β×Nat))(h:α->Nat)(l:Λ (α×Nat))(hg:∀p∈l,pv f (g p)=p.2*h p.1):pv f (l.flatMap g)=pv h l:=by induction l with|nil=>rfl|cons p l ih=>rw[flatMap_cons,Li,hg p ψ,ih λq e=>hg q (by simp[e]),pv]
theorem Aiu{f:α->Nat}{l:Λ (α×Nat)}(h:∀p∈l,f p.1<=g p.1):pv f l<=pv g l:=by induction l with|nil=>exact Nat.le_refl _|cons p l ih=>have o:=Nat.mul_le_mul_left p.2 (h p ψ);have r:=ih λq e=>h q (by simp[e]);simp only[pv];omega
def Kl(h:Ay)(c:Nat)(l:Cf):Cf:=l.map λr=>(h::r.1,c*r.2)
def Ug(b:Ai->Ay->Ay->Bs):A1->Bg->Bg->Cf
 |t::ts,i::is,j::c=>(b t i j).flatMap λw=>Kl w.1 w.2 (Ug b ts is c)
 |_,_,_=>[([],1)]
def Aym(row:Ay->Ay->Bs)(a:Ay)(l:Bg)(M:Bg->Cf):Bg->Cf
 |[]=>[(a::l,1)]
 |b::m=>Kl a 1 (M (b::m))++(Kl b 1 (Aym row a l M m)++(row a b).flatMap λw=>Kl w.1 w.2 (M m))
def R3(row:Ay->Ay->Bs):Bg->Bg->Cf
 |[]=>λm=>[(m,1)]
 |a::l=>Aym row a l (R3 row l)
theorem Ayn(row:Ay->Ay->Bs)(m:Bg):R3 row [] m=[(m,1)]:=rfl
theorem Ayo(row:Ay->Ay->Bs)(a:Ay)(l:Bg):R3 row (a::l) []=[(a::l,1)]:=rfl
theorem Aoq(row:Ay->Ay->Bs)(a b:Ay)(l m:Bg):R3 row (a::l) (b::m)=Kl a 1 (R3 row l (b::m))++(Kl b 1 (R3 row (a::l) m)++(row a b).flatMap λw=>Kl w.1 w.2 (R3 row l m)):=rfl
def Aor(Δ:A0)(t:Ai)(rows:A1->Bg->Bg->Cf)(a b:Ay):Bs:=if a.U=b.U then(rows (R0 Δ t a.U) a.K b.K).map λr=>(⟨a.U,r.1⟩,r.2)else[]
def Aos(a b:Nat):Bs:=((range (a+b+1)).filter λk=>Rc a b k != 0).map λ(k:Nat)=>(⟨(k:Int),[]⟩,Rc a b k)
def Wy(Δ:A0):Nat->Ai->Ay->Ay->Bs
 |0,_,_,_=>[]
 |k+1,t,i,j=>if t.G=6 then(Ug (Wy Δ k) t.R i.K j.K).map λr=>(⟨0,r.1⟩,r.2)else if t.G=7 then Aos i.U.toNat j.U.toNat else if t.G=5 then(R3 (Aor Δ t (Ug (Wy Δ k))) i.K j.K).map λr=>(⟨0,r.1⟩,r.2)else[(⟨0,[]⟩,1)]
def eS{α:Type}:Λ (α->Nat)->Λ α->Nat
 |[],_=>1
 |_::_,[]=>0
 |w::b,x::xs=>eS (w::b) xs+w x*eS b xs
theorem Aeb(xs:Λ α):eS [] xs=1:=by cases xs<;>rfl
theorem Aot(b:Ay->β->Nat)(h:Ay)(c:Nat)(L:Cf):pv (λr=>eS (r.map b) []) (Kl h c L)=0:=by induction L with|nil=>rfl|cons r L ih=>show _*eS (b h::r.1.map b) []+pv (λr=>eS (r.map b) []) (Kl h c L)=0;rw[ih];rfl
theorem Aou(b:Ay->β->Nat)(h:Ay)(c:Nat)(x:β)(xs:Λ β)(L:Cf):pv (λr=>eS (r.map b) (x::xs)) (Kl h c L)=pv (λr=>eS (r.map b) xs) (Kl h c L)+c*b h x*pv (λr=>eS (r.map b) xs) L:=by induction L with|nil=>rfl|cons r L ih=>show c*r.2*eS (b h::r.1.map b) (x::xs)+pv (λr=>eS (r.map b) (x::xs)) (Kl h c L)=(c*r.2*eS (b h::r.1.map b) xs+pv (λr=>eS (r.map b) xs) (Kl h c L))+c*b h x*(r.2*eS (r.1.map b) xs+pv (λr=>eS (r.map b) xs) L);rw[ih,eS];simp only[Nat.mul_add];have:c*r.2*(b h x*eS (r.1.map b) xs)=c*b h x*(r.2*eS (r.1.map b) xs):=(by ac_rfl);omega
theorem Ayp{β:Type}(b:Ay->β->Nat)(x:β)(xs:Λ β)(L:Cf):∀R:Bs, pv (λr=>eS (r.map b) (x::xs)) (R.flatMap λw=>Kl w.1 w.2 L)=pv (λr=>eS (r.map b) xs) (R.flatMap λw=>Kl w.1 w.2 L)+pv (λe=>b e x) R*pv (λr=>eS (r.map b) xs) L
 |[]=>by simp[pv]
 |w::R=>by rw[flatMap_cons,Li,Li,Aou,Ayp b x xs L R];simp only[pv,Nat.add_mul];omega
theorem Bdc{row:Ay->Ay->Bs}{c:Ay->β->Nat}:∀(xs:Λ β),(∀x∈xs,∀a,P a->∀b,Q b->pv (λe=>c e x) (row a b)=c a x*c b x)->∀(l m:Bg),(∀a∈l,P a)->(∀b∈m,Q b)->pv (λr=>eS (r.map c) xs) (R3 row l m)=eS (l.map c) xs*eS (m.map c) xs:=by(have one:∀(xs:Λ β)(m:Bg),pv (λr:List Ay=>eS (r.map c) xs) [(m,1)]=eS (m.map c) xs:=λxs m=>by show 1*eS (m.map c) xs+0=_;omega);intro xs;induction xs with|nil=>(intro _ l;cases l with|nil=>intro m _ _;rw[Ayn,one,map_nil,Aeb,Nat.one_mul]|cons a l=>intro m u o;show _=0*_;rw[Nat.zero_mul];cases m with|nil=>rw[Ayo,one];rfl|cons b m=>rw[Aoq,Li,Li,Aot,Aot];rw[Ayl (h:=λ_=>0) (hg:=λp _=>by rw[Aot,Nat.mul_zero])];(have:∀L:Bs,pv (λ_=>0) L=0:=λL=>by induction L with|nil=>rfl|cons p L ih=>simp only[pv,ih];omega);rw[this])|cons x xs ih=>intro f l;have ih:=ih λy H=>f y (by simp[H]);cases l with|nil=>intro m _ _;rw[Ayn,one,map_nil,Aeb,Nat.one_mul]|cons a l=>intro m;cases m with|nil=>intro _ _;rw[Ayo,one,map_nil,Aeb,Nat.mul_one]|cons b m=>intro u o;have s:∀a∈l,P a:=λy H=>u y (by simp[H]);have q:∀b∈m,Q b:=λy H=>o y (by simp[H]);have I:=ih (a::l) (b::m) u o;rw[Aoq,Li,Li]at I;rw[Aoq,Li,Li,Aou,Aou,Ayp,f x ψ a (u a ψ) b (o b ψ),ih l (b::m) s o,ih (a::l) m u q,ih l m s q];simp only[map_cons,eS]at I⊢;generalize eS (c a::l.map c) xs=A at *;generalize eS (c b::m.map c) xs=B at *;generalize eS (l.map c) xs=k at *;generalize eS (m.map c) xs=j at *;generalize c a x=i at *;generalize c b x=g at *;have z:(A+i*k)*(B+g*j)=A*B+i*(k*B)+g*(A*j)+i*g*(k*j):=(by simp only[Nat.add_mul,Nat.mul_add];have G:A*(g*j)=g*(A*j):=(by ac_rfl);have E:i*k*B=i*(k*B):=(by ac_rfl);have D:i*k*(g*j)=i*g*(k*j):=(by ac_rfl);omega);rw[z,<-I];simp only[Nat.one_mul];omega
theorem Bdd(f:Bg->Nat)(h:Ay)(c:Nat)(L:Cf):pv f (Kl h c L)=c*pv (λr=>f (h::r)) L:=by induction L with|nil=>rfl|cons r L ih=>show c*r.2*f (h::r.1)+pv f (Kl h c L)=c*(r.2*f (h::r.1)+pv (λr=>f (h::r)) L);rw[ih,Nat.mul_add,Nat.mul_assoc]
theorem Bde(L:Λ (α×Nat)):pv (λ_=>0) L=0:=by induction L with|nil=>rfl|cons p L ih=>simp only[pv,ih];omega
theorem Bdf(a b n:Nat):pv (λx:Ay=>bc n x.U.toNat) (Aos a b)=bc n a*bc n b:=by rw[<-Wt n a b (a+b+1) ω];unfold Aos;generalize a+b+1=N;induction N with|zero=>rfl|succ N ih=>rw[range_succ,filter_append,map_append,Li,ih,sm];congr 1;by_cases h:Rc a b N=0;simp[h,pv];simp[h,pv]
theorem Aov{l:Λ (α×Nat)}(h:∀p∈l,1<=p.2):l.length<=pv (λ_=>1) l:=by induction l with|nil=>exact Nat.le_refl _|cons p l ih=>have o:=h p ψ;have r:=ih λq e=>h q (by simp[e]);simp only[Fd,pv];omega
theorem Bdg{l:Λ (α×Nat)}{p:α×Nat}(h:p∈l):p.2<=pv (λ_=>1) l:=by induction l with|nil=>cases h|cons q l ih=>simp only[pv];rcases Ed.1 h with rfl|h;omega;have:=ih h;omega
def toR(p:List Ay×Nat):A34:=⟨p.1,cR p.2⟩
def Dw(ts:Bs):Prop:=ts.Pairwise λt u=>t.1≠u.1
structure Cw(P:Ay->Prop)(ts:List (Ay×Nat)):Prop where
 dst:Dw ts
 mo:∀t∈ts,P t.1
 pos:∀t∈ts,1<=t.2
theorem Cw.nil(P:Ay->Prop):Cw P []:=⟨Pairwise.nil,λ_ h=>(by cases h),λ_ h=>(by cases h)⟩
theorem Dw.set{ts:Bs}(h:Dw ts){t u:Ay×Nat}(o:ts[j]?=some t)(hm:u.1=t.1):Dw (ts.set j u):=by(have e:∀l:Bs,Dw l↔(l.map (·.1)).Pairwise (·≠·):=λl=>by unfold Dw;rw[pairwise_map]);rw[e]at h⊢;(have:(ts.set j u).map (·.1)=ts.map (·.1):=by refine ext_getElem? λn=>?_;rw[getElem?_map,getElem?_map,getElem?_set];by_cases k:j=n;subst k;rw[Ar rfl,Ar (D8 o),o];simp[hm];rw[Au k]);rw[this];exact h
def GI(Δ:A0)(t:Ai)(S D:Nat)(i:Ay):Prop:=Cz i<=S/\iR i/\∃d,Ei Δ i t=some d/\d<=D
theorem GI.mono{S D D':Nat}(h:GI Δ t S D i)(c:S<=b)(f:D<=D'):GI Δ t b D' i:=by obtain⟨h1,h2,d,h3,g⟩:=h;exact⟨ω,h2,d,h3,ω⟩
theorem Cw.imp(h:Cw P L)(hi:∀i,P i->Q i):Cw Q L:=⟨h.dst,λt e=>hi _ (h.mo t e),h.pos⟩
def KM:Nat:=400000
def Ayq(Δ:A0)(t:Ai):Bg->(Ay->Nat)->Ay->Nat
 |[],f,a=>f a
 |r::e,f,a=>pv (Ayq Δ t e f) (Wy Δ KM t a r)
def dgo(Δ:A0)(t:Ai)(i:Ay):Nat:=match Ei Δ i t with|some d=>d|none=>0
def dsm(Δ:A0)(t:Ai)(is:Bg):Nat:=(is.map (dgo Δ t)).sum
structure GG(Δ:List A4)(t:Ai)(is:List Ay):Prop where
 num:∀i∈is,iR i
 deg:∀i∈is,Ei Δ i t=some (dgo Δ t i)
 siz:Ez is<=400000
 sum:dsm Δ t is<=6
 len:is.length<=8
def Ayr(Δ:A0)(t:Ai)(f:Ay->Nat):Prop:=∀i j a b,Cz i<=KM->Ei Δ i t=some a->Ei Δ j t=some b->a+b<=6->iR i->iR j->pv f (Wy Δ KM t i j)=f i*f j
structure PRg(Δ:List A4)(t:Ai)(i0:Ay)(rs:List Ay)(R:List (Ay×Nat)):Prop where
 cw:Cw (GI Δ t (Ez (i0::rs)) (dsm Δ t (i0::rs))) R
 len:R.length<=1000
 val:∀f:Ay->Nat,pv f R=Ayq Δ t rs f i0
 cnt:pv (λ_=>1) R<=3^(dsm Δ t (i0::rs)*rs.length)
theorem PRg.one(h:GG Δ t [i]):PRg Δ t i [] [(i,1)]:=by refine⟨⟨pairwise_singleton _ _,λp hp=>?_,λp hp=>?_⟩,ψ,λf=>?_,by simp[pv]⟩;simp only[De]at hp;subst hp;exact⟨by simp[Ez],h.num i ψ,_,h.deg i ψ,by simp[dsm]⟩;simp only[De]at hp;subst hp;exact Nat.le_refl _;show 1*f i+0=f i;omega
theorem GG.take{c:Ay}{b:Bg}(h:GG Δ t (c::b))(j:Nat):GG Δ t (c::b.take j):=by have g:=h.siz;have hd:=h.sum;have k:=h.len;have f:b=b.take j++b.drop j:=(take_append_drop j b).symm;(have s:Ez b=Ez (b.take j)+Ez (b.drop j):=by rw[<-Amh,<-f]);(have q:dsm Δ t b=dsm Δ t (b.take j)+dsm Δ t (b.drop j):=by unfold dsm;rw[<-sum_append,<-map_append,<-f]);(have e4:∀l,dsm Δ t (c::l)=dgo Δ t c+dsm Δ t l:=λl=>by unfold dsm;simp);rw[e4]at hd;simp only[Ez]at g;simp only[Fd]at k;refine⟨λi hi=>?_,λi hi=>?_,by simp only[Ez];omega,by rw[e4];omega,by rw[Fd,length_take];omega⟩;rcases Ed.1 hi with rfl|hi;exact h.num _ ψ;exact h.num i (by have:=mem_of_mem_take hi;simp[this]);rcases Ed.1 hi with rfl|hi;exact h.deg _ ψ;exact h.deg i (by have:=mem_of_mem_take hi;simp[this])
def fl(v:Int)(is:Bg):Be:=is.map λi=>⟨v,i⟩
abbrev Ik:=(List Bl×Rat)×Dy
inductive J8(K:Nat):List Ae->List Ik->Prop
 |nil:J8 K [] []
 |cons{t:Ae}{b:Ik}{ts:List Ae}{bs:List Ik}:t.M=⟨b.1.1,b.2.1⟩->rq t.C=b.1.2*(b.2.2:Rat)->RB K t.C->b.1.1.length<=1000->J8 K ts bs->J8 K (t::ts) (b::bs)
theorem J8.len{ts:Ad}{bs:Λ Ik}(h:J8 K ts bs):ts.length=bs.length:=by induction h with|nil=>rfl|cons _ _ _ _ _ ih=>simp[ih]
theorem J8.app{ts c:Ad}{bs cs:Λ Ik}(h:J8 K ts bs)(h':J8 K c cs):J8 K (ts++c) (bs++cs):=by induction h with|nil=>exact h'|cons a b d e _ ih=>exact .cons a b d e ih
theorem J8.mono{c:Nat}{ts:Ad}{bs:Λ Ik}(h:J8 K ts bs)(hk:K<=c):J8 c ts bs:=by induction h with|nil=>exact .nil|cons a b d e _ ih=>exact .cons a b (d.mono hk) e ih
theorem J8.get{ts:Ad}{bs:Λ Ik}(h:J8 K ts bs):∀{j:Nat}{t:Ae},ts[j]?=some t->∃b,bs[j]?=some b/\t.M=⟨b.1.1,b.2.1⟩/\rq t.C=b.1.2*(b.2.2:Rat)/\RB K t.C/\b.1.1.length<=1000:=by induction h with|nil=>intro j t h;simp at h|@cons t b ts bs o r y D _ ih=>intro j u e;cases j with|zero=>simp only[getElem?_cons_zero,Option.some.injEq]at e;subst e;exact⟨b,rfl,o,r,y,D⟩|succ j=>simp only[getElem?_cons_succ]at e;simpa using ih e
theorem J8.mem{ts:Ad}{bs:Λ Ik}(h:J8 K ts bs){t:Ae}(e:t∈ts):∃b∈bs,t.M=⟨b.1.1,b.2.1⟩/\rq t.C=b.1.2*(b.2.2:Rat)/\RB K t.C:=by obtain⟨j,o⟩:=Fo e;obtain⟨b,b1,r,f,c,_⟩:=h.get o;exact⟨b,B5 b1,r,f,c⟩
def Aiv(l:Aq)(k c:Nat)(b:Ik):Ik:=(b.1,(b.2.1++atO l k,b.2.2*c))
def R4(B:Λ Ik)(l:Aq)(f:Nat->Nat)(n:Nat):Λ Ik:=(range n).flatMap λk=>if f k=0 then[]else B.map (Aiv l k (f k))
theorem Bdh(B:Λ Ik)(l:Aq)(f:Nat->Nat)(n:Nat):R4 B l f (n+1)=R4 B l f n++(if f n=0 then[]else B.map (Aiv l n (f n))):=by unfold R4;rw[range_succ,flatMap_append];simp
def Zy(B:Λ Ik):Λ Grp->Λ Ik
 |[]=>B
 |q::e=>Zy (R4 B q.1 q.2.2 (q.2.1+1)) e
theorem Bdi{B:Λ Ik}{l:Aq}{f:Nat->Nat}{b:Ik}(hb:b∈R4 B l f n):∃g∈B,b.1=g.1/\b.2∈Ek [g.2] l f n:=by unfold R4 at hb;rw[mem_flatMap]at hb;obtain⟨k,c,e⟩:=hb;split at e;cases e;rename_i h;obtain⟨d,o,rfl⟩:=mem_map.1 e;refine⟨d,o,rfl,?_⟩;unfold Ek;rw[mem_flatMap];exact⟨k,c,by rw[Au h];exact mem_map.2 ⟨d.2,ψ,rfl⟩⟩
theorem Ays:∀(f:Λ Grp){B C:Λ Dy},(∀b∈B,b∈C)->∀b∈H7 B f,b∈H7 C f
 |[],B,C,h,b,e=>h b e
 |q::f,B,C,h,b,e=>by refine Ays f (B:=Ek B q.1 q.2.2 (q.2.1+1)) (λc o=>?_) b e;unfold Ek at o⊢;rw[mem_flatMap]at o⊢;obtain⟨k,i,g⟩:=o;refine⟨k,i,?_⟩;split at g;cases g;rename_i r;rw[Au r];obtain⟨d,d1,d2⟩:=mem_map.1 g;exact mem_map.2 ⟨d,h d d1,d2⟩
theorem Aow:∀(f:Λ Grp){B:Λ Ik}{b:Ik},b∈Zy B f->∃g∈B,b.1=g.1/\b.2∈H7 [g.2] f
 |[],B,b,h=>⟨b,h,rfl,by simp[H7]⟩
 |q::f,B,b,h=>by obtain⟨c,r,u,y⟩:=Aow f h;obtain⟨d,d1,d2,d3⟩:=Bdi r;refine⟨d,d1,u.trans d2,?_⟩;exact Ays f (λe o=>by simp only[De]at o;rw[o];exact d3) b.2 y
abbrev Aox:=List Bl×Nat
def Aiw(c:Rat)(p:Aox):Ik:=((p.1,c),([],p.2))
theorem Ayt{f:Bl}(h:1<=Ee Δ Ξ Θ f):∃t d,E2 Ξ Θ f.v=some t/\Ei Δ f.I t=some d/\1<=d/\d<=6/\Ee Δ Ξ Θ f=(d:Nat):=by unfold Ee at h⊢;cases e:E2 Ξ Θ f.v with|none=>rw[e]at h;exact absurd (show(1:Int)<=-1 from h) δ|some t=>rw[e]at h;(rcases Ag6 (Ei Δ f.I t)with⟨o,_⟩|⟨d,o,r,u⟩);have h:1<=Ho (Ei Δ f.I t):=h;omega;have h:1<=Ho (Ei Δ f.I t):=h;exact⟨t,d,rfl,o,ω,r,u⟩
theorem Aoy(l m:Be):B6 Δ Ξ Θ (l++m)=B6 Δ Ξ Θ l+B6 Δ Ξ Θ m:=by unfold B6;simp[sum_append]
theorem Aix{Δ:A0}{Ξ:A1}{Θ:Ai}:∀{l:Be},(∀f∈l,1<=Ee Δ Ξ Θ f)->(l.length:Int)<=B6 Δ Ξ Θ l
 |[],_=>by simp[B6]
 |f::l,h=>by have o:=h f ψ;have r:=Aix (l:=l) λg e=>h g (by simp[e]);have:B6 Δ Ξ Θ (f::l)=Ee Δ Ξ Θ f+B6 Δ Ξ Θ l:=(by unfold B6;simp);simp only[Fd];omega
structure FGz(Δ:List A4)(Ξ:List Ai)(Θ:Ai)(F:List Bl):Prop where
 fac:∀f∈F,I64 f.v/\iR f.I/\0<=Ee Δ Ξ Θ f
 siz:(F.map λf=>Cz f.I).sum<=400000
 sum:B6 Δ Ξ Θ F<=6
 len:F.length<=8
theorem Aoz{Δ:A0}{Ξ:A1}{Θ:Ai}:∀{l:Be},(∀f∈l,0<=Ee Δ Ξ Θ f)->0<=B6 Δ Ξ Θ l
 |[],_=>by simp[B6]
 |f::l,h=>by have o:=h f ψ;have r:=Aoz (l:=l) λg e=>h g (by simp[e]);have:B6 Δ Ξ Θ (f::l)=Ee Δ Ξ Θ f+B6 Δ Ξ Θ l:=(by unfold B6;simp);omega
theorem FGz.app{m:Be}(h:FGz Δ Ξ Θ (l++m)):FGz Δ Ξ Θ l/\FGz Δ Ξ Θ m:=by have h1:=h.siz;have h2:=h.sum;have h3:=h.len;rw[map_append,sum_append]at h1;rw[Aoy]at h2;rw[Fe]at h3;have f1:=Aoz (Δ:=Δ) (Ξ:=Ξ) (Θ:=Θ) (l:=l) λf b=>(h.fac f (by simp[b])).2.2;have f2:=Aoz (Δ:=Δ) (Ξ:=Ξ) (Θ:=Θ) (l:=m) λf b=>(h.fac f (by simp[b])).2.2;exact⟨⟨λf b=>h.fac f (by simp[b]),ω,ω,ω⟩,⟨λf b=>h.fac f (by simp[b]),ω,ω,ω⟩⟩
def Aec(Δ:A0)(Ξ:A1)(Θ:Ai)(χ:Bl->Nat)(P:Be):Prop:=∀g∈P,∀t,E2 Ξ Θ g.v=some t->Ayr Δ t (λi=>χ ⟨g.v,i⟩)/\∀i,Ei Δ i t=some 0->iR i->Cz i<=400000->χ ⟨g.v,i⟩=1
structure Ao0(Δ:List A4)(Ξ:List Ai)(Θ:Ai)(P:List Bl)(FE:List Aox):Prop where
 pos:∀p∈FE,1<=p.2
 fac:∀p∈FE,∀f∈p.1,I64 f.v/\iR f.I/\Cz f.I<=(P.map λf=>Cz f.I).sum/\1<=Ee Δ Ξ Θ f/\∃g∈P,g.v=f.v
 asc:∀p∈FE,p.1.Pairwise λa b=>a.v<b.v
 sum:∀p∈FE,B6 Δ Ξ Θ p.1<=B6 Δ Ξ Θ P
 val:∀χ,Aec Δ Ξ Θ χ P->pv (λF=>Iu (F.map χ)) FE=Iu (P.map χ)
 len:FE.length*FE.length<=10^((B6 Δ Ξ Θ P).toNat+P.length)
theorem Ao0.nil(Δ:A0)(Ξ:A1)(Θ:Ai):Ao0 Δ Ξ Θ [] [([],1)]:=by(have h:∀p∈[(([]:Be),1)],p=([],1):=λp hp=>by simpa using hp);refine⟨λp hp=>?_,λp hp f b=>?_,λp hp=>?_,λp hp=>?_,λχ _=>rfl,Nat.le_refl _⟩;rw[h p hp];exact Nat.le_refl _;rw[h p hp]at b;cases b;rw[h p hp];exact Pairwise.nil;rw[h p hp];exact Int.le_refl _
def Ao1(l:Be):Prop:=∃v:Int,3<=(l.filter λf=>f.v==v).length
theorem Ao1.app{m:Be}(h:Ao1 m):Ao1 (l++m):=by obtain⟨v,h⟩:=h;exact⟨v,by rw[filter_append,Fe];omega⟩
def ls(g:Int->Int):A7->Int
 |[]=>0
 |t::l=>t.C*g t.v+ls g l
structure PX(x:A8)(n k:Nat)(R:List Ae):Prop where
 cp:CP R
 mo:∀t∈R,D0 x t.M
 rb:∀t∈R,RB k t.C
 len:R.length<=n
theorem PX.can(h:PX x n k R)(hn:n<=1000)(hk:k<=1048576):Ha x R:=Ha.of h.cp h.mo (λt e=>(h.rb t e).mono hk) (Nat.le_trans h.len hn)
theorem PX.up{c:Nat}(h:PX x n k R)(hn:n<=b)(hk:k<=c):PX x b c R:=⟨h.cp,h.mo,λt e=>(h.rb t e).mono hk,Nat.le_trans h.len hn⟩
theorem IP.px{L:Nat}{f:Aw->Rat}(h:IP x n L f R):PX x n (L+1) R:=⟨h.cp,h.mo,λt e=>by obtain⟨z,b,o⟩:=h.int t e;exact T9 (h.cp.coe t e).1 b o,h.len⟩
theorem Ao2(u:CP p)(h:∀t∈p,RB k t.C)(D:3<=k)(m:Aw):∃a,RB k a/\rq a=cf p m:=by by_cases r:∃t∈p,Dn t.M m=0;obtain⟨t,o,e⟩:=r;exact⟨t.C,h t o,by rw[<-Lz u o,Hj.1 e]⟩;obtain⟨y,g,c,f,b⟩:=Aid 0 ω ω;exact⟨y,c.mono D,by rw[b,Ahy λt o e=>r ⟨t,o,e⟩];rfl⟩
theorem Ayu(h:CSz x)(u:F1 x){m l:Nat}(hp:PX x n k p)(o:PX x m l q)(V:n+m<=1000)(D:3<=k)(y:3<=l)(E:k<=1048576)(s:l<=1048576):∃R,M6 x p q=some (R,0)/\PX x (n+m) (k+l+3) R/\∀a,cf R a=cf p a-cf q a:=by have j:=hp.len;have i:=o.len;obtain⟨R,g,f⟩:=An2 h u (hp.can ω E) (o.can ω s) ω;refine⟨R,g,⟨f.cp,λt r=>(f.tb t r).1,λt r=>?_,by have:=f.len;omega⟩,f.val⟩;obtain⟨a,G,H⟩:=Ao2 hp.cp hp.rb D t.M;obtain⟨b,b1,I⟩:=Ao2 o.cp o.rb y t.M;obtain⟨c,W,J,T,U⟩:=Axe G b1 ω ω;have e:t.C=c:=Zl (f.cp.coe t r).1 T (by rw[<-Lz f.cp r,f.val,U,H,I]);rw[e];exact J
theorem Bdj(h:CSz x)(l:F1 x){r:An}(hp:PX x n k p)(f:RB j r)(T:n<=1000)(u:3<=k)(y:k<=1048576)(D:j<=1048576):∃R,Sl x p r=some (R,0)/\PX x n (j+k+2) R/\∀a,cf R a=rq r*cf p a:=by have i:=hp.len;obtain⟨R,g,b⟩:=Aw5 h l (hp.can ω y) (f.mono D) ω;refine⟨R,g,⟨b.cp,λt o=>(b.tb t o).1,λt o=>?_,by have:=b.len;omega⟩,b.val⟩;obtain⟨a,E,G⟩:=Ao2 hp.cp hp.rb u t.M;obtain⟨c,U,H,I,J⟩:=Wn f E ω ω;have e:t.C=c:=Zl (b.cp.coe t o).1 I (by rw[<-Lz b.cp o,b.val,J,G]);rw[e];exact H
theorem Aed{m:Aw}(e:m.F≠[]):∀B:Λ Dy,ec B m=0
 |[]=>rfl
 |b::B=>by have h:Dn ⟨[],b.1⟩ m≠0:=λh=>e (by rw[<-Hj.1 h]);simp only[ec,Au h,Aed e B]
theorem Bdk(e:m.F≠[])(p q:Ad):Pn p q m=0:=by cases p with|nil=>rfl|cons t p=>cases q with|nil=>rfl|cons u q=>simp only[Pn,Aed e];show _*(((0:Nat):Rat))=0;rw[show(((0:Nat):Rat))=0 from rfl];grind
theorem Ayv{f:Nat->Rat}(h:∀j,f j=0):∀n,sq n f=0
 |0=>rfl
 |n+1=>by simp only[sq,Ayv h n,h];grind
theorem IP.noF{L:Nat}{f:Aw->Rat}(h:IP x n L f R)(b:∀m:Aw,m.F≠[]->f m=0):∀u∈R,u.M.F=[]:=λu o=>by rcases Classical.em (u.M.F=[])with e|e;exact e;exact absurd (b _ e) (by rw[<-h.val,Lz h.cp o];exact(h.cp.coe u o).2)
def AxV(_:A8)(_:Hu)(_:Ad):Prop:=True
theorem Bdl(b:CSz x)(a:Hu)(A:a.E.T.length<=6)(z:a.F.T.length<=6):∃R e,Q5 x a=some (R,e)/\(e=0->F1 x/\IP x 17 13010 (cf R) R/\(∀u∈R,u.M.F=[])/\AxV x a R):=by obtain⟨k,E,F,K⟩:=a;have A:E.T.length<=6:=A;have z:F.T.length<=6:=z;by_cases I:k=1;subst I;obtain⟨R,v,f,i,rv,_,_,N⟩:=Bck b E F K A z;refine⟨R,_,i,λh=>?_⟩;obtain⟨c,_,q,G,D,iE,iF,s,hs,r⟩:=N h;have hv:v=true:=(by cases v with|false=>exact absurd (show(1:Int)=0 from h) δ|true=>rfl);refine⟨c,r.up (Nat.le_refl _) (Nat.le_refl _) λm=>(r.val m).symm,r.noF λm o=>?_,trivial⟩;unfold shF;rw[Aed o,Ayv λj=>Bdk o _ _,show((0:Nat):Rat)=0 from rfl];grind;obtain⟨v,J,T⟩:=Aog ⟨k,E,F,K⟩ (by show E.T.length+F.T.length<=12;omega);obtain⟨f,f1,f2⟩:=Zk x b [] (λt W=>by cases W);have Y:=b.nv;have M:=Zr x E ω ω;have L:=Zr x F ω ω;unfold Q5;rw[J,f1,M,L];cases v with|false=>exact⟨[],1,rfl,λh=>absurd h δ⟩|true=>cases f with|false=>exact⟨[],1,rfl,λh=>absurd h δ⟩|true=>cases hi:Ej x.V x.E E with|false=>exact⟨[],6,rfl,λh=>absurd h δ⟩|true=>cases hj:Ej x.V x.E F with|false=>exact⟨[],6,rfl,λh=>absurd h δ⟩|true=>obtain⟨G,D,H,q,hk⟩:=T.1 rfl;(rcases hk with⟨h,_⟩|⟨y,s0,Z⟩);exact(I h).elim;have y:k=2:=y;subst y;have c:=(f2.1 rfl).1;obtain⟨P,B,X,p2,V,_⟩:=Ain b c (l:=E) (k:=K) G H q hi;obtain⟨Q,C,U,q2,S,_⟩:=Ain b c (l:=F) (k:=K) D H q hj;obtain⟨R,i,g⟩:=Aii b c V S δ δ;refine⟨R,0,?_,λ_=>⟨c,g.up δ δ λm=>(g.val m).symm,g.noF λm o=>?_,trivial⟩⟩;simp only[Ds,Ac,Aj,beq_self_eq_true,Ak];unfold Aa9;simp only[X,U,i,Ac,bne_self_eq_false,Aj];rw[Aed o,Aed o,show((0:Nat):Rat)=0 from rfl];grind
theorem Bdm{m:Be}(h:l.Perm m):B6 Δ Ξ Θ l=B6 Δ Ξ Θ m:=by induction h with|nil=>rfl|cons a _ ih=>simp only[B6,map_cons,sum_cons]at ih⊢;omega|swap a b l=>simp only[B6,map_cons,sum_cons];omega|trans _ _ e o=>exact e.trans o
theorem Bdn{l m:D2}(h:l.Perm m):l.sum=m.sum:=by induction h with|nil=>rfl|cons a _ ih=>simp only[sum_cons,ih]|swap a b l=>simp only[sum_cons];omega|trans _ _ e o=>exact e.trans o
structure Aiy(Δ:List A4)(Ξ:List Ai)(Θ:Ai)(c:Rat)(F:List Bl)(A:List A6)(K:Nat)(out:List Ae):Prop where
 ex:∃Fs FE S gs,Fs.Perm F/\Ao0 Δ Ξ Θ Fs FE/\S.Perm A/\Ad2 S/\Gs gs S/\J8 K out (Zy (FE.map (Aiw c)) gs)
 len:∃n,n*n<=10^((B6 Δ Ξ Θ F).toNat+F.length)/\out.length<=n*2^Bw A
def I4(χ:Bl->Nat)(v:Aq->Nat):Λ Ik->Nat
 |[]=>0
 |b::bs=>Iu (b.1.1.map χ)*(b.2.2*E3 v b.2.1)+I4 χ v bs
theorem Bdo(χ:Bl->Nat)(v:Aq->Nat)(B C:Λ Ik):I4 χ v (B++C)=I4 χ v B+I4 χ v C:=by induction B with|nil=>simp[I4]|cons b B ih=>simp only[Er,I4,ih,Nat.add_assoc]
theorem Bdp(χ:Bl->Nat)(v:Aq->Nat)(l:Aq)(k c:Nat)(B:Λ Ik):I4 χ v (B.map (Aiv l k c))=I4 χ v B*(c*bc (v l) k):=by(have e:E3 v (atO l k)=bc (v l) k:=by unfold atO;by_cases h:k=0;subst h;rw[Ar rfl,Jw];rfl;rw[Au h];simp[E3]);induction B with|nil=>simp[I4]|cons b B ih=>simp only[map_cons,I4,ih,Aiv,Uf,e];rw[Nat.add_mul];congr 1;ac_rfl
theorem Ayw(χ:Bl->Nat)(v:Aq->Nat)(B:Λ Ik)(l:Aq)(f:Nat->Nat):∀n,I4 χ v (R4 B l f n)=I4 χ v B*sm n λk=>f k*bc (v l) k
 |0=>by simp[R4,I4,sm]
 |n+1=>by rw[Bdh,Bdo,Ayw χ v B l f n];show _=I4 χ v B*(sm n (λk=>f k*bc (v l) k)+f n*bc (v l) n);rw[Nat.mul_add];congr 1;by_cases h:f n=0;rw[Ar h,h];simp[I4];rw[Au h,Bdp]
theorem Gs.valG(c:Om v):∀{b:Λ Grp}{A:A2},Gs b A->∀B,I4 χ v (Zy B b)=I4 χ v B*E3 v A:=by intro b A h;induction h with|nil=>intro B;simp[Zy,E3]|@cons l N f g rest b i e k j q ih=>intro B;show I4 χ v (Zy (R4 B l f (N+1)) b)=_;rw[ih,Ayw,Uf,Aoo e,<-Nat.mul_assoc];congr 2;(rcases j with⟨_,_,_,h3⟩|⟨h1,h2,h3⟩);exact h3 (v l);subst h2;rw[c l h1];simp[sm,Jw,h3]
theorem Ayx(χ:Bl->Nat)(v:Aq->Nat)(c:Rat):∀b:Λ Aox,I4 χ v (b.map (Aiw c))=pv (λF=>Iu (F.map χ)) b
 |[]=>rfl
 |p::b=>by rw[map_cons,I4,Ayx χ v c b,pv];show Iu (p.1.map χ)*(p.2*1)+_=_;rw[Nat.mul_one,Nat.mul_comm]
def Da(χ:Bl->Nat)(v:Aq->Nat):Ad->Rat
 |[]=>0
 |t::p=>rq t.C*((Iu (t.M.F.map χ)*E3 v t.M.A:Nat):Rat)+Da χ v p
theorem Zz(χ:Bl->Nat)(v:Aq->Nat):∀p q:Ad,Da χ v (p++q)=Da χ v p+Da χ v q
 |[],q=>by simp only[nil_append,Da];grind
 |t::p,q=>by simp only[Er,Da,Zz χ v p q];grind
theorem J8.polX{c:Rat}{ts:Ad}{bs:Λ Ik}(h:J8 K ts bs)(hc:∀b∈bs,b.1.2=c):Go.Ab.Da χ v ts=c*(I4 χ v bs:Rat):=by induction h with|nil=>simp only[Go.Ab.Da,I4];grind|@cons t b ts bs e o r u _ ih=>have hb:=hc b ψ;simp only[Go.Ab.Da,I4,ih λd hd=>hc d (by simp[hd]),e,o,hb,Rat.natCast_add,Rat.natCast_mul];grind
theorem Bdq{l m:D2}(h:l.Perm m):Iu l=Iu m:=by induction h with|nil=>rfl|cons a _ ih=>simp only[Iu,ih]|swap a b l=>simp only[Iu];ac_rfl|trans _ _ e o=>exact e.trans o
theorem Aiy.val{c:Rat}{f:Ad}(h:Aiy Δ Ξ Θ c F A K f)(i:Aec Δ Ξ Θ χ F)(j:Om v):Da χ v f=c*((Iu (F.map χ)*E3 v A:Nat):Rat):=by obtain⟨u,x,S,gs,h1,h2,h3,q,l,k⟩:=h.ex;rw[k.polX (c:=c) λb hb=>by obtain⟨s,b1,e,_⟩:=Aow gs hb;obtain⟨p,_,rfl⟩:=mem_map.1 b1;rw[e];rfl];rw[l.valG j,Ayx,h2.val χ λg o=>i g (h1.mem_iff.1 o),Ayh v h3,Bdq (h1.map χ)]
theorem Bdr{l:Aq}{f:Nat->Nat}{b:Dy}(hb:b∈Ek B l f n):∃c∈B,∀a∈b.1,a∈c.1\/a.L=l:=by unfold Ek at hb;rw[mem_flatMap]at hb;obtain⟨k,_,h⟩:=hb;split at h;cases h;obtain⟨d,o,rfl⟩:=mem_map.1 h;refine⟨d,o,λa e=>?_⟩;rcases Ef.1 e with e|e;exact .inl e;unfold atO at e;split at e;cases e;simp only[De]at e;right;rw[e]
theorem Bds{j:Λ Grp}(h:Gs j A):∀(B:Λ Dy)(b:Dy),b∈H7 B j->∃q∈B,∀a∈b.1,a∈q.1\/∃c∈A,a.L=c.L:=by induction h with|nil=>intro B b e;exact⟨b,e,λa o=>.inl o⟩|@cons l N f g r j k D s u x ih=>intro B b e;obtain⟨b1,E,G⟩:=ih _ b (show b∈H7 (Ek B l f (N+1)) j from e);obtain⟨q,d1,d2⟩:=Bdr E;obtain⟨y,i⟩:∃a,a∈g:=(by cases g with|nil=>exact(k rfl).elim|cons a _=>exact⟨a,ψ⟩);refine⟨q,d1,λa o=>?_⟩;rcases G a o with h|⟨c,H,I⟩;rcases d2 a h with h|h;exact .inl h;exact .inr ⟨y,by simp[i],by rw[h,D y i]⟩;exact .inr ⟨c,by simp[H],I⟩
theorem Aiy.mono{c:Rat}{i:Ad}(h:Aiy Δ Ξ Θ c F A K i)(D:∀a∈A,Co a.L=true/\Ej Ξ Θ a.L=true):∀t∈i,RB K t.C/\(∃n:Nat,rq t.C=c*(n:Rat))/\(∀f∈t.M.F,I64 f.v/\iR f.I/\Cz f.I<=(F.map λf=>Cz f.I).sum/\1<=Ee Δ Ξ Θ f)/\t.M.F.Pairwise (λa b=>a.v<b.v)/\B6 Δ Ξ Θ t.M.F<=B6 Δ Ξ Θ F/\Ww Ξ Θ t.M.A/\Bq t.M.A<=(Bw A:Nat)/\(∀f∈t.M.F,∃g∈F,g.v=f.v)/\∀a∈t.M.A,∃c∈A,a.L=c.L:=by obtain⟨U,V,S,gs,h1,h2,h3,N,q,l⟩:=h.ex;intro t r;obtain⟨b,b1,H,M,L⟩:=l.mem r;obtain⟨R,T,e,o⟩:=Aow gs b1;obtain⟨p,j,rfl⟩:=mem_map.1 T;obtain⟨W,X⟩:=Aih (Ξ:=Ξ) (Θ:=Θ) q (λa ha=>D a (h3.mem_iff.1 ha)) [(Aiw c p).2] 0 (λd hd=>by simp only[De]at hd;subst hd;exact⟨⟨Pairwise.nil,λ_ h=>by cases h⟩,by simp[Bq,Aiw],λ_ h=>by cases h⟩) b.2 o;rw[Pk h3]at X;(have I:b.1.1=p.1:=by rw[e];rfl);(have G:b.1.2=c:=by rw[e];rfl);rw[H];dsimp only;rw[I];refine⟨L,⟨b.2.2,by rw[M,G]⟩,λf k=>?_,h2.asc p j,by have:=h2.sum p j;rw[Bdm h1]at this;exact this,W,ω,λf k=>?_,λa ha=>?_⟩;obtain⟨B,z,y,x,_⟩:=h2.fac p j f k;exact⟨B,z,by rw[<-Bdn (h1.map λf=>Cz f.I)];exact y,x⟩;obtain⟨_,_,_,_,g,u,s⟩:=h2.fac p j f k;exact⟨g,h1.mem_iff.1 u,s⟩;obtain⟨d,d1,d2⟩:=Bds q _ _ o;simp only[De]at d1;subst d1;rcases d2 a ha with h|⟨J,l,E⟩;cases h;exact⟨J,h3.mem_iff.1 l,E⟩
def lim(R:Ad):List Ae×Int:=if 1000<R.length then([],9)else(R,0)
theorem Ayy(h:R.length<=1000):lim R=(R,0):=Au ω
theorem Bdt(h:1000<R.length):lim R=([],9):=Ar h
def mX(χ:Bl->Nat)(v:Aq->Nat)(m:Aw):Nat:=Iu (m.F.map χ)*E3 v m.A
theorem Bdu(χ:Bl->Nat)(v:Aq->Nat)(p:Ad):K1 (mX χ v) (p.map wT)=Da χ v p:=by induction p with|nil=>rfl|cons t p ih=>simp only[map_cons,K1,Da,ih,wT];rfl
theorem Bdv(χ:Bl->Nat)(v:Aq->Nat)(p:Ad):K1 (mX χ v) (p.map nT) = - Da χ v p:=by induction p with|nil=>show(0:Rat) = - 0;grind|cons t p ih=>simp only[map_cons,K1,Da,ih,nT];show-rq t.C*((Iu (t.M.F.map χ)*E3 v t.M.A:Nat):Rat)+_=_;grind
theorem Ayz(h:∀m,cf q m<=cf p m):Da χ v q<=Da χ v p:=by have:=Bbj (mX χ v) _ (p.map wT++q.map nT) (Nat.le_refl _) (λm=>by rw[Bbm,Bbk,Bbl];have:=h m;grind);rw[Bbn,Bdu,Bdv]at this;grind
theorem Ao3(h:∀m,cf q m=cf p m):Da χ v q=Da χ v p:=Rat.le_antisymm (Ayz λm=>by rw[h m];exact Rat.le_refl) (Ayz λm=>by rw[h m];exact Rat.le_refl)
theorem Bdw(o:∀f∈F,I64 f.v/\iR f.I/\Cz f.I<=1048576/\1<=Ee x.D x.V x.E f)(u:F.Pairwise λa b=>a.v<b.v)(H:B6 x.D x.V x.E F<=6):D0 x ⟨F,[]⟩:=by have h:=Aix (Δ:=x.D) (Ξ:=x.V) (Θ:=x.E) (l:=F) λf c=>(o f c).2.2.2;refine⟨?_,⟨by show F.length<=_;omega,ψ,λf c=>(o f c).2.2.1,λf c=>⟨(o f c).2.1,(o f c).1⟩,λa y=>by cases y⟩⟩;unfold It;(have i:F.zipIdx.all (λq=>Mn x.D x.V x.E F q.1 q.2)=true:=by rw[Gu];rintro⟨a,j⟩ D;have r:F[j]?=some a:=mk_mem_zipIdx_iff_getElem?.1 D;have E:=(o a (B5 r)).2.2.2;show Mn x.D x.V x.E F a j=true;unfold Mn;have hp:Lf (·.v) F a j=true:=(by unfold Lf;cases j with|zero=>rfl|succ j=>have h:=D8 r;have G:F[j]?=some F[j]:=Bn ω;have g:=pairwise_iff_getElem.1 u j (j+1) ω h ω;have e:F[j+1]=a:=(by have:=Bn h;rw[r]at this;exact(Fv this).symm);rw[e]at g;simp only[Nat.add_sub_cancel,G,Bool.or_eq_true];exact .inr (decide_eq_true g));rw[hp,Al E];rfl);show(F.zipIdx.all (λq=>Mn x.D x.V x.E F q.1 q.2)&&([]:A2).zipIdx.all _&&decide (B6 x.D x.V x.E F+Bq []<=6))=true;rw[i];have:Bq []=0:=rfl;rw[this,Al ω];rfl
def Km(x:A8)(Z:Nat)(m:Aw):Prop:=D0 x m/\∀f∈m.F,Cz f.I<=Z
structure TmZ(x:A8)(k Z:Nat)(W:Int->Prop)(t:Ae):Prop where
 vr:∀w∈Bao t.M,W w
 mo:Km x Z t.M
 rb:RB k t.C
 nz:rq t.C≠0
def Wz(x:A8)(p q:Ad):Prop:=∃t∈p,∃u∈q,6<D3 x t.M+D3 x u.M
theorem Hk.polX{F:FS}{c:Rat}{ts:Ad}{bs:Λ Dy}(h:Hk F c K ts bs):Go.Ab.Da χ v ts=c*((Iu (F.1.map χ)*I3 v bs:Nat):Rat):=by induction h with|nil=>simp only[Go.Ab.Da,I3,Nat.mul_zero];grind|@cons t b ts bs e o r _ ih=>simp only[Go.Ab.Da,I3,ih,e,o,Rat.natCast_add,Rat.natCast_mul];grind
theorem Bdx(hz:CSz x)(hf:F1 x)(H:D0 x m){R:An}(h1:rq R=1)(V:RB 3 R){f:Aw->Rat}(T:IP x 17 13010 f q)(U:∀u∈q,u.M.F=[])(hG:∀u∈q,D3 x m+D3 x u.M<=6)(a1:Fa x.D x.V x.E b1):∃(A:At)(l:As)(ts L:Ad),Ao (Air x ⟨R,m⟩ q) (0,b1,[],[],[])=some (.inr ((q.length:Int),A,l,Ff ts,ts))/\Col 3000000 (D0 x) ts/\ts.length<=136/\L.length<=136/\(∀t∈L,∃z:Int,rq t.C=(z:Rat)/\Bp z.natAbs<=15480)/\(∀a,cf ts a=cf L a)/\∀χ v,Om v->Da χ v L=(mX χ v m:Rat)*Da χ v q:=by have G:=hf.ctx hz;have a7:=T.len;obtain⟨e,e1,A,l,ts,L,rfl,I⟩:=Jh (step:=Air x ⟨R,m⟩ q) (λs=>∃(j:Nat)(A:At)(l:As)(ts L:Ad),s=((j:Int),A,l,Ff ts,ts)/\j<=q.length/\Fa x.D x.V x.E A/\T8 l/\Col (15475+j*8*15500) (D0 x) ts/\ts.length<=8*j/\L.length<=8*j/\(∀t∈L,∃z:Int,rq t.C=(z:Rat)/\Bp z.natAbs<=15480)/\(∀a,cf ts a=cf L a)/\∀χ v,Om v->Da χ v L=(mX χ v m:Rat)*Da χ v (q.take j)) (λs=>q.length-s.1.toNat) (λe=>∃(A:At)(l:As)(ts L:Ad),e=.inr ((q.length:Int),A,l,Ff ts,ts)/\Col 3000000 (D0 x) ts/\ts.length<=136/\L.length<=136/\(∀t∈L,∃z:Int,rq t.C=(z:Rat)/\Bp z.natAbs<=15480)/\(∀a,cf ts a=cf L a)/\∀χ v,Om v->Da χ v L=(mX χ v m:Rat)*Da χ v q) (by rintro _ ⟨j,A,l,ts,L,rfl,hj,k1,k2,J,k4,k5,k6,k7,k8⟩;unfold Air;dsimp only;rcases Cb j q.length with h|h;left;have W:q[j]?=some q[j]:=Bn h;generalize q[j]=u at W;have g:=B5 W;have hu:=T.mo u g;obtain⟨z,z1,z2⟩:=T.int u g;have S:=T9 (T.cp.coe u g).1 z1 z2;obtain⟨c,m1,m2,m3,m4⟩:=Wn V S δ δ;have Z:rq c≠0:=(by rw[m4,h1];have:=(T.cp.coe u g).2;grind);have E:=hG u g;have am:=H.f.as;have au:=hu.f.as;have f0:=H.f.fsum0;have f1:=hu.f.fsum0;have aa:Bw (m.A++u.M.A)=Bw m.A+Bw u.M.A:=Oj _ _;unfold D3 at E;have a6:Bw (m.A++u.M.A)<=6:=ω;(have k:∀a∈m.A++u.M.A,1<=a.P/\Co a.L=true/\a.L.T.length≠0/\Ej x.V x.E a.L=true:=λa r=>by rcases Ef.1 r with h|h;exact H.f.atm a h;exact hu.f.atm a h);have hA:Atk (m.A++u.M.A):=⟨λa r=>by have:=(k a r).1;omega,λa r=>(k a r).2.1,ω,by rw[Fe];omega⟩;have Y:Rb m u.M=some ⟨m.F,m.A++u.M.A⟩:=(by have n1:=H.cmo.nf;rw[Aib _ _ (by rw[U u g];simp;omega) ω,U u g,append_nil]);obtain⟨out,B,d1,d2,e1,I,N,e4,e5,e6,_⟩:=Bby G m2 δ Z (Bdb hz H) hA k1 k2;have a8:out.length<=8:=(by rw[N.len];exact Nat.le_trans (I.cnt H.f.srt hu.f.srt) (Nat.le_trans (Nat.pow_le_pow_right δ (ω:_<=3)) δ));have D:=I.goods (x:=x) λa r=>⟨(k a r).2.1,(k a r).2.2.2⟩;(have X:∀w∈out,RB 15470 w.C/\D0 x w.M:=λw hw=>by obtain⟨i,hi⟩:=Fo hw;obtain⟨b,b1,b2,b3,b4⟩:=N.get hi;obtain⟨g1,g2⟩:=D b (B5 b1);refine⟨b4.mono δ,?_⟩;rw[b2];exact Ayj H g1 ω);obtain⟨v,v1,v2,v3,v4⟩:=Zm (P:=D0 x) (λm h=>h.cmo) out ts J X ω ω ω;refine⟨(((j+1:Nat):Int),d1,d2,Ff v,v),?_,⟨j+1,d1,d2,v,L++out,rfl,ω,e5,e6,⟨v2.dst,λt o=>(v2.tb t o).mono ω,v2.mo⟩,ω,by rw[Fe];omega,λt o=>?_,λa=>?_,λχ v M=>?_⟩,ζ⟩;rw[Al ω,Ak,B1 rfl W,Ac,m1,Ac,Y,Ac,e1,Ac];dsimp only;rw[Dv rfl,Aj,v1,Ac,Dd h ω];rcases Ef.1 o with o|o;exact k6 t o;obtain⟨y,y1,y2⟩:=N.listI (z:=z) (by rw[m4,h1,z1];grind) t o;exact⟨y,y1,ω⟩;rw[v4,k7,Mp];have hc:rq c=rq u.C:=(by rw[m4,h1];grind);rw[Zz,k8 χ v M,N.polX,I.val M,Uf,C4 W,Zz,hc];show _=_*(_+(rq u.C*((Iu (u.M.F.map χ)*E3 v u.M.A:Nat):Rat)+0));rw[U u g];unfold mX;simp only[Rat.natCast_mul,map_nil,Iu,Nat.one_mul];grind;right;have:j=q.length:=ω;subst this;exact⟨_,by rw[Am ω,Aj],A,l,ts,L,rfl,⟨J.dst,λt o=>(J.tb t o).mono ω,J.mo⟩,ω,ω,k6,k7,λχ v M=>by rw[k8 χ v M,Du]⟩) (0,b1,[],[],[]) ⟨0,b1,[],[],[],rfl,ω,a1,λp hp=>(by cases hp),Col.nil _ _,ψ,ψ,λt o=>(by cases o),λa=>rfl,λχ v _=>by rw[take_zero];simp only[Go.Ab.Da];grind⟩;exact⟨A,l,ts,L,e1,I⟩
theorem Bdy(V:CSz x)(Y:F1 x)(W:D0 x m){b:An}(hc:Ij b)(o:rq b=1)(I:RB 3 b){f:Aw->Rat}(T:IP x 17 13010 f q)(nq:∀u∈q,u.M.F=[]) :
  (Wz x [⟨b,m⟩] q/\N3 x [⟨b,m⟩] q=some ([],13))\/(¬Wz x [⟨b,m⟩] q/\∃R,N3 x [⟨b,m⟩] q=some (R,0)/\IP x 136 16000 (cf R) R/\∀χ v,Om v->Da χ v R=(mX χ v m:Rat)*Da χ v q):=by
 have l:=Y.ctx V
 have a7:=T.len
 have hp:=Ayk W hc o I
 have M:=T.can δ δ
 obtain⟨b',hb,S⟩:=An1 V (ps:=[[⟨b,m⟩],q]) (λr J=>by
  simp only[Ed,not_mem_nil,or_false]at J
  rcases J with rfl|rfl
  .exact hp.sz
  .exact M.sz) ψ ⟨Y,λr J=>by
  simp only[Ed,not_mem_nil,or_false]at J
  rcases J with rfl|rfl
  .exact hp.can
  .exact M.can⟩
 have w1:Aa (0+1)=1:=by rw[Aa,Bm]<;>omega
 have it:Af [(⟨b,m⟩:Ae)] 0=some ⟨b,m⟩:=rfl
 unfold N3
 rw[hb]
 simp only[Ac,Ds,Aj,M8]
 rw[Al ψ,Ak]
 have fin:∀c:At,Fa x.D x.V x.E c->(∀u∈q,D3 x m+D3 x u.M<=6)->∃k j ts R,Ao (Air x ⟨b,m⟩ q) (0,c,[],[],[])=some (.inr ((q.length:Int),k,j,Ff ts,ts))/\M9 (Ff ts) ts=some (R,0)/\IP x 136 16000 (cf R) R/\∀χ v,Om v->Da χ v R=(mX χ v m:Rat)*Da χ v q:=by
  intro c Z s
  obtain⟨k,j,ts,L,E,l2,l3,l4,l5,l6,l7⟩:=Bdx V Y W o I T nq s Z
  have hint:∀a,∃z:Int,cf ts a=(z:Rat)/\Bp z.natAbs<=16000:=λa=>by
   obtain⟨z,U,z2⟩:=Aoe a L l5
   exact⟨z,by rw[l6];exact U,ω⟩
  obtain⟨R,D,i⟩:=Aof (x:=x) l2 δ ω λa=>⟨(hint a).choose,(hint a).choose_spec.1⟩
  refine⟨k,j,ts,R,E,D,⟨i.cp,λ_=>rfl,i.mo,by have:=i.len;omega,λw hw=>?_⟩,λχ v hv=>by rw[<-l7 χ v hv];exact Ao3 λa=>by rw[i.val,l6]⟩
  obtain⟨z,U,z2⟩:=hint w.M
  exact⟨z,by rw[<-Lz i.cp hw,i.val,U],z2⟩
 by_cases N:q.length=0
 .have:q=[]:=Fm.1 N
  subst this
  obtain⟨k,j,ts,R,E,D,i⟩:=fin b' S λu e=>by cases e
  refine .inr ⟨λ⟨_,_,u,e,_⟩=>(by cases e),R,?_,i⟩
  rw[Am ψ,Aj]
  simp only[Ac,Aj]
  refine Ct (a:=.inr (k,j,Ff ts,ts)) ?_ (by simp only[D,Ac])
  refine(Fh (s':=(1,k,j,Ff ts,ts)) ?_).trans (Cr ?_)
  .simp only[it,Ac]
   rw[Al ψ,Ak]
   exact Ct E (by simp only[w1])
  .rfl
 .obtain⟨G,c,g1,g2,g3,g4,g5,g6⟩:=Ayg [] l S [⟨b,m⟩] ψ (λu e=>by simp only[De]at e;subst e;exact W)
  obtain⟨B,c',a6,a1,aa,a8,A,y⟩:=Ayg [] l g2 q ω T.mo
  have wG:Aa (G+B)=G+B:=by clear g6 y;rw[Aa,Bm]<;>omega
  rw[Al (by clear g6 y;omega),Ak,g1,Ac]
  dsimp only
  rw[a6,Ac]
  dsimp only
  rw[wG,Ac]
  have X:G+B>6->Wz x [⟨b,m⟩] q:=λs=>by
   have e1:G=D3 x m:=by
    have o:=g5 ⟨b,m⟩ ψ
    have o:D3 x m<=G:=o
    have h0:=Aiq W
    rcases g6 with h|⟨u,e,h⟩
    .omega
    .simp only[De]at e
     subst e
     exact h.symm
   have e2:∃u∈q,D3 x u.M=B:=by
    rcases y with h|h
    .have H:0<q.length:=Nat.pos_of_ne_zero N
     have g:=getElem_mem H
     generalize q[0]'H=u at g
     have o:=A u g
     have h0:=Aiq (T.mo u g)
     have h3:D3 x u.M=B:=by rw[h]at o⊢;exact Int.le_antisymm o h0
     exact⟨u,g,h3⟩
    .exact h
   obtain⟨u,e,e2⟩:=e2
   exact⟨_,De.2 rfl,u,e,by show 6<D3 x m+D3 x u.M;rw[e2,<-e1];exact s⟩
  by_cases s:G+B>6
  .rw[Al s]
   exact .inl ⟨X s,rfl⟩
  .rw[Am s]
   simp only[Aj,Ac]
   obtain⟨k,j,ts,R,E,D,i⟩:=fin c' a1 λu e=>by
    have o:=g5 ⟨b,m⟩ ψ
    have h2:=A u e
    have o:D3 x m<=G:=o
    omega
   refine .inr ⟨λ⟨t,ht,u,e,h⟩=>?_,R,?_,i⟩
   .rw[De]at ht
    subst ht
    have o:=g5 ⟨b,m⟩ ψ
    have h2:=A u e
    have o:D3 x m<=G:=o
    have h:6<D3 x m+D3 x u.M:=h
    omega
   refine Ct (a:=.inr (k,j,Ff ts,ts)) ?_ (by simp only[D,Ac])
   refine(Fh (s':=(1,k,j,Ff ts,ts)) ?_).trans (Cr ?_)
   .simp only[it,Ac]
    rw[Al ψ,Ak]
    exact Ct E (by simp only[w1])
   .rfl
theorem Bdz{step:Int->Io}{stop:Nat->Prop}(o:∀j,j<n->¬stop j->step (j:Int)=some (.inl ((j+1:Nat):Int)))(r:∀j,j<n->stop j->step (j:Int)=some (.inr (j:Int)))(u:step (n:Int)=some (.inr (n:Int))):∀(d j:Nat),j+d=n->∃k,j<=k/\k<=n/\Ao step (j:Int)=some (k:Int)/\(∀i,j<=i->i<k->¬stop i)/\(k<n->stop k):=by intro d;induction d with|zero=>intro j y;obtain rfl:j=n:=ω;exact⟨j,ω,ω,Cr u,λi _ _=>ω,λh=>ω⟩|succ d ih=>intro j y;by_cases b:stop j;exact⟨j,ω,ω,Cr (r j ω b),λi _ _=>ω,λ_=>b⟩;obtain⟨k,q,l,g,f,c⟩:=ih (j+1) ω;refine⟨k,ω,l,(Fh (o j ω b)).trans g,λi E D=>?_,c⟩;by_cases e:i=j;subst e;exact b;exact f i ω D
structure Lk{α:Type}(L M:List (α×Nat)):Prop where
 eq:∀f:α->Nat,pv f L=pv f M
 pos:∀p∈L,1<=p.2
open Classical in
theorem Ao4{α:Type}{f:α->Nat}:∀{L:Λ (α×Nat)},1<=pv f L->∃p∈L,1<=f p.1
 |[],h=>by simp[pv]at h
 |p::L,h=>by by_cases e:f p.1=0;obtain⟨q,o,r⟩:=Ao4 (f:=f) (L:=L) (by simp only[pv,e,Nat.mul_zero,Nat.zero_add]at h;exact h);exact⟨q,by simp[o],r⟩;exact⟨p,ψ,ω⟩
theorem Ay0(f:α->Nat){L:Λ (α×Nat)}{p:α×Nat}(h:p∈L):p.2*f p.1<=pv f L:=by induction L with|nil=>cases h|cons q L ih=>simp only[pv];rcases Ed.1 h with rfl|h;omega;have:=ih h;omega
open Classical in
theorem Lk.mem{α:Type}{L M:Λ (α×Nat)}(h:Lk L M){p:α×Nat}(hp:p∈L):∃q∈M,q.1=p.1:=by have h1:=Ay0 (λx=>if x=p.1 then 1 else 0) hp;rw[h.eq]at h1;have h2:=h.pos p hp;simp only[if_true]at h1;obtain⟨q,o,r⟩:=Ao4 (f:=λx=>if x=p.1 then 1 else 0) (L:=M) ω;refine⟨q,o,?_⟩;by_cases e:q.1=p.1;exact e;simp only[Au e]at r;omega
theorem Lk.num{L M:Λ (α×Nat)}(h:Lk L M){p:α×Nat}(hp:p∈L):p.2<=pv (λ_=>1) M:=by rw[<-h.eq];exact Bdg hp
theorem Lk.len{L M:Λ (α×Nat)}(h:Lk L M):L.length<=pv (λ_=>1) M:=by rw[<-h.eq];exact Aov h.pos
theorem Lk.refl{L:Λ (α×Nat)}(h:∀p∈L,1<=p.2):Lk L L:=⟨λ_=>rfl,h⟩
structure Fit(M:List (Ay×Nat)):Prop where
 tot:pv (λ_=>1) M<=100000
 all:∀q∈M,Cz q.1<=2000000
theorem Fit.left{N:Bs}(h:Fit (M++N)):Fit M:=⟨by have:=h.tot;rw[Li]at this;omega,λq e=>h.all q (by simp[e])⟩
theorem Uh{S E:Type}{step:S->Ο (S⊕E)}(P:Nat->S->Prop)(n:Nat)(b:∀j s,j<n->P j s->∃e,step s=some (.inl e)/\P (j+1) e){s0:S}(h0:P 0 s0):∃s,P n s/\Ao step s0=Ao step s:=by(have h:∀m,m<=n->∃s,P m s/\Ao step s0=Ao step s:=by intro m;induction m with|zero=>intro _;exact⟨s0,h0,rfl⟩|succ m ih=>intro y;obtain⟨s,o,r⟩:=ih ω;obtain⟨e,u,c⟩:=b m s ω o;exact⟨e,c,r.trans (Fh u)⟩);exact h n (Nat.le_refl _)
theorem Ay1{α β:Type}(f:β->Nat)(g:α->β)(c:Nat):∀L:Λ (α×Nat),pv f (L.map λw=>(g w.1,w.2*c))=c*pv (λx=>f (g x)) L
 |[]=>rfl
 |w::L=>by simp only[map_cons,pv,Ay1 f g c L,Nat.mul_add];rw[Nat.mul_comm w.2 c,Nat.mul_assoc]
theorem Lk.trans{L M N:Λ (α×Nat)}(h:Lk L M)(h':∀f:α->Nat,pv f M=pv f N):Lk L N:=⟨λf=>(h.eq f).trans (h' f),h.pos⟩
theorem Lk.nil:Lk ([]:Λ (α×Nat)) []:=⟨λ_=>rfl,λ_ h=>by cases h⟩
theorem Fit.of(h:Lk L M)(b:Fit M):Fit L:=⟨by rw[h.eq];exact b.tot,λq e=>by obtain⟨r,f,c⟩:=h.mem e;rw[<-c];exact b.all r f⟩
theorem Bd0:∀(a b:Nat),a+b<=6->Yl ((a:Nat):Int) ((b:Nat):Int)=some (Ls (a+b+1) (Rc a b),true)
 |0,0,_=>κ
 |0,1,_=>κ
 |0,2,_=>κ
 |0,3,_=>κ
 |0,4,_=>κ
 |0,5,_=>κ
 |0,6,_=>κ
 |0,b+7,h=>absurd h ω
 |1,0,_=>κ
 |1,1,_=>κ
 |1,2,_=>κ
 |1,3,_=>κ
 |1,4,_=>κ
 |1,5,_=>κ
 |1,b+6,h=>absurd h ω
 |2,0,_=>κ
 |2,1,_=>κ
 |2,2,_=>κ
 |2,3,_=>κ
 |2,4,_=>κ
 |2,b+5,h=>absurd h ω
 |3,0,_=>κ
 |3,1,_=>κ
 |3,2,_=>κ
 |3,3,_=>κ
 |3,b+4,h=>absurd h ω
 |4,0,_=>κ
 |4,1,_=>κ
 |4,2,_=>κ
 |4,b+3,h=>absurd h ω
 |5,0,_=>κ
 |5,1,_=>κ
 |5,b+2,h=>absurd h ω
 |6,0,_=>κ
 |6,b+1,h=>absurd h ω
 |a+7,b,h=>absurd h ω
def Jq:B0->D2->Rat
 |c::cs,n::e=>c*(n:Rat)+Jq cs e
 |_,_=>0
def CbR(cs:B0)(N:Nat)(a:Rat):Prop:=∃e:D2,e.length=cs.length/\e.sum<=N/\a=Jq cs e
theorem Ao5:∀{cs:B0}{ns:D2},ns.sum=0->Jq cs ns=0
 |[],_,_=>by simp only[Jq]
 |_::_,[],_=>by simp only[Jq]
 |c::cs,n::ns,h=>by rw[sum_cons]at h;have:n=0:=ω;subst this;rw[Jq,Ao5 (ns:=ns) ω];grind
theorem CbR.mono{cs:B0}{M:Nat}(h:CbR cs N a)(b:N<=M):CbR cs M a:=by obtain⟨e,h1,h2,h3⟩:=h;exact⟨e,h1,ω,h3⟩
theorem CbR.zero(cs:B0)(N:Nat):CbR cs N 0:=by(have b:∀k:Nat,(replicate k 0).sum=0:=λk=>by induction k with|zero=>rfl|succ k ih=>rw[replicate_succ,sum_cons,ih]);exact⟨replicate cs.length 0,ψ,by rw[b];omega,(Ao5 (b _)).symm⟩
theorem CbR.add{cs:B0}{M:Nat}{b:Rat}(h:CbR cs N a)(h':CbR cs M b):CbR cs (N+M) (a+b):=by(have r:∀(cs:B0)(e o:D2),e.length=cs.length->o.length=cs.length->∃f:D2,f.length=cs.length/\f.sum=e.sum+o.sum/\Jq cs f=Jq cs e+Jq cs o:=by intro cs;induction cs with|nil=>intro e o _ _;exact⟨e++o,by simp_all,ψ,by simp only[Jq];grind⟩|cons c cs ih=>intro e o h1 h2;cases e with|nil=>simp at h1|cons n e=>cases o with|nil=>simp at h2|cons m o=>obtain⟨f,i,j,g⟩:=ih e o (by simpa using h1) (by simpa using h2);refine⟨(n+m)::f,by simp[i],by simp only[sum_cons,j];omega,?_⟩;simp only[Jq,g,Rat.natCast_add];grind);obtain⟨e,h1,h2,rfl⟩:=h;obtain⟨o,h3,k,rfl⟩:=h';obtain⟨f,i,j,g⟩:=r cs e o h1 h3;exact⟨f,i,ω,g.symm⟩
theorem CbR.smul{cs:B0}(k:Nat)(h:CbR cs N a):CbR cs (k*N) (a*(k:Rat)):=by(have o:∀(cs:B0)(e:D2),(e.map (k * ·)).sum=k*e.sum/\Jq cs (e.map (k * ·))=Jq cs e*(k:Rat):=by intro cs e;induction e generalizing cs with|nil=>exact⟨ψ,by cases cs<;>simp only[map_nil,Jq]<;>grind⟩|cons n e ih=>refine⟨by rw[map_cons,sum_cons,(ih []).1,sum_cons,Nat.mul_add],?_⟩;cases cs with|nil=>simp only[Jq];grind|cons c cs=>simp only[map_cons,Jq,(ih cs).2,Rat.natCast_mul];grind);obtain⟨e,h1,h2,rfl⟩:=h;exact⟨e.map (k * ·),by simp[h1],by rw[(o cs e).1];exact Nat.mul_le_mul_left k h2,(o cs e).2.symm⟩
theorem CbR.mem{cs:B0}{c:Rat}(h:c∈cs):CbR cs 1 c:=by induction cs with|nil=>cases h|cons d cs ih=>rcases Ed.1 h with rfl|h;obtain⟨e,h1,h2,h3⟩:=CbR.zero cs 0;exact⟨1::e,by simp[h1],by rw[sum_cons];omega,by rw[Jq,<-h3];grind⟩;obtain⟨e,h1,h2,h3⟩:=ih h;exact⟨0::e,by simp[h1],by rw[sum_cons];omega,by rw[Jq,<-h3];grind⟩
theorem CbR.pos{cs:B0}(h:CbR cs N a)(ha:a≠0):1<=N:=by obtain⟨o,h1,h2,rfl⟩:=h;by_cases e:o.sum=0;exact(ha (Ao5 e)).elim;omega
theorem CbR.rb{l:Bi}(z:∀c∈l,RB k c)(hk:k<=1000000)(hn:l.length<=1000)(D:N<=100000000){a:An}(ha:Ij a)(h:CbR (l.map rq) N (rq a)):RB (1+l.length*(k+10)) a:=by(have o:∀(l:Bi)(e:D2),(∀c∈l,RB k c)->l.length<=1000->e.length=l.length->(∀n∈e,n<=100000000)->∃a:An,Ij a/\RB (1+l.length*(k+10)) a/\rq a=Jq (l.map rq) e:=by intro l;induction l with|nil=>intro e _ _ _ _;exact⟨cR 0,Qs _ _ _ δ,(Ry (n:=0) (k:=1) (J2 δ) δ).mono ω,by rw[Ol];simp only[map_nil,Jq];rfl⟩|cons c l ih=>intro e h1 h2 h3 i;cases e with|nil=>simp at h3|cons n e=>rw[Fd]at h2;obtain⟨a,H,r,E⟩:=ih e (λd hd=>h1 d (by simp[hd])) ω (by simpa using h3) λm hm=>i m (by simp[hm]);have g:l.length*(k+10)<=1000*1000010:=Nat.mul_le_mul ω ω;obtain⟨p,_,_,y,B,x⟩:=Wo (h1 c ψ) (Ry (n:=n) (k:=2) (J2 (by have:=i n ψ;omega)) δ) ω δ;obtain⟨s,_,_,u,q,j⟩:=Am7 y r ω ω;refine⟨s,q,u.mono ?_,?_⟩;rw[Fd,Nat.add_mul];omega;rw[j,x,E,Ol,map_cons,Jq]);obtain⟨e,h1,h2,h3⟩:=h;(have f:∀(e:D2),∀n∈e,n<=e.sum:=λe=>by induction e with|nil=>intro n hn;cases hn|cons m e ih=>intro n hn;rw[sum_cons];rcases Ed.1 hn with rfl|hn;omega;have:=ih n hn;omega);(obtain⟨b,b1,G,A⟩:=o l e z hn (by rw[h1,Lt]) λn hn=>by have:=f e n hn;omega);rw[Zl ha b1 (by rw[h3,A])];exact G
open Classical in
noncomputable def Il(C:Ev)(m:Aw):Nat:=pv (λe=>if e=m then 1 else 0) C
theorem Bd1(C:Ev)(m:Aw):Il C m<=pv (λ_=>1) C:=Aiu λp _=>by split<;>omega
theorem Ay2(h:1<=Il C m):∃q∈C,q.1=m:=by obtain⟨q,c,b⟩:=Ao4 h;refine⟨q,c,?_⟩;by_cases e:q.1=m;exact e;simp only[Au e]at b;omega
structure PIS(cs:List Rat)(K:Nat)(C:List (Aw×Nat))(n:Nat)(b:List Ae):Prop where
 base:PSt K n b
 cmb:∀m,CbR cs (Il C m) (cf (b.take n) m)
theorem PIS.nil(cs:B0)(K:Nat):PIS cs K [] 0 []:=⟨⟨Nat.le_refl _,CP.nil,λt e=>by cases e⟩,λm=>CbR.zero _ _⟩
theorem PIS.mem{cs:B0}{b:Ad}(h:PIS cs K C n b){t:Ae}(e:t∈b.take n):∃q∈C,q.1=t.M:=Ay2 ((h.cmb t.M).pos (by rw[Lz h.base.cp e];exact(h.base.cp.coe t e).2))
open Classical in
theorem PIS.plus{cs:B0}{K:Nat}{C:Ev}{n:Nat}{b:Ad}(h:PIS cs K C n b){m:Aw}{c:An}{N G:Nat}(hc:RB G c)(hm:Eo m)(I:CbR cs N (rq c))(J:∀N a,N<=100000000->Ij a->CbR cs N (rq a)->RB K a)(T:pv (λ_=>1) (C++[(m,N)])<=100000000)(hb:b.length<=100000)(E:K+G+3<30000000000):∃y o,Jl n m c b=some (y,o)/\o.length<=b.length+1/\PIS cs K (C++[(m,N)]) y o/\∀χ v,Da χ v (o.take y)=Da χ v (b.take n)+rq c*(mX χ v m:Rat):=by obtain⟨y,o,h1,h2,h3,H⟩:=Rz h.base hc hm E hb;(have u:∀r,CbR cs (Il (C++[(m,N)]) r) (cf (o.take y) r):=λr=>by have e:Il (C++[(m,N)]) r=Il C r+(if m=r then N else 0):=(by unfold Il;rw[Li];simp only[pv];split<;>simp);rw[e,H];refine(h.cmb r).add ?_;by_cases e:m=r;rw[Ar e,Ar e];exact I;rw[Au e,Au e];exact CbR.zero _ _);refine⟨y,o,h1,h2,⟨⟨h3.le,h3.cp,λt D=>⟨J _ _ (Nat.le_trans (Bd1 _ _) T) (h3.cp.coe t D).1 (by rw[<-Lz h3.cp D];exact u t.M),(h3.tm t D).2⟩⟩,u⟩,λχ v=>?_⟩;rw[Ao3 (p:=b.take n++[⟨c,m⟩]) (q:=o.take y) λr=>?_,Zz];simp only[Da,mX];grind;rw[H,Mp];congr 1;show _=(if Dn m r=0 then rq c else 0)+0;by_cases e:m=r;rw[Ar e,Ar (Hj.2 e)];grind;rw[Au e,Au λh=>e (Hj.1 h)];grind
theorem Aee(m:Aw)(b:Eo m):Te m=some (m,m.F,m.A):=by have f:=b.nf;have c:=b.na;unfold Te;refine H5 m.F (λj=>((j:Int),m.F.take j)) rfl ω ?_ ?_;intro j x y e h o r;have u:=B5 e;have:=b.fi x u;simp only[h,o,r,Ak,Ac,Awy 4000000 x.I ω ω];rw[Di ζ,Ac,C4 e];intro h;refine⟨m.F,ψ,?_⟩;dsimp only;refine H5 m.A (λj=>((j:Int),m.A.take j)) rfl ω ?_ ?_;intro j x y e h o r;have u:=B5 e;have:=b.al x u;simp only[h,o,r,Ak,Ac,Yk];rw[Di ζ,Ac,Ac,Di ζ,Ac,C4 e];rfl;intro h;exact⟨m.A,ψ,rfl⟩
theorem Bd2(b:Λ α)(z:α):D9 b b.length [z]=b++[z]:=by unfold D9;simp
theorem Ao6(b:Λ α)(k:Nat)(z x:α)(y:k<=b.length)(hb:b.length<=1000000):∃o:Λ α,((H3 (b++[z]).length (Aa ((k:Int)+1)) (((b++[z]).length:Nat):Int)).bind λD=>match D with|.inl e=>(Hz (b++[z]).length (k:Int) (((b++[z]).length:Nat):Int)).bind λc=>(Ln (b++[z]) (0+e.1) (e.2-e.1) (0+c.1) (c.2-c.1)).bind λf=>some f|.inr _=>(Hz (b++[z]).length (k:Int) (((b++[z]).length:Nat):Int)).bind λE=>some (b++[z]))=some o/\o.length=b.length+1/\o.set k x=b.take k++x::b.drop k:=by obtain⟨o,h,r,u⟩:=Anz b b.length k z x (Nat.le_refl _) y hb;rw[Bd2]at h;have g:(b++[z]).length=b.length+1:=ψ;rw[Nat.max_eq_right ω]at r;refine⟨o,?_,r,?_⟩;rw[g];exact h;rw[Du,J1 (by rw[length_set];omega)]at u;exact u
open Classical in
theorem Bd3{R:Ad}{m:Aw}(h:CP R)(u:∀a,cf R a=if m=a then(1:Rat)else 0):R=[⟨cR 1,m⟩]:=by(have o:rq (cR 1)=1:=by rw[Ol];rfl);refine CP.ext h ⟨pairwise_singleton _ _,λt r=>by simp only[De]at r;subst r;exact⟨Ad5 1,by show rq (cR 1)≠0;rw[o];decide⟩⟩ λa=>?_;rw[u];simp only[cf,o];by_cases e:m=a;rw[Ar e,Ar (Hj.2 e)];grind;rw[Au e,Au λh=>e (Hj.1 h)];grind
theorem Aef(K:Nat):PSt K 0 []:=⟨ψ,by simpa using CP.nil,λt e=>by simp at e⟩
theorem Aeg:RB 3 (cR 1):=(Ry (k:=1) (by rw[Jp];decide) δ).mono δ
theorem Z0:rq (cR 1)=1:=by rw[Ol];rfl
open Classical in
theorem Bd4{m:Aw}(u:Eo m):∃n o,Jl 0 m (cR 1) []=some (n,o)/\Ji o n=some [⟨cR 1,m⟩]:=by obtain⟨n,o,y,E,r,D⟩:=Rz (Aef 0) Aeg u δ ψ;refine⟨n,o,y,?_⟩;have h:=r.le;(have e:Ji o n=some (o.take n):=by unfold Ji;rw[Ar h]);rw[e,Bd3 (m:=m) r.cp λa=>by rw[D];simp only[take_nil,cf,Z0];split<;>grind]
theorem Bd5{L:A2}{l:Aq}{k:Int}(r:Eo ⟨F,L++[⟨l,k⟩]⟩)(V:k≠0)(R:l.T.length≠0)(u:∀a∈L,Dh a.L l<0)(G:L.length<=1000) :
  Kb [⟨cR 1,⟨F,L⟩⟩] l k=some [⟨cR 1,⟨F,L++[⟨l,k⟩]⟩⟩]:=by
 have N:=r.na
 have nF:F.length<=1048576:=r.nf
 have i:Eo ⟨F,L⟩:=⟨r.nf,by show L.length<=1048576;omega,r.fi,r.fr,λa h=>r.al a (mem_append_left _ h)⟩
 obtain⟨o,D,M,x⟩:=Ao6 L L.length ⟨⟨0,[]⟩,0⟩ ⟨l,k⟩ (Nat.le_refl _) ω
 obtain⟨n,q,B,A⟩:=Bd4 r
 have U:o[L.length]?=some (o[L.length]' ω):=Bn _
 generalize o[L.length]'_=w at U
 rw[Du,drop_length]at x
 unfold Kb
 rw[Ck V,Aj]
 refine Ct (a:=(n,q)) ?_ (by dsimp only;rw[A];rfl)
 refine(Fh (s':=(n,1,q)) ?_).trans (Cr (by rfl))
 have it:Af [(⟨cR 1,⟨F,L⟩⟩:Ae)] 0=some ⟨cR 1,⟨F,L⟩⟩:=rfl
 have z:Aa (0+1)=1:=by rw[Aa,Bm]<;>omega
 have g:Ao (S:=Int) (E:=Int) (λb=>
   bif b<(L.length:Int)then(
   (Af L b).bind λc=>
   (I8 c.L l).bind λH=>
   bif H<(0:Int)then(
   some (.inl (Aa (b+1))))
   else(some (.inr b)))
   else(some (.inr b))) 0=some (L.length:Int):=by
  obtain⟨e,J,I⟩:=Jh (step:=(λb:Int=>
   bif b<(L.length:Int)then(
   (Af L b).bind λc=>
   (I8 c.L l).bind λH=>
   bif H<(0:Int)then(
   some (.inl (Aa (b+1))))
   else(some (.inr b)))
   else(some (.inr b)):Int->Io)) (λs=>∃j:Nat,s=(j:Int)/\j<=L.length) (λs=>L.length-s.toNat) (λe=>e=(L.length:Int)) (by
   rintro s ⟨j,rfl,W⟩
   rcases Cb j L.length with h|h
   .have T:L[j]?=some L[j]:=Bn h
    generalize L[j]=f at T
    have y:=B5 T
    have:=i.al f y
    rw[Al ω,Ak,B1 rfl T,Ac,Zd f.L l ω,Ac,Al (u f y),Ak,Dd h ω]
    exact .inl ⟨_,rfl,⟨j+1,rfl,ω⟩,by simp only[Int.toNat_natCast];omega⟩
   .have:j=L.length:=ω
    subst this
    exact .inr ⟨_,by rw[Am ω,Aj],rfl⟩) 0 ⟨0,rfl,ω⟩
  rw[J,I]
 dsimp only
 rw[Al ψ,Ak,it,Ac,Ck ω,Aj]
 refine Ct g ?_
 dsimp only
 rw[Am ω,Aj,Ac,Aj,Aee _ i,Ac]
 dsimp only
 rw[Di ζ,Ac]
 refine Ct D ?_
 rw[B1 rfl U,Ac,Ge (n:=L.length) rfl,x,B,Ac,z]
structure Gv where
 gn:Int
 gk:List Gv
def noV:Gv:=.mk 0 []
mutual
def gv(Δ:List A4):Ay->Ai->Gv->Nat
 |⟨n,e⟩,t,w=>if t.G=6 then gvs Δ e t.R w.gk else if t.G=7 then bc w.gk.length n.toNat else if t.G=5 then eS (gws Δ e t) w.gk else 1
def gvs(Δ:List A4):List Ay->List Ai->List Gv->Nat
 |i::is,t::ts,e=>gv Δ i t (e.headD noV)*gvs Δ is ts e.tail
 |[],_,_=>1
 |_::_,[],_=>1
def gws(Δ:List A4):List Ay->Ai->List (Gv->Nat)
 |[],_=>[]
 |⟨n,e⟩::h,t=>(λx=>if x.gn=n then gvs Δ e (R0 Δ t n) x.gk else 0)::gws Δ h t
end
variable{x:A8}{s:Ae}{l:Aq}{p q:Aq->Bool}{m:Aw}{w w':Aw->Nat}{d:Int}{C:Ev}{Δ:A0}{S:Ad}{K N b j k n:Nat}{α:Type}
theorem On(Δ:A0)(i:Ay)(t:Ai)(w:Gv):gv Δ i t w=if t.G=6 then gvs Δ i.K t.R w.gk else if t.G=7 then bc w.gk.length i.U.toNat else if t.G=5 then eS (gws Δ i.K t) w.gk else 1:=by cases i;simp only[gv]
theorem Z1(Δ:A0)(i:Ay)(is:Bg)(t:Ai)(ts:A1)(b:Λ Gv):gvs Δ (i::is) (t::ts) b=gv Δ i t (b.headD noV)*gvs Δ is ts b.tail:=by simp only[gvs]
theorem Aiz(Δ:A0)(ts:A1)(b:Λ Gv):gvs Δ [] ts b=1:=by simp only[gvs]
def gOf(Δ:A0)(t:Ai)(e:Ay)(x:Gv):Nat:=if x.gn=e.U then gvs Δ e.K (R0 Δ t e.U) x.gk else 0
theorem W0(Δ:A0)(t:Ai):∀e:Bg,gws Δ e t=e.map (gOf Δ t)
 |[]=>by simp only[gws,map_nil]
 |⟨n,b⟩::e=>by simp only[gws,W0 Δ t e,map_cons];rfl
theorem Ay3{g:Ai->Ay->Ay->Bs}(H:∀t i j w a b,Cz i<=k->Ei Δ i t=some a->Ei Δ j t=some b->pv (λx=>gv Δ x t w) (g t i j)=gv Δ i t w*gv Δ j t w):∀(ts:A1)(is f:Bg)(c:Λ Gv)(q l:Nat),Ez is<=k->Dx Δ is ts=some q->Dx Δ f ts=some l->pv (λr=>gvs Δ r ts c) (Ug g ts is f)=gvs Δ is ts c*gvs Δ f ts c:=by intro ts;induction ts with|nil=>(intro is f c q l _ e o;cases is with|cons i is=>simp only[Dx]at e;cases e|nil=>cases f with|cons j f=>simp only[Dx]at o;cases o|nil=>simp only[Ug,pv,Aiz])|cons t ts ih=>intro is f c q l s e o;cases is with|nil=>simp only[Dx]at e;cases e|cons i is=>cases f with|nil=>simp only[Dx]at o;cases o|cons j f=>simp only[Ez]at s;rw[Rt]at e o;cases D:Ei Δ i t with|none=>rw[D]at e;cases e|some a=>cases E:Dx Δ is ts with|none=>rw[D,E]at e;cases e|some A=>cases b1:Ei Δ j t with|none=>rw[b1]at o;cases o|some b=>cases G:Dx Δ f ts with|none=>rw[b1,G]at o;cases o|some z=>have y:=H t i j (c.headD noV) a b ω D b1;have u:=ih is f c.tail A z ω E G;show pv (λr=>gvs Δ r (t::ts) c) ((g t i j).flatMap λw=>Kl w.1 w.2 (Ug g ts is f))=_;rw[Ayl (h:=λx=>pv (λr=>gvs Δ r ts c.tail) (Ug g ts is f)*gv Δ x t (c.headD noV)) (hg:=λp _=>by rw[Bdd];have:(λr=>gvs Δ (p.1::r) (t::ts) c)=λr=>gv Δ p.1 t (c.headD noV)*gvs Δ r ts c.tail:=(by funext r;rw[Z1]);rw[this,Ait,Nat.mul_comm (gv Δ p.1 t _)]),Ait,y,u,Z1,Z1];ac_rfl
theorem Bd6:∀(k:Nat)(t:Ai)(i j:Ay)(w:Gv)(y u:Nat),Cz i<=k->Ei Δ i t=some y->Ei Δ j t=some u->pv (λx=>gv Δ x t w) (Wy Δ k t i j)=gv Δ i t w*gv Δ j t w:=by intro k;induction k with|zero=>intro t i j w y u h;have:=Gn i;omega|succ k ih=>intro t i j w y u L T U;have B:=Gn i;rw[On Δ i,On Δ j,Wy];by_cases c:t.G=6;rw[Ar c,Ar c,Ar c,Aop,<-Ay3 (k:=k) ih t.R i.K j.K w.gk y u ω (Zw c T) (Zw c U)];(exact Aea λp _=>by rw[On,Ar c]);rw[Au c,Au c,Au c];by_cases q:t.G=7;rw[Ar q,Ar q,Ar q,<-Bdf];(exact Aea λp _=>by rw[On,Au c,Ar q]);rw[Au q,Au q,Au q];by_cases l:t.G=5;obtain⟨_,J⟩:=Wu Δ _ _ _ (Zx l T);obtain⟨_,I⟩:=Wu Δ _ _ _ (Zx l U);rw[Ar l,Ar l,Ar l,Aop,W0,W0];rw[<-Bdc (P:=λa=>Cz a<=k/\∃ts,Iz Δ t a.U=some ts/\Dx Δ a.K ts=some (pdg Δ t a)) (Q:=λb=>∃ts,Iz Δ t b.U=some ts/\Dx Δ b.K ts=some (pdg Δ t b)) (row:=Aor Δ t (Ug (Wy Δ k))) w.gk (λx _ a H b W=>?_) i.K j.K (λa H=>⟨by have:=Nl H;omega,J a H⟩) I];(exact Aea λp _=>by rw[On,Au c,Au q,Ar l,W0]);obtain⟨G,ts,V,X⟩:=H;obtain⟨A,b1,b2⟩:=W;have E:=Gn a;unfold Aor;by_cases e:a.U=b.U;rw[Ar e,Aop];by_cases o:x.gn=a.U;have s:R0 Δ t a.U=ts:=(by unfold R0;rw[V]);have z:A=ts:=(by rw[<-e,V]at b1;exact(Fv b1).symm);subst z;have D:=Ay3 (k:=k) ih A a.K b.K x.gk _ _ ω X b2;unfold gOf;rw[Ar o,Ar ω,s,<-e,s,<-D];(exact Aea λp _=>by rw[Ar o];rw[s]);(have B:∀r:Bg,gOf Δ t ⟨a.U,r⟩ x=0:=λr=>by unfold gOf;rw[Au o]);have f:gOf Δ t a x=0:=(by unfold gOf;rw[Au o]);rw[f,Nat.zero_mul,Aea (g:=λ_=>0) λp _=>B p.1,Bde];rw[Au e];show 0=_;by_cases o:x.gn=a.U;have f:gOf Δ t b x=0:=(by unfold gOf;rw[Au ω]);rw[f,Nat.mul_zero];have f:gOf Δ t a x=0:=(by unfold gOf;rw[Au o]);rw[f,Nat.zero_mul];rw[Au l,Au l,Au l];show 1*gv Δ ⟨0,[]⟩ t w+0=1*1;rw[On,Au c,Au q,Au l]
theorem Bd7(Δ:A0)(t:Ai)(w:Gv):Ayr Δ t λi=>gv Δ i t w:=λi j a b e h o _ _ _=>Bd6 KM t i j w a b e h o
theorem Bd8(Δ:A0):∀n:Nat,(∀(i:Ay)(t:Ai)(d:Nat),Cz i<=n->Ei Δ i t=some d->gv Δ i t noV=if d=0 then 1 else 0)/\(∀(is:Bg)(ts:A1)(d:Nat),Ez is<=n->Dx Δ is ts=some d->gvs Δ is ts []=if d=0 then 1 else 0):=by intro n;induction n with|zero=>(refine⟨λi t d h=>by have:=Gn i;omega,λis ts d h o=>?_⟩;have:=Od is;have:is=[]:=Fm.1 ω;subst this;cases ts with|nil=>simp only[Dx]at o;cases o;rfl|cons t ts=>simp only[Dx]at o;cases o)|succ n ih=>(have r:∀(i:Ay)(t:Ai)(d:Nat),Cz i<=n+1->Ei Δ i t=some d->gv Δ i t noV=if d=0 then 1 else 0:=by intro i t d D o;have l:=Gn i;rw[On];by_cases f:t.G=6;rw[Ar f];exact ih.2 i.K t.R d ω (Zw f o);rw[Au f];by_cases c:t.G=7;rw[Ar c,(Ais c o).2];cases d<;>rfl;rw[Au c];by_cases g:t.G=5;rw[Ar g,W0];obtain⟨k,_⟩:=Wu Δ _ _ _ (Zx g o);(cases E:i.K with|nil=>rw[E]at k;rw[Ar (by simpa[pds]using k)];rfl|cons e G=>rw[E,Fd]at k;rw[Au ω];rfl);rw[Au g];rw[Oe,Au f,Au c,Au g]at o;split at o;cases o;rfl;cases o);refine⟨r,?_⟩;intro is;induction is with|nil=>(intro ts d _ o;cases ts with|nil=>simp only[Dx]at o;cases o;rfl|cons t ts=>simp only[Dx]at o;cases o)|cons i is j=>intro ts d D o;cases ts with|nil=>simp only[Dx]at o;cases o|cons t ts=>simp only[Ez]at D;rw[Rt]at o;cases u:Ei Δ i t with|none=>rw[u]at o;cases o|some a=>cases y:Dx Δ is ts with|none=>rw[u,y]at o;cases o|some b=>rw[u,y]at o;have o:a+b=d:=Fv o;rw[Z1];show gv Δ i t noV*gvs Δ is ts []=_;rw[r i t a ω u,j ts b ω y,<-o];cases a<;>cases b<;>simp
theorem Bd9(Δ:A0)(i:Ay)(t:Ai)(w:Gv):∀n:Nat,Cz i<=n->Ei Δ i t=some 0->gv Δ i t w=1:=by(have all:∀n:Nat,(∀(i:Ay)(t:Ai)(w:Gv),Cz i<=n->Ei Δ i t=some 0->gv Δ i t w=1)/\(∀(is:Bg)(ts:A1)(c:Λ Gv),Ez is<=n->Dx Δ is ts=some 0->gvs Δ is ts c=1):=by intro n;induction n with|zero=>refine⟨λi t w h=>by have:=Gn i;omega,λis ts c h _=>?_⟩;have:=Od is;have:is=[]:=Fm.1 ω;subst this;exact Aiz _ _ _|succ n ih=>(have o:∀(i:Ay)(t:Ai)(w:Gv),Cz i<=n+1->Ei Δ i t=some 0->gv Δ i t w=1:=by intro i t w y e;have l:=Gn i;rw[On];by_cases g:t.G=6;rw[Ar g];exact ih.2 i.K t.R w.gk ω (Zw g e);rw[Au g];by_cases f:t.G=7;rw[Ar f,(Ais f e).2,Jw];rw[Au f];by_cases j:t.G=5;rw[Ar j,W0];obtain⟨q,_⟩:=Wu Δ _ _ _ (Zx j e);have:i.K=[]:=Fm.1 ω;rw[this,map_nil,Aeb];rw[Au j]);refine⟨o,?_⟩;intro is;induction is with|nil=>intro ts c _ _;exact Aiz _ _ _|cons i is k=>intro ts c y e;cases ts with|nil=>simp only[Dx]at e;cases e|cons t ts=>simp only[Ez]at y;rw[Rt]at e;cases r:Ei Δ i t with|none=>rw[r]at e;cases e|some a=>cases u:Dx Δ is ts with|none=>rw[r,u]at e;cases e|some b=>rw[r,u]at e;have e:a+b=0:=Fv e;have D:a=0:=ω;have E:b=0:=ω;subst D;subst E;rw[Z1,o i t _ ω r,k ts _ ω u]);exactλn=>(all n).1 i t w
theorem Bea(h:∀f∈m.F,I64 f.v/\iR f.I/\Cz f.I<=1048576/\1<=Ee x.D x.V x.E f)(e:m.F.Pairwise λa b=>a.v<b.v)(g:Ww x.V x.E m.A)(c:D3 x m<=6):D0 x m:=by(have o:0<=Bq m.A:=by rw[(Wx λa e=>(g.2 a e).1).1];omega);unfold D3 at c;exact Ayj (m:=⟨m.F,[]⟩) (Bdw h e ω) g c
theorem Ay4{Ξ:A1}{Θ:Ai}(f:Bl)(l:Be):B6 Δ Ξ Θ (f::l)=Ee Δ Ξ Θ f+B6 Δ Ξ Θ l:=by unfold B6;simp
structure CK(cs:List Rat)(K:Nat):Prop where
 rb:∀N a,N<=100000000->Ij a->CbR cs N (rq a)->RB K a
 le:K<=10000000
structure BS(x:A8)(cs:List Rat)(K Z:Nat)(d:Int)(C:List (Aw×Nat))(n:Nat)(b:List Ae):Prop where
 pis:PIS cs K C n b
 len:b.length<=C.length
 mo:∀q∈C,Km x Z q.1/\D3 x q.1<=d/\1<=q.2
theorem BS.nil(x:A8)(cs:B0)(K Z:Nat)(d:Int):BS x cs K Z d [] 0 []:=⟨PIS.nil cs K,Nat.le_refl _,λq e=>by cases e⟩
theorem Ao7{w:α->Nat}(e:∀m,1<=w m)(C:Λ (α×Nat)):pv (λ_=>1) C<=pv w C:=Aiu λp _=>e p.1
theorem BS.add{cs:B0}{Z:Nat}{b:Ad}(hc:CK cs K)(h:BS x cs K Z d C n b)(D:∀m,1<=w m){c:An}(k:RB (K+10) c)(hm:Km x Z m)(hd:D3 x m<=d)(h1:1<=N)(l:CbR cs N (rq c))(G:pv w (C++[(m,N)])<=100000):∃f o,Jl n m c b=some (f,o)/\BS x cs K Z d (C++[(m,N)]) f o/\∀χ v,Da χ v (o.take f)=Da χ v (b.take n)+rq c*(mX χ v m:Rat):=by have y:=hc.le;(have r:∀q∈C++[(m,N)],1<=q.2:=λq e=>by simp only[Ef,De]at e;rcases e with e|rfl;exact(h.mo q e).2.2;exact h1);have H:=Ao7 D (C++[(m,N)]);have E:=Aov r;have u:=h.len;rw[Fe,length_singleton]at E;obtain⟨f,o,j,s,i,g⟩:=h.pis.plus k hm.1.2 l hc.rb ω ω ω;refine⟨f,o,j,⟨i,by rw[Fe,length_singleton];omega,λq e=>?_⟩,g⟩;simp only[Ef,De]at e;rcases e with e|rfl;exact h.mo q e;exact⟨hm,hd,h1⟩
theorem Beb{l:Λ α}{x:α}(h:l[k]?=some x):l=l.take k++x::l.drop (k+1):=by have e:=D8 h;rw[Bn e]at h;cases h;rw[List.getElem_cons_drop,take_append_drop]
structure Ay5(x:A8)(Y:Nat)(v:Int)(t:Ai)(i:Ay)(b:Nat):Prop where
 ty:E2 x.V x.E v=some t
 v64:I64 v
 ir:iR i
 sz:Cz i<=Y
 dg:Ei x.D i t=some b
 pos:1<=b
 le:b<=6
theorem Ay5.deg{Y:Nat}{v:Int}{t:Ai}{i:Ay}(h:Ay5 x Y v t i b):Ee x.D x.V x.E ⟨v,i⟩=(b:Int):=by unfold Ee;rw[show(⟨v,i⟩:Bl).v=v from rfl,h.ty];show Ho (Ei x.D i t)=_;rw[h.dg];have:=h.le;unfold Ho;simp;omega
structure TS(x:A8)(cs:List Rat)(K Z:Nat)(d:Int)(C:List (Aw×Nat))(S:List Ae):Prop where
 cp:CP S
 rb:∀t∈S,RB K t.C
 cmb:∀m,CbR cs (Il C m) (cf S m)
 mo:∀q∈C,Km x Z q.1/\D3 x q.1<=d/\1<=q.2
theorem BS.ts{cs:B0}{Z:Nat}{b:Ad}(h:BS x cs K Z d C n b):TS x cs K Z d C (b.take n):=⟨h.pis.base.cp,λt e=>(h.pis.base.tm t e).1,h.pis.cmb,h.mo⟩
theorem TS.mem{cs:B0}{Z:Nat}(h:TS x cs K Z d C S){t:Ae}(e:t∈S):Km x Z t.M/\D3 x t.M<=d/\1<=Il C t.M/\CbR cs (Il C t.M) (rq t.C):=by have h1:=h.cmb t.M;rw[Lz h.cp e]at h1;have h2:=h1.pos (h.cp.coe t e).2;obtain⟨q,c,b⟩:=Ay2 h2;obtain⟨o,r,_⟩:=h.mo q c;rw[b]at o r;exact⟨o,r,h2,h1⟩
theorem TS.nodup{cs:B0}{Z:Nat}(h:TS x cs K Z d C S):(S.map (·.M)).Nodup:=by unfold Nodup;rw[pairwise_map];refine h.cp.srt.imp λ{a b} o e=>?_;unfold ltT at o;rw[Hj.2 e]at o;omega
theorem Ay6(w:Aw->Nat)(A B:Aw->Nat):∀L:Λ Aw,pv w (L.map λm=>(m,A m+B m))=pv w (L.map λm=>(m,A m))+pv w (L.map λm=>(m,B m))
 |[]=>rfl
 |m::L=>by simp only[map_cons,pv,Ay6 w A B L,Nat.add_mul];omega
open Classical in
theorem Bec(w:Aw->Nat):∀(C:Ev){L:Λ Aw},L.Nodup->pv w (L.map λm=>(m,Il C m))<=pv w C:=by intro C;induction C with|nil=>intro L _;(have o:∀L:Λ Aw,pv w (L.map λm=>(m,Il [] m))=0:=λL=>by induction L with|nil=>rfl|cons m L ih=>rw[map_cons,pv,ih];unfold Il;simp[pv]);rw[o];exact Nat.zero_le _|cons q C ih=>intro L r;have e:(λm=>(m,Il (q::C) m))=λm=>(m,q.2*(if q.1=m then 1 else 0)+Il C m):=(by funext m;unfold Il;rw[pv]);rw[e,Ay6,pv];(have o:∀L:Λ Aw,q.1∉L->pv w (L.map λm=>(m,q.2*(if q.1=m then 1 else 0)))=0:=λL=>by induction L with|nil=>intro _;rfl|cons m L ih=>intro h;simp only[Ed,not_or]at h;rw[map_cons,pv,ih h.2];dsimp only;rw[Au h.1];simp);(have u:∀L:Λ Aw,L.Nodup->pv w (L.map λm=>(m,q.2*(if q.1=m then 1 else 0)))<=q.2*w q.1:=λL=>by induction L with|nil=>intro _;exact Nat.zero_le _|cons m L ih=>intro h;rw[List.nodup_cons]at h;rw[map_cons,pv];dsimp only;by_cases e:q.1=m;rw[Ar e,o L (by rw[e];exact h.1),Nat.mul_one,e];omega;rw[Au e,Nat.mul_zero,Nat.zero_mul,Nat.zero_add];exact ih h.2);have:=u L r;have:=ih r;omega
theorem TS.wle{cs:B0}{Z:Nat}(h:TS x cs K Z d C S)(w:Aw->Nat)(j:Nat):pv w ((S.take j).map λt=>(t.M,Il C t.M))<=pv w C:=by have h1:=Bec w C h.nodup;rw[map_map]at h1;(have e:S.map ((λm=>(m,Il C m))∘λt=>t.M)=(S.take j).map (λt=>(t.M,Il C t.M))++(S.drop j).map (λt=>(t.M,Il C t.M)):=by rw[<-map_append,take_append_drop];rfl);rw[e,Li]at h1;omega
theorem TS.len{cs:B0}{Z:Nat}(h:TS x cs K Z d C S)(e:∀m,1<=w m):S.length<=pv w C:=by have h1:=h.wle w S.length;rw[Du]at h1;have h2:=Ao7 e (S.map λt=>(t.M,Il C t.M));(have h3:(S.map λt=>(t.M,Il C t.M)).length<=pv (λ_=>1) (S.map λt=>(t.M,Il C t.M)):=Aov λp hp=>by obtain⟨t,o,rfl⟩:=mem_map.1 hp;exact(h.mem o).2.2.1);rw[Lt]at h3;omega
theorem Ao8(χ:Bl->Nat)(u:Aq->Nat)(p:Ad)(t:Ae):Da χ u (p++[t])=Da χ u p+rq t.C*(mX χ u t.M:Rat):=by rw[Zz];simp only[Da,mX];grind
theorem Ay7{o:Λ α}(h:n<=o.length):Ji o n=some (o.take n):=by unfold Ji;rw[Ar h]
def nF(x:A8)(g:Bl):Nat:=(Ee x.D x.V x.E g).toNat
def sF(x:A8)(F:Be):Nat:=(F.map (nF x)).sum
theorem Bed{F:Be}(h:∀f∈F,1<=Ee x.D x.V x.E f):B6 x.D x.V x.E F=(sF x F:Nat):=by induction F with|nil=>rfl|cons f F ih=>have o:=h f ψ;rw[Ay4,ih λg e=>h g (by simp[e])];unfold sF nF;rw[map_cons,sum_cons];omega
theorem Ay8{Z:Nat}(o:Km x Z m){h c:A2}(j:(h++c).Sublist m.A)(E:∀a∈h,Dh a.L l<0)(G:∀a∈c,Dh l a.L<0){k:Int}(u:Co l=true/\l.T.length≠0/\Ej x.V x.E l=true)(H:1<=k)(y:B6 x.D x.V x.E m.F+Bq (h++c)+k<=6):Km x Z ⟨m.F,h++⟨l,k⟩::c⟩/\D3 x ⟨m.F,h++⟨l,k⟩::c⟩=B6 x.D x.V x.E m.F+Bq (h++c)+k:=by(have q:∀a∈h++⟨l,k⟩::c,a=⟨l,k⟩\/a∈m.A:=λa e=>by simp only[Ef,Ed]at e;rcases e with e|rfl|e;exact .inr (j.subset (by simp[e]));exact .inl rfl;exact .inr (j.subset (by simp[e])));(have D:D3 x ⟨m.F,h++⟨l,k⟩::c⟩=B6 x.D x.V x.E m.F+Bq (h++c)+k:=by show B6 x.D x.V x.E m.F+Bq (h++⟨l,k⟩::c)=_;unfold Bq;simp only[map_append,map_cons,sum_append,sum_cons];omega);have i:=Pairwise.sublist j o.1.f.srt;rw[pairwise_append]at i;refine⟨⟨Bea (λf s=>⟨(o.1.2.fr f s).2,(o.1.2.fr f s).1,o.1.2.fi f s,o.1.f.fac f s⟩) o.1.f.asc ⟨?_,λa e=>?_⟩ (by rw[D];exact y),o.2⟩,D⟩;show(h++⟨l,k⟩::c).Pairwise _;rw[pairwise_append,pairwise_cons];refine⟨i.1,⟨λg I=>G g I,i.2.1⟩,λa e b r=>?_⟩;rcases Ed.1 r with rfl|r;exact E a e;exact i.2.2 a e b r;rcases q a e with rfl|e;exact⟨H,u.1,u.2.1,u.2.2⟩;exact o.1.f.atm a e
noncomputable def Aeh(s:Ae)(i:Int)(h:Bi):Nat×Int×List Ae->Cx:=λ(f,e,g)=>bif e<(h.length:Int)then((Te s.M).bind λb=>(Af b.2.2 i).bind λl=>(Af h e).bind λk=>(Jx s.C k).bind λj=>(Jl f (Aw.mk b.2.1 (Cd b.2.2 i (A6.mk l.L e))) j g).bind λc=>some (.inl (c.1,Aa (e+1),c.2)))else(some (.inr (f,e,g)))
def Rp(a b d:Nat):Nat:=max 1 (Rc a b d)
theorem Bee:∀a,a<7->∀b,b<7->a+b<=6->pv (λ_=>1) ((range (a+b)).map λd=>(d,Rp a b (d+1)))<=3^(a+b):=by decide +kernel
theorem Bef:∀a,a<7->∀b,b<7->a+b<=6->∀d,d<7->Rc a b d<=729:=by decide +kernel
def tav(F:Be)(f c:A2)(l:Aq)(a b N:Nat)(j:Nat):Ev:=(range j).map λd=>(⟨F,f++⟨l,((d+1:Nat):Int)⟩::c⟩,Rp a b (d+1)*N)
theorem Ao9(F:Be)(f c:A2)(l:Aq)(a b N j:Nat):tav F f c l a b N (j+1)=tav F f c l a b N j++[(⟨F,f++⟨l,((j+1:Nat):Int)⟩::c⟩,Rp a b (j+1)*N)]:=by unfold tav;rw[range_succ,map_append];rfl
theorem Beg(F:Be)(f c:A2)(l:Aq)(a b N:Nat){i:Nat}(h:i<=j):∃r,tav F f c l a b N j=tav F f c l a b N i++r:=by obtain⟨d,rfl⟩:∃d,j=i+d:=⟨j-i,ω⟩;clear h;induction d with|zero=>exact⟨[],ψ⟩|succ d ih=>obtain⟨r,g⟩:=ih;rw[show i+(d+1)=(i+d)+1 by omega,Ao9,g];exact⟨_,append_assoc ..⟩
theorem Beh{cs:B0}{Z:Nat}(W:CK cs K)(hw:∀m,1<=w m){i f:A2}{g:A6}(U:s.M.A=i++g::f)(hm:Eo s.M)(B:RB K s.C)(Y:CbR cs N (rq s.C))(G:1<=N){a:Nat}(H:a+b<=6)(X:∀j,j<a+b->Km x Z ⟨s.M.F,i++⟨g.L,((j+1:Nat):Int)⟩::f⟩/\D3 x ⟨s.M.F,i++⟨g.L,((j+1:Nat):Int)⟩::f⟩<=d){C0:Ev}{q:Nat}{l:Ad}(h:BS x cs K Z d C0 q l)(hb:pv w (C0++tav s.M.F i f g.L a b N (a+b))<=100000):∃n o,Ao (Aeh s (i.length:Int) (Ls (a+b+1) (Rc a b))) (q,1,l)=some (n,((a+b+1:Nat):Int),o)/\BS x cs K Z d (C0++tav s.M.F i f g.L a b N (a+b)) n o/\∀χ v,Da χ v (o.take n)=Da χ v (l.take q)+rq s.C*(sm (a+b) (λj=>Rc a b (j+1)*mX χ v ⟨s.M.F,i++⟨g.L,((j+1:Nat):Int)⟩::f⟩):Nat):=by obtain⟨z,⟨n,o,rfl,M,L⟩,e⟩:=Uh (step:=Aeh s (i.length:Int) (Ls (a+b+1) (Rc a b))) (λj z=>∃n o,z=(n,((j+1:Nat):Int),o)/\BS x cs K Z d (C0++tav s.M.F i f g.L a b N j) n o/\∀χ v,Da χ v (o.take n)=Da χ v (l.take q)+rq s.C*(sm j (λj=>Rc a b (j+1)*mX χ v ⟨s.M.F,i++⟨g.L,((j+1:Nat):Int)⟩::f⟩):Nat)) (a+b) (λj z hj ⟨n,o,A,b1,b2⟩=>by subst A;obtain⟨S,R⟩:=X j hj;have V:=Bef a ω b ω H (j+1) ω;have y:1<=Rp a b (j+1)/\Rc a b (j+1)<=Rp a b (j+1):=(by unfold Rp;omega);obtain⟨c,_,c2,c3,c4,T⟩:=Wo B (Ry (n:=Rc a b (j+1)) (k:=3) (J2 ω) δ) (by have:=W.le;omega) δ;rw[Ol]at T;have E:pv w ((C0++tav s.M.F i f g.L a b N j)++[(⟨s.M.F,i++⟨g.L,((j+1:Nat):Int)⟩::f⟩,Rp a b (j+1)*N)])<=100000:=(by obtain⟨r,B⟩:=Beg s.M.F i f g.L a b N (show j+1<=a+b by omega);rw[B,Ao9,<-append_assoc,Li,<-append_assoc]at hb;exact Nat.le_trans (Nat.le_add_right _ _) hb);obtain⟨I,o',e1,e2,e3⟩:=b1.add W hw (c:=c) (m:=⟨s.M.F,i++⟨g.L,((j+1:Nat):Int)⟩::f⟩) (N:=Rp a b (j+1)*N) (c3.mono ω) S R (Nat.mul_pos y.1 G) (by rw[T];exact(Y.smul (Rc a b (j+1))).mono (Nat.mul_le_mul_right _ y.2)) E;refine⟨(I,((j+1+1:Nat):Int),o'),?_,I,o',rfl,?_,λχ v=>?_⟩;unfold Aeh;have J:Aa (((j+1:Nat):Int)+1)=((j+1+1:Nat):Int):=ξ;have D:(i++g::f)[i.length]?=some g:=ψ;have u:Cd (i++g::f) (i.length:Int) (A6.mk g.L ((j+1:Nat):Int))=i++⟨g.L,((j+1:Nat):Int)⟩::f:=(by rw[Ge (n:=i.length) rfl];simp);dsimp only;rw[Nr,Al ω,Ak,Aee _ hm,Ac];dsimp only;rw[U,B1 rfl D,Ac,B1 rfl (Mr (Rc a b) (show j+1<a+b+1 by omega)),Ac,c2,Ac,u,e1,Ac,J];rw[Ao9,<-append_assoc];exact e2;rw[e3,b2,T,sm,Rat.natCast_add,Rat.natCast_mul];grind) (s0:=(q,1,l)) ⟨q,l,rfl,by simpa[tav]using h,λχ v=>by simp only[sm];grind⟩;refine⟨n,o,e.trans (Cr ?_),M,L⟩;unfold Aeh;dsimp only;rw[Nr,Am ω,Aj]
noncomputable def Aei(l:Aq)(k:Int)(S:Ad):Nat×Int×List Ae->Id:=λ(o,e,j)=>
 bif e<(S.length:Int)then(
 (Af S e).bind λc=>
 bif((l.T.length:Int)==(0:Int))then(
 (I6 l.Q).bind λM=>
 (Vm M k).bind λL=>
 (Jx c.C L).bind λH=>
 (Jl o c.M H j).bind λx=>
 some (.inl (x.1,Aa (e+1),x.2))
 )
 else(
 (Ao (S:=Int) (E:=Int) (λg=>
 bif g<(c.M.A.length:Int)then(
 (Af c.M.A g).bind λJ=>
 (I8 J.L l).bind λT=>
 bif T<(0:Int)then(
 some (.inl (Aa (g+1)))
 )
 else(
 some (.inr g)
 )
 )
 else(
 some (.inr g)
 )
  ) 0).bind λf=>
 (show OB from
 bif f<(c.M.A.length:Int)then(
 (Af c.M.A f).bind λU=>
 (I8 U.L l).bind λI=>
 some (I==(0:Int))
 )
 else(
 some false
 )
 ).bind λG=>
 bif G then(
 (Af c.M.A f).bind λD=>
 (Yl D.P k).bind λB=>
 (Ao (Aeh c f B.1) (o,1,j)).bind λ(y,V,A)=>
 some (.inl (y,Aa (e+1),A))
 )
 else(
 (Te c.M).bind λs=>
 (Cj 40 s.2.2 [A6.mk (Aq.mk 0 []) 0]).bind λb=>
 (show Option (List A6)from
 (H3 b.length (Aa (f+1)) ((b.length:Nat):Int)).bind λr=>
 match r with
 |.inl i=>(
 (Hz b.length f ((b.length:Nat):Int)).bind λh=>
 (Ln b (0+i.1) (i.2-i.1) (0+h.1) (h.2-h.1)).bind λz=>
 some z
 )
 |.inr _=>(
 (Hz b.length f ((b.length:Nat):Int)).bind λW=>
 some b
 )
 ).bind λu=>
 (Af u f).bind λX=>
 (Jl o (Aw.mk s.2.1 (Cd u f (A6.mk l k))) c.C j).bind λq=>
 some (.inl (q.1,Aa (e+1),q.2))
 )
 )
 )
 else(
 some (.inr (o,j))
 )
theorem Apa(u:Aq->Nat)(c b:A2)(g:A6):E3 u (c++g::b)=E3 u (c++b)*bc (u g.L) g.P.toNat:=by rw[Uf,E3,Uf];ac_rfl
structure Apb(x:A8)(l:Aq)(b:Nat):Prop where
 lin:Co l=true/\l.T.length≠0/\Ej x.V x.E l=true
 pos:1<=b
 le:b<=6
structure AW(x:A8)(l:Aq)(b:Nat)(w w':Aw->Nat):Prop where
 one:∀m,1<=w' m
 put:∀m pre post,m.A=pre++post->D0 x m->(∀a∈pre,Dh a.L l<0)->(∀a∈post,Dh l a.L<0)->w' ⟨m.F,pre++⟨l,(b:Int)⟩::post⟩<=w m
 mul:∀m pre post g,m.A=pre++g::post->D0 x m->(∀a∈pre,Dh a.L l<0)->(∀a∈post,Dh l a.L<0)->g.L=l->∀j,w' ⟨m.F,pre++⟨l,j⟩::post⟩*3^(g.P.toNat+b)<=w m
theorem Bei{cs:B0}{Z:Nat}(hc:CK cs K)(hi:Apb x l b)(hw:AW x l b w w')(hj:S[j]?=some s)(am:S.length<=1000000)(T:Km x Z s.M)(hd:D3 x s.M<=d)(ap:d+b<=6)(hr:RB K s.C)(hN:CbR cs N (rq s.C))(a8:1<=N) :
  ∃V,pv w' V<=N*w s.M/\∀C0 R M,BS x cs K Z (d+b) C0 R M->pv w' (C0++V)<=100000->∃n o,Aei l (b:Int) S (R,(j:Int),M)=some (.inl (n,((j+1:Nat):Int),o))/\BS x cs K Z (d+b) (C0++V) n o/\∀χ u,Da χ u (o.take n)=Da χ u (M.take R)+rq s.C*((mX χ u s.M*bc (u l) b:Nat):Rat):=by
 have ak:=D8 hj
 have wj:Aa ((j:Int)+1)=((j+1:Nat):Int):=by rw[Aa,Bm]<;>omega
 have U:=B1 rfl hj
 have ar:=T.1.cmo.na
 have a7:=T.1.f.srt
 have G:∀a∈s.M.A,I8 a.L l=some (Dh a.L l):=λa ha=>Zd _ _ (by have:=T.1.2.al a ha;omega)
 have a1:((l.T.length:Int)==(0:Int))=false:=Ck (by have:=hi.lin.2.1;omega)
 obtain⟨k,_,k1,k2,k3,k4⟩:=Bdz (step:=λI=>
 bif I<(s.M.A.length:Int)then(
 (Af s.M.A I).bind λab=>
 (I8 ab.L l).bind λa4=>
 bif a4<(0:Int)then(
 some (.inl (Aa (I+1)))
 )
 else(
 some (.inr I)
 )
 )
 else(
 some (.inr I)
 )) (n:=s.M.A.length) (stop:=λj=>∀f,s.M.A[j]?=some f->¬Dh f.L l<0) (λj hj X=>by
  have H:s.M.A[j]?=some (s.M.A[j]'hj):=Bn _
  generalize s.M.A[j]'hj=q at H
  have ad:Dh q.L l<0:=by
   by_cases e:Dh q.L l<0
   .exact e
   .exact (X λq' a2=>by rw[H]at a2;cases a2;exact e).elim
  have w1:Aa ((j:Int)+1)=((j+1:Nat):Int):=by rw[Aa,Bm]<;>omega
  simp only[Al (ω:(j:Int)<(s.M.A.length:Int)),Ak,B1 rfl H,Ac,G q (B5 H),Al ad,w1]) (λj hj X=>by
  have H:s.M.A[j]?=some (s.M.A[j]'hj):=Bn _
  generalize s.M.A[j]'hj=q at H
  simp only[Al (ω:(j:Int)<(s.M.A.length:Int)),Ak,B1 rfl H,Ac,G q (B5 H),Am (X q H),Aj]) (by
  simp only[Am (ω:¬(s.M.A.length:Int)<(s.M.A.length:Int)),Aj]) s.M.A.length 0 ω
 have E:∀g∈s.M.A.take k,Dh g.L l<0:=λg hg=>by
  obtain⟨n,r⟩:=Fo hg
  rw[getElem?_take]at r
  split at r
  .rename_i ag
   by_cases e:Dh g.L l<0
   .exact e
   .exact (k3 n ω ag λf hf=>by rw[r]at hf;cases hf;exact e).elim
  .cases r
 have hp:=pairwise_iff_getElem.1 a7
 have aq:=T.1.f.fsum0
 by_cases L:∃g,s.M.A[k]?=some g/\g.L=l
 .obtain⟨g,hg,A⟩:=L
  have z:=D8 hg
  have y:=Beb hg
  have i:∀q∈s.M.A.drop (k+1),Dh l q.L<0:=λq hq=>by
   obtain⟨n,r⟩:=Fo hq
   rw[getElem?_drop]at r
   have h1:=D8 r
   have:=hp k (k+1+n) z h1 ω
   rw[Bn z]at hg
   rw[Bn h1]at r
   cases hg;cases r
   rw[<-A];exact this
  have a6:=B5 hg
  have ao:=(T.1.f.atm g a6).1
  have D:(s.M.A.take k++s.M.A.drop (k+1)).Sublist s.M.A:=by
   conv=>rhs;rw[y]
   exact List.Sublist.append (List.Sublist.refl _) (List.sublist_cons_self _ _)
  have aj:Bq s.M.A=Bq (s.M.A.take k++s.M.A.drop (k+1))+g.P:=by
   conv=>lhs;rw[y]
   unfold Bq
   simp only[map_append,map_cons,sum_append,sum_cons]
   omega
  have h0:0<=Bq (s.M.A.take k++s.M.A.drop (k+1)):=by rw[(Wx λa ha=>(T.1.f.atm a (D.subset ha)).1).1];omega
  have ac:D3 x s.M=B6 x.D x.V x.E s.M.F+Bq s.M.A:=rfl
  obtain⟨a,ha⟩:∃a:Nat,g.P=(a:Int):=⟨g.P.toNat,ω⟩
  have a0:a+b<=6:=ω
  have a3:=hi.pos
  have hW:∀j,j<a+b->Km x Z ⟨s.M.F,s.M.A.take k++⟨g.L,((j+1:Nat):Int)⟩::s.M.A.drop (k+1)⟩/\D3 x ⟨s.M.F,s.M.A.take k++⟨g.L,((j+1:Nat):Int)⟩::s.M.A.drop (k+1)⟩<=d+b:=λj hj=>by
   obtain⟨c1,c2⟩:=Ay8 T D (l:=g.L) (by rw[A];exact E) (by rw[A];exact i) (by rw[A];exact hi.lin) (k:=((j+1:Nat):Int)) ω ω
   exact⟨c1,by rw[c2];omega⟩
  have hP:=Bd0 a b a0
  refine⟨tav s.M.F (s.M.A.take k) (s.M.A.drop (k+1)) g.L a b N (a+b),?_,λC0 R M hB hb=>?_⟩
  .have J:=hw.mul s.M _ _ g y T.1 E i A
   have ai:g.P.toNat=a:=ω
   rw[ai]at J
   have e1:tav s.M.F (s.M.A.take k) (s.M.A.drop (k+1)) g.L a b N (a+b)=((range (a+b)).map λd=>(d,Rp a b (d+1))).map λp=>((λd:Nat=>(⟨s.M.F,s.M.A.take k++⟨g.L,((d+1:Nat):Int)⟩::s.M.A.drop (k+1)⟩:Aw)) p.1,p.2*N):=by
    unfold tav
    rw[map_map];rfl
   rw[e1,Ay1 w' (λd:Nat=>(⟨s.M.F,s.M.A.take k++⟨g.L,((d+1:Nat):Int)⟩::s.M.A.drop (k+1)⟩:Aw)) N]
   refine Nat.mul_le_mul_left N ?_
   have h3:=Bee a ω b ω a0
   generalize((range (a+b)).map λd=>(d,Rp a b (d+1)))=W at h3
   have a5:3^(a+b)*pv (λd:Nat=>w' ⟨s.M.F,s.M.A.take k++⟨g.L,((d+1:Nat):Int)⟩::s.M.A.drop (k+1)⟩) W<=3^(a+b)*w s.M:=by
    rw[<-Ait]
    have h1:pv (λd:Nat=>3^(a+b)*w' ⟨s.M.F,s.M.A.take k++⟨g.L,((d+1:Nat):Int)⟩::s.M.A.drop (k+1)⟩) W<=pv (λ_=>w s.M*1) W:=Aiu λp _=>by
     have:=J ((p.1+1:Nat):Int)
     rw[Nat.mul_one,Nat.mul_comm,A];exact this
    refine Nat.le_trans h1 ?_
    rw[Ait,Nat.mul_comm]
    exact Nat.mul_le_mul_right _ h3
   exact Nat.le_of_mul_le_mul_left a5 (Nat.pow_pos δ)
  .obtain⟨n,o,l1,l2,l3⟩:=Beh hc hw.one y T.1.2 hr hN a8 a0 hW hB hb
   have ah:(s.M.A.take k).length=k:=by rw[length_take];omega
   rw[ah]at l1
   refine⟨n,o,?_,l2,λχ u=>?_⟩
   .unfold Aei
    dsimp only
    rw[Al ω,Ak,U,Ac,a1,Aj]
    refine Ct k2 ?_
    rw[Al ω,Ak,B1 rfl hg,Ac,G g a6,Ac,Es ((G3.zero _ _ trivial trivial).2 A),Ac,Ak,Ac,ha,hP,Ac]
    refine Ct l1 ?_
    dsimp only
    rw[wj]
   .rw[l3]
    have e8:sm (a+b) (λj=>Rc a b (j+1)*mX χ u ⟨s.M.F,s.M.A.take k++⟨g.L,((j+1:Nat):Int)⟩::s.M.A.drop (k+1)⟩)=mX χ u s.M*bc (u l) b:=by
     have e7:∀j:Nat,mX χ u ⟨s.M.F,s.M.A.take k++⟨g.L,(j:Int)⟩::s.M.A.drop (k+1)⟩=(Iu (s.M.F.map χ)*E3 u (s.M.A.take k++s.M.A.drop (k+1)))*bc (u l) j:=λj=>by
      unfold mX
      dsimp only
      rw[Apa,Int.toNat_natCast,A];ac_rfl
     have e6:mX χ u s.M=(Iu (s.M.F.map χ)*E3 u (s.M.A.take k++s.M.A.drop (k+1)))*bc (u l) a:=by
      unfold mX
      conv=>lhs;rw[y]
      rw[Apa,ha,Int.toNat_natCast,A];ac_rfl
     have Y:=Wt (u l) a b (a+b+1) ω
     rw[Ah8,Awv (show 0<a by omega),Nat.zero_mul,Nat.zero_add]at Y
     rw[e6,Nat.mul_assoc,<-Y]
     generalize Iu (s.M.F.map χ)*E3 u (s.M.A.take k++s.M.A.drop (k+1))=B at e7
     have X:∀n,sm n (λj=>Rc a b (j+1)*mX χ u ⟨s.M.F,s.M.A.take k++⟨g.L,((j+1:Nat):Int)⟩::s.M.A.drop (k+1)⟩)=B*sm n (λj=>Rc a b (j+1)*bc (u l) (j+1)):=λn=>by
      induction n with
      |zero=>rfl
      |succ n ih=>rw[sm,sm,ih,e7,Nat.mul_add];congr 1;ac_rfl
     exact X _
    rw[e8]
 .have y:s.M.A=s.M.A.take k++s.M.A.drop k:=(take_append_drop _ _).symm
  have i:∀q∈s.M.A.drop k,Dh l q.L<0:=λq hq=>by
   obtain⟨n,r⟩:=Fo hq
   rw[getElem?_drop]at r
   have h1:=D8 r
   have z:k<s.M.A.length:=ω
   have hg:s.M.A[k]?=some (s.M.A[k]'z):=Bn _
   have h2:=k4 z _ hg
   have h3:(s.M.A[k]'z).L≠l:=λe=>L ⟨_,hg,e⟩
   have h4:Dh l (s.M.A[k]'z).L<0:=by
    have e0:Dh (s.M.A[k]'z).L l≠0:=λe=>h3 ((G3.zero _ _ trivial trivial).1 e)
    rw[G3.anti _ _ trivial trivial]
    omega
   by_cases e:n=0
   .subst e
    rw[Nat.add_zero,hg]at r
    cases r
    exact h4
   .have:=hp k (k+n) z h1 ω
    rw[Bn h1]at r
    cases r
    exact G3.trans _ _ _ trivial trivial trivial h4 this
  have D:(s.M.A.take k++s.M.A.drop k).Sublist s.M.A:=by rw[<-y];exact List.Sublist.refl _
  have ac:D3 x s.M=B6 x.D x.V x.E s.M.F+Bq (s.M.A.take k++s.M.A.drop k):=by
   rw[<-y];rfl
  have a3:=hi.pos
  obtain⟨c1,c2⟩:=Ay8 T D (l:=l) E i hi.lin (k:=(b:Int)) ω ω
  refine⟨[(⟨s.M.F,s.M.A.take k++⟨l,(b:Int)⟩::s.M.A.drop k⟩,N)],?_,λC0 R M hB hb=>?_⟩
  .simp only[pv,Nat.add_zero]
   exact Nat.mul_le_mul_left N (hw.put s.M _ _ y T.1 E i)
  .obtain⟨n,o,p1,p2,p3⟩:=hB.add hc hw.one (c:=s.C) (hr.mono ω) c1 (by rw[c2];omega) a8 hN hb
   obtain⟨q,q1,q2,q3⟩:=Ao6 s.M.A k ⟨⟨0,[]⟩,0⟩ ⟨l,(b:Int)⟩ k1 ω
   have af:(bif decide ((k:Int)<(s.M.A.length:Int))then(Af s.M.A (k:Int)).bind λa9=>(I8 a9.L l).bind λaa=>some (aa==(0:Int))else some false)=some false:=by
    by_cases h:k<s.M.A.length
    .have H:s.M.A[k]?=some (s.M.A[k]'h):=Bn _
     rw[Al (ω:(k:Int)<(s.M.A.length:Int)),Ak,B1 rfl H,Ac,G _ (B5 H),Ac,Ck λe=>L ⟨_,H,(G3.zero _ _ trivial trivial).1 e⟩]
    .rw[Am ω];rfl
   have ae:q[k]?=some (q[k]' ω):=Bn _
   refine⟨n,o,?_,p2,λχ u=>?_⟩
   .unfold Aei
    dsimp only
    rw[Al ω,Ak,U,Ac,a1,Aj]
    refine Ct k2 ?_
    refine Ct af ?_
    rw[Aj,Aee _ T.1.2,Ac]
    dsimp only
    rw[Di (by rw[length_singleton];omega),Ac]
    refine Ct q1 ?_
    rw[B1 rfl ae,Ac,Ge (n:=k) rfl,q3,p1,Ac,wj]
   .rw[p3]
    have e6:mX χ u ⟨s.M.F,s.M.A.take k++⟨l,(b:Int)⟩::s.M.A.drop k⟩=mX χ u s.M*bc (u l) b:=by
     unfold mX
     dsimp only
     rw[Apa,<-y,Int.toNat_natCast];ac_rfl
    rw[e6]
theorem Bej{cs:B0}{Z:Nat}(U:CK cs K)(hi:Apb x l b)(W:AW x l b w w')(i:∀m,1<=w m)(h:TS x cs K Z d C S)(q:d+b<=6)(M:pv w C<=100000):∃y B,Kb S l (b:Int)=some y/\TS x cs K Z (d+b) B y/\pv w' B<=pv w C/\∀χ u,Da χ u y=Da χ u S*(bc (u l) b:Rat):=by have L:=h.len i;have H:=hi.pos;obtain⟨g,⟨n,o,C0,rfl,A,D,z⟩,e⟩:=Uh (step:=Aei l (b:Int) S) (λj g=>∃n o C0,g=(n,(j:Int),o)/\BS x cs K Z (d+b) C0 n o/\pv w' C0<=pv w ((S.take j).map λt=>(t.M,Il C t.M))/\∀χ u,Da χ u (o.take n)=Da χ u (S.take j)*(bc (u l) b:Rat)) S.length (λj g T ⟨n,o,C0,k,b1,b2,I⟩=>by subst k;have r:S[j]?=some (S[j]'T):=Bn _;generalize S[j]'T=s at r;have c:=B5 r;obtain⟨X,m2,m3,m4⟩:=h.mem c;obtain⟨V,J,v2⟩:=Bei U hi W r ω X m2 q (h.rb s c) m4 m3;have f:pv w' (C0++V)<=pv w ((S.take (j+1)).map λt=>(t.M,Il C t.M)):=(by rw[C4 r,map_append,Li,Li];simp only[map_cons,map_nil,pv,Nat.add_zero];omega);have G:=h.wle w (j+1);obtain⟨E,o',g1,g2,g3⟩:=v2 C0 n o b1 ω;refine⟨_,g1,E,o',C0++V,rfl,g2,f,λχ u=>?_⟩;rw[g3,I,C4 r,Ao8,Rat.natCast_mul];grind) (s0:=(0,0,[])) ⟨0,[],[],rfl,BS.nil _ _ _ _ _,by simp[pv],λχ u=>by show(0:Rat)=0*_;grind⟩;rw[Du]at z;refine⟨o.take n,C0,?_,A.ts,Nat.le_trans D (h.wle w _),z⟩;unfold Kb;rw[Ck ω,Aj];refine Ct (e.trans (Cr (e:=(n,o)) ?_)) ?_;unfold Aei;dsimp only;rw[Am ω,Aj];dsimp only;rw[Ay7 A.pis.base.le];rfl
def eA(p:Aq->Bool)(L:A2):Nat:=(L.map λa=>bif p a.L then a.P.toNat else 0).sum
def wA(p:Aq->Bool)(R:Nat)(m:Aw):Nat:=3^(eA p m.A+R)
def pGe(l b:Aq):Bool:=decide (¬Dh b l<0)
def pGt(l b:Aq):Bool:=decide (Dh l b<0)
theorem Apc(p:Aq->Bool)(R:Nat)(m:Aw):1<=wA p R m:=Nat.pow_pos δ
theorem Ai0(p:Aq->Bool)(F G:A2):eA p (F++G)=eA p F+eA p G:=by unfold eA;simp
theorem W1(p:Aq->Bool)(g:A6)(F:A2):eA p (g::F)=(bif p g.L then g.P.toNat else 0)+eA p F:=by unfold eA;simp
theorem Apd(h:∀l,p l=true->q l=true)(F:A2):eA p F<=eA q F:=by induction F with|nil=>exact Nat.le_refl _|cons g F ih=>rw[W1,W1];cases e:p g.L;rw[Aj];omega;rw[Ak,h _ e,Ak];omega
theorem Bek{F:A2}(h:∀g∈F,p g.L=false):eA p F=0:=by induction F with|nil=>rfl|cons g F ih=>rw[W1,ih λq e=>h q (by simp[e]),h g ψ,Aj]
theorem Bel(F:A2):eA (λ_=>true) F=Bw F:=by induction F with|nil=>rfl|cons g F ih=>rw[W1,ih,Ak,Bw]
theorem Bem(h:∀l,p l=true->q l=true)(R:Nat)(m:Aw):wA p R m<=wA q R m:=by unfold wA;exact Nat.pow_le_pow_right δ (by have:=Apd h m.A;omega)
theorem Ay9{a b:Aq}(h:Dh a b<0):¬Dh b a<0:=by rw[G3.anti a b trivial trivial];omega
theorem Aza{b:Aq}(h:pGt l b=true):pGe l b=true:=decide_eq_true (Ay9 (of_decide_eq_true h))
theorem Ben{b c:Aq}(h:Dh l b<0)(o:pGe b c=true):pGt l c=true:=by have r:¬Dh c b<0:=of_decide_eq_true o;refine decide_eq_true ?_;by_cases e:Dh c b=0;rw[(G3.zero _ _ trivial trivial).1 e];exact h;exact G3.trans _ _ _ trivial trivial trivial h (by rw[G3.anti c b trivial trivial];omega)
theorem Beo(R:Nat):AW x l b (wA (pGe l) (R+b)) (wA (pGt l) R):=by have low:∀e:A2,(∀a∈e,Dh a.L l<0)->eA (pGt l) e=0:=λe h=>Bek λg r=>decide_eq_false (Ay9 (h g r));have c:pGt l l=false:=decide_eq_false (Pl.irr l);refine⟨λm=>Apc _ _ _,λm e o u _ y E=>?_,λm e o g u G y E r j=>?_⟩;unfold wA;refine Nat.pow_le_pow_right δ ?_;dsimp only;rw[u,Ai0,Ai0,W1,low e y,c,Aj];have:=Apd (p:=pGt l) (q:=pGe l) (λf h=>Aza h) o;omega;unfold wA;rw[<-Nat.pow_add];refine Nat.pow_le_pow_right δ ?_;dsimp only;have D:pGe l g.L=true:=decide_eq_true (by rw[r];exact Pl.irr l);rw[u,Ai0,Ai0,W1,W1,low e y,c,Aj,D,Ak];have:=Apd (p:=pGt l) (q:=pGe l) (λf h=>Aza h) o;omega
noncomputable def Ai1(L:A2):List Ae×Int->Ο ((List Ae×Int)⊕List Ae):=λ(c,b)=>bif b<(L.length:Int)then((Af L b).bind λe=>(Kb c e.L e.P).bind λf=>some (.inl (f,Aa (b+1))))else(some (.inr c))
theorem Azb(L M:A2):Bw (L++M)=Bw L+Bw M:=by induction L with|nil=>simp[Bw]|cons a L ih=>rw[Er,Bw,Bw,ih];omega
theorem Bep{cs:B0}{Z Y:Nat}(W:CK cs K)(r:Km x Y m)(h:TS x cs K Z d C S)(a6:d+(Bw m.A:Nat)<=6){A:Nat}(hA:pv (wA (λ_=>true) (Bw m.A)) C<=A)(a7:A<=100000):∃c g,Ao (Ai1 m.A) (S,0)=some c/\TS x cs K Z (d+(Bw m.A:Nat)) g c/\pv (λ_=>1) g<=A/\∀χ u,Da χ u c=Da χ u S*(E3 u m.A:Rat):=by have X:=r.1.cmo.na;have z:=pairwise_iff_getElem.1 r.1.f.srt;(have i:∀j,Bw m.A=Bw (m.A.take j)+Bw (m.A.drop j):=λj=>by rw[<-Azb,take_append_drop]);obtain⟨B,⟨c,g,p,rfl,L,q2,V,J⟩,e⟩:=Uh (step:=Ai1 m.A) (λj B=>∃c g p,B=(c,(j:Int))/\TS x cs K Z (d+(Bw (m.A.take j):Nat)) g c/\(∀a∈m.A.drop j,∀D,pGe a.L D=true->p D=true)/\pv (wA p (Bw (m.A.drop j))) g<=A/\∀χ u,Da χ u c=Da χ u S*(E3 u (m.A.take j):Rat)) m.A.length (λj B T ⟨c,g,p,k,b1,b2,b3,b4⟩=>by subst k;have H:m.A[j]?=some (m.A[j]'T):=Bn _;have E:∃f,m.A[j]'T=f:=⟨_,rfl⟩;obtain⟨f,l⟩:=E;rw[l]at H;have s:=B5 H;obtain⟨a1,a2,a3,a4⟩:=r.1.f.atm f s;obtain⟨b,hb⟩:∃b:Nat,f.P=(b:Int):=⟨f.P.toNat,ω⟩;have o:f.P.toNat=b:=ω;have y:m.A.drop j=f::m.A.drop (j+1):=(by rw[drop_eq_getElem_cons T,l]);have G:Bw (m.A.drop j)=b+Bw (m.A.drop (j+1)):=(by rw[y,Bw,o]);have k:Bw (m.A.take (j+1))=Bw (m.A.take j)+b:=(by rw[C4 H,Azb,Bw,o];rfl);have h1:=i j;have hi:Apb x f.L b:=⟨⟨a2,a3,a4⟩,ω,by have:=r.1.f.deg;have:=(r.1.cmo.al f s).2.2.2;omega⟩;have N:pv (wA (pGe f.L) (Bw (m.A.drop (j+1))+b)) g<=A:=(by refine Nat.le_trans (Aiu λq _=>?_) b3;have:=Bem (b2 f (by rw[y];simp)) (Bw (m.A.drop (j+1))+b) q.1;rw[G,Nat.add_comm b];exact this);obtain⟨R,C2,g1,g2,g3,g4⟩:=Bej W hi (Beo (Bw (m.A.drop (j+1)))) (λm=>Apc _ _ _) b1 ω ω;have U:Aa ((j:Int)+1)=((j+1:Nat):Int):=ξ;refine⟨(R,((j+1:Nat):Int)),?_,R,C2,pGt f.L,rfl,?_,λq hq D I=>?_,ω,λχ u=>?_⟩;unfold Ai1;dsimp only;rw[Al ω,Ak,B1 rfl H,Ac,hb,g1,Ac,U];rw[k];have:d+((Bw (m.A.take j)+b:Nat):Int)=d+(Bw (m.A.take j):Nat)+(b:Int):=ω;rw[this];exact g2;obtain⟨n,o⟩:=Fo hq;rw[getElem?_drop]at o;have M:=D8 o;have:=z j (j+1+n) T M ω;rw[Bn M]at o;cases o;rw[l]at this;exact Ben this I;have:E3 u (m.A.take (j+1))=E3 u (m.A.take j)*bc (u f.L) b:=(by rw[C4 H,Uf,E3,E3,Nat.mul_one,o]);rw[g4,b4,this,Rat.natCast_mul,Rat.mul_assoc]) (s0:=(S,0)) ⟨S,C,λ_=>true,rfl,by simpa[Bw]using h,λ_ _ _ _=>rfl,by simpa using hA,λχ u=>by simp only[take_zero,E3];grind⟩;rw[Du]at L J;refine⟨c,g,e.trans (Cr ?_),L,Nat.le_trans (Ao7 (λm=>Apc _ _ _) g) V,J⟩;unfold Ai1;dsimp only;rw[Am ω,Aj]
theorem Ape{m:Aw}:∀{p:Ad},(∀t∈p,t.M≠m)->cf p m=0
 |[],_=>rfl
 |t::p,h=>by rw[Nq,Ape λu o=>h u (by simp[o]),Au λe=>h t ψ e];grind
theorem Km.mono{Z:Nat}(h:Km x Z m)(g:Z<=b):Km x b m:=⟨h.1,λf c=>Nat.le_trans (h.2 f c) g⟩
theorem Azc(h:D0 x m):D3 x m=((sF x m.F+Bw m.A:Nat):Int):=by unfold D3;rw[Bed h.f.fac,h.f.as.1];omega
end Go.Ab
