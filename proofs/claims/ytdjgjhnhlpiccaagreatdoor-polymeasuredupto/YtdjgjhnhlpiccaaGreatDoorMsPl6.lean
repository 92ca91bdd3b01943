/- Plain laws: what the plain functions answer. -/
import Derived.Test.YtdjgjhnhlpiccaaGreatDoorMsPl5
open List
namespace Go.Ab
open Go
variable {m:A3} {t:Af} {h res:Ax} {x:B9} {g:Bb} {a:Bd} {l:Bn} {u v w:Int} {W:Int->Prop} {R p:List Aj} {b:List Ax} {α:Type}
def dgM (x:B9) (m:A3):Int:=Cs x.D x.V x.E m.F+(Dp m.A:Nat)
structure Q8 (x:B9) (W:Int->Prop) (m:A3):Prop where
 one:m.F.length+m.A.length<=1
 fac:∀f∈m.F,Ev f.v/\iR f.I/\1<=Dz x.D x.V x.E f/\Bv f.I<=40
 atm:∀a∈m.A,0<=a.P/\F3 a.L=true/\It x.V x.E a.L=true
 vr:∀w∈Jt m,W w
theorem Ah2 (m:A3) (l:List A3):jn (m::l)=⟨m.F++(jn l).F,m.A++(jn l).A⟩:=by unfold jn;simp
theorem Axw (l k:List A3):jn (jn l::k)=jn (l++k):=by unfold jn;simp
theorem Axx (x:B9):∀l:List A3,dgM x (jn l)=(l.map (dgM x)).sum
 | []=>by unfold dgM jn Cs;simp[Dp]
 | m::l=>by have ih:=Axx x l;rw[Ah2,map_cons,sum_cons,<-ih];unfold dgM;dsimp only;rw[Q5,S0];omega
theorem Axy (χ:Bb->Nat) (v:Bn->Nat):∀l:List A3,mX χ v (jn l)=Dv (l.map (mX χ v))
 | []=>rfl
 | m::l=>by rw[Ah2,map_cons,Dv,<-Axy χ v l];unfold mX;dsimp only;rw[map_append,Aco,Acr];ac_rfl
theorem Axz:∀l:List A3,(∀m∈l,(m.F.length<=1/\∀f∈m.F,Bv f.I<=40))->((jn l).F.map λf=>Bv f.I).sum<=40*l.length
 | [],_=>by simp[jn]
 | m::l,h=>by have ih:=Axz l λk hk=>h k (by simp[hk]);obtain⟨h1,h2⟩:=h m ψ;rw[Ah2];dsimp only;rw[map_append,sum_append,D6];have:(m.F.map λf=>Bv f.I).sum<=40:=(by match b:m.F with| []=>simp| [f]=>have:=h2 f (by simp[b]);simpa using this| f::g::r=>rw[b]at h1;simp at h1);omega
theorem Ax0 {l:List A3} {f:Bb} (h:f∈(jn l).F):∃m∈l,f∈m.F:=mem_flatMap.1 h
theorem Ax1 {l:List A3} (h:a∈(jn l).A):∃m∈l,a∈m.A:=mem_flatMap.1 h
theorem Ax2:∀l:List A3,(∀m∈l,m.A.length<=1)->(jn l).A.length<=l.length
 | [],_=>by simp[jn]
 | m::l,h=>by have ih:=Ax2 l λk hk=>h k (by simp[hk]);have:=h m ψ;rw[Ah2];dsimp only;rw[Ek,D6];omega
theorem Ax3 (h:S7 x m) {φ:Bb->A3} {ψ:Bd->A3} (h1:∀f∈m.F,Q8 x W (φ f)/\dgM x (φ f)=Dz x.D x.V x.E f) (h2:∀a∈m.A,Q8 x W (ψ a)/\dgM x (ψ a)=a.P) (ht:¬Mw (rpM φ ψ m).F):Anc x 240 W (rpM φ ψ m):=by
 have c:rpM φ ψ m=jn (m.F.map φ ++ m.A.map ψ):=Axw _ _;have b:∀k∈m.F.map φ ++ m.A.map ψ,Q8 x W k:=λk hk=>by
  rcases Ej.1 hk with hk|hk
  .obtain⟨f,hf,rfl⟩:=mem_map.1 hk;exact (h1 f hf).1
  .obtain⟨a,ha,rfl⟩:=mem_map.1 hk;exact (h2 a ha).1
 have hd:dgM x (rpM φ ψ m)=Yk x m:=by rw[c,Axx,map_append,sum_append];unfold Yk Cs Ef;rw[map_map,map_map];have y:m.F.map (dgM x ∘ φ)=m.F.map (Dz x.D x.V x.E):=map_congr_left λf hf=>(h1 f hf).2;have u:m.A.map (dgM x ∘ ψ)=m.A.map (·.P):=map_congr_left λa ha=>(h2 a ha).2;rw[y,u]
 have s:=h.deg;have A:=Lx (data:=x.D) (vars:=x.V) (res:=x.E) (l:=m.F) h.fac;have B:=h.as;have D:(m.F.map φ ++ m.A.map ψ).length<=6:=by unfold Yk at s;rw[Ek,C1,C1];omega
 have q:=Axz _ λk hk=>⟨by have:=(b k hk).one;omega,λf hf=>((b k hk).fac f hf).2.2.2⟩;have g:=Ax2 _ λk hk=>(by have:=(b k hk).one;omega:k.A.length<=1);have j:∀f∈(rpM φ ψ m).F,Ev f.v/\iR f.I/\1<=Dz x.D x.V x.E f:=λf hf=>by rw[c]at hf;obtain⟨k,hk,hf⟩:=Ax0 hf;have:=(b k hk).fac f hf;exact⟨this.1,this.2.1,this.2.2.1⟩
 have i:∀a∈(rpM φ ψ m).A,0<=a.P/\F3 a.L=true/\It x.V x.E a.L=true:=λa ha=>by rw[c]at ha;obtain⟨k,hk,ha⟩:=Ax1 ha;exact (b k hk).atm a ha
 have z:=Lx (data:=x.D) (vars:=x.V) (res:=x.E) (l:=(rpM φ ψ m).F) λf hf=>(j f hf).2.2;rw[<-c]at q g;unfold dgM at hd;refine⟨⟨j,ω,ω⟩,⟨λa ha=>(i a ha).1,λa ha=>(i a ha).2.1,ω,ω⟩,λa ha=>(i a ha).2,ω,ω,λw hw=>?_,ht⟩;rw[c]at hw;rcases S8.1 hw with⟨f,f1,f2⟩|⟨a,a1,a2⟩
 .obtain⟨k,hk,hf⟩:=Ax0 f1;exact (b k hk).vr w (S8.2 (.inl ⟨f,hf,f2⟩))
 .obtain⟨k,hk,ha⟩:=Ax1 a1;exact (b k hk).vr w (S8.2 (.inr ⟨a,ha,a2⟩))
theorem Ax4 {f g:α->Nat} {l:List α} (h:∀a∈l,f a=g a):Dv (l.map f)=Dv (l.map g):=by rw[map_congr_left h]
theorem Ax5 (v:Bn->Nat):∀l:List Bd,Gc v l=Dv (l.map λa=>bc (v a.L) a.P.toNat)
 | []=>rfl
 | a::l=>by rw[Gc,map_cons,Dv,Ax5 v l]
theorem Anh {φ:Bb->A3} {ψ:Bd->A3} {χ b:Bb->Nat} {g c:Bn->Nat}:∀p:List Aj,(∀t∈p,(∀f∈t.M.F,mX χ g (φ f)=b f)/\∀a∈t.M.A,mX χ g (ψ a)=bc (c a.L) a.P.toNat)->rpS φ ψ χ g p=G4 b c p
 | [],_=>rfl
 | t::p,h=>by rw[rpS,G4,Anh p λu hu=>h u (by simp[hu])];obtain⟨h1,h2⟩:=h t (by simp);have:mX χ g (rpM φ ψ t.M)=Dv (t.M.F.map b)*Gc c t.M.A:=(by rw[show rpM φ ψ t.M=jn (t.M.F.map φ ++ t.M.A.map ψ) from Axw _ _,Axy,map_append,Aco,map_map,map_map,Ax5,Ax4 (g:=b) (f:=mX χ g ∘ φ) h1,Ax4 (f:=mX χ g ∘ ψ) (g:=λa:Bd=>bc (c a.L) a.P.toNat) h2]);rw[this]
theorem Bcu {a:Bn} (h:F3 a=true):a.T.Pairwise λs t=>s.v<t.v:=by unfold F3 at h;rw[Ct]at h;refine Axe _ _ λj t hj=>?_;have:=Is h.2 hj;unfold Sk at this;rw[Ct]at this;exact this.2
theorem Bcv {c:Int} (h0:c≠0) (h1 : -1048576<=c) (h2:c<=1048576):(0+Bg c+0) % 18446744073709551616≠0:=by
 have e:IntKind.u64.wrap c=c % 18446744073709551616:=by simp[IntKind.wrap,IntKind.bits,IntKind.signed]
 show (0+IntKind.u64.wrap c+0) % _≠0;rw[e];omega
theorem Ax6 {a b c:Int} (h1:0<=a) (h2:0<=b) (h3:0<=c) (f:c<=1):Wq a b c=some ((a+b+c) % 18446744073709551616,(a+b+c) / 18446744073709551616):=by unfold Wq Aeh;rw[As h1,As h2,As h3,As f];rfl
theorem Bcw (c:F3 l=true) (v:Int):∃b,T1 l v=some b/\(b=false->∀t∈l.T,t.v≠v):=by
 have i:=Bcu c;have A:=(Yc c).1;have g:=Bbw c;have k:∀t∈l.T,t.C≠0:=λt ht=>by unfold F3 at c;rw[Ct]at c;obtain⟨j,hj⟩:=Hi ht;have:=Is c.2 hj;unfold Sk at this;simp only[Ct,Du]at this;exact this.1.2.2.1
 unfold T1;refine Et (λs=>∃j:Nat,s.2.2=j/\j<=l.T.length/\((s.1=0/\s.2.1=0/\∀t∈l.T.take j,t.v≠v)\/(s.2.1≠0/\∀t∈l.T.drop j,t.v≠v))) (λs=>l.T.length-s.2.2.toNat) (λz=>z.2≠0\/∀t∈l.T,t.v≠v) ⟨0,rfl,ω,.inl ⟨rfl,rfl,ψ⟩⟩ ?_ ?_
 .rintro⟨hi,lo,_⟩ ⟨j,rfl,hj,f⟩;dsimp only at f ⊢;rcases Cj j l.T.length with h|h
  .left;have hx:l.T[j]? = some l.T[j]:=Bs h;generalize l.T[j]=t at hx;have x:=Bu hx;have hd:l.T.drop j=t::l.T.drop (j+1):=Mm hx;rw[As ω,Am,Br rfl hx,Ad,C5 h ω];by_cases e:t.v=v
   .rw[Eu e];rcases f with⟨rfl,rfl,_⟩|⟨_,h2⟩
    .have D:=Ar6 t.C;obtain⟨q,hq⟩:∃q,Tt .i64 t.C 63=some q:=⟨_,rfl⟩;have B:=Ar6 q;rw[Am,Ax6 ω D.1 ω ω,Ad,hq,Ad,Ax6 ω B.1 (by dsimp only;show 0<=(0+IntKind.u64.wrap t.C+0) / _;omega) (by dsimp only;show (0+IntKind.u64.wrap t.C+0) / _<=1;omega),Ad];refine⟨_,rfl,⟨j+1,rfl,ω,.inr ⟨Bcv (k t x) (g t x).1 (g t x).2,λu hu E=>?_⟩⟩,by simp only[Int.toNat_natCast];omega⟩;have hp:=i.sublist (drop_sublist j l.T);rw[hd]at hp;have:=(pairwise_cons.1 hp).1 u hu;omega
    .exact (h2 t (by rw[hd];simp) e).elim
   .rw[C3 e,Aq];refine⟨_,rfl,⟨j+1,rfl,ω,?_⟩,by simp only[Int.toNat_natCast];omega⟩;rcases f with⟨h1,h2,h3⟩|⟨h1,h2⟩
    .refine .inl ⟨h1,h2,λu hu=>?_⟩;rw[C4 hx]at hu;rcases Ej.1 hu with hu|hu
     .exact h3 u hu
     .rw[Ea]at hu;rw[hu];exact e
    .exact .inr ⟨h1,λu hu=>h2 u (by rw[hd];simp[hu])⟩
  .have:j=l.T.length:=ω;subst this;rw[Db]at f;refine .inr ⟨(hi,lo),by rw[A5 ω,Aq],?_⟩;rcases f with⟨_,_,h⟩|⟨h,_⟩
   .exact .inr h
   .exact .inl h
 .rintro⟨hi,lo⟩ y;dsimp only at y ⊢;by_cases h:hi=0
  .rw[Gb h,Aq];refine⟨_,rfl,λhb=>?_⟩;rcases y with h|h
   .rw[F2 h]at hb;cases hb
   .exact h
  .rw[F2 h,Am];exact⟨_,rfl,λhb=>by cases hb⟩
theorem Ax7:∀(k:Nat) (i:Ax) (a:Int),Cp i<=k->k<1099511627776->-1099511627776<=a->a<=1099511627776->∃r,Rs k i a=some r/\(r.1=true->r.2=a-Cp i/\0<=r.2)/\r.2<=a/\-1<=r.2+1099511627776:=by
 intro k;induction k with
 | zero=>intro i a h;have:=Lv i;omega
 | succ k ih=>
  intro i a h hk h1 h2;have G:=Lv i;have I:=Vb i.K;have w:Ac (a-1)=a-1:=ξ;rw[Rs,w];by_cases h0:a-1<0
  .rw[As h0];exact⟨_,rfl,nofun,by show a-1<=a;omega,by show -1<=a-1+1099511627776;omega⟩
  .rw[A5 h0,Aq];have g:∀l m:List Ax,D0 (l++m)=D0 l+D0 m:=λl m=>by induction l with| nil=>simp[D0]| cons y l ih=>simp only[D9,D0,ih];omega
   refine Et (λs=>∃j:Nat,s.1=j/\j<=i.K.length/\s.2=a-1-D0 (i.K.take j)/\0<=s.2) (λs=>i.K.length-s.1.toNat) (λz=>(∃c,z = .inl (false,c)/\c<=a/\-1<=c+1099511627776)\/(∃c,z = .inr c/\c=a-1-D0 i.K/\0<=c)) ⟨0,rfl,ω,by simp[D0],by show 0<=a-1;omega⟩ ?_ ?_
   .rintro⟨_,b⟩ ⟨j,rfl,hj,hb,f⟩;dsimp only at hb f;rcases Cj j i.K.length with h'|h'
    .have hx:i.K[j]? = some i.K[j]:=Bs h';generalize i.K[j]=x at hx;have L:=L7 (Bu hx);obtain⟨⟨y,z⟩,E,D,B,A⟩:=ih x b ω ω ω ω;have J:D0 (i.K.take (j+1))=D0 (i.K.take j)+Cp x:=(by rw[C4 hx,g];simp[D0]);simp only[As (ω:(j:Int)<(i.K.length:Int)),Am,Br rfl hx,Ad,E,C5 h' ω];cases y with| false=>exact .inr ⟨_,rfl,.inl ⟨z,rfl,by dsimp only at B;omega,A⟩⟩| true=>obtain⟨u,q⟩:=D rfl;exact .inl ⟨_,rfl,⟨j+1,rfl,ω,by dsimp only at u ⊢;rw[J];omega,q⟩,by simp only[Int.toNat_natCast];omega⟩
    .have:j=i.K.length:=ω;subst this;rw[Db]at hb;exact .inr ⟨.inr b,ψ,.inr ⟨b,rfl,hb,f⟩⟩
   .rintro z (⟨c,rfl,c1,c2⟩|⟨c,rfl,c1,c2⟩)
    .exact⟨_,rfl,nofun,c1,c2⟩
    .exact⟨_,rfl,λ_=>⟨by dsimp only;omega,c2⟩,by dsimp only;omega,by dsimp only;omega⟩
theorem Bcx (l:List Ax) (n:Int) (D:l.length<=1048576) (h:∀t∈l,Cp t<=1048576):∃b,Y6 l n=some b/\(b=true->(l.length:Int)<=n/\∀t∈l,Cp t<=400):=by
 unfold Y6;refine Et (λs=>∃j:Nat,s.1=j/\j<=l.length/\0<=s.2/\s.2<=400/\∀t∈l.take j,Cp t<=400) (λs=>l.length-s.1.toNat) (λz=>z = .inl false\/∃c,z = .inr c/\((l.length:Int)<=n->∀t∈l,Cp t<=400)) ⟨0,rfl,ω,δ,δ,ψ⟩ ?_ ?_
 .rintro⟨_,w⟩ ⟨j,rfl,hj,i,g,f⟩;dsimp only at i g;rcases Cj j l.length with h'|h'
  .have hx:l[j]? = some l[j]:=Bs h';generalize l[j]=x at hx;obtain⟨⟨A,B⟩,hb,y,u,_⟩:=Ax7 4000000 x w (by have:=h x (Bu hx);omega) ω ω ω;simp only[As (ω:(j:Int)<(l.length:Int)),Am,Br rfl hx,Ad,hb,C5 h' ω];by_cases k:(j:Int)<=n
   .rw[As k];cases A with
    | false=>exact .inr ⟨_,rfl,.inl rfl⟩
    | true=>
     obtain⟨q,z2⟩:=y rfl;refine .inl ⟨_,rfl,⟨j+1,rfl,ω,z2,by dsimp only at u ⊢;omega,λt ht=>?_⟩,by simp only[Int.toNat_natCast];omega⟩;rw[C4 hx]at ht;rcases Ej.1 ht with ht|ht
     .exact f t ht
     .rw[Ea]at ht;subst ht;dsimp only at q z2;omega
   .rw[A5 k];exact .inr ⟨_,rfl,.inr ⟨w,rfl,λh=>ω⟩⟩
  .have:j=l.length:=ω;subst this;rw[Db]at f;simp only[A5 (ω:¬(l.length:Int)<(l.length:Int)),Aq];exact .inr ⟨_,rfl,.inr ⟨w,rfl,λ_=>f⟩⟩
 .rintro z (rfl|⟨c,rfl,hc⟩)
  .exact⟨_,rfl,λh=>by cases h⟩
  .exact⟨_,rfl,λh=>by rw[Du]at h;exact⟨h,hc h⟩⟩
theorem Bcy (c:List Ax) (res:Ax) (i:c.length<=1048576) (g:∀v∈c,Cp v<=1048576) (k:Cp res<=1048576):∃b,Y3 c res=some b/\(b=true->(∀v∈c,Cp v<=400)/\Cp res<=400):=by
 unfold Y3;obtain⟨a,ha,j⟩:=Bcx c 40 i g;obtain⟨r,l,f,_⟩:=Ax7 4000000 res 400 ω ω ω ω;obtain⟨n,q,_⟩:=A99 4000000 res ω ω;have hb:Y7 res=some r.1:=by unfold Y7;rw[l];rfl
 rw[ha,hb,q];cases a with
 | false=>exact⟨_,rfl,λh=>by cases h⟩
 | true=>cases h:r.1 with| false=>exact⟨_,rfl,λh=>by cases h⟩| true=>exact⟨_,rfl,λ_=>⟨(j rfl).2,by have:=f h;omega⟩⟩
theorem Ani (c:List Ax) (res:Ax) (v:Int):∃a b,Tx c res v=some (a,b)/\(b=true->a=Dk c res v/\(v = -1\/(0<=v/\v<c.length))):=by
 unfold Tx Dk;by_cases h:v = -1
 .rw[Eu h,Aa1 (.inl ω)];exact⟨_,_,rfl,λ_=>⟨rfl,.inl h⟩⟩
 .rw[C3 h,Aq];by_cases h0:v<0
  .rw[As h0];exact⟨_,_,rfl,λh=>by cases h⟩
  .rw[A5 h0,Aq];by_cases h1:v>=(c.length:Int)
   .rw[As h1];exact⟨_,_,rfl,λh=>by cases h⟩
   .rw[A5 h1];have hi:Ag c v=some (c[v.toNat]' ω):=Br (n:=v.toNat) ω (Bs _);rw[hi];exact⟨_,_,rfl,λ_=>⟨rfl,.inr ⟨ω,ω⟩⟩⟩
structure Acx (env:List Ax) (res:Ax) (v:Int) (a:Ax) (env2:List Ax) (res2:Ax):Prop where
 len:env2.length=env.length
 at_:Dk env2 res2 v=a
 off:∀u,u≠v->(u = -1\/(0<=u/\u<env.length))->Dk env2 res2 u=Dk env res u
 mem:∀N,Cp a<=N->(∀w∈env,Cp w<=N)->Cp res<=N->(∀w∈env2,Cp w<=N)/\Cp res2<=N
theorem Ax8 (b:List Ax) (res:Ax) (v:Int) (a:Ax) (i:b.length<=1048576) (hv:v = -1\/(0<=v/\v<b.length)):∃f c,Wd b res v a=some (f,c)/\Acx b res v a f c:=by
 unfold Wd;rw[D2 ζ,nil_append,Ad];by_cases h:v = -1
 .rw[Eu h,Am];refine⟨b,a,rfl,rfl,by unfold Dk;rw[Aa1 (.inl ω)],λu hu h2=>?_,λN h1 h2 h3=>⟨h2,h1⟩⟩;rcases h2 with h2|h2
  .exact (hu ω).elim
  .have hi:Ag b u=some (b[u.toNat]' ω):=Br (n:=u.toNat) ω (Bs _);unfold Dk;rw[hi]
 .have hv:0<=v/\v<b.length:=hv.resolve_left h;obtain⟨n,rfl⟩:∃n:Nat,v=n:=⟨v.toNat,ω⟩;have hi:Ag b (n:Int)=some (b[n]' ω):=Br rfl (Bs _);rw[C3 h,Aq,hi,Ad,H5 (n:=n) rfl];refine⟨b.set n a,res,rfl,ψ,?_,λu hu h2=>?_,λN h1 h2 h3=>⟨λw hw=>?_,h3⟩⟩
  .unfold Dk;rw[Br (n:=n) (x:=a) rfl (by rw[getElem?_set_self ω])]
  .unfold Dk;rcases h2 with h2|h2
   .rw[Aa1 (.inl ω),Aa1 (.inl ω)]
   .obtain⟨m,rfl⟩:∃m:Nat,u=m:=⟨u.toNat,ω⟩;have g:m<b.length:=ω;rw[Br (n:=m) (x:=b[m]) rfl (Bs g),Br (n:=m) (x:=b[m]) rfl (by rw[getElem?_set_ne ω,Bs g])]
  .rcases mem_or_eq_of_mem_set hw with h|h
   .exact h2 w h
   .rw[h];exact h1
theorem Ax9 {t:Aj} (h:TSz t) (b:S9 t):RB 8 t.C:=⟨h.co.num,h.co.den,b.1,b.2.1⟩
theorem Ah3 (h:CSz x) (hp:∀t∈p,TSz t) (f:∀v∈b,Cp v<=1048576) (c:Cp res<=1048576) : ∃r,Ox x p b res=some r/\(r.2≠0\/(Hq x/\I4 x.D x.V x.E p=true/\b.length=x.V.length/\(∀v∈Hj p,Iv x b res v=true)/\∃u,r=(u,0)/\Vn x p b res u)):=by
 obtain⟨r,h1,g⟩:=A93 x h p hp b res f c;refine⟨r,h1,?_⟩;rcases g with⟨_,rfl⟩|⟨hv,⟨_,rfl⟩|⟨i,⟨_,rfl⟩|⟨ht,u,rfl,hu⟩⟩⟩
 .exact .inl δ
 .exact .inl δ
 .exact .inl δ
 .exact .inr ⟨hv.1,hv.2,i,ht,u,rfl,hu⟩
theorem Aya:w∈Hj p↔∃t∈p,w∈Jt t.M:=by unfold Hj;rw[mem_flatMap]
def phA (v:Int) (l:Bn) (f:Bb):A3:=bif f.v != v then ⟨[f],[]⟩ else ⟨[],[⟨l,f.I.U⟩]⟩
def psA (a:Bd):A3:=⟨[],[a]⟩
def phB (f:Bb):A3:=⟨[f],[]⟩
def psB (l:Bn) (w:Int) (a:Bd):A3:=bif Ez a.L l != 0 then ⟨[],[a]⟩ else ⟨[⟨w,⟨a.P,[]⟩⟩],[]⟩
theorem Ah4 {f:Bb} (h:f.v=v):phA v l f=⟨[],[⟨l,f.I.U⟩]⟩:=by unfold phA;rw[Gb h];rfl
theorem Ah5 {f:Bb} (h:f.v≠v):phA v l f=⟨[f],[]⟩:=by unfold phA;rw[F2 h];rfl
theorem Ah6 (h:Ez a.L l=0):psB l w a=⟨[⟨w,⟨a.P,[]⟩⟩],[]⟩:=by unfold psB;rw[Gb h];rfl
theorem Ah7 (h:Ez a.L l≠0):psB l w a=⟨[],[a]⟩:=by unfold psB;rw[F2 h];rfl
theorem Bcz (f:Bb) (v:Int) (l:Bn):Wf f v l=some [phA v l f]:=by unfold Wf Tz phA;cases f.v != v <;> rfl
theorem Bc0 (l:Bn) (w:Int) (h:a.L.T.length<=1048576):T2 a l w=some (psB l w a,0):=by unfold T2 Wg psB;rw[Xs _ _ ω,Ad];cases Ez a.L l != 0 <;> rfl
theorem Ah8 {R:Bb->Bb->Prop} {g:α->List Bb} {l:List α} (h:∀a∈l,(g a).length<=1) (hp:l.Pairwise λa b=>∀c∈g a,∀d∈g b,R c d):(l.flatMap g).Pairwise R:=by
 rw[List.pairwise_flatMap];refine⟨λa ha=>?_,hp⟩;have:=h a ha
 match hg:g a with| []=>exact Pairwise.nil| [c]=>exact pairwise_singleton _ _| c::d::r=>rw[hg]at this;simp at this
theorem Ah9 (φ:Bb->A3) (ψ:Bd->A3) (m:A3):(rpM φ ψ m).F=m.F.flatMap (λf=>(φ f).F)++m.A.flatMap (λa=>(ψ a).F):=by unfold rpM jn;simp[flatMap_map]
theorem Anj {f:Bb} (h:g∈(phA v l f).F):g=f/\f.v≠v:=by
 by_cases e:f.v=v
 .rw[Ah4 e]at h;cases h
 .rw[Ah5 e]at h;simp at h;exact⟨h,e⟩
theorem Ank (h:g∈(psB l w a).F):Ez a.L l=0/\g=⟨w,⟨a.P,[]⟩⟩:=by
 by_cases e:Ez a.L l=0
 .rw[Ah6 e]at h;simp at h;exact⟨e,h⟩
 .rw[Ah7 e]at h;cases h
theorem Bc1 (g:S7 x m) (v:Int) (l:Bn):¬Mw (rpM (phA v l) psA m).F:=by
 rw[Ah9];refine Axp (Ah8 (λf _=>?_) (g.asc.imp λ{a b} h c hc d hd=>?_)) (Ah8 (λa _=>by simp[psA]) (g.srt.imp λ{a b} _ c hc=>by cases hc))
 .by_cases e:f.v=v
  .rw[Ah4 e];simp
  .rw[Ah5 e];simp
 .rw[(Anj hc).1,(Anj hd).1];exact h
theorem Bc2 (g:S7 x m) (l:Bn) (w:Int):¬Mw (rpM phB (psB l w) m).F:=by
 rw[Ah9];refine Axp (Ah8 (λf _=>by simp[phB]) (g.asc.imp λ{a b} h c hc d hd=>?_)) (Ah8 (λa _=>?_) (g.srt.imp λ{a b} h c hc d hd=>?_))
 .simp only[phB,Ea]at hc hd;rw[hc,hd];exact h
 .by_cases e:Ez a.L l=0
  .rw[Ah6 e];simp
  .rw[Ah7 e];simp
 .have h1:=(K7.zero a.L l trivial trivial).1 (Ank hc).1;have h2:=(K7.zero b.L l trivial trivial).1 (Ank hd).1;rw[h1,h2]at h;exact (Ab5.irr l h).elim
abbrev TT:Int->Prop:=λ_=>True
theorem Anl {f:Bb} (h1:Ev f.v) (h2:iR f.I) (h3:1<=Dz x.D x.V x.E f) (b:Bv f.I<=40):Q8 x TT ⟨[f],[]⟩/\dgM x ⟨[f],[]⟩=Dz x.D x.V x.E f:=by refine⟨⟨ψ,λg hg=>?_,nofun,λ_ _=>trivial⟩,by simp[dgM,Cs,Dp]⟩;rw[Ea]at hg;subst hg;exact⟨h1,h2,h3,b⟩
theorem Anm (h1:0<=a.P) (h2:F3 a.L=true) (h3:It x.V x.E a.L=true):Q8 x TT ⟨[],[a]⟩/\dgM x ⟨[],[a]⟩=a.P:=by refine⟨⟨ψ,nofun,λg hg=>?_,λ_ _=>trivial⟩,by simp[dgM,Cs,Dp];omega⟩;rw[Ea]at hg;subst hg;exact⟨h1,h2,h3⟩
structure Ano (x:B9) (p:List Aj):Prop where
 len:p.length<=10
 sz:∀t∈p,TSz t
 sh:∀t∈p,S9 t
theorem Ayb (ht:Dj x.V x.E v=some t) (hk:t.G=7) {f:Bb} (hf:f.v=v) (h1:1<=Dz x.D x.V x.E f):0<=f.I.U/\f.I.U=Dz x.D x.V x.E f:=by obtain⟨t',d,d1,d2,_,_,d5⟩:=Vp h1;rw[hf,ht]at d1;cases d1;obtain⟨⟨b,_,_⟩,c⟩:=Ab9 hk d2;exact⟨b,by rw[d5];omega⟩
theorem Anp (h:(lim R).2=0):(lim R).1=R:=by
 rcases Cj 1000 R.length with h'|h'
 .rw[Axm h']at h;cases h
 .rw[Axl h']
theorem Ayc {Z:Nat} (h:∀t∈R,Q7 x Z W t.M/\RB 1000000 t.C) (b:(lim R).2=0):∀t∈(lim R).1,TSz t:=by rw[Anp b];exact λt ht=>⟨(h t ht).2.mono δ,(h t ht).1.1.1.2⟩
theorem replace_eq (x:B9) (p:List Aj) (v:Int) (l:Bn) (c:List (ByteArray×Int)) (b:List (ByteArray×List Ap)):Aj1 p v l c b x.D x.V x.E.G x.E.U x.E.R=Anf x (λf=>Wf f v l) Wg p c b:=rfl
theorem Bc3 (y:CSz x) (hp:Ano x p) (v n:Int) (h0:0<=n) (N:n<=40) : ∃R e,Wc x p v ⟨n,[]⟩=some (R,e)/\(e=0->∀t∈R,TSz t)/\(e=0->Hq x/\I6 x p/\(∃t,Dj x.V x.E v=some t/\t.G=7)/\∀χ g,(∀t∈p,Ol x.D x.V x.E χ (rpM (phA v ⟨n,[]⟩) psA t.M).F)->Mx g->G4 χ g R=rpS (phA v ⟨n,[]⟩) psA χ g p):=by
 have j:∀q∈[p],∀t∈q,TSz t:=λq hq=>by rw[Ea]at hq;subst hq;exact hp.sz
 by_cases hv:Hq x/\∀q∈[p],I4 x.D x.V x.E q=true
 .obtain⟨z,l,E⟩:=Amk y j ψ hv;have hf:=hv.1;have s:I6 x p:=⟨hv.2 p ψ,hp.sz⟩;unfold Wc;rw[l];simp only[Ad,bnt,Aq,Agg z [] x.D x.V x.E];have i:F3 ⟨n,[]⟩=true:=(by unfold F3;simp;omega);cases ht:Dj x.V x.E v with
  | none=>exact⟨[],8,rfl,nofun,λh=>by cases h⟩
  | some t=>
   simp only[Option.isSome_some,bnt,Aq,Alj,i,Ad,U7 z [] x.D x.V x.E ht];by_cases hk:t.G=7
   .have b:It x.V x.E ⟨n,[]⟩=true:=rfl;have c:∀t∈p,(∀f∈t.M.F,Q8 x TT (phA v ⟨n,[]⟩ f)/\dgM x (phA v ⟨n,[]⟩ f)=Dz x.D x.V x.E f)/\∀a∈t.M.A,Q8 x TT (psA a)/\dgM x (psA a)=a.P:=λu hu=>by
     have hc:=(s.mo u hu).f;refine⟨λf hf=>?_,λa ha=>Anm (by have:=(hc.atm a ha).1;omega) (hc.atm a ha).2.1 (hc.atm a ha).2.2.2⟩;by_cases e:f.v=v
     .obtain⟨I,G⟩:=Ayb ht hk e (hc.fac f hf);rw[Ah4 e,<-G];exact Anm I i b
     .rw[Ah5 e];exact Anl ((hp.sz u hu).mo.fr f hf).2 ((hp.sz u hu).mo.fr f hf).1 (hc.fac f hf) ((hp.sh u hu).2.2 f hf)
    obtain⟨R,M,L,D,J,B,A⟩:=Axv (W:=TT) (Z:=240) (k:=8) y hf δ δ (fac:=λf=>Wf f v ⟨n,[]⟩) (atm:=Wg) (φ:=phA v ⟨n,[]⟩) (ψ:=psA) s (λt ht=>Ax9 (hp.sz t ht) (hp.sh t ht)) hp.len (λ_ _ f _=>Bcz f v _) (λ_ _ _ _=>rfl) (λt ht f hf=>by have:=((c t ht).1 f hf).1.one;omega) (λt ht a ha=>by have:=((c t ht).2 a ha).1.one;omega) (λt ht=>Ax3 (s.mo t ht).f (c t ht).1 (c t ht).2 (Bc1 (s.mo t ht).f _ _)) E (PMg.nil _ _ _);rw[Gb hk];simp only[Aq,Atl z [] x.D x.V x.E ⟨n,[]⟩ ψ,b,bnt,Ad,replace_eq,D];refine⟨_,_,rfl,Ayc B,λl=>⟨hf,s,⟨t,rfl,hk⟩,?_⟩⟩;rw[(Anp l)];exact A
   .rw[F2 hk];exact⟨[],6,rfl,nofun,λh=>by cases h⟩
 .have l:=Amj y j ψ hv;unfold Wc;rw[l];exact⟨[],1,rfl,nofun,λh=>by cases h⟩
theorem Bc4 (A:List Bd) (v:Int) (l:Bn) (q:∀a∈A,F3 a.L=true) (u:A.length<=1048576) : ∃z,Ak (S:=Int) (E:=((List Aj×Int)⊕Int)) (λv39=> bif v39<(A.length:Int) then ((Ag A v39).bind λv40=> (T1 v40.L v).bind λi=> bif i then ((Lj v40.L l).bind λg=> bif (g != (0:Int)) then (some (.inr (.inl ([],14)))) else (some (.inl (Ac (v39+1))))) else (some (.inl (Ac (v39+1))))) else (some (.inr (.inr v39)))) 0=some z/\(z = .inl ([],14)\/((∃j,z = .inr j)/\∀a∈A,Ez a.L l=0\/∀t∈a.L.T,t.v≠v)):=by
 refine Ka (S:=Int) (E:=(List Aj×Int)⊕Int) (λs=>∃j:Nat,s=(j:Int)/\j<=A.length/\∀a∈A.take j,Ez a.L l=0\/∀t∈a.L.T,t.v≠v) (λs=>A.length-s.toNat) (λz=>z = .inl ([],14)\/((∃j,z = .inr j)/\∀a∈A,Ez a.L l=0\/∀t∈a.L.T,t.v≠v)) ?_ 0 ⟨0,rfl,ω,ψ⟩;rintro _ ⟨j,rfl,hj,f⟩;rcases Cj j A.length with h|h
 .have hx:A[j]? = some A[j]:=Bs h;generalize A[j]=a at hx;have k:=Bu hx;obtain⟨b,b1,b2⟩:=Bcw (q a k) v;simp only[As (ω:(j:Int)<(A.length:Int)),Am,Br rfl hx,Ad,b1,C5 h ω];have next:(Ez a.L l=0\/∀t∈a.L.T,t.v≠v)->∀c∈A.take (j+1),Ez c.L l=0\/∀t∈c.L.T,t.v≠v:=λha c hc=>by
   rw[C4 hx]at hc;rcases Ej.1 hc with hc|hc
   .exact f c hc
   .rw[Ea]at hc;rw[hc];exact ha
  cases b with
  | false=>exact .inl ⟨_,rfl,⟨j+1,rfl,ω,next (.inr (b2 rfl))⟩,by simp only[Int.toNat_natCast];omega⟩
  | true=>
   have:=(Yc (q a k)).1;simp only[Am,Xs _ _ (ω:a.L.T.length<1099511627776),Ad];by_cases e:Ez a.L l=0
   .rw[Gb e];exact .inl ⟨_,rfl,⟨j+1,rfl,ω,next (.inl e)⟩,by simp only[Int.toNat_natCast];omega⟩
   .rw[F2 e];exact .inr ⟨_,rfl,.inl rfl⟩
 .have:j=A.length:=ω;subst this;rw[Db]at f;exact .inr ⟨.inr (A.length:Int),by simp only[A5 (ω:¬(A.length:Int)<(A.length:Int)),Aq],.inr ⟨⟨_,rfl⟩,f⟩⟩
theorem Bc5 (p:List Aj) (v:Int) (l:Bn) (x:∀t∈p,(∀a∈t.M.A,F3 a.L=true)/\t.M.A.length<=1048576) (A:p.length<=1048576) :
  ∃z,Ak (S:=Int) (E:=((List Aj×Int)⊕Unit)) (λv32=>
 bif v32<(p.length:Int) then (
 (Ag p v32).bind λv33=>
 (Ak (S:=Int) (E:=((List Aj×Int)⊕Int)) (λv39=>
 bif v39<(v33.M.A.length:Int) then (
 (Ag v33.M.A v39).bind λv40=>
 (T1 v40.L v).bind λg=>
 bif g then (
 (Lj v40.L l).bind λf=>
 bif (f != (0:Int)) then (
 some (.inr (.inl ([],14)))
 )
 else (
 some (.inl (Ac (v39+1)))
 )
 )
 else (
 some (.inl (Ac (v39+1)))
 )
 )
 else (
 some (.inr (.inr v39))
 )
  ) 0).bind λz=>
 match z with
 | .inl (q,k)=>(
 some (.inr (.inl (q,k)))
 )
 | .inr _=>(
 some (.inl (Ac (v32+1)))
 )
 )
 else (
 some (.inr (.inr ()))
 )
  ) 0=some z/\(z = .inl ([],14)\/(z = .inr ()/\∀t∈p,∀a∈t.M.A,Ez a.L l=0\/∀t∈a.L.T,t.v≠v)):=by
 refine Ka (S:=Int) (E:=(List Aj×Int)⊕Unit) (λs=>∃j:Nat,s=(j:Int)/\j<=p.length/\∀t∈p.take j,∀a∈t.M.A,Ez a.L l=0\/∀t∈a.L.T,t.v≠v) (λs=>p.length-s.toNat) (λz=>z = .inl ([],14)\/(z = .inr ()/\∀t∈p,∀a∈t.M.A,Ez a.L l=0\/∀t∈a.L.T,t.v≠v)) ?_ 0 ⟨0,rfl,ω,ψ⟩
 rintro _ ⟨j,rfl,hj,b⟩
 rcases Cj j p.length with h|h
 .have hx:p[j]? = some p[j]:=Bs h
  generalize p[j]=t at hx
  have u:=Bu hx
  obtain⟨z,y,z2⟩:=Bc4 t.M.A v l (x t u).1 (x t u).2
  simp only[As (ω:(j:Int)<(p.length:Int)),Am,Br rfl hx,Ad,C5 h ω]
  rw[y,Ad]
  rcases z2 with rfl|⟨⟨i,rfl⟩,h2⟩
  .exact .inr ⟨_,rfl,.inl rfl⟩
  .refine .inl ⟨_,rfl,⟨j+1,rfl,ω,λc hc=>?_⟩,by simp only[Int.toNat_natCast];omega⟩
   rw[C4 hx]at hc
   rcases Ej.1 hc with hc|hc
   .exact b c hc
   .rw[Ea]at hc;rw[hc];exact h2
 .have:j=p.length:=ω
  subst this
  rw[Db]at b
  exact .inr ⟨.inr (),by simp only[A5 (ω:¬(p.length:Int)<(p.length:Int)),Aq],.inr ⟨rfl,b⟩⟩
def Kx (v:Int):Bn:=⟨0,[⟨v,1⟩]⟩
theorem Bc6 (A:CSz x) (hp:Ano x p) (v w:Int) : ∃R e,We x p v w=some (R,e)/\(e=0->∀t∈R,TSz t)/\(e=0->Hq x/\I6 x p/\(∃t,Dj x.V x.E v=some t/\t.G=1)/\(∃t,Dj x.V x.E w=some t/\t.G=7)/\(∀t∈p,∀a∈t.M.A,Ez a.L (Kx v)=0\/∀t∈a.L.T,t.v≠v)/\∀χ g,(∀t∈p,Ol x.D x.V x.E χ (rpM phB (psB (Kx v) w) t.M).F)->Mx g->G4 χ g R=rpS phB (psB (Kx v) w) χ g p):=by
 have s:∀q∈[p],∀t∈q,TSz t:=λq hq=>by rw[Ea]at hq;subst hq;exact hp.sz
 by_cases hv:Hq x/\∀q∈[p],I4 x.D x.V x.E q=true
 .obtain⟨G,y,X⟩:=Amk A s ψ hv;have hf:=hv.1;have j:I6 x p:=⟨hv.2 p ψ,hp.sz⟩;unfold We;rw[y];simp only[Ad,bnt,Aq,Agg G [] x.D x.V x.E];cases ht:Dj x.V x.E v with
  | none=>exact⟨[],8,rfl,nofun,λh=>by cases h⟩
  | some t=>
   simp only[Option.isSome_some,bnt,Aq,U7 G [] x.D x.V x.E ht,Ad];cases hu:Dj x.V x.E w with
   | none=>exact⟨[],8,rfl,nofun,λh=>by cases h⟩
   | some u=>
    simp only[Option.isSome_some,bnt,Aq,U7 G [] x.D x.V x.E hu,Ad];by_cases hk:t.G=1
    .rw[Gb hk];simp only[Aq,Ad];by_cases i:u.G=7
     .have B : -1<=v/\v<3000:=(by have h1:=Abg x.V x.E v;rw[ht]at h1;have h1:=of_decide_eq_true h1.symm;have h2:=hf.1;omega);have V : -1<=w/\w<3000:=(by have h1:=Abg x.V x.E w;rw[hu]at h1;have h1:=of_decide_eq_true h1.symm;have h2:=hf.1;omega);have l:Y9 v=some (Kx v):=(by unfold Y9;rw[Ati,As B];rfl);rw[Gb i];simp only[Aq,l,Ad];have Y:∀t∈p,(∀a∈t.M.A,F3 a.L=true)/\t.M.A.length<=1048576:=λt ht=>⟨λa ha=>((j.mo t ht).f.atm a ha).2.1,(hp.sz t ht).mo.na⟩;obtain⟨z,I,z2⟩:=Bc5 p v (Kx v) Y (by have:=hp.len;omega);rcases z2 with rfl|⟨rfl,h2⟩
      .exact⟨[],14,bnd I rfl,nofun,λh=>by cases h⟩
      .have b:∀t∈p,(∀f∈t.M.F,Q8 x TT (phB f)/\dgM x (phB f)=Dz x.D x.V x.E f)/\∀a∈t.M.A,Q8 x TT (psB (Kx v) w a)/\dgM x (psB (Kx v) w a)=a.P:=λt ht=>by
        have hc:=(j.mo t ht).f;refine⟨λf hf=>Anl ((hp.sz t ht).mo.fr f hf).2 ((hp.sz t ht).mo.fr f hf).1 (hc.fac f hf) ((hp.sh t ht).2.2 f hf),λa ha=>?_⟩;have h1:=(hc.atm a ha).1;by_cases e:Ez a.L (Kx v)=0
        .have hb:=Alk t.M.A λc E=>(by have:=(hc.atm c E).1;omega);have h6:=hb.2.2 a ha;have hd:=hc.deg;have f0:=hc.fsum0;unfold Yk at hd;have D:Dz x.D x.V x.E ⟨w,⟨a.P,[]⟩⟩=a.P:=(by unfold Dz;rw[hu];show Ji (Di x.D ⟨a.P,[]⟩ u)=_;rw[Lu,Ar ω,Av i,Av ⟨by dsimp only;omega,by dsimp only;omega,rfl⟩,Pj (by dsimp only;omega)];dsimp only;omega);rw[Ah6 e];have U:Ev w:=⟨ω,ω⟩;have S:iR ⟨a.P,[]⟩:=(Og _).2 ⟨⟨by show _<=a.P;omega,by show a.P<=_;omega⟩,by simp only[E6]⟩;have N:=Anl (x:=x) (f:=⟨w,⟨a.P,[]⟩⟩) U S ω (by rw[El];simp[Cb]);rwa [D]at N
        .rw[Ah7 e];exact Anm ω (hc.atm a ha).2.1 (hc.atm a ha).2.2.2
       obtain⟨R,o1,o2,M,r2,L,J⟩:=Axv (W:=TT) (Z:=240) (k:=8) A hf δ δ (fac:=Tz) (atm:=λa=>T2 a (Kx v) w) (φ:=phB) (ψ:=psB (Kx v) w) j (λt ht=>Ax9 (hp.sz t ht) (hp.sh t ht)) hp.len (λ_ _ _ _=>rfl) (λt ht a ha=>Bc0 _ _ ((hp.sz t ht).mo.al a ha)) (λt ht f hf=>by have:=((b t ht).1 f hf).1.one;omega) (λt ht a ha=>by have:=((b t ht).2 a ha).1.one;omega) (λt ht=>Ax3 (j.mo t ht).f (b t ht).1 (b t ht).2 (Bc2 (j.mo t ht).f _ _)) X (PMg.nil _ _ _);refine⟨(lim R).1,(lim R).2,bnd I (by dsimp only;rw[Bct,M];rfl),Ayc L,λy=>⟨hf,j,⟨t,rfl,hk⟩,⟨u,rfl,i⟩,h2,?_⟩⟩;rw[Anp y];exact J
     .rw[F2 i];exact⟨[],6,rfl,nofun,λh=>by cases h⟩
    .rw[F2 hk];exact⟨[],6,rfl,nofun,λh=>by cases h⟩
 .have y:=Amj A s ψ hv;unfold We;rw[y];exact⟨[],1,rfl,nofun,λh=>by cases h⟩
theorem Bc7 (data:List Ai) (hk:t.G=7) (w:Ax):Acl data t λi=>bv data i t w:=λi j a b _ h2 h3 _ _ _=>by
 have e:∀i,bv data i t w=bc w.K.length i.U.toNat:=λi=>by rw[Nt,Ar ω,Av hk]
 rw[show KM=399999+1 from rfl,D4,Ar ω,Av hk];rw[show (λi=>bv data i t w)=λi:Ah=>bc w.K.length i.U.toNat from funext e,Awn]
theorem Acy {f c:List Ax} {b:Ax} {a:Ax} (g:Acx f res v a c b) (h:f.length=x.V.length) (hu:u≠v) (ht:(Dj x.V x.E u).isSome=true):Dk c b u=Dk f res u:=by rw[Abg,Du]at ht;exact g.off u hu ω
theorem Ayd {f c:List Ax} {b:Ax} {a:Ax} (i:Acx f res v a c b) (g:f.length=x.V.length) (hu:u≠v) (h:Iv x c b u=true):Iv x f res u=true:=by unfold Iv at h ⊢;cases ht:Dj x.V x.E u with| none=>rw[ht]at h;exact h| some t=>rw[ht]at h;rw[Acy i g hu (by rw[ht];rfl)]at h;exact h
theorem Aye {val b:Int->Ax} (h:∀t∈l.T,b t.v=val t.v):fv b l=fv val l:=by unfold fv Mu;rw[map_congr_left λt ht=>by rw[h t ht]]
theorem Ayf {val b:Int->Ax} {f:Bb} (h:b f.v=val f.v):H9 x b f=H9 x val f:=by unfold H9;rw[h]
theorem Anq (χ:Bb->Nat) (g:Bn->Nat) (f:Bb):mX χ g ⟨[f],[]⟩=χ f:=by unfold mX;simp[Dv,Gc]
theorem Anr (χ:Bb->Nat) (g:Bn->Nat) (a:Bd):mX χ g ⟨[],[a]⟩=bc (g a.L) a.P.toNat:=by unfold mX;simp[Dv,Gc]
theorem Bc8 (ht:Dj x.V x.E v=some t) (hk:t.G=7) (h:It x.V x.E l=true):∀u∈l.T,u.v≠v/\(Dj x.V x.E u.v).isSome=true:=λu hu=>by have h1:=G7.1 h u hu;unfold Sl at h1;cases hx:Dj x.V x.E u.v with| none=>rw[hx]at h1;cases h1| some s=>rw[hx]at h1;have b:s.G=1:=eq_of_beq h1;refine⟨λe=>?_,rfl⟩;rw[e,ht]at hx;cases hx;omega
theorem Bc9 (h:It x.V x.E l=true):∀u∈l.T,(Dj x.V x.E u.v).isSome=true:=λu hu=>by have h1:=G7.1 h u hu;unfold Sl at h1;cases hx:Dj x.V x.E u.v with| none=>rw[hx]at h1;cases h1| some s=>rfl
theorem Bda (A:I6 x p) {n:Int} (h0:0<=n) (ht:Dj x.V x.E v=some t) (hk:t.G=7) {i:List Ax} {k:List Ax} (D:(k.length:Int)=n) (l:Acx b res v ⟨6,0,k⟩ i h) (y:b.length=x.V.length) (q:∀u∈Hj p,Iv x i h u=true) (E:∀χ g,(∀t∈p,Ol x.D x.V x.E χ (rpM (phA v ⟨n,[]⟩) psA t.M).F)->Mx g->G4 χ g R=rpS (phA v ⟨n,[]⟩) psA χ g p):K9 x (Dk b res) R=K9 x (Dk i h) p:=by
 rw[Acs,Acs,E (H9 x (Dk b res)) (fv (Dk b res)) (λt ht=>Axr λf hf=>?_) (Ana _)]
 .refine Anh p λu hu=>⟨λf hf=>?_,λa ha=>?_⟩
  .have j:=(A.mo u hu).f.fac f hf;by_cases e:f.v=v
   .obtain⟨J,I⟩:=Ayb ht hk e j;rw[Ah4 e,Anr];unfold H9;rw[e,ht,l.at_];show _=bv x.D f.I t ⟨6,0,k⟩;rw[Nt,Ar ω,Av hk,Ana (Dk b res) ⟨n,[]⟩ rfl];have:n.toNat=k.length:=ω;show bc n.toNat f.I.U.toNat=_;rw[this]
   .obtain⟨s,_,B,_⟩:=Vp j;rw[Ah5 e,Anq,Ayf (Acy l y e (by rw[B];rfl))]
  .have hi:=Bc8 ht hk ((A.mo u hu).f.atm a ha).2.2.2;show mX _ _ ⟨[],[a]⟩=_;rw[Anr,Aye λc hc=>Acy l y (hi c hc).1 (hi c hc).2]
 .rw[Ah9]at hf;rcases Ej.1 hf with hf|hf
  .obtain⟨G,z,hf⟩:=mem_flatMap.1 hf;obtain⟨rfl,e⟩:=Anj hf;exact Ayd l y e (q _ (Aya.2 ⟨t,ht,S8.2 (.inl ⟨f,z,rfl⟩)⟩))
  .obtain⟨a,_,ha⟩:=mem_flatMap.1 hf;cases ha
theorem Bdb (G:I6 x p) {s:Af} (ht:Dj x.V x.E v=some t) (hk:t.G=1) (J:Dj x.V x.E w=some s) (y:s.G=7) (M:∀t∈p,∀a∈t.M.A,Ez a.L (Kx v)=0\/∀t∈a.L.T,t.v≠v) {j:List Ax} (B:Acx b res v ⟨3,((Dk b res w).K.length:Int),[]⟩ j h) (E:b.length=x.V.length) (D:∀u∈Hj p,Iv x j h u=true) (L:∀χ g,(∀t∈p,Ol x.D x.V x.E χ (rpM phB (psB (Kx v) w) t.M).F)->Mx g->G4 χ g R=rpS phB (psB (Kx v) w) χ g p):K9 x (Dk b res) R=K9 x (Dk j h) p:=by
 have l:∀u∈p,∀f∈u.M.F,f.v≠v:=λu hu f hf e=>by
  obtain⟨s,d,I,A,N,_⟩:=Vp ((G.mo u hu).f.fac f hf);rw[e,ht]at I;cases I;rw[Lu,Ar ω,Ar ω,Ar ω]at A;split at A
  .cases A;omega
  .cases A
 have hw:∀i,H9 x (Dk b res) ⟨w,i⟩=bv x.D i s (Dk b res w):=λi=>by unfold H9;rw[J]
 rw[Acs,Acs,L (H9 x (Dk b res)) (fv (Dk b res)) (λt ht g hg=>?_) (Ana _)]
 .refine Anh p λu hu=>⟨λf hf=>?_,λa ha=>?_⟩
  .obtain⟨c,_,c1,_⟩:=Vp ((G.mo u hu).f.fac f hf);show mX _ _ ⟨[f],[]⟩=_;rw[Anq,Ayf (Acy B E (l u hu f hf) (by rw[c1];rfl))]
  .have hi:=Bc9 ((G.mo u hu).f.atm a ha).2.2.2;by_cases e:Ez a.L (Kx v)=0
   .have el:=(K7.zero a.L (Kx v) trivial trivial).1 e;have hv:fv (Dk j h) (Kx v)=(Dk b res w).K.length:=(by unfold fv Mu Kx;simp[B.at_]);rw[Ah6 e,Anq,hw,Nt,Ar ω,Av y,el,hv]
   .rw[Ah7 e,Anr,Aye λc hc=>Acy B E ((M u hu a ha).resolve_left e c hc) (hi c hc)]
 .rw[Ah9]at hg;rcases Ej.1 hg with hf|hf
  .obtain⟨S,z,hf⟩:=mem_flatMap.1 hf;simp only[phB,Ea]at hf;subst hf;exact Axr (F:=[g]) (λq hq=>by rw[Ea]at hq;subst hq;exact Ayd B E (l t ht _ z) (D _ (Aya.2 ⟨t,ht,S8.2 (.inl ⟨_,z,rfl⟩)⟩))) g ψ
  .obtain⟨a,_,ha⟩:=mem_flatMap.1 hf;obtain⟨_,rfl⟩:=Ank ha;intro s' k;have k:Dj x.V x.E w=some s':=k;rw[J]at k;cases k;refine⟨?_,λi h0 _ _=>?_⟩
   .show Acl x.D s λi=>H9 x (Dk b res) ⟨w,i⟩;rw[show (λi=>H9 x (Dk b res) ⟨w,i⟩)=λi=>bv x.D i s (Dk b res w) from funext hw];exact Bc7 x.D y _
   .show H9 x (Dk b res) ⟨w,i⟩=1;rw[hw];exact (Axq x.D (Bv i)).1 i s _ (Nat.le_refl _) h0
theorem Bdc (n:Int) (h0:0<=n) (f:n<=40) (a:Ax):Ak (S:=(Int×List Ax)) (E:=(List Ax)) (λx=>bif decide (x.fst<n) then (Cd 40 x.snd [a]).bind λb=>some (Sum.inl (Ac (x.fst+1),b)) else some (Sum.inr x.snd)) (0,[])=some (replicate n.toNat a):=by
 obtain⟨e,c,rfl⟩:=Ka (S:=Int×List Ax) (E:=List Ax) (step:=λx=>bif decide (x.fst<n) then (Cd 40 x.snd [a]).bind λb=>some (Sum.inl (Ac (x.fst+1),b)) else some (Sum.inr x.snd)) (λs=>∃j:Nat,s=((j:Int),replicate j a)/\j<=n.toNat) (λs=>n.toNat-s.1.toNat) (λe=>e=replicate n.toNat a) (by
  rintro _ ⟨j,rfl,hj⟩;rcases Cj j n.toNat with h|h
  .left;refine⟨(((j+1:Nat):Int),replicate (j+1) a),?_,⟨j+1,rfl,ω⟩,by simp only[Int.toNat_natCast];omega⟩;simp only[As (ω:(j:Int)<n),Am];rw[D2 ζ,Ad,C5 h ω,replicate_succ']
  .right;have:j=n.toNat:=ω;subst this;exact⟨replicate n.toNat a,by simp only[A5 (ω:¬((n.toNat:Nat):Int)<n),Aq],rfl⟩) (0,[]) ⟨0,rfl,ω⟩;exact c
theorem Bdd (n:Nat) (a:Ax):Cp ⟨6,0,replicate n a⟩=1+n*Cp a:=by
 have:∀n:Nat,D0 (replicate n a)=n*Cp a:=λn=>by induction n with| zero=>simp[D0]| succ n ih=>rw[replicate_succ,D0,ih,Nat.succ_mul];omega
 rw[Cp,this]
theorem Ayg {q:List Aj} {f c:List Ax} {b:Ax} {u w:Ao} (hu:Vn x p f res u) (hw:Vn x q c b w) (h:K9 x (Dk f res) p=K9 x (Dk c b) q):Rp u w=some true:=by have:u=w:=Agv hu.can hw.can (by rw[hu.val,hw.val,h]);subst this;have:=hu.rb;exact A8t u (by have:=this.nl;omega) (by have:=this.dl;omega)
theorem Bde {X:Option (Bool⊕Unit)} {K:Bool⊕Unit->OB} (b:∃z,X=some z/\(z = .inl true\/z = .inr ())) (h1:K (.inl true)=some true) (h2:K (.inr ())=some true):X.bind K=some true:=by
 obtain⟨z,rfl,rfl|rfl⟩:=b
 .exact h1
 .exact h2
theorem Bdf (x:B9) (p:List Aj) (v w n:Int) (g:List Ax) (res:Ax) (A:CSz x) (hl:p.length<=1048576) (hp:∀t∈p,TSz t) (G:g.length<=1048576) (j:∀v∈g,Cp v<=1048576) (h:Cp res<=1048576):Aei x p v w n g res=some true:=by
 unfold Aei;obtain⟨b,b1,b2⟩:=Bcp x A [p] ψ (λr hr=>by rw[Ea]at hr;subst hr;exact⟨hl,hp⟩);obtain⟨c,c1,c2⟩:=Bcy g res G j h;rw[b1,Ad,c1];cases b with
 | false=>rfl
 | true=>
 cases c with
 | false=>rfl
 | true=>
 obtain⟨a1,a6⟩:=c2 rfl;have M:Ano x p:=⟨(b2 rfl p ψ).1,hp,(b2 rfl p ψ).2⟩;simp only[bnt,Aq,Ad];by_cases N:g.length=x.V.length
 .by_cases h0:n<0
  .rw[Gb ω,As h0];rfl
  .by_cases U:n>40
   .rw[Gb ω,A5 h0,As U];rfl
   .rw[Gb ω,A5 h0,A5 U];simp only[Aq,Ad];obtain⟨R,e,r1,aa,r2⟩:=Bc3 A M v n ω ω;obtain⟨T,f,t1,a8,t2⟩:=Bc6 A M v w;rw[r1,Ad,t1];simp only[Ad,A8q];refine Bde ?_ rfl ?_
    .by_cases X:e=0
     .rw[Eu X,Am];obtain⟨hf,hP,⟨t,ht,hk⟩,hR⟩:=r2 X;obtain⟨a,o,o1,Z⟩:=Ani g res v;rw[o1,Ad];cases o with
      | false=>exact⟨_,rfl,.inl rfl⟩
      | true=>
       obtain⟨ha,B⟩:=Z rfl;simp only[bnt,Aq];by_cases S:(a.K.length:Int)>0
       .obtain⟨y,hy⟩:∃y,a.K[0]? = some y:=⟨_,Bs ω⟩;have hi:Ag a.K 0=some y:=Br (n:=0) rfl hy;have ac:=L7 (Bu hy);rw[As S,Am,hi,Ad,Bdc n ω ω,Ad];have ad:=Lv a;have ae:Cp a<=400:=(by rw[ha];exact Avj a1 a6 v);obtain⟨V,J,Y,I⟩:=Ax8 g res v ⟨6,0,replicate n.toNat y⟩ G B;have i:=I.mem 1048576 (by rw[Bdd];have:n.toNat*Cp y<=40*400:=Nat.mul_le_mul ω ω;omega) j h;rw[Y,Ad];have ab:∀t∈R,TSz t:=aa X;obtain⟨z1,h1,z⟩:=Ah3 A ab j h;obtain⟨z2,h2,u⟩:=Ah3 A hp i.1 i.2;rw[h1,Ad,h2,Ad];rcases z with z|⟨_,_,_,_,u1,rfl,E⟩
        .rw[C3 z];exact⟨_,rfl,.inr rfl⟩
        .rcases u with u|⟨_,_,_,l,u2,rfl,D⟩
         .rw[C3 u];exact⟨_,rfl,.inr rfl⟩
         .have L:=Ayg E D (Bda hP ω ht hk ζ I N l hR);dsimp only;rw[L];exact⟨_,rfl,.inr rfl⟩
       .rw[A5 S];exact⟨_,rfl,.inr rfl⟩
     .rw[C3 X];exact⟨_,rfl,.inr rfl⟩
    .dsimp only;by_cases k:f=0
     .rw[Eu k,Am];obtain⟨hf,hP,⟨t,ht,hk⟩,⟨s,L,a7⟩,hA,hT⟩:=t2 k;obtain⟨a,o,o1,Z⟩:=Ani g res w;obtain⟨c,q,q1,q2⟩:=Ani g res v;rw[o1,Ad,q1,Ad];cases o with
      | false=>rfl
      | true=>
       cases q with
       | false=>rfl
       | true=>
        obtain⟨ha,_⟩:=Z rfl;obtain⟨_,B⟩:=q2 rfl;simp only[bnt,Aq,Ad];obtain⟨V,J,Y,I⟩:=Ax8 g res v ⟨3,(a.K.length:Int),[]⟩ G B;have i:=I.mem 1048576 (by simp[Cp,D0]) j h;rw[Y,Ad];obtain⟨z1,h1,z⟩:=Ah3 A (a8 k) j h;obtain⟨z2,h2,u⟩:=Ah3 A hp i.1 i.2;rw[h1,Ad,h2,Ad];rcases z with z|⟨_,_,_,_,u1,rfl,E⟩
        .rw[C3 z];rfl
        .rcases u with u|⟨_,_,_,l,u2,rfl,D⟩
         .rw[C3 u];rfl
         .rw[ha]at I;have L:=Ayg E D (Bdb hP ht hk L a7 hA I N l hT);dsimp only;rw[L];rfl
     .rw[C3 k];rfl
 .rw[F2 ω];rfl
end Go.Ab
