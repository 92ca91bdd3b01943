/- Plain laws. -/
import Derived.Test.YtadpefofplenmaaGreatDoorWrPl2
import Derived.Test.YtadpefofplenmaaGreatDoorWrPl1
import Derived.KernelRfl
open List
namespace Go.Ab
open Go
variable{x:A8}{t u:Ae}{Θ:Ai}{a:An}{m:Aw}{v w y:Int}{Δ:A0}{p q:Ad}{Ξ:A1}{P S X b l:Ag}{j k n:Nat}{E R α β:Type}{g:α->Ag}
def Rw(b:Bool)(n d:Nat):An:=if d=0 then⟨false,[],[1]⟩else Bj b n d
theorem Ahv(h:n≠0):(Ah n).length≠0:=λe=>Kc h (Fm.1 e)
theorem Am2(c:Bool)(a b:Ag)(B:Ni a)(hb:Ni b)(k:a.length<137438953400)(j:b.length<137438953400):La c a b=some (Rw c (Ap a).toNat (Ap b).toNat):=by unfold La;have D:=Aho B;have F:=Aho hb;rw[Avb a B ω,Ac,Avb b hb ω,Ac];generalize(Ap a).toNat=n at *;generalize(Ap b).toNat=d at *;by_cases o:n=0;subst o;have:Rw c 0 d=⟨false,[],[1]⟩:=(by unfold Rw;split<;>simp[Bj]);rw[this,He];rfl;have h:=Ahv o;by_cases r:d=0;subst r;simp only[Ck (ω:((Ah n).length:Int)≠0),Aj,He,Ac];rfl;have i:=Ahv r;have f:Nat.gcd n d≠0:=(by have:=Nat.gcd_pos_of_pos_left d (ω:0<n);omega);have q:Bp (Nat.gcd n d)<=Bp n:=Iy (Nat.gcd_le_left d (ω:0<n));simp only[Ck (ω:((Ah n).length:Int)≠0),Aj,Ck (ω:((Ah d).length:Int)≠0),Ac,A8e n d ω ω];rw[Rw,Au r,Bj,Au o];(have s:(bif(((Ah (Nat.gcd n d)).length:Int) != (1:Int))then some true else((Af (Ah (Nat.gcd n d)) 0).bind λg=>some (g != (1:Int))))=some (decide (Nat.gcd n d≠1)):=by have e:=Amv (Nat.gcd n d);unfold Vh at e;by_cases l:(Ah (Nat.gcd n d)).length=1;rw[Es (ω:((Ah (Nat.gcd n d)).length:Int)=1),Ak]at e;rw[Dv (ω:((Ah (Nat.gcd n d)).length:Int)=1),Aj];(cases C:Af (Ah (Nat.gcd n d)) 0 with|none=>rw[C]at e;cases e|some v=>rw[C]at e;simp only[Ac]at e⊢;have e:=Fv e;congr 1;rw[bne,e];simp);rw[Ck (ω:((Ah (Nat.gcd n d)).length:Int)≠1),Aj]at e;rw[D5 (ω:((Ah (Nat.gcd n d)).length:Int)≠1),Ak];have e:=Fv e;have:Nat.gcd n d≠1:=(by simpa using e.symm);rw[Al this]);rw[s,Ac];by_cases A:Nat.gcd n d=1;rw[Am (by simpa using A),Aj,A];simp;rw[Al A,Ak,Am1 n _ ω ω f,Ac,Am1 d _ ω ω f,Ac]
theorem A8f(a:An):Rw a.N (Ap a.U).toNat (Ap a.B).toNat=Bj (sv a) (nv a) (dv a):=by unfold Rw sv nv dv;by_cases d:(Ap a.U).toNat=0;simp[d,Bj];by_cases e:(Ap a.B).toNat=0;simp[e,Bj];simp[d,e]
theorem Rx(a:An)(k:Nat)(h:RB k a)(d:k<137438953400):Lo a=some (Bj (sv a) (nv a) (dv a)):=by unfold Lo;have:=h.nl;have:=h.dl;rw[Am2 _ _ _ h.num h.den ω ω,Ac,A8f]
theorem Wi(s:Bool)(n d:Nat)(h:d≠0):(Bj s n d).U=Ah (nv (Bj s n d))/\(Bj s n d).B=Ah (dv (Bj s n d))/\(Bj s n d).N=sv (Bj s n d):=by obtain⟨i,o,r,c⟩:=Wg s n d h;rw[i,o];by_cases e:n=0;subst e;rw[c rfl,Zg];have b:d/Nat.gcd 0 d=1:=(by rw[Nat.gcd_zero_left];exact Nat.div_self ω);rw[b,Nat.zero_div,He,Ze];exact⟨rfl,rfl,rfl⟩;rw[r e];simp[Bj,e]
theorem Tx(a:An):∃g:Nat,g≠0/\nv a=g*nv (Bj (sv a) (nv a) (dv a))/\dv a=g*dv (Bj (sv a) (nv a) (dv a))/\sv (Bj (sv a) (nv a) (dv a))=sv a:=by obtain⟨e,h,i,b⟩:=Wg (sv a) (nv a) (dv a) (Fj a);have r:=Fj a;have s:0<Nat.gcd (nv a) (dv a):=Nat.gcd_pos_of_pos_right _ ω;refine⟨Nat.gcd (nv a) (dv a),ω,?_,?_,?_⟩;rw[e];exact(Nat.mul_div_cancel' (Nat.gcd_dvd_left _ _)).symm;rw[h];exact(Nat.mul_div_cancel' (Nat.gcd_dvd_right _ _)).symm;by_cases d:nv a=0;rw[b d];unfold nv at d;unfold sv;split at d;rename_i o;rw[Ar o];omega;exact i d
theorem A8g(s:Bool)(n d:Nat)(h:d≠0):Rw s n d=Bj s n d:=by rw[Rw,Au h]
theorem Wj(b:Bool)(n d:Nat)(e:Bp n<137438953400)(h:Bp d<137438953400)(c:d≠0):La b (Ah n) (Ah d)=some (Bj b n d):=by unfold Bp at e h;rw[Am2 b _ _ (F5 n).u32 (F5 d).u32 e h,Gl,Gl,Int.toNat_natCast,Int.toNat_natCast,A8g _ _ _ c]
theorem Avc(h:RB k a):RB (k+1) (Bj (sv a) (nv a) (dv a)):=Jb _ _ _ _ h.nv h.dv ω
theorem Zi(h:RB k a):Bp (nv (Bj (sv a) (nv a) (dv a)))<=k+1/\Bp (dv (Bj (sv a) (nv a) (dv a)))<=k+1:=by obtain⟨g,r,d,e,_⟩:=Tx a;have i:=h.nv;have o:=h.dv;refine⟨Nat.le_trans (Iy ?_) i,Nat.le_trans (Iy ?_) o⟩;exact Nat.le_trans (Nat.le_mul_of_pos_left _ ω) (Nat.le_of_eq d.symm);exact Nat.le_trans (Nat.le_mul_of_pos_left _ ω) (Nat.le_of_eq e.symm)
theorem Avd(a b:An)(j k:Nat)(e:RB j a)(hb:RB k b)(G:j<34359738368)(H:k<34359738368):Jx a b=some (Bj (sv a != sv b) (nv a*nv b) (dv a*dv b)):=by unfold Jx;rw[Rx a j e ω,Ac,Rx b k hb ω,Ac];obtain⟨g,o,r,B,C⟩:=Tx a;obtain⟨h,f,D,F,s⟩:=Tx b;obtain⟨f1,f2,f3⟩:=Wi (sv a) (nv a) (dv a) (Fj a);obtain⟨q,l,i⟩:=Wi (sv b) (nv b) (dv b) (Fj b);obtain⟨A,y⟩:=Zi e;obtain⟨x,u⟩:=Zi hb;rw[f1,f2,f3,q,l,i,C,s];generalize I:Bj (sv a) (nv a) (dv a)=c at *;generalize J:Bj (sv b) (nv b) (dv b)=d at *;have K:=Hn (nv c) (nv d);have L:=Hn (dv c) (dv d);have z:dv c*dv d≠0:=Nat.mul_ne_zero (Fj c) (Fj d);rw[Tw _ _ ω ω,Ac,Tw _ _ ω ω,Ac,Wj _ _ _ ω ω z,Ac];rw[r,B,D,F,show g*nv c*(h*nv d)=g*h*(nv c*nv d)by grind,show g*dv c*(h*dv d)=g*h*(dv c*dv d)by grind,Ph _ _ _ _ (Nat.mul_ne_zero o f)]
theorem A8h(l:Bool)(c j:Nat)(k:Bool)(b i g h:Nat)(hg:g≠0)(x:h≠0):I1 l (g*c) (g*j) k (h*b) (h*i)=g*h*I1 l c j k b i/\K0 l (g*c) (g*j) k (h*b) (h*i)=K0 l c j k b i:=by(have u:g*c*(h*i)=g*h*(c*i):=by grind);(have s:h*b*(g*j)=g*h*(b*j):=by grind);have d:(g*h*(b*j)<=g*h*(c*i))↔(b*j<=c*i):=Nat.mul_le_mul_left_iff (Nat.mul_pos ω ω);unfold I1 K0;rw[u,s];by_cases q:l=k;simp only[Ar q];exact⟨by rw[Nat.mul_add],trivial⟩;simp only[Au q];by_cases f:b*j<=c*i;simp only[Ar f,Ar (d.2 f)];exact⟨by rw[Nat.mul_sub],trivial⟩;simp only[Au f,Au λh=>f (d.1 h)];exact⟨by rw[Nat.mul_sub],trivial⟩
theorem Am3(a b:An)(j k:Nat)(o:RB j a)(hb:RB k b)(K:j<34359738368)(L:k<34359738368):Su a b=some (Bj (K0 (sv a) (nv a) (dv a) (sv b) (nv b) (dv b)) (I1 (sv a) (nv a) (dv a) (sv b) (nv b) (dv b)) (dv a*dv b)):=by unfold Su;rw[Rx a j o ω,Ac,Rx b k hb ω,Ac];obtain⟨g,r,C,F,H⟩:=Tx a;obtain⟨h,l,I,J,A⟩:=Tx b;obtain⟨f1,f2,f3⟩:=Wi (sv a) (nv a) (dv a) (Fj a);obtain⟨y,x,u⟩:=Wi (sv b) (nv b) (dv b) (Fj b);obtain⟨G,E⟩:=Zi o;obtain⟨D,B⟩:=Zi hb;rw[f1,f2,f3,y,x,u,H,A];generalize M:Bj (sv a) (nv a) (dv a)=c at *;generalize N:Bj (sv b) (nv b) (dv b)=d at *;have Q:=Hn (nv c) (dv d);have T:=Hn (nv d) (dv c);have U:=Hn (dv c) (dv d);have V:=Y7 (nv c*dv d) (nv d*dv c);have W:=Iy (Nat.sub_le (nv c*dv d) (nv d*dv c));have m6:=Iy (Nat.sub_le (nv d*dv c) (nv c*dv d));have z:dv c*dv d≠0:=Nat.mul_ne_zero (Fj c) (Fj d);obtain⟨s,q⟩:=A8h (sv a) (nv c) (dv c) (sv b) (nv d) (dv d) g h r l;rw[C,F,I,J,s,q,show g*dv c*(h*dv d)=g*h*(dv c*dv d)by grind,Ph _ _ _ _ (Nat.mul_ne_zero r l)];rw[Tw _ _ ω ω,Ac,Tw _ _ ω ω,Ac,Tw _ _ ω ω,Ac];unfold K0 I1;by_cases i:sv a=sv b;have e:(sv a==sv b)=true:=(by rw[i];exact beq_self_eq_true _);rw[e,Ak,A75 _ _ ω ω,Ac,Wj _ _ _ ω ω z,Ac,Ar i,Ar i];have e:(sv a==sv b)=false:=(by simpa using i);rw[e,Aj,Ahs,Wf _ _ ω ω,Ac,Au i,Au i];by_cases f:nv d*dv c<=nv c*dv d;rw[Al (show F8 (nv c*dv d) (nv d*dv c)>=0 by rw[F8,Au ω];split<;>decide),Ak,Aht _ _ ω f,Ac,Wj _ _ _ ω ω z,Ac,Ar f,Ar f];rw[Am (show ¬F8 (nv c*dv d) (nv d*dv c)>=0 by rw[F8,Ar ω];decide),Aj,Aht _ _ ω ω,Ac,Wj _ _ _ ω ω z,Ac,Au f,Au f]
theorem Am4(a:An)(k:Nat)(h:RB k a)(o:k<137438953400):O4 a=some (Kz (sv a) (nv a)):=by unfold O4;rw[Rx a k h o,Ac];obtain⟨g,r,i,A,s⟩:=Tx a;obtain⟨f1,f2,f3⟩:=Wi (sv a) (nv a) (dv a) (Fj a);rw[f1,f3,s,Kz];by_cases d:nv a=0;(have:nv (Bj (sv a) (nv a) (dv a))=0:=by rw[d]at i;rcases Nat.mul_eq_zero.1 i.symm with h|h;exact(r h).elim;rw[d];exact h);rw[this,He,Ar d];rfl;have:nv (Bj (sv a) (nv a) (dv a))≠0:=(by intro e;rw[e,Nat.mul_zero]at i;exact d i);have:=Ahv this;rw[Ck ω,Aj,Au d];cases sv a<;>rfl
theorem Ave(a:An)(k:Nat)(h:RB k a)(i:k<137438953400):X1 a=some (Bj (!sv a) (nv a) (dv a)):=by unfold X1;have:=h.nl;have:=h.dl;rw[Am2 _ _ _ h.num h.den ω ω,Ac];congr 1;unfold Rw sv nv dv;by_cases d:(Ap a.U).toNat=0;simp[d,Bj];by_cases e:(Ap a.B).toNat=0;simp[e,Bj];simp[d,e]
theorem A8i(a:An)(k:Nat)(h:RB k a)(A:k<8589934592):Aaz a a=some 0:=by unfold Aaz U3;have e:=h.nv;have o:=h.dv;have r:=Ave a k h ω;have i:RB (k+1) (Bj (!sv a) (nv a) (dv a)):=Jb _ _ _ _ e o ω;obtain⟨j,q,l,z⟩:=Wg (!sv a) (nv a) (dv a) (Fj a);rw[r,Ac,Am3 a _ k (k+1) h i ω ω,Ac,Ac];generalize B:Bj (!sv a) (nv a) (dv a)=c at *;have C:0<Nat.gcd (nv a) (dv a):=Nat.gcd_pos_of_pos_right _ (by have:=Fj a;omega);(have u:nv a=Nat.gcd (nv a) (dv a)*nv c:=by rw[j];exact(Nat.mul_div_cancel' (Nat.gcd_dvd_left _ _)).symm);(have y:dv a=Nat.gcd (nv a) (dv a)*dv c:=by rw[q];exact(Nat.mul_div_cancel' (Nat.gcd_dvd_right _ _)).symm);(have b:I1 (sv a) (nv a) (dv a) (sv c) (nv c) (dv c)=0:=by by_cases d:nv a=0;have:nv c=0:=(by rw[j,d];simp);unfold I1;rw[d,this];split;simp;split<;>simp;have s:sv a≠sv c:=(by rw[l d];cases sv a<;>decide);have:nv c*dv a=nv a*dv c:=(by generalize Nat.gcd (nv a) (dv a)=g at *;rw[u,y];grind);unfold I1;rw[Au s,this,Ar (Nat.le_refl _),Nat.sub_self]);rw[b,Zg];(have f:RB 1 ⟨false,[],[1]⟩:=by refine⟨nofun,λx h=>?_,ψ,ψ⟩;simp at h;subst h;decide);rw[Am4 _ 1 f δ];rfl
theorem Ty(z:Int)(d : -9223372036854775808<=z)(e:z<=9223372036854775807):I6 z=some (Bj (decide (z<0)) z.natAbs 1):=by unfold I6;have j:=Qo (n:=z.natAbs) ω;have c:([1]:Ag)=Ah 1:=Ze.symm;by_cases h:z<0;have i:Aa (z+1)=z+1:=Bm ω ω;have g:Aa (0-(z+1))=0-(z+1):=Bm ω ω;have f:Bd (0-(z+1))=0-(z+1):=D7 ω ω;have b:Bd (0-(z+1)+1)=((z.natAbs:Nat):Int):=(by rw[Bd,D7 ω ω];omega);rw[Al h,Ak,i,g,f,b,Ahr,Ts _ ω,Ac,c,Wj _ _ _ ω (by rw[Jp];decide) δ,Ac];have b:Bd z=((z.natAbs:Nat):Int):=(by rw[Bd,D7 ω ω];omega);rw[Am h,Aj,b,Ahr,Ts _ ω,Ac,c,Wj _ _ _ ω (by rw[Jp];decide) δ,Ac]
theorem A8j(a b:An)(j k:Nat)(r:RB j a)(hb:RB k b)(J:j<34359738368)(K:k<34359738368)(i:nv b≠0):Yz a b=some (Bj (sv a != sv b) (nv a*dv b) (dv a*nv b),true):=by unfold Yz;rw[Rx a j r ω,Ac,Rx b k hb ω,Ac];obtain⟨g,C,F,G,H⟩:=Tx a;obtain⟨h,l,o,I,x⟩:=Tx b;obtain⟨f1,f2,f3⟩:=Wi (sv a) (nv a) (dv a) (Fj a);obtain⟨u,s,q⟩:=Wi (sv b) (nv b) (dv b) (Fj b);obtain⟨D,B⟩:=Zi r;obtain⟨A,y⟩:=Zi hb;rw[f1,f2,f3,u,s,q,H,x];generalize L:Bj (sv a) (nv a) (dv a)=c at *;generalize M:Bj (sv b) (nv b) (dv b)=d at *;have N:=Hn (nv c) (dv d);have Q:=Hn (dv c) (nv d);(have f:nv d≠0:=by intro e;rw[e,Nat.mul_zero]at o;exact i o);have z:dv c*nv d≠0:=Nat.mul_ne_zero (Fj c) f;have:=Ahv f;rw[Ck ω,Aj,Tw _ _ ω ω,Ac,Tw _ _ ω ω,Ac,Wj _ _ _ ω ω z,Ac];rw[F,G,o,I,show g*nv c*(h*dv d)=g*h*(nv c*dv d)by grind,show g*dv c*(h*nv d)=g*h*(dv c*nv d)by grind,Ph _ _ _ _ (Nat.mul_ne_zero C l)]
theorem Zj(s:Bool)(n d:Nat)(e:d≠0):∃g:Nat,g≠0/\n=g*nv (Bj s n d)/\d=g*dv (Bj s n d)/\(n≠0->sv (Bj s n d)=s)/\(n=0->sv (Bj s n d)=false):=by obtain⟨h,i,o,b⟩:=Wg s n d e;have r:0<Nat.gcd n d:=Nat.gcd_pos_of_pos_right _ ω;exact⟨Nat.gcd n d,ω,by rw[h];exact(Nat.mul_div_cancel' (Nat.gcd_dvd_left _ _)).symm,by rw[i];exact(Nat.mul_div_cancel' (Nat.gcd_dvd_right _ _)).symm,o,b⟩
theorem Avf(s t:Bool)(n d m e:Nat)(o:d≠0)(r:e≠0):Bj (sv (Bj s n d) != sv (Bj t m e)) (nv (Bj s n d)*nv (Bj t m e)) (dv (Bj s n d)*dv (Bj t m e))=Bj (s != t) (n*m) (d*e):=by obtain⟨g,A,B,C,D,_⟩:=Zj s n d o;obtain⟨h,i,F,G,k,_⟩:=Zj t m e r;(have j:Bj (s != t) (n*m) (d*e)=Bj (sv (Bj s n d) != sv (Bj t m e)) (n*m) (d*e):=by apply Ahq;intro b;have H:n≠0:=λe=>b (by rw[e];simp);have I:m≠0:=λe=>b (by rw[e];simp);rw[D H,k I]);rw[j];generalize Bj s n d=c at *;generalize Bj t m e=f at *;rw[B,C,F,G,show g*nv c*(h*nv f)=g*h*(nv c*nv f)by grind,show g*dv c*(h*dv f)=g*h*(dv c*dv f)by grind,Ph _ _ _ _ (Nat.mul_ne_zero A i)]
theorem A8k(s t:Bool)(n d m e:Nat)(A:d≠0)(B:e≠0)(r:m≠0):Bj (sv (Bj s n d) != sv (Bj t m e)) (nv (Bj s n d)*dv (Bj t m e)) (dv (Bj s n d)*nv (Bj t m e))=Bj (s != t) (n*e) (d*m)/\nv (Bj t m e)≠0:=by obtain⟨g,C,D,F,G,_⟩:=Zj s n d A;obtain⟨h,j,o,H,l,_⟩:=Zj t m e B;(have i:nv (Bj t m e)≠0:=by intro z;rw[z,Nat.mul_zero]at o;exact r o);refine⟨?_,i⟩;(have k:Bj (s != t) (n*e) (d*m)=Bj (sv (Bj s n d) != sv (Bj t m e)) (n*e) (d*m):=by apply Ahq;intro b;have I:n≠0:=λe=>b (by rw[e];simp);rw[G I,l r]);rw[k];generalize Bj s n d=c at *;generalize Bj t m e=f at *;rw[D,F,o,H,show g*nv c*(h*dv f)=g*h*(nv c*dv f)by grind,show g*dv c*(h*nv f)=g*h*(dv c*nv f)by grind,Ph _ _ _ _ (Nat.mul_ne_zero C j)]
def Fp(n:Nat):Nat->Nat
 |0=>1
 |k+1=>Fp n k*(n-k)
def E8:Nat->Nat
 |0=>1
 |k+1=>E8 k*(k+1)
theorem Wk:∀k,E8 k≠0
 |0=>δ
 |k+1=>Nat.mul_ne_zero (Wk k) ω
theorem Am5(h:n<k):Fp n k=0:=by induction k with|zero=>omega|succ k ih=>simp only[Fp];rcases Cb n k with d|d;rw[ih d];simp;have:n-k=0:=ω;rw[this];simp
theorem Avg(n k:Nat)(d:n<1000000000):Bp (Fp n k)<=k+1:=by induction k with|zero=>simp[Fp,Jp]|succ k ih=>have e:=Hn (Fp n k) (n-k);have h:Bp (n-k)<=1:=J2 ζ;simp only[Fp];omega
theorem Avh(k:Nat)(d:k<1000000000):Bp (E8 k)<=k+1:=by induction k with|zero=>simp[E8,Jp]|succ k ih=>have e:=Hn (E8 k) (k+1);have h:Bp (k+1)<=1:=J2 ζ;simp only[E8];have:=ih ω;omega
theorem Wl(h:n<1000000000):Bp n<=1:=J2 (by simpa using h)
theorem Avi(n k:Nat)(d:n<1000000000)(e:k<=64):RB (k+1) (Bj false (Fp n k) (E8 k)):=Jb _ _ _ _ (Avg n k d) (Avh k ω) ω
theorem Ahw(a:An):An.mk a.N a.U a.B=a:=by cases a;rfl
theorem Avj(n k:Nat)(B:n<1000000000)(C:k<=64):Yt (n:Int) (k:Int)=some (Bj false (Fp n k) (E8 k)):=by unfold Yt;have y:Gr 1=some (Bj false (Fp n 0) (E8 0)):=Zf 1 δ δ;rw[y,Ac];refine Jm (λ(i,s,b,c)=>∃q:Nat,i=q/\q<=k/\q<=n/\An.mk s b c=Bj false (Fp n q) (E8 q)) (λ(i,_,_,_)=>k-i.toNat) (λe=>match e with|.inl r=>r=Bj false (Fp n k) (E8 k)|.inr (s,b,c)=>An.mk s b c=Bj false (Fp n k) (E8 k)) ⟨0,rfl,ω,ω,Ahw _⟩ ?_ ?_;rintro⟨i,s,b,c⟩ ⟨q,rfl,D,x,o⟩;rcases Cb q k with h|h;simp only[Al (ω:(q:Int)<(k:Int)),Ak];by_cases l:n=q;subst l;refine .inr ⟨.inl (Bj false 0 1),?_,?_⟩;rw[Es rfl,Ak,Zf 0 δ δ];rfl;show Bj false 0 1=_;rw[Am5 h,Zg,Zg];have j:Aa ((n:Int)-(q:Int))=((n-q:Nat):Int):=ξ;have g:Aa ((q:Int)+1)=((q+1:Nat):Int):=Mo h ω;have u:Vv ((n-q:Nat):Int) ((q+1:Nat):Int)=some (Bj false (n-q) (q+1)):=(by rw[A71 _ _ ω ω ω ω ω,Am (ω:¬((n-q:Nat):Int)<0),Am (ω:¬((q+1:Nat):Int)<0)];rfl);have f:RB 1 (Bj false (n-q) (q+1)):=Jb _ _ _ _ (Wl ω) (Wl ω) ω;have A:=Adi _ _ _ _ (Avi n q B ω) f ω ω;rw[Avf false false (Fp n q) (E8 q) (n-q) (q+1) (Wk q) ω]at A;refine .inl ⟨(((q+1:Nat):Int),(Bj false (Fp n (q+1)) (E8 (q+1))).N,(Bj false (Fp n (q+1)) (E8 (q+1))).U,(Bj false (Fp n (q+1)) (E8 (q+1))).B),?_,⟨q+1,rfl,ω,ω,Ahw _⟩,ζ⟩;rw[Ck ω,Aj,j,g,u,Ac,o,A,Ac];rfl;have:q=k:=ω;subst this;refine .inr ⟨.inr (s,b,c),ψ,o⟩;rintro(e|⟨s,b,c⟩) d;simp only at d⊢;rw[d];simp only at d⊢;rw[d]
theorem A8l(n q:Nat)(o:n<1000000000)(e:q<1000000000):∃s:Bool,U3 (Bj false n 1) (Bj false q 1)=some (Bj s (if q<=n then n-q else q-n) 1)/\(q<=n->n-q≠0->s=false):=by(have d:∀(s:Bool)(m:Nat),nv (Bj s m 1)=m/\dv (Bj s m 1)=1/\(m≠0->sv (Bj s m 1)=s)/\(m=0->sv (Bj s m 1)=false):=by intro s m;obtain⟨r,A,B,x⟩:=Wg s m 1 δ;refine⟨by rw[r];simp,by rw[A];simp,B,x⟩);have k:RB 1 (Bj false n 1):=Jb _ _ _ _ (Wl o) (by rw[Jp];decide) ω;have j:RB 1 (Bj false q 1):=Jb _ _ _ _ (Wl e) (by rw[Jp];decide) ω;obtain⟨C,D,F,G⟩:=d false n;obtain⟨H,I,z,y⟩:=d false q;(have u:sv (Bj false n 1)=false:=by by_cases h:n=0;exact G h;exact F h);(have l:sv (Bj false q 1)=false:=by by_cases h:q=0;exact y h;exact z h);(have f:X1 (Bj false q 1)=some (Bj true q 1):=by rw[Ave _ 1 j δ,l,H,I];rfl);obtain⟨J,K,L,M⟩:=d true q;have i:RB 1 (Bj true q 1):=Jb _ _ _ _ (Wl e) (by rw[Jp];decide) ω;have g:=Am3 _ _ 1 1 k i δ δ;unfold U3;rw[f,Ac,g,Ac,C,D,J,K,u];by_cases c:q=0;subst c;refine⟨false,?_,λ_ _=>rfl⟩;rw[M rfl];simp[K0,I1];rw[L c];by_cases b:q<=n;refine⟨false,?_,λ_ _=>rfl⟩;simp[K0,I1,b];refine⟨true,?_,λh=>(b h).elim⟩;simp[K0,I1,b]
theorem A8m(n k:Nat)(d:n<1000000000)(K:k<=64):Vs (Bj false n 1) (k:Int)=some (Bj false (Fp n k) (E8 k)):=by unfold Vs;have G:I6 1=some (Bj false (Fp n 0) (E8 0)):=Ty 1 δ δ;rw[G,Ac];refine Jm (λ(i,s,g,j)=>∃q:Nat,i=q/\q<=k/\An.mk s g j=Bj false (Fp n q) (E8 q)) (λ(i,_,_,_)=>k-i.toNat) (λ(s,g,j)=>An.mk s g j=Bj false (Fp n k) (E8 k)) ⟨0,rfl,ω,Ahw _⟩ ?_ ?_;rintro⟨i,s,g,j⟩ ⟨q,rfl,L,r⟩;rcases Cb q k with h|h;have E:Aa ((q:Int)+1)=((q+1:Nat):Int):=Mo h ω;have D:∀z:Nat,z<1000000000->Acx (z:Int)=some (Bj false z 1):=(by intro z I;have:=Ty (z:Int) ω ω;rw[Am (ω:¬(z:Int)<0)]at this;exact this);obtain⟨t,l,J⟩:=A8l n q d ω;have u:RB 1 (Bj t (if q<=n then n-q else q-n) 1):=Jb _ _ _ _ (Wl (by split<;>omega)) (by rw[Jp];decide) ω;have o:=Avd _ _ _ _ (Avi n q d ω) u ω ω;rw[Avf _ _ _ _ _ _ (Wk q) δ,Nat.mul_one]at o;(have c:Fp n q*(if q<=n then n-q else q-n)=Fp n (q+1):=by simp only[Fp];by_cases f:q<=n;rw[Ar f];rw[Am5 ω];simp);(have B:Bj (false != t) (Fp n q*(if q<=n then n-q else q-n)) (E8 q)=Bj false (Fp n (q+1)) (E8 q):=by rw[c];apply Ahq;intro b;(have f:q<=n:=by rcases Cb n q with C|C;rw[Am5 ω]at b;exact(b rfl).elim;exact C);have A:n-q≠0:=(by intro e;simp only[Fp,e,Nat.mul_zero]at b;exact b rfl);rw[J f A];rfl);rw[B]at o;have y:RB (q+2) (Bj false (Fp n (q+1)) (E8 q)):=Jb _ _ _ _ (Avg n (q+1) d) (by have:=Avh q ω;omega) ω;have x:RB 1 (Bj false (q+1) 1):=Jb _ _ _ _ (Wl ω) (by rw[Jp];decide) ω;obtain⟨d1,d2⟩:=A8k false false (Fp n (q+1)) (E8 q) (q+1) 1 (Wk q) δ ω;have F:=A8j _ _ _ _ y x ω ω d2;rw[d1,Nat.mul_one]at F;refine .inl ⟨(((q+1:Nat):Int),(Bj false (Fp n (q+1)) (E8 (q+1))).N,(Bj false (Fp n (q+1)) (E8 (q+1))).U,(Bj false (Fp n (q+1)) (E8 (q+1))).B),?_,⟨q+1,rfl,ω,Ahw _⟩,ζ⟩;simp only[Al (ω:(q:Int)<(k:Int)),Ak,D q ω,Ac,l,r,o,E,D (q+1) ω,F];rfl;have:q=k:=ω;subst this;exact .inr ⟨(s,g,j),ψ,r⟩;rintro⟨s,g,j⟩ H;simp only at H⊢;rw[H]
theorem A8n[DecidableEq α](l m:Λ α)(b:l.length=m.length):(decide (l=m))=l.zipIdx.all (λq=>decide (m[q.2]?=some q.1)):=by rw[Bool.eq_iff_iff,Eh];constructor;rintro rfl;(exact Agx λj x d=>by simpa using d);intro h;apply ext_getElem?;intro j;cases d:l[j]? with|none=>rw[List.getElem?_eq_none_iff]at d;rw[Tk ω]|some x=>have:=Ju h d;rw[Eh]at this;rw[this]
theorem Am6(l m:Ag)(b:l.length<1099511627776)(h:l.length=m.length){J:Bool⊕Unit->Ο R}{rt rf:R}(o:J (.inl false)=some rf)(r:J (.inr ())=some rt):(Ao (S:=Int) (E:=(Bool⊕Unit)) (λd=>bif d<(l.length:Int)then((Af l d).bind λs=>(Af m d).bind λA=>bif(s != A)then some (.inr (.inl false))else some (.inl (Aa (d+1))))else some (.inr (.inr ()))) 0).bind J=some (bif decide (l=m)then rt else rf):=by rw[A8n l m h];refine Ro l (λq=>decide (m[q.2]?=some q.1)) (λj=>(j:Int)) rfl ω (rt:=rt) (rf:=rf) ?_ ?_;intro j x B _ C D F;have G:j<m.length:=(by have:=D8 B;omega);have i:m[j]?=some m[j]:=Bn G;generalize m[j]=y at i;simp only[C,D,F,Ak,Ac,B1 rfl i,i,Option.some.injEq];by_cases e:x=y;rw[Dv e,Al e.symm];exact⟨λ_=>rfl,λh=>by cases h⟩;rw[D5 e,Am λh=>e h.symm];exact⟨nofun,λ_=>⟨.inl false,rfl,o⟩⟩;intro h _;exact⟨.inr (),by simp only[h];rfl,r⟩
theorem Avk(l m:Ag)(b:l.length<1099511627776):P8 l m=some (decide (l=m)):=by unfold P8;by_cases h:l.length=m.length;rw[Dv ω];simp only[Aj];refine(Am6 l m b h (rt:=true) (rf:=false) ?_ ?_).trans (by rw[Kw])<;>rfl;rw[D5 ω,Am λe=>h (by rw[e])];rfl
def Qq(a b:An):Bool:=a.N==b.N&&decide (a.U=b.U)&&decide (a.B=b.B)
theorem Ahx(a b:An):Qq a b=true↔a=b:=by unfold Qq;simp only[Dr,beq_iff_eq,Eh];constructor;rintro⟨⟨d,e⟩,h⟩;cases a;cases b;simp_all;rintro rfl;simp
theorem A8o(a b:An)(h:a.U.length<1099511627776)(i:a.B.length<1099511627776):Abc a b=some (Qq a b):=by unfold Abc Qq;cases d:(a.N==b.N)with|false=>rw[show(a.N != b.N)=true by simp[bne,d]];rfl|true=>rw[show(a.N != b.N)=false by simp[bne,d]];simp only[Aj];by_cases f:a.U.length=b.U.length;rw[Dv ω];by_cases c:a.B.length=b.B.length;rw[Dv ω];simp only[Aj,Ac,Bool.true_and];refine(Am6 a.U b.U h f (rt:=decide (a.B=b.B)) (rf:=false) rfl ?_).trans (by cases decide (a.U=b.U)<;>rfl);refine(Am6 a.B b.B i c (rt:=true) (rf:=false) ?_ ?_).trans (by rw[Kw])<;>rfl;rw[D5 ω,Am λe:a.B=b.B=>c (by rw[e])];simp;rw[D5 ω,Am λe:a.U=b.U=>f (by rw[e])];simp
def Wm(c:An):Bool:=Qq (Bj (sv c) (nv c) (dv c)) c && !(nv c==0)
theorem A8p(c:An):Wm c=(Qq c (Bj (sv c) (nv c) (dv c)) && !(nv c==0)):=by unfold Wm;congr 1;rw[Bool.eq_iff_iff,Ahx,Ahx];exact eq_comm
structure TSz(t:Ae):Prop where
 co:RB 1048576 t.C
 mo:Eo t.M
def Tz(l:Ad)(x:Ae)(j:Nat):Bool:=j==0||(match l[j-1]? with|some y=>decide (Dn y.M x.M<0)|none=>false)
def T0(Δ:A0)(Ξ:A1)(Θ:Ai)(l:Ad)(t:Ae)(j:Nat):Bool:=Wm t.C&&It Δ Ξ Θ t.M&&Tz l t j
def Kg(Δ:A0)(Ξ:A1)(Θ:Ai)(p:Ad):Bool:=decide (p.length<=1000)&&p.zipIdx.all (λq=>T0 Δ Ξ Θ p q.1 q.2)
theorem Avl{S:Type}(F:Aw->Aw->A5)(l:Ad)(g:∀y∈l,∀x,F y.M x=some (Dn y.M x)){x:Ae}(s:l[j]?=some x)(i:l.length<4611686018427387904)(c b:Ο (S⊕E)):(bif decide ((j:Int)>0)then((Af l (Aa ((j:Int)-1))).bind λf=>(F f.M x.M).bind λd=>bif decide (d>=0)then c else b)else b)=bif Tz l x j then b else c:=by have B:=D8 s;unfold Tz;by_cases h:j=0;subst h;rfl;rw[Al ω];have e:Aa ((j:Int)-1)=((j-1:Nat):Int):=ξ;have o:l[j-1]?=some l[j-1]:=Bn ω;rw[e,B1 rfl o,o];have A:(j==0)=false:=(by simpa using h);simp only[Ak,Ac,A,Bool.false_or,g _ (getElem_mem (ω:j-1<l.length))];by_cases r:Dn l[j-1].M x.M<0;rw[Am ω,Al r];rfl;rw[Al ω,Am r];rfl
theorem Avm(s:Bool)(n:Nat):(Kz s n==0)=(n==0):=by unfold Kz;by_cases h:n=0;rw[Ar h];subst h;rfl;rw[Au h];have:(n==0)=false:=(by simpa using h);rw[this];cases s<;>rfl
theorem Avn(hc:Mm Δ Ξ Θ){b1:At}(b2:As)(hm:Fa Δ Ξ Θ b1)(p:Ad)(U:∀t∈p,TSz t) :
  ∃B,Aa6 p b1 b2 Δ Ξ Θ.G Θ.U Θ.R=some (Kg Δ Ξ Θ p,B)/\Fa Δ Ξ Θ B:=by
 unfold Aa6 Kg
 by_cases A:p.length<=1000
 .rw[Am ω,Al A,Bool.true_and]
  simp only[Aj]
  obtain⟨r,V,S⟩:=Ac4 (M:=List (Β×Int)) (R:=Bool×List (Β×Int)) p (λq=>T0 Δ Ξ Θ p q.1 q.2) (λj o=>((j:Int),o)) (Fa Δ Ξ Θ)
   (λr=>Fa Δ Ξ Θ r.2/\r.1=true) (λr=>Fa Δ Ξ Θ r.2/\r.1=false) b1
   (s0:=((0:Int),b1))
   (step:=(λ(b,g)=>
    bif b<(p.length:Int)then(
    (Af p b).bind λd=>
    (P7 d.C).bind λf=>
    (show OB from
    bif(f.N==d.C.N)then(
    (P8 f.U d.C.U).bind λi=>
    bif i then(
    (P8 f.B d.C.B).bind λH=>
    some H)
    else some false)
    else some false).bind λE=>
    bif(!E)then some (.inr (.inl (false,g)))
    else(
    (I7 f).bind λD=>
    bif(D==(0:Int))then some (.inr (.inl (false,g)))
    else(
    (X5 d.M g b2 Δ Ξ Θ.G Θ.U Θ.R).bind λC=>
    bif(!C.1)then some (.inr (.inl (false,C.2)))
    else(
    bif b>(0:Int)then(
    (Af p (Aa (b-1))).bind λT=>
    (Sq T.M d.M).bind λW=>
    bif W>=(0:Int)then some (.inr (.inl (false,C.2)))
    else some (.inl (Aa (b+1),C.2)))
    else some (.inl (Aa (b+1),C.2))))))
    else some (.inr (.inr g)):Int×List (Β×Int)->Br))
   (J:=(λz=>match z with
    |.inl (I,G)=>some (I,G)
    |.inr L=>some (true,L)))
   rfl hm ω (by
    intro j t o u hx _ F Q K
    have c:=U t (B5 hx)
    obtain⟨B,d1,d2⟩:=A7o b2 hc u t.M c.mo
    have s:∀l:Ag,l=(Bj (sv t.C) (nv t.C) (dv t.C)).U\/l=(Bj (sv t.C) (nv t.C) (dv t.C)).B->l.length<1099511627776:=by
     intro l A
     have q:=Jb (sv t.C) (nv t.C) (dv t.C) 1048577 c.co.nv c.co.dv ω
     have:=q.nl
     have:=q.dl
     rcases A with rfl|rfl<;>omega
    have k:(bif((Bj (sv t.C) (nv t.C) (dv t.C)).N==t.C.N)then((P8 (Bj (sv t.C) (nv t.C) (dv t.C)).U t.C.U).bind λi=>bif i then((P8 (Bj (sv t.C) (nv t.C) (dv t.C)).B t.C.B).bind λH=>some H)else some false)else some false)=some (Qq (Bj (sv t.C) (nv t.C) (dv t.C)) t.C):=by
     unfold Qq
     rw[Avk _ _ (s _ (.inl rfl)),Avk _ _ (s _ (.inr rfl))]
     cases((Bj (sv t.C) (nv t.C) (dv t.C)).N==t.C.N)<;>cases decide ((Bj (sv t.C) (nv t.C) (dv t.C)).U=t.C.U)<;>rfl
    simp only[F,Q,K,Ak,Ac,Ahp t.C 1048576 c.co ω,k,Avl Sq p (λy hy x=>Aut y.M x (U y hy).mo) hx ω,T0,Wm]
    cases N:Qq (Bj (sv t.C) (nv t.C) (dv t.C)) t.C with
    |false=>exact⟨nofun,λ_=>⟨_,rfl,_,rfl,u,rfl⟩⟩
    |true=>
     have e:=(Ahx _ _).1 N
     simp only[Ds,Aj,Bool.true_and]
     rw[e,Amw t.C 1048576 c.co ω,Ac,Avm]
     cases(nv t.C==0)with
     |true=>exact⟨nofun,λ_=>⟨_,rfl,_,rfl,u,rfl⟩⟩
     |false=>
      simp only[Aj,d1,Ac,Bool.not_false,Bool.true_and]
      cases It Δ Ξ Θ t.M with
      |false=>exact⟨nofun,λ_=>⟨_,rfl,_,rfl,d2,rfl⟩⟩
      |true=>
       cases Tz p t j with
       |true=>exact⟨λ_=>⟨B,rfl,d2⟩,λh=>by cases h⟩
       |false=>exact⟨nofun,λ_=>⟨_,rfl,_,rfl,d2,rfl⟩⟩) (by
    intro o u F _
    exact⟨.inr o,by simp only[F];rfl,_,rfl,u,rfl⟩)
  refine⟨r.2,?_,?_⟩
  .have e:some r=some (p.zipIdx.all λq=>T0 Δ Ξ Θ p q.1 q.2,r.2):=by
    rcases S with⟨F,Q,K⟩|⟨F,Q,K⟩
    .rw[F,<-K]
    .rw[F,<-K]
   rw[<-e]
   exact V
  .rcases S with⟨F,Q,K⟩|⟨F,Q,K⟩<;>exact Q
 .rw[Al ω,Am A]
  exact⟨b1,rfl,hm⟩
theorem A8q(e:Mm x.D x.V x.E)(p:Ad)(c:∀t∈p,TSz t):Aa1 x p=some (Kg x.D x.V x.E p):=by
 unfold Aa1 Kg;by_cases f:p.length<=1000
 .rw[Am ω,Al f,Bool.true_and];simp only[Aj];refine(Ro p (λq=>T0 x.D x.V x.E p q.1 q.2) (λj=>(j:Int)) rfl ω (rt:=true) (rf:=false) ?_ ?_).trans (by rw[Kw])
  .intro j t d _ i o r;have b:=c t (B5 d);obtain⟨v,g,s⟩:=A7p e t.M b.mo;simp only[i,o,r,Ak,Ac,g,s,Am4 t.C 1048576 b.co ω,Avm,Rx t.C 1048576 b.co ω,A8o t.C _ (by have:=b.co.nl;omega) (by have:=b.co.dl;omega),
    Avl N2 p (λy A x=>Ade y.M x (c y A).mo) d ω,T0,A8p];cases It x.D x.V x.E t.M with
   |false=>exact⟨(λh=>by simp at h),λ_=>⟨.inl false,rfl,rfl⟩⟩
   |true=>
    cases(nv t.C==0)with
    |true=>exact⟨(λh=>by simp at h),λ_=>⟨.inl false,rfl,rfl⟩⟩
    |false=>
     cases Qq t.C (Bj (sv t.C) (nv t.C) (dv t.C))with
     |false=>exact⟨(λh=>by simp at h),λ_=>⟨.inl false,rfl,rfl⟩⟩
     |true=>cases Tz p t j with|true=>exact⟨λ_=>rfl,λh=>by cases h⟩|false=>exact⟨nofun,λ_=>⟨.inl false,rfl,rfl⟩⟩
  intro h _;exact⟨.inr (),by simp only[h];rfl,rfl⟩
 rw[Al ω,Am f];rfl
structure CSz(x:A8):Prop where
 ds:DSz x.D
 nv:x.V.length<=1048576
 vs:∀t∈x.V,B2 t<=1048576
 rs:B2 x.E<=1048576
def Kh(Δ:A0)(t:Ai):Bool:=Hf Δ 0 t&&decide (B2 t<=200)
def F1(x:A8):Prop:=x.V.length<=3000/\Ld x.D/\Kh x.D x.E=true/\x.V.all (Kh x.D)=true
theorem F1.ctx(h:F1 x)(c:CSz x):Mm x.D x.V x.E:=by refine⟨h.2.1,c.ds.sz.short,λv t d=>?_,h.1⟩;(have good:∀t,Kh x.D t=true->B2 t<=200:=λt h=>by simp only[Kh,Dr,Eh]at h;exact h.2);unfold E2 at d;by_cases b:v = -1;rw[Ar b]at d;cases d;exact good _ h.2.2.1;rw[Au b]at d;exact good t (Gu.1 h.2.2.2 t (Ih d).2.2.2)
theorem Avo(x:A8)(c:CSz x):∃b,Xu x=some b/\(b=true↔F1 x):=by obtain⟨b,e,d⟩:=A6s c.ds;have l:=c.nv;have k:=c.rs;unfold Xu F1;rw[e,Alz x.D x.E 0 ω];simp only[Ac];cases b with|false=>exact⟨false,rfl,by simp;intro _ h;have:=d.2 h;cases this⟩|true=>have i:=d.1 rfl;simp only[Ds,Aj];by_cases g:x.V.length<=3000;rw[Am ω];simp only[Aj,Ac];(cases f:(Hf x.D 0 x.E&&decide (B2 x.E<=200))with|false=>exact⟨false,rfl,by simp[Kh,f]⟩|true=>refine⟨x.V.all (Kh x.D),?_,by rw[show Kh x.D x.E=true from f];simp[g,i]⟩;simp only[Ds,Aj];refine(Kv x.V (Kh x.D) (λj=>(j:Int)) rfl ω (rt:=true) (rf:=false) ?_ ?_).trans (by rw[Kw]);intro j t o r s A;have:=c.vs t (B5 o);simp only[r,s,A,Ak,Ac,Alz x.D t 0 ω];rw[show(Hf x.D 0 t&&decide (B2 t<=200))=Kh x.D t from rfl];(cases Kh x.D t with|true=>exact⟨λ_=>rfl,λh=>by cases h⟩|false=>exact⟨nofun,λ_=>⟨.inl false,rfl,rfl⟩⟩);intro h;exact⟨.inr (),by simp only[h];rfl,rfl⟩);rw[Al ω];exact⟨false,rfl,by simp[g]⟩
theorem Adk(x:A8)(c:CSz x)(p:Ad)(hp:∀t∈p,TSz t):∃b,K9 x p=some b/\(b=true↔F1 x/\Kg x.D x.V x.E p=true):=by obtain⟨b,e,d⟩:=Avo x c;unfold K9;rw[e,Ac];cases b with|false=>exact⟨false,rfl,by simp;intro h;have:=d.2 h;cases this⟩|true=>have f:=d.1 rfl;rw[A8q (f.ctx c) p hp];exact⟨_,rfl,by simp[f]⟩
theorem Zk(x:A8)(g:CSz x)(p:Ad)(hp:∀t∈p,TSz t):∃b,M5 x p=some b/\(b=true↔F1 x/\Kg x.D x.V x.E p=true):=by obtain⟨b,H,C⟩:=At5 g.ds;have E:=g.nv;have D:=g.rs;unfold M5 M7;rw[H,Ac7 x.D x.E 0 ω];by_cases s:x.V.length<=3000;rw[Am ω];simp only[Aj,Ac];(cases b with|false=>exact⟨false,rfl,by simp;intro h;have:=C.2 h.2.1;cases this⟩|true=>have B:=C.1 rfl;simp only[Ds,Aj];cases l:(Hf x.D 0 x.E&&decide (B2 x.E<=200))with|false=>exact⟨false,rfl,by simp;intro h;have:=h.2.2.1;rw[show Kh x.D x.E=false from l]at this;cases this⟩|true=>simp only[Ds,Aj,Ac];rw[Option.bind_assoc];refine Fz (λi=>∃j:Nat,i=j/\j<=x.V.length/\(x.V.take j).all (Kh x.D)=true) (λi=>x.V.length-i.toNat) (λz=>match z with|.inl r=>r=false/\¬F1 x|.inr _=>F1 x) ⟨0,rfl,ω,ψ⟩ ?_ ?_;rintro i ⟨j,rfl,o,c⟩;rcases Cb j x.V.length with h|h;have d:x.V[j]?=some x.V[j]:=Bn h;generalize x.V[j]=t at d;have:=g.vs t (B5 d);simp only[Al (ω:(j:Int)<(x.V.length:Int)),Ak,B1 rfl d,Ac,Ac7 x.D t 0 ω,Dd h ω];rw[show(Hf x.D 0 t&&decide (B2 t<=200))=Kh x.D t from rfl];(cases F:Kh x.D t with|true=>exact .inl ⟨_,rfl,⟨j+1,rfl,ω,by rw[C4 d,all_append,c];simp[F]⟩,ζ⟩|false=>refine .inr ⟨.inl false,rfl,rfl,λG=>?_⟩;have:=Gu.1 G.2.2.2 t (B5 d);rw[F]at this;cases this);have:j=x.V.length:=ω;subst this;rw[Du]at c;exact .inr ⟨.inr (),ψ,s,B,l,c⟩;rintro(r|u) f;obtain⟨rfl,f⟩:=f;exact⟨false,rfl,by simp[f]⟩;have y:F1 x:=f;(have I:Fa x.D x.V x.E []:=λq h=>by cases h);obtain⟨A,e,J⟩:=Avn (y.ctx g) [] I p hp;cases k:Kg x.D x.V x.E p with|true=>(rw[k]at e;refine⟨true,?_,by simp[y]⟩;simp only;rw[Option.bind_assoc];refine Jt 1 (λj=>match j with|0=>((0:Int),[])|_=>((1:Int),A)) rfl ?_ ⟨.inr A,rfl,rfl⟩;intro j o;match j,o with|0,_=>show(bif decide ((0:Int)<1)then _ else _)=_;simp only[Al (ω:(0:Int)<1),Ak];rw[show Af [p] 0=some p from rfl,Ac,e];rfl)|false=>rw[k]at e;refine⟨false,?_,ψ⟩;simp only;rw[Option.bind_assoc];refine Jt 0 (λ_=>((0:Int),[])) rfl (λj o=>ω) ⟨.inl false,?_,rfl⟩;show(bif decide ((0:Int)<1)then _ else _)=_;simp only[Al (ω:(0:Int)<1),Ak];rw[show Af [p] 0=some p from rfl,Ac,e];rfl);rw[Al ω];exact⟨false,rfl,by simp;intro h;exact absurd h.1 s⟩
theorem A8r(h:It Δ Ξ Θ m=true):(∀f∈m.F,∃t,E2 Ξ Θ f.v=some t)/\m.F.length<=6:=by unfold It at h;simp only[Dr,Eh]at h;obtain⟨⟨o,r⟩,C⟩:=h;(have b:∀f∈m.F,1<=Ee Δ Ξ Θ f:=by intro f b;obtain⟨j,d⟩:=Fo b;have:=Ju o d;simp only[Mn,Dr,Eh]at this;exact this.1);have s:0<=Bq m.A:=(Adh m.A (λa s=>by obtain⟨j,d⟩:=Fo s;have:=Ju r d;simp only[Kf,Dr,Eh]at this;omega)).1;refine⟨λf c=>?_,?_⟩;have:=b f c;unfold Ee at this;(cases A:E2 Ξ Θ f.v with|none=>rw[A]at this;have:(1:Int)<=-1:=this;omega|some t=>exact⟨t,rfl⟩);have e:∀l:Be,(∀f∈l,1<=Ee Δ Ξ Θ f)->(l.length:Int)<=B6 Δ Ξ Θ l:=(by intro l;induction l with|nil=>intro _;simp[B6]|cons f D ih=>intro i;have o:=i f ψ;have r:=ih λg B=>i g (by simp[B]);unfold B6 at *;simp only[map_cons,sum_cons,Fd];omega);have:=e m.F b;omega
theorem A8s(a b:An)(j k:Nat)(d:RB j a)(hb:RB k b)(e:j<34359738000)(i:k<34359738000):∃c,Ir a b=some c/\Jx a b=some c/\RB (j+k+2) c:=by refine⟨_,Adi a b j k d hb ω ω,Avd a b j k d hb ω ω,?_⟩;have o:=d.nv;have r:=d.dv;have s:=hb.nv;have h:=hb.dv;have g:=Hn (nv a) (nv b);have f:=Hn (dv a) (dv b);exact Jb _ _ _ _ ω ω ω
theorem A8t(a b:An)(j k:Nat)(d:RB j a)(hb:RB k b)(e:j<34359738000)(o:k<34359738000):∃c,Q6 a b=some c/\Su a b=some c/\RB (j+k+3) c:=by refine⟨_,Amy a b j k d hb ω ω,Am3 a b j k d hb ω ω,?_⟩;have r:=d.nv;have A:=d.dv;have B:=hb.nv;have s:=hb.dv;have q:=Hn (nv a) (dv b);have l:=Hn (nv b) (dv a);have i:=Hn (dv a) (dv b);(have f:I1 (sv a) (nv a) (dv a) (sv b) (nv b) (dv b)<=nv a*dv b+nv b*dv a:=by unfold I1;split;omega;split<;>omega);have h:=Iy f;have g:=Y7 (nv a*dv b) (nv b*dv a);exact Jb _ _ _ _ ω ω ω
theorem A8u(k:Nat):RB k ⟨false,[],[]⟩:=⟨nofun,nofun,ψ,ψ⟩
def sg(s:Bool)(n:Nat):Int:=if s then -(n:Int)else n
def rq(a:An):Rat:=mkRat (sg (sv a) (nv a)) (dv a)
def Ij(a:An):Prop:=a=Bj (sv a) (nv a) (dv a)
theorem No(s:Bool)(n d:Nat)(e:d≠0):rq (Bj s n d)=mkRat (sg s n) d:=by obtain⟨g,o,r,A,B,c⟩:=Zj s n d e;unfold rq;rw[Rat.mkRat_eq_iff (Fj _) e];generalize nv (Bj s n d)=b at *;generalize dv (Bj s n d)=f at *;generalize sv (Bj s n d)=C at *;by_cases i:n=0;(have:b=0:=by rcases Nat.eq_zero_or_pos b with h|h;exact h;have:=Nat.mul_pos (Nat.pos_of_ne_zero o) h;omega);subst this;subst i;cases s<;>cases C<;>simp[sg];rw[B i,r,A];cases s<;>simp only[sg,if_true,if_false,Bool.false_eq_true,Int.natCast_mul]<;>grind
theorem Qs(s:Bool)(n d:Nat)(B:d≠0):Ij (Bj s n d):=by obtain⟨g,i,o,r,A,b⟩:=Zj s n d B;unfold Ij;generalize C:Bj s n d=c at o r A b;have e:=Ph s (nv c) (dv c) g i;rw[<-o,<-r,C]at e;by_cases D:n=0;(have F:nv c=0:=by rcases Nat.eq_zero_or_pos (nv c)with h|h;exact h;have:=Nat.mul_pos (Nat.pos_of_ne_zero i) h;omega);rw[F,Zg]at e⊢;exact e;rw[A D];exact e
theorem Avp(n m:Int){d e:Nat}(o:d≠0)(r:e≠0):mkRat n d<mkRat m e↔n*e<m*d:=by have c:(0:Rat)<(d:Rat):=Rat.natCast_pos.2 ω;have b:(0:Rat)<(e:Rat):=Rat.natCast_pos.2 ω;rw[Rat.mkRat_eq_div,Rat.mkRat_eq_div,Rat.div_lt_iff c];rw[<-Rat.mul_lt_mul_right b];(have f:(m:Rat)/(e:Rat)*(d:Rat)*(e:Rat)=(m:Rat)*(d:Rat):=by grind);rw[f];(have h:(n:Rat)*(e:Rat)=((n*(e:Int):Int):Rat):=by rw[Rat.intCast_mul];rfl);(have i:(m:Rat)*(d:Rat)=((m*(d:Int):Int):Rat):=by rw[Rat.intCast_mul];rfl);rw[h,i,Rat.intCast_lt_intCast]
theorem Zl{b:An}(r:Ij a)(hb:Ij b)(h:rq a=rq b):a=b:=by unfold rq at h;rw[Rat.mkRat_eq_iff (Fj _) (Fj _)]at h;rw[r,hb];have l:=Fj a;have k:=Fj b;generalize nv a=n at *;generalize dv a=d at *;generalize sv a=s at *;generalize nv b=m at *;generalize dv b=e at *;generalize sv b=t at *;(have f:n*e=m*d/\(n≠0->s=t):=by have c:n≠0->0<n*e:=λh=>Nat.mul_pos ω ω;have g:m≠0->0<m*d:=λh=>Nat.mul_pos ω ω;have B:((n*e:Nat):Int)=(n:Int)*e:=ψ;have C:((m*d:Nat):Int)=(m:Int)*d:=ψ;cases s<;>cases t<;>simp only[sg,if_true,if_false,Bool.false_eq_true,Int.neg_mul]at h;exact⟨ω,λ_=>rfl⟩;have:n*e=0/\m*d=0:=ω;refine⟨ω,λo=>?_⟩;have:=c o;omega;have:n*e=0/\m*d=0:=ω;refine⟨ω,λo=>?_⟩;have:=c o;omega;exact⟨ω,λ_=>rfl⟩);have j:=Ph s n d e k;have i:=Ph t m e d l;rw[<-j,<-i,Nat.mul_comm e n,f.1,Nat.mul_comm e d,Nat.mul_comm m d];refine Ahq λA=>f.2 ?_;rintro rfl;rw[Nat.zero_mul]at f;have:=f.1;rw[Nat.mul_comm d m]at A;omega
theorem Avq(j:Bool)(c g:Nat)(i:Bool)(b f:Nat):sg (K0 j c g i b f) (I1 j c g i b f)=sg j c*f+sg i b*g:=by unfold K0 I1 sg;have d:((c*f:Nat):Int)=(c:Int)*f:=ψ;have e:((b*g:Nat):Int)=(b:Int)*g:=ψ;cases j<;>cases i<;>simp only[if_true,if_false,Bool.false_eq_true,Bool.true_eq_false,Int.neg_mul];omega;by_cases h:b*g<=c*f;simp only[Ar h];simp only[if_false,Bool.false_eq_true];omega;simp only[Au h];simp only[if_true];omega;by_cases h:b*g<=c*f;simp only[Ar h];simp only[if_true];omega;simp only[Au h];simp only[if_false,Bool.false_eq_true];omega;omega
theorem Am7{b:An}(d:RB j a)(hb:RB k b)(o:j<34359738000)(r:k<34359738000):∃c,Q6 a b=some c/\Su a b=some c/\RB (j+k+3) c/\Ij c/\rq c=rq a+rq b:=by obtain⟨c,h,s,A⟩:=A8t a b j k d hb o r;have e:=Amy a b j k d hb ω ω;rw[h]at e;have e:=Fv e;have i:dv a*dv b≠0:=Nat.mul_ne_zero (Fj a) (Fj b);refine⟨c,h,s,A,?_,?_⟩;rw[e];exact Qs _ _ _ i;rw[e,No _ _ _ i,Avq,rq,rq,Rat.mkRat_add_mkRat _ _ (Fj a) (Fj b)]
theorem Avr(s t:Bool)(n m:Nat):sg (s != t) (n*m)=sg s n*sg t m:=by unfold sg;cases s<;>cases t<;>simp[Int.neg_mul,Int.mul_neg]
theorem Wn{b:An}(d:RB j a)(hb:RB k b)(i:j<34359738000)(o:k<34359738000):∃c,Ir a b=some c/\RB (j+k+2) c/\Ij c/\rq c=rq a*rq b:=by have e:dv a*dv b≠0:=Nat.mul_ne_zero (Fj a) (Fj b);have r:=d.nv;have s:=d.dv;have A:=hb.nv;have h:=hb.dv;have g:=Hn (nv a) (nv b);have f:=Hn (dv a) (dv b);refine⟨_,Adi a b j k d hb ω ω,Jb _ _ _ _ ω ω ω,Qs _ _ _ e,?_⟩;rw[No _ _ _ e,Avr,rq,rq,Rat.mkRat_mul_mkRat]
theorem Wo{b:An}(d:RB j a)(hb:RB k b)(o:j<34359738000)(r:k<34359738000):∃c,Ir a b=some c/\Jx a b=some c/\RB (j+k+2) c/\Ij c/\rq c=rq a*rq b:=by obtain⟨c,h,s,A⟩:=A8s a b j k d hb o r;have e:=Adi a b j k d hb ω ω;rw[h]at e;have e:=Fv e;have i:dv a*dv b≠0:=Nat.mul_ne_zero (Fj a) (Fj b);refine⟨c,h,s,A,?_,?_⟩;rw[e];exact Qs _ _ _ i;rw[e,No _ _ _ i,Avr,rq,rq,Rat.mkRat_mul_mkRat]
def Jv(x:Rat):Int:=if x<0 then -1 else if 0<x then 1 else 0
theorem A8v(a:An):rq a<0↔Kz (sv a) (nv a) = -1:=by have e:(0:Rat)=mkRat 0 1:=ψ;rw[rq,e,Avp _ _ (Fj a) δ];unfold sg Kz;split<;>split<;>simp<;>omega
theorem A8w(a:An):0<rq a↔Kz (sv a) (nv a)=1:=by have e:(0:Rat)=mkRat 0 1:=ψ;rw[rq,e,Avp _ _ δ (Fj a)];unfold sg Kz;split<;>split<;>simp<;>omega
theorem A8x(a:An):Kz (sv a) (nv a)=Jv (rq a):=by have i:=A8v a;have o:=A8w a;(have d:Kz (sv a) (nv a) = -1\/Kz (sv a) (nv a)=0\/Kz (sv a) (nv a)=1:=by unfold Kz;split<;>(try split)<;>simp);unfold Jv;split;rename_i h;exact i.1 h;rename_i h;split;rename_i e;exact o.1 e;rename_i e;rcases d with d|d|d;exact(h (i.2 d)).elim;exact d;exact(e (o.2 d)).elim
theorem Oh(h:RB k a)(d:k<34359738000):I7 a=some (Jv (rq a))/\O4 a=some (Jv (rq a)):=by rw[<-A8x];exact⟨Amw a k h ω,Am4 a k h ω⟩
theorem Avs(h:RB k a)(d:k<34359738000):∃c,P7 a=some c/\Lo a=some c/\Ij c/\rq c=rq a/\RB (k+1) c:=⟨_,Ahp a k h ω,Rx a k h ω,Qs _ _ _ (Fj a),No _ _ _ (Fj a),Avc h⟩
structure F9{α:Type}(S:α->Prop)(g:α->α->Int):Prop where
 zero:∀a b,S a->S b->(g a b=0↔a=b)
 anti:∀a b,S a->S b->g b a = - g a b
 trans:∀a b c,S a->S b->S c->g a b<0->g b c<0->g a c<0
theorem F9.cmpI:F9 (λ_:Int=>True) E6:=by
 refine⟨λa b _ _=>Hq,λa b _ _=>?_,λa b c _ _ _=>?_⟩
 .unfold Go.Ab.E6;split<;>split<;>(try split)<;>(try split)<;>omega
 .unfold Go.Ab.E6;intro h1 h2;split at h1<;>(try split at h1)<;>split at h2<;>(try split at h2)<;>first|omega|(rw[Ar ω];decide)
theorem Avt{x:Int}:E7 x y<0↔x<0\/(x=0/\y<0):=by unfold E7;split<;>omega
theorem Avu{x:Int}:E7 x y=0↔x=0/\y=0:=by unfold E7;split<;>omega
theorem F9.or{γ:Type}{S:α->Prop}{s:β->Prop}{l:γ->Prop}{j:β->β->Int}{i:γ->γ->Int}(p:α->β)(q:α->γ)(g:∀a b,p a=p b->q a=q b->a=b)(h1:F9 s j)(h2:F9 l i)(f:∀a,S a->s (p a)/\l (q a)):F9 S (λa b=>E7 (j (p a) (p b)) (i (q a) (q b))):=by refine⟨λa b ha hb=>?_,λa b ha hb=>?_,λa b c ha hb hc=>?_⟩;rw[Avu,h1.zero _ _ (f a ha).1 (f b hb).1,h2.zero _ _ (f a ha).2 (f b hb).2];exact⟨λh=>g a b h.1 h.2,λh=>by subst h;exact⟨rfl,rfl⟩⟩;show E7 (j (p b) (p a)) (i (q b) (q a)) = - E7 (j (p a) (p b)) (i (q a) (q b));have z:=h1.anti _ _ (f a ha).1 (f b hb).1;have y:=h2.anti _ _ (f a ha).2 (f b hb).2;rw[z,y];unfold E7;split<;>split<;>omega;show E7 _ _<0->E7 _ _<0->E7 _ _<0;simp only[Avt];have u:=h1.zero _ _ (f a ha).1 (f b hb).1;have d:=h1.zero _ _ (f b hb).1 (f c hc).1;have t1:=h1.trans _ _ _ (f a ha).1 (f b hb).1 (f c hc).1;have t2:=h2.trans _ _ _ (f a ha).2 (f b hb).2 (f c hc).2;rintro(h|⟨h,h'⟩) (k|⟨k,x⟩);exact .inl (t1 h k);rw[<-d.1 k];exact .inl h;rw[u.1 h];exact .inl k;rw[<-d.1 k,h];exact .inr ⟨rfl,t2 h' x⟩
theorem F9.mono{S i:α->Prop}{g:α->α->Int}(h:F9 S g)(f:∀a,i a->S a):F9 i g:=⟨λa b ha hb=>h.zero a b (f a ha) (f b hb),λa b ha hb=>h.anti a b (f a ha) (f b hb),λa b c ha hb hc=>h.trans a b c (f a ha) (f b hb) (f c hc)⟩
theorem F9.congr{S:α->Prop}{g c:α->α->Int}(h:F9 S g)(e:∀a b,c a b=g a b):F9 S c:=by have:c=g:=funext λa=>funext λb=>e a b;rw[this];exact h
def LL(g:α->α->Int)(l m:Λ α):Int:=if l.length=m.length then F7 g l m else Go.Ab.E6 l.length m.length
theorem Avv{α:Type}{S:α->Prop}{g:α->α->Int}(h:F9 S g):∀l m:Λ α,l.length=m.length->(∀x∈l,S x)->(∀x∈m,S x)->(F7 g l m=0↔l=m)
 |[],[],_,_,_=>by simp[F7]
 |x::xs,y::i,b,d,e=>by simp only[F7,Avu,h.zero x y (d x ψ) (e y ψ),Avv h xs i (by simpa using b) (λz c=>d z (by simp[c])) λz c=>e z (by simp[c]),List.cons.injEq]
 |[],_::_,b,_,_=>by simp at b
 |_::_,[],b,_,_=>by simp at b
theorem Avw{α:Type}{S:α->Prop}{g:α->α->Int}(h:F9 S g):∀l m:Λ α,l.length=m.length->(∀x∈l,S x)->(∀x∈m,S x)->F7 g m l = - F7 g l m
 |[],[],_,_,_=>by simp[F7]
 |x::xs,y::i,b,d,e=>by simp only[F7,h.anti x y (d x ψ) (e y ψ),Avw h xs i (by simpa using b) (λz c=>d z (by simp[c])) λz c=>e z (by simp[c])];unfold E7;split<;>split<;>omega
 |[],_::_,b,_,_=>by simp at b
 |_::_,[],b,_,_=>by simp at b
theorem Avx{α:Type}{S:α->Prop}{g:α->α->Int}(h:F9 S g):∀l m n:Λ α,l.length=m.length->m.length=n.length->(∀x∈l,S x)->(∀x∈m,S x)->(∀x∈n,S x)->F7 g l m<0->F7 g m n<0->F7 g l n<0
 |[],[],_,_,_,_,_,_=>by intro h;simp[F7]at h
 |x::xs,y::A,z::i,f,e,o,d,r=>by simp only[F7,Avt];have j:=h.zero x y (o x ψ) (d y ψ);have s:=h.zero y z (d y ψ) (r z ψ);have t1:=h.trans x y z (o x ψ) (d y ψ) (r z ψ);have t2:=Avx h xs A i (by simpa using f) (by simpa using e) (λz c=>o z (by simp[c])) (λz c=>d z (by simp[c])) λz c=>r z (by simp[c]);rintro(a|⟨a,q⟩) (b|⟨b,k⟩);exact .inl (t1 a b);rw[<-s.1 b];exact .inl a;rw[j.1 a];exact .inl b;rw[<-s.1 b,a];exact .inr ⟨rfl,t2 q k⟩
 |_::_,_::_,[],_,e,_,_,_=>by simp at e
 |[],_::_,_,f,_,_,_,_=>by simp at f
 |_::_,[],_,f,_,_,_,_=>by simp at f
theorem F9.ll{S:α->Prop}{g:α->α->Int}(h:F9 S g):F9 (λl=>∀x∈l,S x) (LL g):=by
 have c:=F9.cmpI;refine⟨λa b ha hb=>?_,λa b ha hb=>?_,λx y z hx hy q=>?_⟩;unfold LL;split;rename_i i;exact Avv h a b i ha hb;rename_i i;rw[Hq];exact⟨λe=>(i ω).elim,λe=>(i (by rw[e])).elim⟩;unfold LL;by_cases i:a.length=b.length;rw[Ar i,Ar i.symm];exact Avw h a b i ha hb;rw[Au i,Au λe=>i e.symm];exact c.anti _ _ trivial trivial
 .unfold LL;intro h1 h2;have neg:∀a b:Int,Go.Ab.E6 a b<0->a<b:=(by intro a b h;unfold Go.Ab.E6 at h;split at h<;>(try split at h)<;>omega);have f:∀a b:Int,a<b->Go.Ab.E6 a b<0:=(by intro a b h;unfold Go.Ab.E6;rw[Ar h];decide);by_cases k:x.length=y.length;rw[Ar k]at h1;by_cases j:y.length=z.length;rw[Ar j]at h2;rw[Ar ω];exact Avx h x y z k j hx hy q h1 h2;rw[Au j]at h2;rw[Au ω];have:=neg _ _ h2;exact f _ _ ω;rw[Au k]at h1;have:=neg _ _ h1;by_cases j:y.length=z.length;rw[Au ω];exact f _ _ ω;rw[Au j]at h2;have:=neg _ _ h2;rw[Au ω];exact f _ _ ω
theorem Avy(g:α->α->Int)(l m:Λ α)(y:Int):E7 (LL g l m) y=if l.length=m.length then E7 (F7 g l m) y else Go.Ab.E6 l.length m.length:=by unfold LL;by_cases h:l.length=m.length;rw[Ar h,Ar h];rw[Au h,Au h];unfold E7;rw[Au λe=>h (by have:=Hq.1 e;omega)]
theorem A8y:F9 (λ_=>True) Of:=(F9.or (S:=λ_=>True) (λt:Bh=>t.v) (λt=>t.C) (λa b d e=>by cases a;cases b;cases d;cases e;rfl) F9.cmpI F9.cmpI λ_ _=>⟨trivial,trivial⟩).congr λ_ _=>rfl
theorem G3:F9 (λ_=>True) Dh:=(F9.or (S:=λ_=>True) (λt:Aq=>t.T) (λt=>t.Q) (λa b d e=>by cases a;cases b;cases d;cases e;rfl) A8y.ll F9.cmpI λ_ _=>⟨λ_ _=>trivial,trivial⟩).congr λa b=>by show Dh a b=E7 (LL Of a.T b.T) (Go.Ab.E6 a.Q b.Q);rw[Avy];rfl
theorem A8z(i j:Ay):Ky i j=E7 (Go.Ab.E6 i.U j.U) (LL Ky i.K j.K):=by rw[Amm,Ahh];unfold E7 LL;by_cases h:i.U=j.U;rw[Ar h,Ar (Hq.2 h)];rw[Au h,Au λe=>h (Hq.1 e)]
theorem Am8:∀n:Nat,F9 (λi=>Cz i<=n) Ky:=by intro n;induction n with|zero=>exact⟨λa _ d=>by have:=Gn a;omega,λa _ d=>by have:=Gn a;omega,λa _ _ d=>by have:=Gn a;omega⟩|succ n ih=>refine(F9.or (S:=λi=>Cz i<=n+1) (λi:Ay=>i.U) (λi=>i.K) (λa b e h=>by cases a;cases b;cases e;cases h;rfl) F9.cmpI ih.ll ?_).congr A8z;intro i r;refine⟨trivial,λx o=>?_⟩;have e:=Nl o;have h:=Gn i;show Cz x<=n;omega
theorem A80:F9 (λ_=>True) Ky:=⟨λa b _ _=>(Am8 (max (Cz a) (Cz b))).zero a b (by show Cz a<=_;omega) (by show Cz b<=_;omega),λa b _ _=>(Am8 (max (Cz a) (Cz b))).anti a b (by show Cz a<=_;omega) (by show Cz b<=_;omega), λa b c _ _ _=>(Am8 (max (Cz a) (max (Cz b) (Cz c)))).trans a b c (by show Cz a<=_;omega) (by show Cz b<=_;omega) (by show Cz c<=_;omega)⟩
theorem A81:F9 (λ_=>True) Og:=(F9.or (S:=λ_=>True) (λt:Bl=>t.v) (λt=>t.I) (λa b d e=>by cases a;cases b;cases d;cases e;rfl) F9.cmpI A80 λ_ _=>⟨trivial,trivial⟩).congr λ_ _=>rfl
theorem A82:F9 (λ_=>True) Pf:=(F9.or (S:=λ_=>True) (λt:A6=>t.L) (λt=>t.P) (λa b d e=>by cases a;cases b;cases d;cases e;rfl) G3 F9.cmpI λ_ _=>⟨trivial,trivial⟩).congr λ_ _=>rfl
theorem Am9:F9 (λ_=>True) Dn:=(F9.or (S:=λ_=>True) (λt:Aw=>t.F) (λt=>t.A) (λa b d e=>by cases a;cases b;cases d;cases e;rfl) A81.ll A82.ll λ_ _=>⟨λ_ _=>trivial,λ_ _=>trivial⟩).congr λa b=>by show Dn a b=E7 (LL Og a.F b.F) (LL Pf a.A b.A);rw[Avy];rfl
theorem Hj{a b:Aw}:Dn a b=0↔a=b:=Am9.zero a b trivial trivial
theorem Wp(a b:Aw):Dn b a = - Dn a b:=Am9.anti a b trivial trivial
theorem T3{a b c:Aw}(h:Dn a b<0)(d:Dn b c<0):Dn a c<0:=Am9.trans a b c trivial trivial trivial h d
theorem Ana(m:Aw):Dn m m=0:=Hj.2 rfl
theorem Anb{a b:Aw}:0<Dn a b↔Dn b a<0:=by rw[Wp a b];omega
def cf:Ad->Aw->Rat
 |[],_=>0
 |t::p,m=>(if Dn t.M m=0 then rq t.C else 0)+cf p m
def ltT(t u:Ae):Prop:=Dn t.M u.M<0
structure CP(p:List Ae):Prop where
 srt:p.Pairwise ltT
 coe:∀t∈p,Ij t.C/\rq t.C≠0
theorem CP.tail(h:CP (t::p)):CP p:=⟨(pairwise_cons.1 h.srt).2,λu d=>h.coe u (by simp[d])⟩
theorem CP.head(h:CP (t::p)):∀u∈p,Dn t.M u.M<0:=(pairwise_cons.1 h.srt).1
theorem CP.nil:CP []:=⟨Pairwise.nil,λ_ h=>by cases h⟩
theorem CP.cons{t:Ae}{p:Ad}(h:CP p)(h1:∀u∈p,Dn t.M u.M<0)(h2:Ij t.C)(h3:rq t.C≠0):CP (t::p):=⟨pairwise_cons.2 ⟨h1,h.srt⟩,λu d=>by rcases Ed.1 d with rfl|d;exact⟨h2,h3⟩;exact h.coe u d⟩
theorem Ahy(h:∀t∈p,Dn t.M m≠0):cf p m=0:=by induction p with|nil=>rfl|cons t p ih=>simp only[cf];rw[Au (h t ψ),ih λu d=>h u (by simp[d])];grind
theorem Adl(h:∀t∈p,Dn m t.M<0):cf p m=0:=Ahy λt d e=>by have:=h t d;rw[Wp,e]at this;omega
theorem Wq(h:CP (t::p)):cf (t::p) t.M=rq t.C:=by simp only[cf];rw[Ar (Ana _),Adl h.head];grind
theorem Anc(h:Dn t.M m≠0):cf (t::p) m=cf p m:=by simp only[cf];rw[Au h];grind
theorem Mp(p q:Ad)(m:Aw):cf (p++q) m=cf p m+cf q m:=by induction p with|nil=>simp only[nil_append,cf];grind|cons t p ih=>simp only[Er,cf,ih];grind
theorem Lz(h:CP p)(d:t∈p):cf p t.M=rq t.C:=by induction p with|nil=>cases d|cons u p ih=>rcases Ed.1 d with rfl|d;exact Wq h;have:=h.head t d;rw[Anc ω];exact ih h.tail d
theorem CP.ext:∀{p q:Ad},CP p->CP q->(∀m,cf p m=cf q m)->p=q
 |[],[],_,_,_=>rfl
 |[],u::q,_,h2,h=>by have:=h u.M;rw[Wq h2]at this;exact((h2.coe u ψ).2 this.symm).elim
 |t::p,[],h1,_,h=>by have:=h t.M;rw[Wq h1]at this;exact((h1.coe t ψ).2 this).elim
 |t::p,u::q,h1,h2,h=>by(have b:Dn t.M u.M=0:=by rcases Int.lt_trichotomy (Dn t.M u.M) 0 with k|k|k;have e:=h t.M;rw[Wq h1,Adl (p:=u::q)]at e;exact((h1.coe t ψ).2 e).elim;intro w d;rcases Ed.1 d with rfl|d;exact k;exact T3 k (h2.head w d);exact k;have k:=Anb.1 k;have e:=h u.M;rw[Wq h2,Adl (p:=t::p)]at e;exact((h2.coe u ψ).2 e.symm).elim;intro w d;rcases Ed.1 d with rfl|d;exact k;exact T3 k (h1.head w d));have hm:=Hj.1 b;have hc:t.C=u.C:=(by refine Zl (h1.coe t ψ).1 (h2.coe u ψ).1 ?_;have e:=h t.M;rw[Wq h1,hm,Wq h2]at e;exact e);have i:t=u:=(by cases t;cases u;simp_all);subst i;congr 1;refine CP.ext h1.tail h2.tail λm=>?_;by_cases e:Dn t.M m=0;rw[<-Hj.1 e,Adl h1.head,Adl h2.head];have:=h m;rwa [Anc e,Anc e]at this
theorem Avz(c:An):Wm c=true↔Ij c/\rq c≠0:=by unfold Wm Ij;rw[Dr,Ahx];(have h:(!(nv c==0))=true↔rq c≠0:=by have e:rq c=0↔nv c=0:=(by unfold rq;rw[Rat.mkRat_eq_zero (Fj c)];unfold sg;split<;>omega);rw[Ne,e];simp);rw[h];exact⟨λ⟨a,b⟩=>⟨a.symm,b⟩,λ⟨a,b⟩=>⟨a.symm,b⟩⟩
theorem A83{l:Ad}(h:∀(j:Nat)(x y:Ae),l[j]?=some x->l[j+1]?=some y->Dn x.M y.M<0):l.Pairwise ltT:=by induction l with|nil=>exact Pairwise.nil|cons t l ih=>have ih:=ih λj x y i o=>h (j+1) x y (by simpa using i) (by simpa using o);refine pairwise_cons.2 ⟨?_,ih⟩;cases l with|nil=>intro u d;cases d|cons v l=>have e:=h 0 t v rfl rfl;intro u d;rcases Ed.1 d with rfl|d;exact e;exact T3 e ((pairwise_cons.1 ih).1 u d)
theorem Adm:Kg Δ Ξ Θ p=true↔p.length<=1000/\CP p/\∀t∈p,It Δ Ξ Θ t.M=true:=by unfold Kg;rw[Dr,Eh];constructor;rintro⟨i,h⟩;have g:∀(j:Nat)(t:Ae),p[j]?=some t->Wm t.C=true/\It Δ Ξ Θ t.M=true/\Tz p t j=true:=(by intro j t d;have:=Ju h d;simp only[T0,Dr]at this;exact⟨this.1.1,this.1.2,this.2⟩);refine⟨i,⟨A83 λj x y s A=>?_,λt o=>?_⟩,λt o=>?_⟩;have:=(g _ _ A).2.2;unfold Tz at this;rw[show j+1-1=j by omega,s]at this;simpa using this;obtain⟨j,d⟩:=Fo o;exact(Avz _).1 (g j t d).1;obtain⟨j,d⟩:=Fo o;exact(g j t d).2.1;rintro⟨i,h,B⟩;refine⟨i,Gu.2 λq e=>?_⟩;have e:=mem_zipIdx' e;have d:p[q.2]?=some q.1:=(Bn e.1).trans (congrArg some e.2.symm);have r:q.1∈p:=B5 d;simp only[T0,Dr];refine⟨⟨(Avz _).2 (h.coe _ r),B _ r⟩,?_⟩;unfold Tz;by_cases C:q.2=0;rw[C];rfl;have b:q.2-1<p.length:=ω;rw[Bn b];have:=pairwise_iff_getElem.1 h.srt (q.2-1) q.2 b e.1 ω;rw[<-e.2]at this;simp only[Bool.or_eq_true,Eh];exact .inr this
theorem A84:∀(k:Nat)(t:Ay),Cz t<=k->k<1099511627776->Vk k t=some t:=by intro k;induction k with|zero=>intro t h;have:=Gn t;omega|succ k ih=>intro t h r;have c:=Gn t;have b:=Od t.K;rw[Vk];refine H5 t.K (λj=>((j:Int),t.K.take j)) rfl ω ?_ ?_;intro j x s d e i o;have:=Nl (B5 d);simp only[e,i,o,Ak,Ac,ih x ω ω];rw[Di ζ,Ac,C4 d];intro e;exact⟨t.K,ψ,by cases t;rfl⟩
theorem A85(m:Aw)(b:Eo m):Abn m=some m:=by have f:=b.nf;have c:=b.na;unfold Abn;refine H5 m.F (λj=>((j:Int),m.F.take j)) rfl ω ?_ ?_;intro j x r d e h i;have o:=B5 d;have:=b.fi x o;simp only[e,h,i,Ak,Ac,A84 4000000 x.I ω ω];rw[Di ζ,Ac,C4 d];intro e;refine⟨m.F,ψ,?_⟩;dsimp only;refine H5 m.A (λj=>((j:Int),m.A.take j)) rfl ω ?_ ?_;intro j x r d e h i;have o:=B5 d;have:=b.al x o;simp only[e,h,i,Ak,Ac,Ab2];rw[Di ζ,Ac,Di ζ,Ac,C4 d];rfl;intro e;exact⟨m.A,ψ,by cases m;rfl⟩
structure TB(k:Nat)(t:Ae):Prop where
 co:RB k t.C
 mo:Eo t.M
theorem TSz.tb(h:TSz t):TB 1048576 t:=⟨h.co,h.mo⟩
theorem TB.mono(h:TB j t)(hk:j<=k):TB k t:=⟨h.co.mono hk,h.mo⟩
def J6(n:Int)(f:Bool):Ag:=if f then(if n<0 then[45]else[])else(if n<0 then[32,45,32]else[32,43,32])
def Lg(n:Int):Ag:=if n.natAbs=1 then[]else ti n.natAbs++[42]
def Ki(v:Int):Ag:=if v = -1 then[114,101,115]else 118::ti v
def tT(f:Bool)(t:Bh):Ag:=J6 t.C f++(Lg t.C++Ki t.v)
def Jc:Bool->A7->Int->Ag
 |f,[],c=>if c≠0\/f=true then J6 c f++ti c.natAbs else[]
 |f,t::ts,c=>tT f t++Jc false ts c
def Adn(l:Aq):Ag:=Jc true l.T l.Q
def Kj(X:Ag):Prop:=∀c m,X=c::m->c=97
theorem Kj.nil:Kj []:=by intro c m h;cases h
theorem Kj.cons(X:Ag):Kj (97::X):=by intro c m h;cases h;rfl
theorem Kj.nonum(h:Kj X):Nm X:=by intro c m e;rw[h c m e];decide
theorem Ane(n:Nat):∃c m,ti n=c::m/\48<=c/\c<=57:=by have b:=Amd (n:Int);cases h:ti (n:Int)with|nil=>exact(b h).elim|cons c m=>refine⟨c,m,rfl,?_⟩;have d:c∈ti (n:Int):=(by rw[h];simp);unfold ti at d;obtain⟨x,i,rfl⟩:=mem_map.1 d;have e:Lib.itoa (n:Int)=Lib.decDigits n:=(by unfold Lib.itoa;first|rfl|(rw[Au ω];simp)|simp);rw[e]at i;have:=Ag7 n n (Nat.le_refl _) x i;omega
theorem Av0(ts:A7)(c:Int)(b:Kj X):Nm (Jc false ts c++X):=by(have k:∀(n:Int)(Y:Ag),Nm (J6 n false++Y):=by intro n Y c m e;unfold J6 at e;simp only[Bool.false_eq_true,if_false]at e;split at e<;>(cases e;decide));cases ts with|nil=>simp only[Jc];split;rw[append_assoc];exact k _ _;exact b.nonum|cons t ts=>simp only[Jc,tT,append_assoc];exact k _ _
theorem Av1{R:Ag}(c:Nm R)(b:Nm S)(h:Ki v++R=Ki w++S):v=w/\R=S:=by unfold Ki at h;split at h<;>split at h;simp only[Er,nil_append,List.cons.injEq,true_and]at h;exact⟨ω,h⟩;simp at h;simp at h;simp only[Er,List.cons.injEq,true_and]at h;obtain⟨g,f⟩:=Rv _ _ _ _ (Jn v) (Jn w) c b h;exact⟨Wd g,f⟩
theorem Anf(v:Int):∃c m,Ki v=c::m/\(c=114\/c=118):=by unfold Ki;split;exact⟨_,_,rfl,.inl rfl⟩;exact⟨_,_,rfl,.inr rfl⟩
theorem Ang(X:Ag):Nm (42::X):=by intro c m e;cases e;decide
theorem A86{a b:Int}{R:Ag}(i:Nm R)(g:Nm S)(h:Lg a++(Ki v++R)=Lg b++(Ki w++S)):a.natAbs=b.natAbs/\v=w/\R=S:=by unfold Lg at h;(have o:∀(n:Nat)(u:Int)(X Y:Ag),Ki u++X=ti n++[42]++Y->False:=by intro n u X Y e;obtain⟨c,m,f,l⟩:=Anf u;obtain⟨d,k,j,r⟩:=Ane n;rw[f,j]at e;simp only[Er,List.cons.injEq]at e;omega);split at h<;>split at h;rename_i s A;simp only[nil_append]at h;exact⟨s.trans A.symm,Av1 i g h⟩;exact(o _ _ _ _ h).elim;exact(o _ _ _ _ h.symm).elim;simp only[append_assoc,Er,nil_append]at h;obtain⟨f,l⟩:=Rv _ _ _ _ (Jn _) (Jn _) (Ang _) (Ang _) h;have j:=Wd f;obtain⟨r,q⟩:=Av1 i g (List.cons.inj l).2;exact⟨ω,r,q⟩
def NoM(P:Ag):Prop:=∃c m,P=c::m/\c≠45
theorem NoM.ti(n:Nat)(X:Ag):NoM (Go.Ab.ti n++X):=by obtain⟨c,m,e,h⟩:=Ane n;exact⟨c,m++X,by rw[e];rfl,ω⟩
theorem NoM.pT(a v:Int)(X:Ag):NoM (Lg a++(Ki v++X)):=by unfold Lg;split;obtain⟨c,m,e,h⟩:=Anf v;exact⟨c,m++X,by rw[e];rfl,ω⟩;rw[append_assoc];exact NoM.ti _ _
theorem Anh{a b:Int}{f:Bool}{Q:Ag}(i:NoM P)(g:NoM Q)(h:J6 a f++P=J6 b f++Q):(a<0↔b<0)/\P=Q:=by obtain⟨c,m,rfl,r⟩:=i;obtain⟨d,k,rfl,s⟩:=g;unfold J6 at h;cases f with|true=>simp only[if_true]at h;split at h<;>split at h;rename_i e o;exact⟨by simp[e,o],by simpa using h⟩;simp at h;exact(s h.1.symm).elim;simp at h;exact(r h.1).elim;rename_i e o;exact⟨by simp[e,o],by simpa using h⟩|false=>simp only[Bool.false_eq_true,if_false]at h;split at h<;>split at h;rename_i e o;exact⟨by simp[e,o],by simpa using h⟩;simp at h;simp at h;rename_i e o;exact⟨by simp[e,o],by simpa using h⟩
theorem Ani{n:Int}(b:Kj X)(h:J6 n false++P=X):False:=by unfold J6 at h;simp only[Bool.false_eq_true,if_false]at h;split at h;have:=b _ _ h.symm;omega;have:=b _ _ h.symm;omega
theorem Av2{c d:Int}{f:Bool}{u:Bh}{m:A7}{Y:Ag}(b:Kj X)(k:Kj Y)(h:Jc f [] c++X=Jc f (u::m) d++Y):False:=by simp only[Jc,tT]at h;split at h;simp only[append_assoc]at h;obtain⟨_,e⟩:=Anh (NoM.ti _ _) (NoM.pT _ _ _) h;unfold Lg at e;split at e;obtain⟨r,s,j,A⟩:=Anf u.v;obtain⟨B,C,g,D⟩:=Ane c.natAbs;rw[j,g]at e;simp only[nil_append,Er,List.cons.injEq]at e;omega;simp only[append_assoc,Er,nil_append]at e;obtain⟨_,g⟩:=Rv _ _ _ _ (Jn _) (Jn _) b.nonum (Ang _) e;have:=b _ _ g;omega;rename_i o;have i:f=false:=(by cases f with|true=>simp at o|false=>rfl);subst i;simp only[nil_append,append_assoc]at h;exact Ani b h.symm
theorem Av3:∀(l m:A7)(f:Bool)(c d:Int)(X Y:Ag),Kj X->Kj Y->Jc f l c++X=Jc f m d++Y->l=m/\c=d/\X=Y
 |[],[],f,c,d,X,Y,g,b,h=>by simp only[Jc]at h;split at h<;>split at h;simp only[append_assoc]at h;obtain⟨x,q⟩:=Anh (NoM.ti _ _) (NoM.ti _ _) h;obtain⟨j,e⟩:=Rv _ _ _ _ (Jn _) (Jn _) g.nonum b.nonum q;have s:=Wd j;exact⟨rfl,ω,e⟩;rename_i o r;have i:f=false:=(by cases f with|true=>simp at r|false=>rfl);subst i;simp only[append_assoc,nil_append]at h;exact(Ani b h).elim;rename_i o r;have i:f=false:=(by cases f with|true=>simp at o|false=>rfl);subst i;simp only[append_assoc,nil_append]at h;exact(Ani g h.symm).elim;rename_i o r;refine⟨rfl,?_,by simpa using h⟩;have B:c=0:=(by by_cases k:c=0;exact k;exact(o (.inl k)).elim);have C:d=0:=(by by_cases k:d=0;exact k;exact(r (.inl k)).elim);omega
 |[],u::m,f,c,d,X,Y,g,b,h=>(Av2 g b h).elim
 |t::l,[],f,c,d,X,Y,g,b,h=>(Av2 b g h.symm).elim
 |t::l,u::m,f,c,d,X,Y,g,b,h=>by simp only[Jc,tT,append_assoc]at h;obtain⟨x,q⟩:=Anh (NoM.pT _ _ _) (NoM.pT _ _ _) h;obtain⟨j,e,s⟩:=A86 (Av0 _ _ g) (Av0 _ _ b) q;obtain⟨A,z,y⟩:=Av3 l m false c d X Y g b s;have:t=u:=(by cases t;cases u;simp only at x j e;subst e;congr 1;omega);exact⟨by rw[this,A],z,y⟩
def I2(a:A6):Ag:=97::(ti a.P++58::Adn a.L)
def G4(f:Bl):Ag:=Kx f.v f.I
def Ado(m:Aw):Ag:=m.F.flatMap G4++m.A.flatMap I2
theorem Ahz(l:A2):Kj (l.flatMap I2):=by cases l with|nil=>exact Kj.nil|cons a l=>simp only[flatMap_cons,I2,Er];exact Kj.cons _
theorem Ah0(X:Ag):Nm (58::X):=by intro c m e;cases e;decide
theorem Av4:∀(l m:A2),l.flatMap I2=m.flatMap I2->l=m
 |[],[],_=>rfl
 |[],b::m,h=>by simp[I2]at h
 |a::l,[],h=>by simp[I2]at h
 |a::l,b::m,h=>by simp only[flatMap_cons,I2,Er,append_assoc,List.cons.injEq,true_and]at h;obtain⟨q,k⟩:=Rv _ _ _ _ (Jn _) (Jn _) (Ah0 _) (Ah0 _) h;have j:=(List.cons.inj k).2;obtain⟨d,f,i⟩:=Av3 _ _ true _ _ _ _ (Ahz l) (Ahz m) j;have g:=Av4 l m i;have c:=Wd q;obtain⟨⟨e,t1⟩,d1⟩:=a;obtain⟨⟨o,t2⟩,d2⟩:=b;simp only at d f c;rw[d,f,c,g]
theorem Av5(l:Be)(b:Kj X):To (l.flatMap G4++X):=by cases l with|nil=>intro c m e;rw[b c m e];exact⟨δ,δ⟩|cons a l=>intro c m e;simp only[flatMap_cons,G4,Kx,Er]at e;cases e;exact⟨δ,δ⟩
theorem Av6:∀(l m:Be)(X Y:Ag),Kj X->Kj Y->l.flatMap G4++X=m.flatMap G4++Y->l=m/\X=Y
 |[],[],X,Y,_,_,h=>⟨rfl,by simpa using h⟩
 |[],b::m,X,Y,f,_,h=>by simp only[flatMap_cons,flatMap_nil,G4,Kx,Er,nil_append]at h;have:=f _ _ h;omega
 |a::l,[],X,Y,_,c,h=>by simp only[flatMap_cons,flatMap_nil,G4,Kx,Er,nil_append]at h;have:=c _ _ h.symm;omega
 |a::l,b::m,X,Y,f,c,h=>by simp only[flatMap_cons,G4,Kx,Er,append_assoc,List.cons.injEq,true_and]at h;obtain⟨u,s⟩:=Rv _ _ _ _ (Jn _) (Jn _) (Ah0 _) (Ah0 _) h;have q:=(List.cons.inj s).2;obtain⟨d,k⟩:=Amf _ _ _ _ (Av5 l f) (Av5 m c) q;obtain⟨j,i⟩:=Av6 l m X Y f c k;have g:=Wd u;obtain⟨x,e⟩:=a;obtain⟨o,r⟩:=b;simp only at d g;exact⟨by rw[d,g,j],i⟩
theorem A87{n:Aw}(h:Ado m=Ado n):m=n:=by obtain⟨c,f⟩:=Av6 _ _ _ _ (Ahz _) (Ahz _) h;have b:=Av4 _ _ f;cases m;cases n;simp only at c b;rw[c,b]
def By(l:Ag):Prop:=∀c∈l,0<=c/\c<256
theorem By.app{m:Ag}(h:By l)(h':By m):By (l++m):=by intro c hc;rcases Ef.1 hc with k|k;exact h c k;exact h' c k
theorem By.ti(n:Int):By (Go.Ab.ti n):=by intro c h;have:=Jn n c h;simp only[Ru,Bool.or_eq_true,Dr,beq_iff_eq,Eh]at this;omega
theorem By.cons{c:Int}{l:Ag}(hc:0<=c/\c<256)(h:By l):By (c::l):=by intro d hd;rcases Ed.1 hd with rfl|k;exact hc;exact h d k
theorem By.nil:By []:=λc h=>by cases h
theorem By.sgn(n:Int)(f:Bool):By (J6 n f):=by unfold J6;split<;>split<;>intro c hc<;>simp at hc<;>omega
theorem By.mag(n:Int):By (Lg n):=by unfold Lg;split;exact By.nil;exact(By.ti _).app (By.cons ω By.nil)
theorem By.var(n:Int):By (Ki n):=by unfold Ki;split;intro c hc;simp at hc;omega;exact By.cons ω (By.ti _)
theorem By.tT(f:Bool)(t:Bh):By (tT f t):=(By.sgn _ _).app ((By.mag _).app (By.var _))
theorem By.lins:∀(l:A7)(f:Bool)(c:Int),By (Jc f l c)
 |[],f,c=>by simp only[Jc];split;exact(By.sgn _ _).app (By.ti _);exact By.nil
 |t::l,f,c=>(By.tT f t).app (By.lins l false c)
theorem By.at(a:A6):By (I2 a):=By.cons ω ((By.ti _).app (By.cons ω (By.lins _ _ _)))
theorem By.flat(h:∀a,By (g a))(l:Λ α):By (l.flatMap g):=by intro c hc;obtain⟨a,_,k⟩:=mem_flatMap.1 hc;exact h a c k
theorem By.fac(f:Bl):By (G4 f):=Aha f.v f.I
theorem By.mono(m:Aw):By (Ado m):=(By.flat By.fac _).app (By.flat By.at _)
def bs(l:Ag):Β:=⟨(Fu l).toArray⟩
theorem A88{m:Ag}(b:By l)(d:By m)(h:bs l=bs m):l=m:=by unfold bs at h;(have e:(Fu l).toArray=(Fu m).toArray:=by injection h);(have i:Fu l=Fu m:=by simpa using congrArg Array.toList e);exact Amj _ _ b d i
def Mq(m:Aw):Β:=bs (Ado m)
theorem Av7{n:Aw}(h:Mq m=Mq n):m=n:=A87 (A88 (By.mono m) (By.mono n) h)
theorem Adp(l:Ag):(bs l).size=l.length:=by unfold bs Fu;simp[ByteArray.size]
theorem Av8(h:By l):O0 (bs l)=l:=by
 unfold O0 bs Fu
 simp only[map_map]
 conv=>rhs;rw[<-map_id l]
 refine map_congr_left λc d=>?_
 have:=h c d
 simp only[Function.comp,UInt8.toNat_ofNat',id]
 omega
theorem A89(l m:Ag):bs l++bs m=bs (l++m):=by apply ByteArray.ext;rw[ByteArray.data_append];unfold bs Fu;simp
theorem Wr{m:Ag}(h:l.length+m.length<=9223372036854775807):Gt (bs l) (bs m)=some (bs (l++m)):=by unfold Gt;rw[Ar (by rw[Adp,Adp];exact h),A89]
theorem Ah1{n:Int}(h:I64 n):Qy n=some (bs (ti n)):=by
 rw[Ami h]
 congr 2
 congr 1
 unfold Fu ti
 rw[map_map]
 conv=>lhs;rw[<-map_id (Lib.itoa n)]
 refine map_congr_left λc _=>?_
 simp[Function.comp]
theorem A9a(v:Int)(i:Ay):Jo v i=bs (Kx v i):=rfl
theorem Ah2{S:Type}{step:S->Ο (S⊕E)}{s0:S}{J:E->Ο R}{r:R}(x0:α)(xs:Λ α)(b:Nat->S)(h0:s0=b 0)(f:xs.length<2305843009213693952)(c:∀(j:Nat)(x:α),xs[j]?=some x->decide (((j+1:Nat):Int)<((x0::xs).length:Int))=true->Af (x0::xs) ((j+1:Nat):Int)=some x->Aa (((j+1:Nat):Int)+1)=((j+1+1:Nat):Int)->step (b j)=some (.inl (b (j+1))))(d:decide (((xs.length+1:Nat):Int)<((x0::xs).length:Int))=false->∃e,step (b xs.length)=some (.inr e)/\J e=some r):(Ao step s0).bind J=some r:=by refine Jt xs.length b h0 (λj h=>?_) (d ψ);have i:xs[j]?=some xs[j]:=Bn h;exact c j _ i (Al (by simp only[Fd];omega)) (B1 rfl ψ) (Dd (n:=xs.length+1) ω ω)
theorem Ct{X:Ο α}{a:α}{K:α->Ο β}{r:Ο β}(h:X=some a)(k:K a=r):X.bind K=r:=by rw[h];exact k
theorem Pi(c:By l)(h:b.length+l.length<=140737488355328):H4 (bs l) b=some ((l.length:Int),b++l):=by simp only[H4,Y5,Ac,Av8 c,Adp];rw[Di ω];rfl
theorem Ws(c:By l)(h:b.length+l.length<=140737488355328):Kt (bs l) b=some ((l.length:Int),b++l):=by simp only[Kt,Abv,Ac,Av8 c,Adp];rw[Di ω];rfl
theorem T5(hb:By b):Nb b=some (bs b):=by exact Ar hb
theorem A9b(hb:By b):Acw b=some (bs b):=T5 hb
theorem Anj(n:Int)(h : -1048576<=n/\n<=1048576):(Lg n).length<=22:=by unfold Lg;split;simp;have:=Pe (n:=(n.natAbs:Int)) (by unfold I64;omega);simp;omega
theorem Ah3(n:Int)(f:Bool):(J6 n f).length<=3:=by unfold J6;split<;>split<;>simp
theorem A9c(h : -1<=v/\v<3000):(Ki v).length<=22:=by unfold Ki;split;simp;have:=Pe (n:=v) (by unfold I64;omega);simp;omega
structure Av9(a:Aq):Prop where
 c : -1048576<=a.Q/\a.Q<=1048576
 n:a.T.length<=16
 t:∀t∈a.T,(-1<=t.v/\t.v<3000)/\(-1048576<=t.C/\t.C<=1048576)
theorem Ank{a:Aq}(h:Co a=true):Av9 a:=by unfold Co at h;simp only[Dr,Eh]at h;refine⟨⟨h.1.1,h.1.2.1⟩,h.1.2.2,λt d=>?_⟩;obtain⟨j,e⟩:=Fo d;have:=Ju h.2 e;simp only[Ql,Dr,Eh]at this;omega
theorem Anl{t:Bh}(f:Bool)(h:(-1<=t.v/\t.v<3000)/\(-1048576<=t.C/\t.C<=1048576)):(tT f t).length<=47:=by have:=Ah3 t.C f;have:=Anj t.C h.2;have:=A9c h.1;unfold tT;simp only[Fe];omega
theorem Awa{n:Int}(h : -1048576<=n/\n<=1048576):(if Aa (0-n)>n then Aa (0-n)else n)=(n.natAbs:Int):=by rw[Aa,Bm ω ω];split<;>omega
theorem c45:ByteArray.mk #[45]=bs [45]:=rfl
theorem A9d:ByteArray.mk #[32,45,32]=bs [32,45,32]:=rfl
theorem A9e:ByteArray.mk #[32,43,32]=bs [32,43,32]:=rfl
theorem c42:ByteArray.mk #[42]=bs [42]:=rfl
theorem Awb:ByteArray.mk #[118]=bs [118]:=rfl
theorem c97:ByteArray.mk #[97]=bs [97]:=rfl
theorem c58:ByteArray.mk #[58]=bs [58]:=rfl
theorem Awc:ByteArray.mk #[114,101,115]=bs [114,101,115]:=rfl
theorem Awd:By [45]:=By.cons ω By.nil
theorem by3(a b c:Int)(d:0<=a/\a<256)(hb:0<=b/\b<256)(e:0<=c/\c<256):By [a,b,c]:=By.cons d (By.cons hb (By.cons e By.nil))
theorem Awe{n:Int}(f:Bool)(d : -1048576<=n/\n<=1048576)(hb:b.length<=1099511627776):Acv n f b=some ((n.natAbs:Int),b++J6 n f):=by unfold Acv J6;rw[Awa d,c45,A9d,A9e];rw[Pi Awd ζ,Pi (by3 _ _ _ ω ω ω) ζ,Pi (by3 _ _ _ ω ω ω) ζ];by_cases h:n<0;rw[Al h,Ar h,Ar h];cases f<;>rfl;rw[Am h,Au h,Au h];cases f<;>simp
theorem A9f{n:Int}(d : -1048576<=n/\n<=1048576)(hb:b.length<=1099511627776):Vf n true b=some (if n<0 then .inl ((n.natAbs:Int),b++[45])else .inr ((n.natAbs:Int),b)):=by unfold Vf;rw[Awa d,c45,Ws Awd ζ];by_cases h:n<0;rw[Al h,Ar h];rfl;rw[Am h,Au h];rfl
theorem Anm(h:n<=1048576):O9 (n:Int) 10=some (bs (ti n)):=by unfold O9 Afk;exact Ah1 (by unfold I64;omega)
theorem Ah4(h:n<=1048576):(ti (n:Int)).length<=21:=Pe (by unfold I64;omega)
theorem Awf{n:Int}(d : -1048576<=n/\n<=1048576)(hb:b.length<=1099511627776):(bif((n.natAbs:Int) != (1:Int))then(O9 (n.natAbs:Int) 10).bind λv=>(Gt v (ByteArray.mk #[42])).bind λu=>(H4 u b).bind λw=>some w.2 else some b)=some (b++Lg n):=by have e:=Ah4 (n:=n.natAbs) ω;unfold Lg;by_cases h:n.natAbs=1;rw[Dv ω,Ar h];simp;rw[D5 ω,Au h,Anm ω,c42];simp only[Ak,Ac];rw[Wr ζ,Ac,Pi ((By.ti _).app (By.cons ω By.nil)) ζ];rfl
theorem Ano(K:Ag->Ο R)(c : -1<=v/\v<3000)(hb:b.length<=1099511627776):(bif(v==(-1))then(H4 (ByteArray.mk #[114,101,115]) b).bind λw=>K w.2 else(Jy v).bind λx=>(Gt (ByteArray.mk #[118]) x).bind λy=>(H4 y b).bind λw=>K w.2)=K (b++Ki v):=by have d:=Pe (n:=v) (by unfold I64;omega);unfold Ki;by_cases h:v = -1;rw[Es h,Ar h,Awc,Pi (by3 _ _ _ ω ω ω) ζ];rfl;rw[Ck h,Au h,Awb];simp only[Aj,Jy];rw[Ah1 (by unfold I64;omega),Ac,Wr ζ,Ac];rw[show[118]++ti v=118::ti v from rfl,Pi (By.cons ω (By.ti _)) ζ];rfl
theorem Ah5{l:Λ α}{x:α}(h:l[j]?=some x):(l.take (j+1)).flatMap g=(l.take j).flatMap g++g x:=by rw[C4 h];simp
theorem Awg{α:Type}{g:α->Ag}{n:Nat}:∀(l:Λ α),(∀a∈l,(g a).length<=n)->(l.flatMap g).length<=l.length*n
 |[],_=>ψ
 |a::l,h=>by have e:=h a ψ;have i:=Awg l λb d=>h b (by simp[d]);simp only[flatMap_cons,Fe,Fd,Nat.add_mul];omega
theorem Anp(l:Λ α)(j:Nat)(h:∀a∈l,(g a).length<=n):((l.take j).flatMap g).length<=l.length*n:=by refine Nat.le_trans (Awg _ λa d=>h a (mem_of_mem_take d)) (Nat.mul_le_mul_right _ ?_);rw[length_take];omega
theorem Awh:∀(ts:A7)(c:Int),Jc false ts c=ts.flatMap (tT false)++Jc false [] c
 |[],c=>ψ
 |t::ts,c=>by have:=Awh ts c;simp only[flatMap_cons,append_assoc,<-this];rfl
theorem A9g{a:Aq}(h:Co a=true)(B:a.T≠[]):Rg a=some (bs (Adn a)):=by have z:=Ank h;unfold Rg;rw[Ml,h];obtain⟨c,l⟩:=a;cases l with|nil=>exact(B rfl).elim|cons t ts=>have F : -1048576<=c/\c<=1048576:=z.c;have K:ts.length<=15:=(by have:=z.n;simp at this;omega);have o:(-1<=t.v/\t.v<3000)/\(-1048576<=t.C/\t.C<=1048576):=z.t t ψ;have s:∀u∈ts,(-1<=u.v/\u.v<3000)/\(-1048576<=u.C/\u.C<=1048576):=λu r=>z.t u (by simp[r]);have x:=λj=>Anp (g:=tT false) (n:=47) ts j λu r=>Anl false (s u r);have J:=Anl true o;simp only[Ac,Ds,Aj];rw[Al (by simp only[Fd];omega),Ak];refine Ct (a:=((t.C.natAbs:Int),tT true t)) ?_ ?_;rw[show Af (t::ts) 0=some t from rfl,Ac,A9f o.2 ψ,Ac];have G:=Pe (n:=t.v) (by unfold I64;omega);have I:=Ah4 (n:=t.C.natAbs) ω;have D:=Anj t.C o.2;by_cases q:t.C<0;rw[Ar q];simp only;rw[Awf o.2 ψ,Ac];refine(Ano (λb=>some ((t.C.natAbs:Int),b)) o.1 ζ).trans ?_;simp[tT,J6,q];rw[Au q];simp only;by_cases d:t.C.natAbs=1;rw[Dv ω];simp only[Aj];by_cases y:t.v = -1;rw[Es y,Awc,Ak,Ws (by3 _ _ _ ω ω ω) ψ];simp[tT,J6,q,Lg,d,Ki,y];rw[Ck y,Aj,Awb,Jy,Ah1 (by unfold I64;omega),Ac,Wr ζ,Ac,show[118]++ti t.v=118::ti t.v from rfl, Ws (By.cons ω (By.ti _)) ζ];simp[tT,J6,q,Lg,d,Ki,y];rw[D5 ω];simp only[Ak];rw[Anm ω,Ac,c42,Wr ζ,Ac,Ws ((By.ti _).app (By.cons ω By.nil)) ζ,Ac];refine(Ano (λb=>some ((t.C.natAbs:Int),b)) o.1 ζ).trans ?_;simp[tT,J6,q,Lg,d];simp only;refine Ah2 t ts (λj=>(((j+1:Nat):Int),tT true t++(ts.take j).flatMap (tT false))) (by simp[Aa,Bm]) ω ?_ ?_;intro j u r d C H;have f:=s u (B5 r);have:=x j;have D:=Anj u.C f.2;have A:=Ah3 u.C false;simp only[d,C,H,Ak,Ac];rw[Ck ω,Awe false f.2 (by simp only[Fe];omega),Ac,Awf f.2 (by simp only[Fe];omega),Ac];refine(Ano (R:=(Int×List Int)⊕List Int) (λb=>some (.inl (((j+1+1:Nat):Int),b))) f.1 (by simp only[Fe];omega)).trans ?_;rw[Ah5 r];simp[tT];intro d;have C:=x ts.length;rw[Du]at C;refine⟨tT true t++ts.flatMap (tT false),by simp only[d,Aj,Du],?_⟩;have E:By (tT true t++ts.flatMap (tT false)):=(By.tT _ _).app (By.flat (By.tT _) _);have e:Adn ⟨c,t::ts⟩=tT true t++ts.flatMap (tT false)++Jc false [] c:=(by have:=Awh ts c;rw[append_assoc,<-this];rfl);rw[e];have k:((((t::ts).length:Nat):Int)==(0:Int))=false:=Ck (by simp only[Fd];omega);by_cases i:c=0;simp only[Dv i,Aj,k,Ac];rw[T5 E];simp[Jc,i];have L:=Ah4 (n:=c.natAbs) ω;have A:=Ah3 c false;simp only[D5 i,Ak,Ac,k];rw[Awe false F (by simp only[Fe];omega),Ac,Anm ω,Ac,Pi (By.ti _) (by simp only[Fe];omega),Ac, T5 ((E.app (By.sgn _ _)).app (By.ti _))];simp[Jc,i]
theorem Awi{a:Aq}(h:Av9 a):(Adn a).length<=1024:=by(have d:∀(l:A7)(f:Bool),(∀t∈l,(-1<=t.v/\t.v<3000)/\(-1048576<=t.C/\t.C<=1048576))->(Jc f l a.Q).length<=47*l.length+24:=by intro l;induction l with|nil=>intro f _;have e:=Ah4 (n:=a.Q.natAbs) (by have:=h.c;omega);have i:=Ah3 a.Q f;simp only[Jc];split<;>simp<;>omega|cons t l ih=>intro f b;have e:=Anl f (b t ψ);have i:=ih false λu o=>b u (by simp[o]);simp only[Jc,Fe,Fd];omega);have:=d a.T true h.t;have:=h.n;unfold Adn;omega
structure CMo(m:Aw):Prop where
 sz:Eo m
 nf:m.F.length<=6
 na:m.A.length<=6
 al:∀a∈m.A,Co a.L=true/\a.L.T≠[]/\1<=a.P/\a.P<=6
theorem Ah6{a:A6}(K:Β->Ο R)(h:Co a.L=true/\a.L.T≠[]/\1<=a.P/\a.P<=6):((Jy a.P).bind λu=>(Gt (ByteArray.mk #[97]) u).bind λv=>(Gt v (ByteArray.mk #[58])).bind λw=>(Rg a.L).bind λx=>(Gt w x).bind λy=>K y)=K (bs (I2 a)):=by have d:=Pe (n:=a.P) (by unfold I64;omega);have e:=Awi (Ank h.1);rw[Jy,Ah1 (by unfold I64;omega),Ac,c97,Wr ζ,Ac,c58,Wr ζ,Ac,A9g h.1 h.2.1,Ac,Wr ζ,Ac];simp[I2]
theorem Adq{a:A6}(h:Co a.L=true/\a.L.T≠[]/\1<=a.P/\a.P<=6):(I2 a).length<=1100:=by have d:=Pe (n:=a.P) (by unfold I64;omega);have e:=Awi (Ank h.1);simp[I2];omega
theorem Ah7{f:Bl}(h:Cz f.I<=1048576)(b:iR f.I/\I64 f.v):(G4 f).length<=33554432:=by have d:=Pe b.2;have e:=Amg f.I b.1;simp[G4,Kx];omega
theorem A9h(h:CMo m):Aa7 m=some (Mq m):=by obtain⟨d,c⟩:=m;have q:∀f∈d,Cz f.I<=1048576/\iR f.I/\I64 f.v:=λf i=>⟨h.sz.fi f i,h.sz.fr f i⟩;have u:∀a∈c,Co a.L=true/\a.L.T≠[]/\1<=a.P/\a.P<=6:=h.al;have M:d.length<=6:=h.nf;have K:c.length<=6:=h.na;have A:=λ(l:Be) (x:∀f∈l,f∈d) (j:Nat)=>Anp (g:=G4) (n:=33554432) l j λf i=>Ah7 (q f (x f i)).1 (q f (x f i)).2;have D:=λ(l:A2) (x:∀a∈l,a∈c) (j:Nat)=>Anp (g:=I2) (n:=1100) l j λa r=>Adq (u a (x a r));have L:∀l:Be,By (l.flatMap G4):=λl=>By.flat By.fac l;have E:∀l:A2,By (l.flatMap I2):=λl=>By.flat By.at l;have C:∀f:Bl,f∈d->P9 f.v f.I=some (bs (G4 f)):=λf i=>Amk f.v f.I (q f i).2.2 (q f i).2.1 (q f i).1;unfold Aa7 Mq Ado;cases d with|nil=>(rw[Am ψ,Aj];cases c with|nil=>rw[Am ψ,Aj];rw[A9b By.nil];rfl|cons a c=>have r:=u a ψ;have y:=Adq r;rw[Al (by simp only[Fd];omega),Ak,show Af (a::c) 0=some a from rfl,Ac];refine(Ah6 _ r).trans ?_;rw[Ws (By.at a) ζ,Ac];refine Ah2 a c (λj=>(((j+1:Nat):Int),[]++I2 a++(c.take j).flatMap I2)) (by simp[Aa,Bm]) (by simp at K;omega) ?_ ?_;intro j b e o F H;have k:=u b (by simp[B5 e]);have:=Adq k;have:=D c (λb e=>by simp[e]) j;simp at K;simp only[o,F,H,Ak,Ac];refine(Ah6 _ k).trans ?_;rw[Pi (By.at b) (by simp only[Fe,length_nil];omega),Ac,Ah5 e];simp;intro o;refine⟨[]++I2 a++c.flatMap I2,by simp only[o,Aj,Du],?_⟩;dsimp only;rw[T5 ((By.nil.app (By.at a)).app (E c))];simp)|cons f d=>have i:=q f ψ;have J:=Ah7 i.1 i.2;rw[Al (by simp only[Fd];omega),Ak,show Af (f::d) 0=some f from rfl,Ac,C f ψ,Ac,Ws (By.fac f) ζ,Ac];refine Ah2 f d (λj=>(((j+1:Nat):Int),[]++G4 f++(d.take j).flatMap G4)) (by simp[Aa,Bm]) (by simp at M;omega) ?_ ?_;intro j g N o F H;have s:g∈f::d:=(by simp[B5 N]);have:=Ah7 (q g s).1 (q g s).2;have:=A d (λb e=>by simp[e]) j;simp at M;simp only[o,F,H,Ak,Ac];rw[C g s,Ac,Pi (By.fac g) (by simp only[Fe,length_nil];omega),Ac,Ah5 N];simp;intro o;have G:=A d (λb e=>by simp[e]) d.length;rw[Du]at G;simp at M;refine⟨[]++G4 f++d.flatMap G4,by simp only[o,Aj,Du],?_⟩;have z:By ([]++G4 f++d.flatMap G4):=(By.nil.app (By.fac f)).app (L d);have I:([]++G4 f++d.flatMap G4).length<=234881024:=(by simp only[Fe,length_nil];omega);have eB:(f::d).flatMap G4=[]++G4 f++d.flatMap G4:=ψ;rw[eB];generalize[]++G4 f++d.flatMap G4=B at z I;cases c with|nil=>rw[Am ψ,Aj,T5 z];simp|cons a c=>have r:=u a ψ;have y:=Adq r;rw[Al (by simp only[Fd];omega),Ak,show Af (a::c) 0=some a from rfl,Ac];refine(Ah6 _ r).trans ?_;rw[Pi (By.at a) ω,Ac];refine Ah2 a c (λj=>(((j+1:Nat):Int),B++I2 a++(c.take j).flatMap I2)) (by simp[Aa,Bm]) (by simp at K;omega) ?_ ?_;intro j b e o F H;have k:=u b (by simp[B5 e]);have:=Adq k;have:=D c (λb e=>by simp[e]) j;simp at K;simp only[o,F,H,Ak,Ac];refine(Ah6 _ k).trans ?_;rw[Pi (By.at b) (by simp only[Fe];omega),Ac,Ah5 e];simp;intro o;refine⟨B++I2 a++c.flatMap I2,by simp only[o,Aj,Du],?_⟩;dsimp only;rw[T5 ((z.app (By.at a)).app (E c))];simp
def Ff(ts:Ad):At:=ts.zipIdx.map λq=>(Mq q.1.M,(q.2:Int))
def Dst(ts:Ad):Prop:=ts.Pairwise λt u=>t.M≠u.M
theorem A9i(ts:Ad)(t:Ae):Ff (ts++[t])=Ff ts++[(Mq t.M,(ts.length:Int))]:=by unfold Ff;simp[zipIdx_append]
theorem Adr(ts:Ad)(j:Nat):(Ff ts)[j]?=(ts[j]?).map λt=>(Mq t.M,(j:Int)):=by unfold Ff;simp[getElem?_map,getElem?_zipIdx];cases ts[j]?<;>rfl
theorem A9j{ts:Ad}(h:ts[j]?=some t)(d:u.M=t.M):Ff (ts.set j u)=Ff ts:=by apply ext_getElem?;intro i;rw[Adr,Adr,getElem?_set];by_cases e:j=i;subst e;rw[Ar rfl,Ar (D8 h),h];simp[d];rw[Au e]
theorem Awj{α:Type}:∀(o:Λ (Β×α))(s:Β)(v:α),Gd o s=false->G1 o s v=o++[(s,v)]
 |[],_,_,_=>rfl
 |p::o,s,v,h=>by simp only[Gd,any_cons,Bool.or_eq_false_iff]at h;simp only[G1,h.1,Aj,Er,List.cons.injEq,true_and];exact Awj o s v h.2
theorem A9k{ts:Ad}(h:∀t∈ts,t.M≠m):Gd (Ff ts) (Mq m)=false:=by unfold Gd;rw[any_eq_false];intro p hp;obtain⟨j,d⟩:=Fo hp;rw[Adr]at d;cases i:ts[j]? with|none=>rw[i]at d;cases d|some t=>rw[i]at d;simp only[Option.map_some,Option.some.injEq]at d;subst d;intro e;have e:=(Tn _ _).1 e;exact h t (B5 i) (Av7 e).symm
theorem A9l{ts:Ad}(r:Dst ts)(h:ts[j]?=some t):Gd (Ff ts) (Mq t.M)=true/\Jk (Ff ts) (Mq t.M) 0=(j:Int):=by(have hp:(Ff ts)[j]?=some (Mq t.M,(j:Int)):=by rw[Adr,h];rfl);refine⟨any_eq_true.2 ⟨_,B5 hp,(Tn _ _).2 rfl⟩,?_⟩;unfold Jk;(have b:(Ff ts).find? (λp=>Mq t.M==p.1)=some (Mq t.M,(j:Int)):=by cases b:(Ff ts).find? (λp=>Mq t.M==p.1)with|none=>have:=find?_eq_none.1 b _ (B5 hp);exact(this ((Tn _ _).2 rfl)).elim|some q=>have s:=find?_some b;obtain⟨i,d⟩:=Fo (mem_of_find?_eq_some b);rw[Adr]at d;cases o:ts[i]? with|none=>rw[o]at d;cases d|some u=>rw[o]at d;simp only[Option.map_some,Option.some.injEq]at d;subst d;have e:=Av7 ((Tn _ _).1 s);(have g:i=j:=by have f:=D8 o;have c:=D8 h;rw[Bn f]at o;rw[Bn c]at h;rcases Nat.lt_trichotomy i j with k|k|k;have:=pairwise_iff_getElem.1 r i j f c k;rw[Fv o,Fv h]at this;exact(this e.symm).elim;exact k;have:=pairwise_iff_getElem.1 r j i c f k;rw[Fv o,Fv h]at this;exact(this e).elim);subst g;rw[e]);rw[b];rfl
open Classical in
theorem Nq(t:Ae)(p:Ad)(m:Aw):cf (t::p) m=(if t.M=m then rq t.C else 0)+cf p m:=by simp only[cf];by_cases e:t.M=m;rw[Ar (Hj.2 e),Ar e];rw[Au λh=>e (Hj.1 h),Au e]
open Classical in
theorem Anq:∀{ts:Ad}{j:Nat}{t u:Ae},ts[j]?=some t->u.M=t.M->∀m,cf (ts.set j u) m=cf ts m+(if t.M=m then rq u.C-rq t.C else 0)
 |[],j,t,u,h,_,m=>by simp at h
 |s::ts,0,t,u,h,d,m=>by simp only[getElem?_cons_zero,Option.some.injEq]at h;subst h;rw[set_cons_zero,Nq,Nq,d];split<;>grind
 |s::ts,j+1,t,u,h,d,m=>by simp only[getElem?_cons_succ]at h;rw[set_cons_succ,Nq,Nq,Anq h d m];grind
theorem Dst.set{ts:Ad}(h:Dst ts)(d:ts[j]?=some t)(hm:u.M=t.M):Dst (ts.set j u):=by(have e:(ts.set j u).map (·.M)=ts.map (·.M):=by apply ext_getElem?;intro i;rw[getElem?_map,getElem?_map,getElem?_set];by_cases e:j=i;subst e;rw[Ar rfl,Ar (D8 d),d];simp[hm];rw[Au e]);(have k:∀l:Ad,Dst l↔(l.map (·.M)).Pairwise (·≠·):=λl=>by rw[pairwise_map];exact Iff.rfl);rw[k,e,<-k];exact h
structure Col(k:Nat)(P:Aw->Prop)(ts:List Ae):Prop where
 dst:Dst ts
 tb:∀t∈ts,RB k t.C
 mo:∀t∈ts,P t.M
theorem Col.nil(k:Nat)(P:Aw->Prop):Col k P []:=⟨Pairwise.nil,λ_ h=>(by cases h),λ_ h=>(by cases h)⟩
theorem Zm{k0:Nat}{P:Aw->Prop}(I:∀m,P m->CMo m)(l ts:Ad)(B:Col k0 P ts)(G:∀t∈l,RB k t.C/\P t.M)(hk:k<=k0)(J:k0+l.length*(k+3)<34359738000)(hn:ts.length+l.length<=1099511627776):∃f,L8 l (Ff ts) ts=some (Ff f,f)/\Col (k0+l.length*(k+3)) P f/\f.length<=ts.length+l.length/\∀m,cf f m=cf ts m+cf l m:=by unfold L8;refine Ags (A:=List Ae) (λf=>(Ff f,f)) ?_;refine Fz (λs=>∃(j:Nat)(u:Ad),s=((j:Int),Ff u,u)/\j<=l.length/\Col (k0+j*(k+3)) P u/\u.length<=ts.length+j/\∀m,cf u m=cf ts m+cf (l.take j) m) (λs=>l.length-s.1.toNat) (λz=>∃u,z=(Ff u,u)/\Col (k0+l.length*(k+3)) P u/\u.length<=ts.length+l.length/\∀m,cf u m=cf ts m+cf l m) ⟨0,ts,rfl,ω,by simpa using B,ω,λm=>by simp only[take_zero,cf];grind⟩ ?_ ?_;rintro _ ⟨j,u,rfl,hj,o,y,q⟩;rcases Cb j l.length with h|h;have C:l[j]?=some l[j]:=Bn h;generalize l[j]=x at C;obtain⟨F,L⟩:=G x (B5 C);have E:j*(k+3)+(k+3)<=l.length*(k+3):=(by rw[<-Nat.succ_mul];exact Nat.mul_le_mul_right _ h);have D:(j+1)*(k+3)=j*(k+3)+(k+3):=(by rw[Nat.succ_mul]);simp only[Al (ω:(j:Int)<(l.length:Int)),Ak,B1 rfl C,Ac,A9h (I _ L),Dd h ω];left;by_cases r:∃t∈u,t.M=x.M;obtain⟨t,H,M⟩:=r;obtain⟨i,K⟩:=Fo H;obtain⟨N,Q⟩:=A9l o.dst K;rw[M]at N Q;obtain⟨c,T,_,U,c4,V⟩:=Am7 (o.tb t H) F ω ω;refine⟨((j+1:Nat),Ff (u.set i ⟨c,t.M⟩),u.set i ⟨c,t.M⟩),?_,⟨j+1,u.set i ⟨c,t.M⟩,rfl,ω,⟨o.dst.set K rfl,?_,?_⟩,by rw[length_set];omega,λm=>?_⟩,ζ⟩;simp only[N,Q,Ak,Ac,B1 rfl K,T,Ge rfl,A9j (u:=⟨c,t.M⟩) K rfl];intro w d;rcases mem_or_eq_of_mem_set d with d|rfl;exact(o.tb w d).mono ω;exact U.mono ω;intro w d;rcases mem_or_eq_of_mem_set d with d|rfl;exact o.mo w d;exact o.mo t H;rw[Anq (u:=⟨c,t.M⟩) K rfl m,q m,C4 C,Mp,Nq];simp only[V,M,cf];split<;>grind;have g:=A9k (m:=x.M) (ts:=u) λt H e=>r ⟨t,H,e⟩;refine⟨((j+1:Nat),Ff (u++[x]),u++[x]),?_,⟨j+1,u++[x],rfl,ω,⟨?_,?_,?_⟩,ζ,λm=>?_⟩,ζ⟩;simp only[g,Aj,Ac];rw[Di ζ,Ac,Awj _ _ _ g,A9i];refine pairwise_append.2 ⟨o.dst,pairwise_singleton _ _,λa W b F=>?_⟩;simp only[De]at F;subst F;exactλe=>r ⟨a,W,e⟩;intro w d;rcases Ef.1 d with d|d;exact(o.tb w d).mono ω;simp only[De]at d;subst d;exact F.mono ω;intro w d;rcases Ef.1 d with d|d;exact o.mo w d;simp only[De]at d;subst d;exact L;rw[Mp,q m,C4 C,Mp];grind;have:j=l.length:=ω;subst this;rw[Du]at q;simp only[Am (ω:¬(l.length:Int)<(l.length:Int)),Aj];exact .inr ⟨_,rfl,u,rfl,o,y,q⟩;rintro _ ⟨u,rfl,h1,h2,h3⟩;exact⟨_,rfl,u,rfl,h1,h2,h3⟩
theorem Anr(t u:Ae)(h:Eo t.M):Q8 t u=some (Dn t.M u.M):=by unfold Q8;rw[Aut _ _ h];rfl
theorem A9m(A R:Λ α)(x y:α):((A++y::x::R).set (A.length+1) y).set A.length x=A++x::y::R:=by induction A with|nil=>rfl|cons a A ih=>simp only[Er,Fd,set_cons_succ,ih]
theorem Awk(A R:Λ α)(x:α):(A++x::R)[A.length]?=some x:=by simp
theorem A9n(A R:Λ α)(x y:α):(A++y::x::R)[A.length+1]?=some x:=by induction A with|nil=>rfl|cons a A ih=>simp
theorem A9o{step:Int×List Ae->C6}(N:Nat)(E:N<4611686018427387904)(b:∀(x:Ae)(R:Ad),step (0,x::R)=some (.inr (0,x::R)))(k:∀(A R:Ad)(x y:Ae),(∀t∈A++y::x::R,Eo t.M)->(A++y::x::R).length<=N->step (((A.length+1:Nat):Int),A++y::x::R)=if Dn x.M y.M<0 then some (.inl ((A.length:Int),A++x::y::R))else some (.inr (((A.length+1:Nat):Int),A++y::x::R))):∀(n:Nat)(A R:Ad)(x:Ae),A.length=n->(∀t∈A++x::R,Eo t.M)->(A++x::R).length<=N->∃f i,Ao step ((A.length:Int),A++x::R)=some ((f.length:Int),f++x::(i++R))/\A=f++i/\(∀a∈i,ltT x a)/\∀l y,f=l++[y]->¬ltT x y:=by intro n;induction n with|zero=>intro A R x g _ _;have:A=[]:=Fm.1 g;subst this;exact⟨[],[],Cr (b x R),rfl,nofun,(λl y h=>by simp at h)⟩|succ n ih=>intro A R x g r c;(obtain⟨B,y,rfl⟩:∃B y,A=B++[y]:=by rcases eq_nil_or_concat A with h|⟨B,y,h⟩;rw[h]at g;cases g;exact⟨B,y,by simpa using h⟩);have s:B.length=n:=(by simpa using g);have D:(B++[y])++x::R=B++y::x::R:=ψ;have el:(((B++[y]).length:Nat):Int)=((B.length+1:Nat):Int):=ψ;rw[D]at r c⊢;rw[el];have j:=k B R x y r c;by_cases o:Dn x.M y.M<0;rw[Ar o]at j;obtain⟨f,i,F,G,H,u⟩:=ih B (y::R) x s (by intro t C;refine r t ?_;simp only[Ef,Ed]at C⊢;rcases C with h|h|h|h<;>simp[h]) (by simpa using c);refine⟨f,i++[y],?_,by rw[G];simp,?_,u⟩;rw[Fh j,F];simp;intro a d;rcases Ef.1 d with d|d;exact H a d;simp only[De]at d;subst d;exact o;rw[Au o]at j;refine⟨B++[y],[],?_,ψ,nofun,?_⟩;rw[Cr j];simp;intro l z q;have:=append_inj' q rfl;have e:y=z:=(by simpa using this.2);subst e;exact o
theorem A9p{a b c:Ae}(h:ltT a b)(d:ltT b c):ltT a c:=T3 h d
theorem A9q{c j:Ad}{x:Ae}(u:(c++j).Pairwise ltT)(o:∀a∈j,ltT x a)(r:∀g y,c=g++[y]->¬ltT x y)(A:∀a∈c,a.M≠x.M):(c++x::j).Pairwise ltT:=by obtain⟨i,s,l⟩:=pairwise_append.1 u;(have B:∀a∈c,ltT a x:=by intro a d;rcases eq_nil_or_concat c with h|⟨g,y,h⟩;rw[h]at d;cases d;have h:c=g++[y]:=(by simpa using h);(have f:ltT y x:=by have q:=r g y h;have C:=A y (by rw[h];simp);unfold ltT at *;rcases Int.lt_trichotomy (Dn x.M y.M) 0 with k|k|k;exact(q k).elim;exact(C (Hj.1 k).symm).elim;exact Anb.1 k);rw[h]at d i;rcases Ef.1 d with d|d;exact A9p ((pairwise_append.1 i).2.2 a d y ψ) f;simp only[De]at d;subst d;exact f);refine pairwise_append.2 ⟨i,pairwise_cons.2 ⟨o,s⟩,λa d b e=>?_⟩;rcases Ed.1 e with rfl|e;exact B a d;exact l a d b e
noncomputable def Ads:Int×List Ae->C6:=λ(d,b)=>(show OB from bif d>(0:Int)then((Af b d).bind λh=>(Af b (Aa (d-1))).bind λg=>(Q8 h g).bind λi=>some (decide (i<(0:Int))))else some false).bind λf=>bif f then((Af b (Aa (d-1))).bind λe=>(Af b d).bind λc=>(Af b d).bind λo=>(Af (Cd b d e) (Aa (d-1))).bind λr=>some (.inl (Aa (d-1),Cd (Cd b d e) (Aa (d-1)) c)))else some (.inr (d,b))
theorem A9r(y:Ae)(R:Ad):Ads (0,y::R)=some (.inr (0,y::R)):=by unfold Ads;simp only[Am (ω:¬(0:Int)>0),Aj,Ac]
theorem A9s{N:Nat}(h:N<=1099511627776)(A R:Ad)(u y:Ae)(b:∀t∈A++y::u::R,Eo t.M)(c:(A++y::u::R).length<=N):Ads (((A.length+1:Nat):Int),A++y::u::R)=if Dn u.M y.M<0 then some (.inl ((A.length:Int),A++u::y::R))else some (.inr (((A.length+1:Nat):Int),A++y::u::R)):=by(have g:A.length+1<N:=by simp at c;omega);(have f:Aa (((A.length+1:Nat):Int)-1)=(A.length:Int):=by rw[Aa,Bm]<;>omega);unfold Ads;simp only[Al (ω:((A.length+1:Nat):Int)>0),Ak,f,B1 (n:=A.length+1) rfl (A9n A R u y),B1 (n:=A.length) rfl (Awk A (u::R) y),Ac,Anr u y (b u ψ)];by_cases d:Dn u.M y.M<0;rw[Al d,Ar d];simp only[Ak];rw[Ge (n:=A.length+1) rfl,Ge (n:=A.length) rfl,A9m];have:Af ((A++y::u::R).set (A.length+1) y) (A.length:Int)=some y:=(by refine B1 rfl ?_;rw[getElem?_set_ne ω];exact Awk A (u::R) y);rw[this];rfl;rw[Am d,Au d];rfl
theorem A9t(b:Ad)(F:Dst b)(H:∀t∈b,Eo t.M)(M:b.length<=1099511627776):∃R,Aby 0 (b.length:Int) b=some R/\R.Perm b/\R.Pairwise ltT:=by
 unfold Aby;cases b with
 |nil=>refine⟨[],?_,Perm.refl _,Pairwise.nil⟩;refine Jt 0 (λ_=>((1:Int),([]:Ad))) (by simp[Aa,Bm]) (λj N=>ω) ⟨[],?_,rfl⟩;simp
 |cons z0 A=>
 generalize f:z0::A=b at *;have e:1<=b.length:=by rw[<-f];simp
 refine Fz (λs=>∃(i:Nat)(S:Ad),s=((i:Int),S++b.drop i)/\1<=i/\i<=b.length/\S.length=i/\S.Perm (b.take i)/\S.Pairwise ltT) (λs=>b.length-s.1.toNat) (λR=>R.Perm b/\R.Pairwise ltT) ⟨1,[z0],by rw[<-f];simp[Aa,Bm],ω,e,rfl,by rw[<-f];simp,pairwise_singleton _ _⟩ ?_ ?_
 .rintro _ ⟨i,S,rfl,I,Q,G,c,k⟩;rcases Cb i b.length with h|h
  .have C:b[i]?=some b[i]:=Bn h;generalize b[i]=x at C;have g:b.drop i=x::b.drop (i+1):=J5 C;have z:(S++x::b.drop (i+1)).length=b.length:=ζ;have y:∀t∈S++x::b.drop (i+1),t∈b:=by
    intro t d;rcases Ef.1 d with d|d
    .exact mem_of_mem_take (c.mem_iff.1 d)
    .rw[<-g]at d;exact mem_of_mem_drop d
   simp only[Al (ω:(i:Int)<(b.length:Int)),Ak,Dd h ω];rw[g];left;obtain⟨q,l,r,o,K,J⟩:=A9o (step:=Ads) b.length ω A9r (A9s ω) S.length S (b.drop (i+1)) x rfl (λt d=>H t (y t d)) (by rw[z];exact Nat.le_refl _);rw[G]at r;have hp:(q++x::l).Perm (b.take (i+1)):=(by rw[C4 C];have:(q++x::l).Perm ((q++l)++[x]):=(by rw[append_assoc];exact Perm.append_left q (perm_append_singleton x l).symm);exact this.trans (by rw[<-o];exact c.append_right [x]));refine⟨(((i+1:Nat):Int),(q++x::l)++b.drop (i+1)),Ct r ψ,⟨i+1,q++x::l,rfl,ω,ω,?_,hp,?_⟩,ζ⟩
   .rw[hp.length_eq,length_take];omega
   .rw[o]at k;refine A9q k K J λa L=>?_;have E:a∈b.take i:=c.mem_iff.1 (by rw[o];simp[L]);have B:x∈b.drop i:=(by rw[g];simp);have D:(b.take i++b.drop i).Pairwise λt u=>t.M≠u.M:=(by rw[take_append_drop];exact F);exact(pairwise_append.1 D).2.2 a E x B
  .have:i=b.length:=ω;subst this;rw[Du]at c;simp only[Am (ω:¬(b.length:Int)<(b.length:Int)),Aj,drop_length,append_nil];exact .inr ⟨S,rfl,c,k⟩
 .rintro R ⟨r,o⟩;exact⟨R,rfl,r,o⟩
theorem Oi{l:Λ α}(h:n=l.length):Ht n l=some ():=by unfold Ht;rw[Ar h]
theorem A9u{s:Β}{i:Int}(h0:0<=i)(h:i.toNat<s.size):∃c,Gq s i=some c:=by unfold Gq;rw[Ar h0];exact⟨_,getElem?_pos s i.toNat h⟩
set_option maxRecDepth 20000 in
theorem Awl{n:Nat}(h:n<256):∃v,U8 (Bd (n:Int))=some v:=by unfold U8 Afz;rw[Bd,D7 ω ω,Am ω];simp only[Aj,Ac];rw[Am ω];simp only[Aj,Ac];rw[Am ω];simp only[Aj,Ac];(have b:wu8 (n:Int)=(n:Int):=by rw[wu8];unfold IntKind.wrap;simp[IntKind.bits,IntKind.signed];omega);rw[b];generalize g:ByteArray.mk _=T;(have f:T.size=256:=by rw[<-g];rfl);obtain⟨c,d⟩:=A9u (s:=T) (i:=(n:Int)) ω (by rw[f];simpa using h);rw[d];exact⟨_,rfl⟩
theorem A9v(b:Ad)(e:Dst b)(h:∀t∈b,Eo t.M)(i:b.length<=12):∃R,Q7 b=some R/\R.Perm b/\R.Pairwise ltT:=by obtain⟨R,o,d,r⟩:=A9t b e h ω;obtain⟨v,c⟩:=Awl (n:=b.length) ω;refine⟨R,?_,d,r⟩;unfold Q7;rw[Nat.ble_eq_true_of_le i,Ak];unfold All;rw[c,Ac];(have hp:Abk 0 (b.length:Int) v b=some R:=by unfold Abk;refine Ct (a:=R) (Cr ?_) rfl;have w:Aa ((b.length:Int)-0)=(b.length:Int):=ξ;simp only[w,Al (ω:(b.length:Int)<=12),Ak,o,Ac,Oi d.length_eq.symm]);rw[hp,Ac,Oi d.length_eq.symm];rfl
def clT(t:Ae):Ae:=⟨Bj (sv t.C) (nv t.C) (dv t.C),t.M⟩
theorem A9w(p:Ad)(s:k<34359738000)(hp:∀t∈p,RB k t.C/\Eo t.M)(A:p.length<=1048576):Aa8 p=some (p.map clT):=by unfold Aa8;refine H5 p (λj=>((j:Int),(p.take j).map clT)) rfl ω ?_ ?_;intro j x B d e h i;obtain⟨o,r⟩:=hp x (B5 d);simp only[e,h,i,Ak,Ac,Ahp x.C k o ω,A85 x.M r];rw[Di ζ,Ac,C4 d];simp[clT];intro e;exact⟨p.map clT,ψ,rfl⟩
theorem A9x(p:Ad)(m:Aw):cf (p.map clT) m=cf p m:=by induction p with|nil=>rfl|cons t p ih=>simp only[map_cons,cf,ih,clT];rw[No _ _ _ (Fj _)];rfl
theorem A9y(h:p.Perm q)(m:Aw):cf p m=cf q m:=by induction h with|nil=>rfl|cons x _ ih=>simp only[cf,ih]|swap x y l=>simp only[cf];grind|trans _ _ d e=>rw[d,e]
def nzT(t:Ae):Bool:=decide (rq t.C≠0)
theorem A9z(p:Ad)(m:Aw):cf (p.filter nzT) m=cf p m:=by induction p with|nil=>rfl|cons t p ih=>by_cases h:rq t.C=0;rw[filter_cons_of_neg (by simp[nzT,h]),ih];simp only[cf,h];grind;rw[filter_cons_of_pos (by simp[nzT,h])];simp only[cf,ih]
theorem A90(x:Rat):(Jv x != (0:Int))=decide (x≠0):=by unfold Jv;by_cases d:x<0;rw[Ar d];have:x≠0:=(by intro e;subst e;exact absurd d δ);simp[this];rw[Au d];by_cases h:0<x;rw[Ar h];have:x≠0:=(by intro e;subst e;exact absurd h δ);simp[this];rw[Au h];have:x=0:=Rat.le_antisymm (Rat.not_lt.1 h) (Rat.not_lt.1 d);simp[this]
theorem A91{f:α->Bool}{l:Λ α}{x:α}(h:l[j]?=some x):(l.take (j+1)).filter f=(l.take j).filter f++(if f x then[x]else[]):=by rw[C4 h,filter_append];congr 1;cases k:f x<;>simp[filter,k]
theorem Ans{P:Aw->Prop}(q:∀m,P m->CMo m)(o:At)(ts:Ad)(h:Col k P ts)(A:k<34359738000)(G:ts.length<=1000)(z:∀c:Ad,c.length<=ts.length->Dst c->(∀t∈c,Eo t.M)->∃R,Q7 c=some R/\R.Perm c/\R.Pairwise ltT):∃R,M9 o ts=some (R,0)/\CP R/\(∀m,cf R m=cf ts m)/\(∀t∈R,P t.M/\RB (k+1) t.C)/\R.length<=ts.length:=by unfold M9;have g:(ts.filter nzT).length<=ts.length:=length_filter_le _ _;obtain⟨S,y,f,s⟩:=z (ts.filter nzT) g (Pairwise.filter _ h.dst) λt d=>(q _ (h.mo t (mem_filter.1 d).1)).sz;(have b:∀t∈S,t∈ts/\rq t.C≠0:=by intro t d;have:=mem_filter.1 (f.mem_iff.1 d);exact⟨this.1,by simpa[nzT]using this.2⟩);refine⟨S.map clT,?_,⟨?_,?_⟩,?_,?_,?_⟩;refine H5 ts (λj=>((j:Int),(ts.take j).filter nzT)) rfl ω ?_ ?_;intro j x H B r C D;have F:=h.tb x (B5 B);have l:((ts.take j).filter nzT).length<=ts.length:=Nat.le_trans (length_filter_le _ _) (by rw[length_take];omega);simp only[r,C,D,Ak,Ac,(Oh F A).1,A90];rw[A91 B];by_cases i:rq x.C=0;have:nzT x=false:=(by simp[nzT,i]);rw[Am (by simpa using i),this];simp;have:nzT x=true:=(by simp[nzT,i]);rw[Al i,this];simp only[Ak];rw[Di ζ];simp;intro r;refine⟨ts.filter nzT,by simp only[r,Aj,Du],?_⟩;rw[Am ω];simp only[Aj];rw[y,Ac,Oi f.length_eq.symm,Ac, A9w (k:=k) S A (λt d=>⟨h.tb t (b t d).1,(q _ (h.mo t (b t d).1)).sz⟩) (by rw[f.length_eq];omega)];rfl;rw[pairwise_map];exact s;intro t d;obtain⟨u,e,rfl⟩:=mem_map.1 d;refine⟨Qs _ _ _ (Fj _),?_⟩;show rq (Bj _ _ _)≠0;rw[No _ _ _ (Fj _)];exact(b u e).2;intro m;rw[A9x,A9y f,A9z];intro t d;obtain⟨u,e,rfl⟩:=mem_map.1 d;exact⟨h.mo u (b u e).1,Avc (h.tb u (b u e).1)⟩;rw[Lt,f.length_eq];exact g
theorem Awm(x:A8)(g:CSz x)(ps:K3)(B:∀p∈ps,∀t∈p,TSz t)(M:ps.length<=1048576):∃r,M7 x ps=some r/\(((F1 x/\∀p∈ps,Kg x.D x.V x.E p=true)/\∃A,r=.inl (true,x,A,[],x.D,x.V,x.E.G,x.E.U,x.E.R)/\Fa x.D x.V x.E A)\/((¬(F1 x/\∀p∈ps,Kg x.D x.V x.E p=true))/\r=.inr false)):=by obtain⟨b,N,F⟩:=At5 g.ds;have L:=g.nv;have J:=g.rs;unfold M7;rw[N,Ac7 x.D x.E 0 ω];by_cases l:x.V.length<=3000;rw[Am ω];simp only[Aj,Ac];(cases b with|false=>exact⟨_,rfl,.inr ⟨λh=>(by have:=F.2 h.1.2.1;cases this),rfl⟩⟩|true=>have I:=F.1 rfl;simp only[Ds,Aj];cases E:(Hf x.D 0 x.E&&decide (B2 x.E<=200))with|false=>exact⟨_,rfl,.inr ⟨λh=>(by have:=h.1.2.2.1;rw[show Kh x.D x.E=false from E]at this;cases this),rfl⟩⟩|true=>simp only[Ds,Aj,Ac];refine Fz (λi=>∃j:Nat,i=j/\j<=x.V.length/\(x.V.take j).all (Kh x.D)=true) (λi=>x.V.length-i.toNat) (λz=>match z with|.inl r=>r=false/\¬F1 x|.inr _=>F1 x) ⟨0,rfl,ω,ψ⟩ ?_ ?_;rintro i ⟨j,rfl,Q,c⟩;rcases Cb j x.V.length with h|h;have d:x.V[j]?=some x.V[j]:=Bn h;generalize x.V[j]=t at d;have:=g.vs t (B5 d);simp only[Al (ω:(j:Int)<(x.V.length:Int)),Ak,B1 rfl d,Ac,Ac7 x.D t 0 ω,Dd h ω];rw[show(Hf x.D 0 t&&decide (B2 t<=200))=Kh x.D t from rfl];(cases H:Kh x.D t with|true=>exact .inl ⟨_,rfl,⟨j+1,rfl,ω,by rw[C4 d,all_append,c];simp[H]⟩,ζ⟩|false=>refine .inr ⟨.inl false,rfl,rfl,λD=>?_⟩;have:=Gu.1 D.2.2.2 t (B5 d);rw[H]at this;cases this);have:j=x.V.length:=ω;subst this;rw[Du]at c;exact .inr ⟨.inr (),ψ,l,I,E,c⟩;rintro(r|u) f;obtain⟨rfl,f⟩:=f;exact⟨_,rfl,.inr ⟨λh=>f h.1,rfl⟩⟩;have G:F1 x:=f;simp only;refine Fz (λs=>∃(j:Nat)(o:At),s=((j:Int),o)/\j<=ps.length/\Fa x.D x.V x.E o/\∀p∈ps.take j,Kg x.D x.V x.E p=true) (λs=>ps.length-s.1.toNat) (λz=>match z with|.inl r=>r=false/\¬(∀p∈ps,Kg x.D x.V x.E p=true)|.inr o=>Fa x.D x.V x.E o/\∀p∈ps,Kg x.D x.V x.E p=true) ⟨0,[],rfl,ω,(λq h=>by cases h),(λq h=>by simp at h)⟩ ?_ ?_;rintro _ ⟨j,o,rfl,Q,K,c⟩;rcases Cb j ps.length with h|h;have d:ps[j]?=some ps[j]:=Bn h;generalize ps[j]=p at d;have k:=B5 d;obtain⟨A,T,U⟩:=Avn (G.ctx g) [] K p (B p k);simp only[Al (ω:(j:Int)<(ps.length:Int)),Ak,B1 rfl d,Ac,T,Dd h ω];(cases y:Kg x.D x.V x.E p with|true=>(refine .inl ⟨_,rfl,⟨j+1,A,rfl,ω,U,λq e=>?_⟩,ζ⟩;rw[C4 d]at e;rcases Ef.1 e with e|e;exact c q e;simp only[De]at e;subst e;exact y)|false=>refine .inr ⟨.inl false,rfl,rfl,λD=>?_⟩;have:=D p k;rw[y]at this;cases this);have:j=ps.length:=ω;subst this;rw[Du]at c;exact .inr ⟨.inr o,ψ,K,c⟩;rintro(r|o) C;obtain⟨rfl,C⟩:=C;exact⟨_,rfl,.inr ⟨λh=>C h.2,rfl⟩⟩;exact⟨_,rfl,.inl ⟨⟨G,C.2⟩,o,rfl,C.1⟩⟩);rw[Al ω];exact⟨_,rfl,.inr ⟨λh=>l h.1.1,rfl⟩⟩
theorem A92(h:It Δ Ξ Θ m=true)(q:Eo m):CMo m:=by have c:=(A8r h).2;unfold It at h;simp only[Dr,Eh]at h;obtain⟨⟨s,A⟩,D⟩:=h;(have b:∀f∈m.F,0<=Ee Δ Ξ Θ f:=by intro f c;obtain⟨j,o⟩:=Fo c;have:=Ju s o;simp only[Mn,Dr,Eh]at this;omega);(have d:∀a∈m.A,1<=a.P/\Co a.L=true/\a.L.T≠[]:=by intro a d;obtain⟨j,o⟩:=Fo d;have:=Ju A o;simp only[Kf,Dr,Eh]at this;refine⟨this.1.1.1.1,this.1.1.1.2,λe=>?_⟩;have k:=this.1.1.2;rw[e]at k;simp at k);(obtain⟨F,G,B⟩:=Adh m.A λa h=>by have:=(d a h).1;omega);have f1:=Au1 m.F b;(have H:(m.A.length:Int)<=Bq m.A:=by have r:∀l:A2,(∀a∈l,1<=a.P)->(l.length:Int)<=Bq l:=(by intro l;induction l with|nil=>intro _;simp[Bq]|cons f I ih=>intro i;have s:=i f ψ;have A:=ih λg C=>i g (by simp[C]);unfold Bq at *;simp only[map_cons,sum_cons,Fd];omega);exact r _ λa h=>(d a h).1);exact⟨q,c,ω,λa h=>⟨(d a h).2.1,(d a h).2.2,(d a h).1,by have:=B a h;omega⟩⟩
def D0(x:A8)(m:Aw):Prop:=It x.D x.V x.E m=true/\Eo m
theorem D0.cmo(h:D0 x m):CMo m:=A92 h.1 h.2
structure Ha(x:A8)(p:List Ae):Prop where
 can:Kg x.D x.V x.E p=true
 sz:∀t∈p,TSz t
theorem Ha.cp(h:Ha x p):CP p:=(Adm.1 h.can).2.1
theorem Ha.mo(h:Ha x p):∀t∈p,D0 x t.M:=λt d=>⟨(Adm.1 h.can).2.2 t d,(h.sz t d).mo⟩
theorem Ha.of(hc:CP p)(hm:∀t∈p,D0 x t.M)(b:∀t∈p,RB 1048576 t.C)(c:p.length<=1000):Ha x p:=⟨Adm.2 ⟨c,hc,λt d=>(hm t d).1⟩,λt d=>⟨b t d,(hm t d).2⟩⟩
theorem Ha.tb(h:Ha x p):∀t∈p,RB 1048576 t.C/\D0 x t.M:=λt d=>⟨(h.sz t d).co,h.mo t d⟩
theorem Awn(i:CSz x)(j:F1 x)(hp:Ha x p)(o:Ha x q):∃f,M7 x [p,q]=some (.inl (true,x,f,[],x.D,x.V,x.E.G,x.E.U,x.E.R)):=by(have b:∀r∈[p,q],Ha x r:=by intro r c;simp only[Ed,not_mem_nil,or_false]at c;rcases c with rfl|rfl<;>assumption);obtain⟨r,h,g⟩:=Awm x i [p,q] (λr c=>(b r c).sz) ψ;(rcases g with⟨_,f,e,_⟩|⟨d,_⟩);exact⟨f,by rw[h,e]⟩;exact(d ⟨j,λr c=>(b r c).can⟩).elim
theorem Awo{r:An}(q:Ad)(y:RB j r)(A:∀t∈q,RB k t.C)(B:j<34359738000)(C:k<34359738000)(z:q.length<=1048576):∃x,Xs q r=some x/\x.length=q.length/\(∀m,cf x m=cf q m*rq r)/\∀t∈x,RB (k+j+2) t.C/\∃u∈q,u.M=t.M:=by unfold Xs;refine Fz (λs=>∃(i:Nat)(o:Ad),s=((i:Int),o)/\i<=q.length/\o.length=i/\(∀m,cf o m=cf (q.take i) m*rq r)/\∀t∈o,RB (k+j+2) t.C/\∃u∈q,u.M=t.M) (λs=>q.length-s.1.toNat) (λo=>o.length=q.length/\(∀m,cf o m=cf q m*rq r)/\∀t∈o,RB (k+j+2) t.C/\∃u∈q,u.M=t.M) ⟨0,[],rfl,ω,rfl,(λm=>by simp only[take_zero,cf];grind),λ_ h=>by cases h⟩ ?_ ?_;rintro _ ⟨i,o,rfl,K,l,b,g⟩;rcases Cb i q.length with h|h;have e:q[i]?=some q[i]:=Bn h;generalize q[i]=t at e;have f:=B5 e;obtain⟨c,D,F,L,G⟩:=Wn (A t f) y C B;simp only[Al (ω:(i:Int)<(q.length:Int)),Ak,B1 rfl e,Ac,D,Dd h ω];rw[Di ζ];refine .inl ⟨_,rfl,⟨i+1,o++[⟨c,t.M⟩],rfl,ω,by simp[l],λm=>?_,λw d=>?_⟩,ζ⟩;rw[Mp,b,C4 e,Mp];simp only[cf,G];split<;>grind;rcases Ef.1 d with d|d;exact g w d;simp only[De]at d;subst d;exact⟨F,t,f,rfl⟩;have:i=q.length:=ω;subst this;rw[Du]at b;simp only[Am (ω:¬(q.length:Int)<(q.length:Int)),Aj];exact .inr ⟨_,rfl,l,b,g⟩;rintro o ⟨H,I,J⟩;exact⟨_,rfl,H,I,J⟩
theorem A93:∃r,Gr (-1)=some r/\RB 1 r/\rq r = -1:=by refine⟨_,Zf (-1) δ δ,?_,?_⟩;exact Jb _ _ _ 1 (J2 δ) (J2 δ) ω;rw[No _ _ _ δ];decide
def bc:Nat->Nat->Nat
 |_,0=>1
 |0,_+1=>0
 |n+1,k+1=>bc n k+bc n (k+1)
theorem Jw(n:Nat):bc n 0=1:=by cases n<;>rfl
theorem Ant:∀{n k:Nat},n<k->Fp n k=0
 |n,0,h=>absurd h ω
 |n,k+1,h=>by rw[Fp];by_cases e:n<k;rw[Ant e,Nat.zero_mul];rw[show n-k=0 by omega,Nat.mul_zero]
theorem Awp(n:Nat):∀k,Fp (n+1) (k+1)=(n+1)*Fp n k
 |0=>by simp[Fp]
 |k+1=>by rw[Fp,Awp n k,Fp,show n+1-(k+1)=n-k by omega,Nat.mul_assoc]
theorem Adt:∀n k,Fp n k=E8 k*bc n k
 |n,0=>by rw[Jw];rfl
 |0,k+1=>by rw[Ant ω];simp[bc]
 |n+1,k+1=>by have d:=Adt n (k+1);have h:=Adt n k;rw[Awp,bc,Nat.mul_add,<-d,E8,Fp,Nat.mul_right_comm,<-h];by_cases e:k<=n;rw[<-Nat.mul_add,Nat.mul_comm,show k+1+(n-k)=n+1 by omega];rw[Ant ω];simp
theorem Adu:∀n k,bc n k<=2^n
 |n,0=>by rw[Jw];exact Nat.one_le_two_pow
 |0,k+1=>by simp[bc]
 |n+1,k+1=>by have d:=Adu n (k+1);have e:=Adu n k;rw[bc,Nat.pow_succ];omega
def cR(n:Nat):An:=Bj false n 1
theorem Anu(n:Nat):sv (cR n)=false/\nv (cR n)=n/\dv (cR n)=1:=by obtain⟨g,f,c,b⟩:=Wg false n 1 δ;refine⟨?_,?_,?_⟩;by_cases h:n=0;exact b h;exact c h;unfold cR;rw[g];simp;unfold cR;rw[f];simp
theorem Ry(h:Bp n<=k)(d:1<=k):RB k (cR n):=Jb _ _ _ _ h (by rw[Jp];exact d) d
theorem A94:Gr 0=some (cR 0):=Zf 0 δ δ
theorem T6:Gr 1=some (cR 1):=Zf 1 δ δ
theorem A95(n k:Nat)(d:n<1000000000)(h:k<=64):Rl (n:Int) (k:Int)=some (cR (bc n k),true):=by unfold Rl;(have e:(if(n:Int)>0 then(n:Int)else 0)=(n:Int):=by split<;>omega);simp only[Am (ω:¬(k:Int)<0),Aj,Am (ω:¬(k:Int)>64),Ac,e,Avj n k d h];rw[Adt,show Bj false (E8 k*bc n k) (E8 k)=Bj false (E8 k*bc n k) (E8 k*1)by rw[Nat.mul_one],Ph _ _ _ _ (Wk k)];rfl
theorem A96(n k:Nat)(d:n<1000000000)(e:k<=64):Rl (n:Int) (k:Int)=some (cR (bc n k),true):=A95 n k d e
end Go.Ab
