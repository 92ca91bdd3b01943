/- Plain laws. -/
import Derived.Test.YthfkffcjnfocdaaGreatDoorUfPl1
import Derived.KernelRfl
open List
namespace Go.Ab
open Go
theorem Aog(a:Ar)(k:Nat)(h:RB k a)(e:k<274877906900):Lq a=some (Dd (sv a) (nv a) (dv a)):=by unfold Lq;have i:=h.nv;have o:=h.dv;rw[U3 a k h e,Ae,Rk _ _ _ ω ω];rfl
def Me(s:Bool)(n:Nat):Int:=if n=0 then 0 else if s then -1 else 1
theorem Bbh(s:Bool)(n:Nat)(d:Aa):Ab3 ⟨s,Am n,d⟩=some (Me s n):=by unfold Ab3 Me;dsimp only;by_cases h:n=0;subst h;rw[Ka];rfl;have b:(Am n).length≠0:=λe=>No h (Hb.1 e);rw[Da ω,An,Ao h];cases s<;>rfl
theorem Ai8(a:Ar)(k:Nat)(h:RB k a)(e:k<274877906900):Jq a=some (Me (sv a) (nv a)):=by unfold Jq;rw[U3 a k h e,Ae,Bbh];rfl
theorem Aoh(z:Int)(i : -9223372036854775808<=z)(o:z<=9223372036854775807):Wb z=some (Am z.natAbs):=by unfold Wb;by_cases h:z<0;have e:Bi z=z+18446744073709551616:=(by have:IntKind.u64.wrap z=z%18446744073709551616:=(by simp[IntKind.wrap,IntKind.bits,IntKind.signed]);rw[Bi,this];omega);have b:Bi (0-(z+18446744073709551616))=((z.natAbs:Nat):Int):=(by have:IntKind.u64.wrap (0-(z+18446744073709551616))=(0-(z+18446744073709551616))%18446744073709551616:=(by simp[IntKind.wrap,IntKind.bits,IntKind.signed]);rw[Bi,this];omega);rw[Av h,Al,e,b,Ai4 _ ω];rfl;have b:Bi z=((z.natAbs:Nat):Int):=(by rw[Bi,Gu ω ω];omega);rw[A6 h,An,b,Ai4 _ ω];rfl
theorem Ady(z:Int)(e : -9223372036854775808<=z)(h:z<=9223372036854775807):E4 z=some (Dd (decide (z<0)) z.natAbs 1):=by unfold E4;have:=Xa (n:=z.natAbs) ω;rw[Aoh z e h,Ae,<-Ai7,Rk _ _ _ ω (by rw[U2];decide)];rfl
theorem Axw(x y:Int)(e : -9223372036854775808<=x)(h:x<=9223372036854775807)(i : -9223372036854775808<=y)(o:y<=9223372036854775807)(r:y≠0):R7 x y=some (Dd (decide (x<0) != decide (y<0)) x.natAbs y.natAbs):=by unfold R7;have s:=Xa (n:=x.natAbs) ω;have A:=Xa (n:=y.natAbs) ω;rw[Da r,An,Aoh x e h,Ae,Aoh y i o,Ae,Rk _ _ _ ω ω];rfl
theorem Ai9(a b:Ar)(j k:Nat)(e:RB j a)(hb:RB k b)(h:j<68719476736)(i:k<68719476736):Fz a b=some (Dd (sv a != sv b) (nv a*nv b) (dv a*dv b)):=by unfold Fz;have o:=e.nv;have r:=e.dv;have s:=hb.nv;have A:=hb.dv;have f:=Kq (nv a) (nv b);have c:=Kq (dv a) (dv b);rw[U3 a j e ω,Ae,U3 b k hb ω,Ae];dsimp only;rw[Uz _ _ ω ω,Ae,Uz _ _ ω ω,Ae,Rk _ _ _ ω ω];rfl
def Rl(b:Bool)(g i:Nat)(c:Bool)(f h:Nat):Bool:=if b=c then b else if f*i<=g*h then b else c
def Nv(i:Bool)(c g:Nat)(h:Bool)(b f:Nat):Nat:=if i=h then c*f+b*g else if b*g<=c*f then c*f-b*g else b*g-c*f
theorem Aja(a b:Ar)(j k:Nat)(r:RB j a)(hb:RB k b)(s:j<68719476736)(A:k<68719476736):J7 a b=some (Dd (Rl (sv a) (nv a) (dv a) (sv b) (nv b) (dv b)) (Nv (sv a) (nv a) (dv a) (sv b) (nv b) (dv b)) (dv a*dv b)):=by unfold J7 Yk;have B:=r.nv;have C:=r.dv;have E:=hb.nv;have F:=hb.dv;have q:=Kq (nv a) (dv b);have l:=Kq (nv b) (dv a);have i:=Kq (dv a) (dv b);have h:=Aid (nv a*dv b) (nv b*dv a);have g:=Nq (Nat.sub_le (nv a*dv b) (nv b*dv a));have f:=Nq (Nat.sub_le (nv b*dv a) (nv a*dv b));rw[U3 a j r ω,Ae,U3 b k hb ω,Ae];dsimp only;rw[Uz _ _ ω ω,Ae,Uz _ _ ω ω,Ae,Uz _ _ ω ω,Ae];by_cases c:sv a=sv b;have e:(sv a==sv b)=true:=(by rw[c];exact beq_self_eq_true _);rw[e,Al,Axn _ _ ω ω,Ae,Ae,Rk _ _ _ ω ω,Rl,Nv,Aq c,Aq c];rfl;have e:(sv a==sv b)=false:=(by simpa using c);rw[e,An,Aoc _ _ ω ω,Ae,Rl,Nv,Ao c,Ao c];by_cases o:nv b*dv a<=nv a*dv b;rw[Av (show Ke (nv a*dv b) (nv b*dv a)>=0 by rw[Ke,Ao ω];split<;>decide),Al,Ai5 _ _ ω o,Ae,Ae,Rk _ _ _ ω ω,Aq o,Aq o];rfl;rw[A6 (show ¬Ke (nv a*dv b) (nv b*dv a)>=0 by rw[Ke,Aq ω];decide),An,Ai5 _ _ ω ω,Ae,Ae,Rk _ _ _ ω ω,Ao o,Ao o];rfl
theorem Ajb(s:Bool)(d:Nat):Dd s 0 d=⟨false,[],[1]⟩:=by simp[Dd]
theorem P1(s:Bool)(n d k:Nat)(b:Cq n<=k)(i:Cq d<=k)(e:1<=k):RB k (Dd s n d):=by unfold Dd;split;refine⟨nofun,λx h=>?_,ψ,by simpa using e⟩;simp at h;subst h;decide;have o:=Av9 n (Nat.gcd n d);have r:=Av9 d (Nat.gcd n d);unfold Cq at *;exact⟨(Jj _).u32,(Jj _).u32,by simp only;omega,by simp only;omega⟩
theorem Axx(s:Bool)(n d:Nat)(B:d≠0):nv (Dd s n d)=n/Nat.gcd n d/\dv (Dd s n d)=d/Nat.gcd n d/\(n≠0->sv (Dd s n d)=s)/\(n=0->sv (Dd s n d)=false):=by by_cases i:n=0;subst i;rw[Ajb];have c:d/Nat.gcd 0 d=1:=(by rw[Nat.gcd_zero_left];exact Nat.div_self ω);refine⟨by simp[nv,Ax],?_,λh=>(h rfl).elim,λ_=>by simp[sv,Ax]⟩;rw[c];simp[dv,Ax];have A:0<Nat.gcd n d:=Nat.gcd_pos_of_pos_left d ω;have C:n/Nat.gcd n d≠0:=(by have:=Nat.div_pos (Nat.gcd_le_left d (ω:0<n)) A;omega);have E:d/Nat.gcd n d≠0:=(by have:=Nat.div_pos (Nat.gcd_le_right n (ω:0<d)) A;omega);have e:Dd s n d=⟨s,Am (n/Nat.gcd n d),Am (d/Nat.gcd n d)⟩:=(by simp[Dd,i]);have b:(Ax (Am (n/Nat.gcd n d))).toNat=n/Nat.gcd n d:=(by rw[Ji];rfl);have o:(Ax (Am (d/Nat.gcd n d))).toNat=d/Nat.gcd n d:=(by rw[Ji];rfl);rw[e];have r:¬(n/Nat.gcd n d=0\/d/Nat.gcd n d=0):=ω;refine⟨?_,?_,λ_=>?_,λh=>(i h).elim⟩;simp only[nv,b,o,Ao r];simp only[dv,b,o,Ao r];simp only[sv,b,o,Ao r]
theorem Zo(s:Bool)(n d k:Nat)(e:k≠0):Dd s (k*n) (k*d)=Dd s n d:=by unfold Dd;by_cases h:n=0;subst h;simp;have i:k*n≠0:=Nat.mul_ne_zero e h;rw[Ao i,Ao h,Nat.gcd_mul_left,Nat.mul_div_mul_left _ _ ω,Nat.mul_div_mul_left _ _ ω]
theorem Axy{s t:Bool}{n d:Nat}(h:n≠0->s=t):Dd s n d=Dd t n d:=by unfold Dd;by_cases e:n=0;simp[e];rw[h e]
theorem cl1{o X K c s x y A w:Int}(f:c+x+w=s)(e:w=y*A)(b:1000000000*(s/1000000000)+s%1000000000=s)(z V:Int)(h:o+X*K*c=z+X*(y*V)):o+X*K*(s%1000000000-x)+X*K*1000000000*(s/1000000000)=z+X*(y*(V+K*A)):=by grind
end Go.Ab
namespace Go.Ab
open Go Ieee
end Go.Ab
namespace Go.Ab
open Go
variable{k n:Nat}
theorem Axz{a:Ar}(h:RB k a):RB (k+1) (Dd (sv a) (nv a) (dv a)):=P1 _ _ _ _ h.nv h.dv ω
theorem Ajc(s:Bool)(n d:Nat)(e:d≠0):∃g:Nat,g≠0/\n=g*nv (Dd s n d)/\d=g*dv (Dd s n d)/\(n≠0->sv (Dd s n d)=s)/\(n=0->sv (Dd s n d)=false):=by obtain⟨h,i,o,r⟩:=Axx s n d e;have A:0<Nat.gcd n d:=Nat.gcd_pos_of_pos_right _ ω;exact⟨Nat.gcd n d,ω,by rw[h];exact(Nat.mul_div_cancel' (Nat.gcd_dvd_left _ _)).symm,by rw[i];exact(Nat.mul_div_cancel' (Nat.gcd_dvd_right _ _)).symm,o,r⟩
theorem Bbi(s t:Bool)(n d m e:Nat)(o:d≠0)(j:e≠0):Dd (sv (Dd s n d) != sv (Dd t m e)) (nv (Dd s n d)*nv (Dd t m e)) (dv (Dd s n d)*dv (Dd t m e))=Dd (s != t) (n*m) (d*e):=by obtain⟨g,r,A,B,C,_⟩:=Ajc s n d o;obtain⟨h,E,F,G,l,_⟩:=Ajc t m e j;(have k:Dd (s != t) (n*m) (d*e)=Dd (sv (Dd s n d) != sv (Dd t m e)) (n*m) (d*e):=by apply Axy;intro b;have i:n≠0:=λe=>b (by rw[e];simp);have H:m≠0:=λe=>b (by rw[e];simp);rw[C i,l H]);rw[k];generalize Dd s n d=c at *;generalize Dd t m e=f at *;rw[A,B,F,G,show g*nv c*(h*nv f)=g*h*(nv c*nv f)by grind,show g*dv c*(h*dv f)=g*h*(dv c*dv f)by grind,Zo _ _ _ _ (Nat.mul_ne_zero r E)]
def Iw(n:Nat):Nat->Nat
 |0=>1
 |k+1=>Iw n k*(n-k)
def fct:Nat->Nat
 |0=>1
 |k+1=>fct k*(k+1)
theorem Zp:∀k,fct k≠0
 |0=>δ
 |k+1=>Nat.mul_ne_zero (Zp k) ω
theorem Bbj(h:n<k):Iw n k=0:=by induction k with|zero=>omega|succ k ih=>simp only[Iw];rcases Co n k with e|e;rw[ih e];simp;have:n-k=0:=ω;rw[this];simp
theorem Bbk(n k:Nat)(b:n<1000000000):Cq (Iw n k)<=k+1:=by induction k with|zero=>simp[Iw,U2]|succ k ih=>have e:=Kq (Iw n k) (n-k);have h:Cq (n-k)<=1:=Lu ζ;simp only[Iw];omega
theorem Bbl(k:Nat)(e:k<1000000000):Cq (fct k)<=k+1:=by induction k with|zero=>simp[fct,U2]|succ k ih=>have h:=Kq (fct k) (k+1);have i:Cq (k+1)<=1:=Lu ζ;simp only[fct];have:=ih ω;omega
theorem Ax0(h:n<1000000000):Cq n<=1:=Lu (by simpa using h)
theorem Bbm(n k:Nat)(b:n<1000000000)(e:k<=64):RB (k+1) (Dd false (Iw n k) (fct k)):=P1 _ _ _ _ (Bbk n k b) (Bbl k ω) ω
theorem Ax1(a:Ar):Ar.mk a.N a.U a.B=a:=by cases a;rfl
theorem Ax2(n k:Nat)(z:n<1000000000)(C:k<=64):Wi (n:Int) (k:Int)=some (Dd false (Iw n k) (fct k)):=by unfold Wi;have A:E4 1=some (Dd false (Iw n 0) (fct 0)):=Ady 1 δ δ;rw[A,Ae];refine Oy (λ(i,s,b,c)=>∃q:Nat,i=q/\q<=k/\q<=n/\Ar.mk s b c=Dd false (Iw n q) (fct q)) (λ(i,_,_,_)=>k-i.toNat) (λe=>match e with|.inl r=>r=Dd false (Iw n k) (fct k)|.inr (s,b,c)=>Ar.mk s b c=Dd false (Iw n k) (fct k)) ⟨0,rfl,ω,ω,Ax1 _⟩ ?_ ?_;rintro⟨i,s,b,c⟩ ⟨q,rfl,E,y,o⟩;rcases Co q k with h|h;simp only[Av (ω:(q:Int)<(k:Int)),Al];by_cases u:n=q;subst u;refine .inr ⟨.inl (Dd false 0 1),?_,?_⟩;rw[Fa rfl,Al,Ady 0 δ δ];rfl;show Dd false 0 1=_;rw[Bbj h,Ajb,Ajb];have l:Ac ((n:Int)-(q:Int))=((n-q:Nat):Int):=ξ;have j:Ac ((q:Int)+1)=((q+1:Nat):Int):=Uy h ω;have x:R7 ((n-q:Nat):Int) ((q+1:Nat):Int)=some (Dd false (n-q) (q+1)):=(by rw[Axw _ _ ω ω ω ω ω,A6 (ω:¬((n-q:Nat):Int)<0),A6 (ω:¬((q+1:Nat):Int)<0)];rfl);have g:RB 1 (Dd false (n-q) (q+1)):=P1 _ _ _ _ (Ax0 ω) (Ax0 ω) ω;have B:=Ai9 _ _ _ _ (Bbm n q z ω) g ω ω;rw[Bbi false false (Iw n q) (fct q) (n-q) (q+1) (Zp q) ω]at B;refine .inl ⟨(((q+1:Nat):Int),(Dd false (Iw n (q+1)) (fct (q+1))).N,(Dd false (Iw n (q+1)) (fct (q+1))).U,(Dd false (Iw n (q+1)) (fct (q+1))).B),?_,⟨q+1,rfl,ω,ω,Ax1 _⟩,ζ⟩;rw[Da ω,An,l,j,x,Ae,o,B,Ae];rfl;have:q=k:=ω;subst this;refine .inr ⟨.inr (s,b,c),ψ,o⟩;rintro(e|⟨s,b,c⟩) f;simp only at f⊢;rw[f];simp only at f⊢;rw[f]
theorem Bbn{α:Type}[DecidableEq α](l m:Λ α)(b:l.length=m.length):(decide (l=m))=l.zipIdx.all (λq=>decide (m[q.2]?=some q.1)):=by rw[Bool.eq_iff_iff,D2];constructor;rintro rfl;(exact Ant λj x e=>by simpa using e);intro h;apply ext_getElem?;intro j;cases e:l[j]? with|none=>rw[List.getElem?_eq_none_iff]at e;rw[Mu ω]|some x=>have:=Kb h e;rw[D2]at this;rw[this]
theorem Bbo{R:Type}(l m:Aa)(b:l.length<1099511627776)(h:l.length=m.length){J:Bool⊕Unit->Ο R}{rt rf:R}(r:J (.inl false)=some rf)(s:J (.inr ())=some rt):(Ak (S:=Int) (E:=(Bool⊕Unit)) (λi=>bif i<(l.length:Int)then((Ah l i).bind λA=>(Ah m i).bind λB=>bif(A != B)then some (.inr (.inl false))else some (.inl (Ac (i+1))))else some (.inr (.inr ()))) 0).bind J=some (bif decide (l=m)then rt else rf):=by rw[Bbn l m h];refine Adf l (λq=>decide (m[q.2]?=some q.1)) (λj=>(j:Int)) rfl ω (rt:=rt) (rf:=rf) ?_ ?_;intro j x C _ F G H;have I:j<m.length:=(by have:=Ek C;omega);have o:m[j]?=some m[j]:=Bl I;generalize m[j]=y at o;simp only[F,G,H,Al,Ae,Br rfl o,o,Option.some.injEq];by_cases e:x=y;rw[Gx e,Av e.symm];exact⟨λ_=>rfl,λh=>by cases h⟩;rw[Ga e,A6 λh=>e h.symm];exact⟨nofun,λ_=>⟨.inl false,rfl,r⟩⟩;intro h _;exact⟨.inr (),by simp only[h];rfl,s⟩
theorem Ax3(l m:Aa)(b:l.length<1099511627776):Qv l m=some (decide (l=m)):=by unfold Qv;by_cases h:l.length=m.length;rw[Gx ω];simp only[An];refine(Bbo l m b h (rt:=true) (rf:=false) ?_ ?_).trans (by rw[Aif])<;>rfl;rw[Ga ω,A6 λe=>h (by rw[e])];rfl
def Zq(a b:Ar):Bool:=a.N==b.N&&decide (a.U=b.U)&&decide (a.B=b.B)
theorem Ax4(a b:Ar):Zq a b=true↔a=b:=by unfold Zq;simp only[C5,beq_iff_eq,D2];constructor;rintro⟨⟨e,h⟩,i⟩;cases a;cases b;simp_all;rintro rfl;simp
def Adz(c:Ar):Bool:=Zq (Dd (sv c) (nv c) (dv c)) c && !(nv c==0)
structure TSz(t:Aj):Prop where
 co:RB 1048576 t.C
 mo:MSz t.M
def Xb(l:A1)(x:Aj)(j:Nat):Bool:=j==0||(match l[j-1]? with|some y=>decide (Et y.M x.M<0)|none=>false)
def Zr(Δ:Ap)(Ξ:Au)(Θ:Ad)(l:A1)(t:Aj)(j:Nat):Bool:=Adz t.C&&Ks Δ Ξ Θ t.M&&Xb l t j
def Kf(Δ:Ap)(Ξ:Au)(Θ:Ad)(p:A1):Bool:=decide (p.length<=1000)&&p.zipIdx.all (λq=>Zr Δ Ξ Θ p q.1 q.2)
theorem Bbp{S E:Type}(F:A4->A4->Bg)(l:A1)(g:∀y∈l,∀x,F y.M x=some (Et y.M x)){x:Aj}{j:Nat}(A:l[j]?=some x)(i:l.length<4611686018427387904)(c b:Ο (S⊕E)):(bif decide ((j:Int)>0)then((Ah l (Ac ((j:Int)-1))).bind λf=>(F f.M x.M).bind λo=>bif decide (o>=0)then c else b)else b)=bif Xb l x j then b else c:=by have C:=Ek A;unfold Xb;by_cases h:j=0;subst h;rfl;rw[Av ω];have e:Ac ((j:Int)-1)=((j-1:Nat):Int):=ξ;have r:l[j-1]?=some l[j-1]:=Bl ω;rw[e,Br rfl r,r];have B:(j==0)=false:=(by simpa using h);simp only[Al,Ae,B,Bool.false_or,g _ (getElem_mem (ω:j-1<l.length))];by_cases s:Et l[j-1].M x.M<0;rw[A6 ω,Av s];rfl;rw[Av ω,A6 s];rfl
theorem Bbq(s:Bool)(n:Nat):(Me s n==0)=(n==0):=by unfold Me;by_cases h:n=0;rw[Aq h];subst h;rfl;rw[Ao h];have:(n==0)=false:=(by simpa using h);rw[this];cases s<;>rfl
theorem Bbr{Δ:Ap}{Ξ:Au}{Θ:Ad}(hc:O1 Δ Ξ Θ){b1:Af}(b2:At)(hm:Dz Δ Ξ Θ b1)(p:A1)(U:∀t∈p,TSz t) :
  ∃B,Abk p b1 b2 Δ Ξ Θ.G Θ.U Θ.R=some (Kf Δ Ξ Θ p,B)/\Dz Δ Ξ Θ B:=by
 unfold Abk Kf
 by_cases A:p.length<=1000
 .rw[A6 ω,Av A,Bool.true_and]
  simp only[An]
  obtain⟨r,V,S⟩:=Anv (M:=List (Β×Int)) (R:=Bool×List (Β×Int)) p (λq=>Zr Δ Ξ Θ p q.1 q.2) (λj o=>((j:Int),o)) (Dz Δ Ξ Θ)
   (λr=>Dz Δ Ξ Θ r.2/\r.1=true) (λr=>Dz Δ Ξ Θ r.2/\r.1=false) b1
   (s0:=((0:Int),b1))
   (step:=(λ(b,g)=>bif b<(p.length:Int)then((Ah p b).bind λC=>(Lq C.C).bind λf=>(show OB from
    bif(f.N==C.C.N)then((Qv f.U C.C.U).bind λi=>bif i then((Qv f.B C.C.B).bind λQ=>some Q)
    else some false)
    else some false).bind λE=>bif(!E)then some (.inr (.inl (false,g)))else((Jq f).bind λD=>bif(D==(0:Int))then some (.inr (.inl (false,g)))else((Yl C.M g b2 Δ Ξ Θ.G Θ.U Θ.R).bind λF=>bif(!F.1)then some (.inr (.inl (false,F.2)))else(bif b>(0:Int)then((Ah p (Ac (b-1))).bind λa0=>(T7 a0.M C.M).bind λa1=>bif a1>=(0:Int)then some (.inr (.inl (false,F.2)))
    else some (.inl (Ac (b+1),F.2)))
    else some (.inl (Ac (b+1),F.2))))))
    else some (.inr (.inr g)):Int×List (Β×Int)->B2))
   (J:=(λz=>match z with
    |.inl (I,G)=>some (I,G)
    |.inr L=>some (true,L)))
   rfl hm ω (by
    intro j t o u hx _ H W T
    have c:=U t (Bu hx)
    obtain⟨B,d1,d2⟩:=Ba5 b2 hc u t.M c.mo
    have s:∀l:Aa,l=(Dd (sv t.C) (nv t.C) (dv t.C)).U\/l=(Dd (sv t.C) (nv t.C) (dv t.C)).B->l.length<1099511627776:=by
     intro l A
     have q:=P1 (sv t.C) (nv t.C) (dv t.C) 1048577 c.co.nv c.co.dv ω
     have:=q.nl
     have:=q.dl
     rcases A with rfl|rfl<;>omega
    have k:(bif((Dd (sv t.C) (nv t.C) (dv t.C)).N==t.C.N)then((Qv (Dd (sv t.C) (nv t.C) (dv t.C)).U t.C.U).bind λi=>bif i then((Qv (Dd (sv t.C) (nv t.C) (dv t.C)).B t.C.B).bind λQ=>some Q)else some false)else some false)=some (Zq (Dd (sv t.C) (nv t.C) (dv t.C)) t.C):=by
     unfold Zq
     rw[Ax3 _ _ (s _ (.inl rfl)),Ax3 _ _ (s _ (.inr rfl))]
     cases((Dd (sv t.C) (nv t.C) (dv t.C)).N==t.C.N)<;>cases decide ((Dd (sv t.C) (nv t.C) (dv t.C)).U=t.C.U)<;>rfl
    simp only[H,W,T,Al,Ae,Aog t.C 1048576 c.co ω,k,Bbp T7 p (λy hy x=>Axc y.M x (U y hy).mo) hx ω,Zr,Adz]
    cases N:Zq (Dd (sv t.C) (nv t.C) (dv t.C)) t.C with
    |false=>exact⟨nofun,λ_=>⟨_,rfl,_,rfl,u,rfl⟩⟩
    |true=>
     have e:=(Ax4 _ _).1 N
     simp only[bnt,An,Bool.true_and]
     rw[e,Ai8 t.C 1048576 c.co ω,Ae,Bbq]
     cases(nv t.C==0)with
     |true=>exact⟨nofun,λ_=>⟨_,rfl,_,rfl,u,rfl⟩⟩
     |false=>
      simp only[An,d1,Ae,Bool.not_false,Bool.true_and]
      cases Ks Δ Ξ Θ t.M with
      |false=>exact⟨nofun,λ_=>⟨_,rfl,_,rfl,d2,rfl⟩⟩
      |true=>
       cases Xb p t j with
       |true=>exact⟨λ_=>⟨B,rfl,d2⟩,λh=>by cases h⟩
       |false=>exact⟨nofun,λ_=>⟨_,rfl,_,rfl,d2,rfl⟩⟩) (by
    intro o u H _
    exact⟨.inr o,by simp only[H];rfl,_,rfl,u,rfl⟩)
  refine⟨r.2,?_,?_⟩
  .have e:some r=some (p.zipIdx.all λq=>Zr Δ Ξ Θ p q.1 q.2,r.2):=by
    rcases S with⟨H,W,T⟩|⟨H,W,T⟩
    .rw[H,<-T]
    .rw[H,<-T]
   rw[<-e]
   exact V
  .rcases S with⟨H,W,T⟩|⟨H,W,T⟩<;>exact W
 .rw[Av ω,A6 A]
  exact⟨b1,rfl,hm⟩
structure CSz(x:Bx):Prop where
 ds:DSz x.D
 nv:x.V.length<=1048576
 vs:∀t∈x.V,Bz t<=1048576
 rs:Bz x.E<=1048576
def Fc(Δ:Ap)(t:Ad):Bool:=Fw Δ 0 t&&decide (Bz t<=200)
def Gw(x:Bx):Prop:=x.V.length<=3000/\Hj x.D/\Fc x.D x.E=true/\x.V.all (Fc x.D)=true
theorem Gw.ctx{x:Bx}(h:Gw x)(b:CSz x):O1 x.D x.V x.E:=by refine⟨h.2.1,b.ds.sz.short,λv t e=>?_,h.1⟩;(have good:∀t,Fc x.D t=true->Bz t<=200:=λt h=>by simp only[Fc,C5,D2]at h;exact h.2);unfold De at e;by_cases hv:v = -1;rw[Aq hv]at e;cases e;exact good _ h.2.2.1;rw[Ao hv]at e;exact good t (Hx.1 h.2.2.2 t (Gb e).2.2.2)
mutual
def C9:A3->Nat
 |⟨_,_,l⟩=>1+Ef l
def Ef:List A3->Nat
 |[]=>0
 |x::xs=>C9 x+Ef xs
end
variable{l:A9}
theorem Mf(t:A3):C9 t=1+Ef t.K:=by cases t;simp only[C9]
theorem Zs(t:A3):1<=C9 t:=by rw[Mf];omega
theorem M7{a:A3}(h:a∈l):C9 a<=Ef l:=by induction l with|nil=>cases h|cons x xs ih=>simp only[Ef];rcases F0.1 h with rfl|h;omega;have:=ih h;omega
theorem Xc(l:A9):l.length<=Ef l:=by induction l with|nil=>simp|cons x xs ih=>simp only[Ef,D3];have:=Zs x;omega
theorem Ax5(l m:A9):Ef (l++m)=Ef l+Ef m:=by induction l with|nil=>simp[Ef]|cons x xs ih=>simp only[Ej,Ef,ih];omega
theorem Ax6{j:Nat}{x:A3}(h:l[j]?=some x):Ef (l.take (j+1))=Ef (l.take j)+C9 x:=by rw[Cu h,Ax5];simp[Ef]
theorem Ax7(l:A9)(j:Nat):Ef (l.take j)<=Ef l:=by have:=Ax5 (l.take j) (l.drop j);rw[take_append_drop]at this;omega
theorem Bbs(k:Nat)(l:A9)(c:Nat)(J:l.length<1099511627776)(B:c<=5000)(ih:∀(a:A3),a∈l->∀f:Nat,f<=c->∃q:Int,Qs k a f=some (decide (C9 a<=f),q)/\(C9 a<=f->q=(f:Int)-C9 a)):∃p:Int×Int,Yz (k+2) l c=some p/\(Ef l<=c->p.1 = -1/\p.2=(c:Int)-Ef l)/\(¬Ef l<=c->0<=p.1):=by rw[Yz];refine Fo (λ(o,e)=>∃j:Nat,o=j/\j<=l.length/\Ef (l.take j)<=c/\e=(c:Int)-Ef (l.take j)) (λ(o,_)=>l.length-o.toNat) (λz=>match z with|.inl (i,_)=>0<=i/\¬Ef l<=c|.inr e=>Ef l<=c/\e=(c:Int)-Ef l) ⟨0,rfl,ω,by simp[Ef],by simp[Ef]⟩ ?_ ?_;rintro⟨o,e⟩ ⟨j,rfl,H,y,C⟩;have C:e=_:=C;subst C;rcases Co j l.length with h|h;have r:l[j]?=some l[j]:=Bl h;generalize l[j]=x at r;obtain⟨g,A,s⟩:∃g:Nat,(c:Int)-Ef (l.take j)=g/\g<=c:=⟨c-Ef (l.take j),ω,ω⟩;obtain⟨q,I,G⟩:=ih x (Bu r) g s;have D:=Ax6 r;have E:=Ax7 l (j+1);simp only[Av (ω:(j:Int)<(l.length:Int)),Al,Br rfl r,Ae,Ab0,A,I,Db h ω];by_cases F:C9 x<=g;rw[Av F];have L:=G F;exact .inl ⟨_,rfl,⟨j+1,rfl,ω,ω,by show q=_;omega⟩,ζ⟩;rw[A6 F];exact .inr ⟨.inl ((j:Int),q),rfl,ω,ω⟩;have:j=l.length:=ω;subst this;rw[C6]at *;exact .inr ⟨.inr ((c:Int)-Ef l),ψ,y,rfl⟩;rintro(⟨i,b⟩|e) u;exact⟨(i,b),rfl,λh=>absurd h u.2,λ_=>u.1⟩;exact⟨(-1,e),rfl,λ_=>⟨rfl,u.2⟩,λh=>absurd u.1 h⟩
theorem Bbt:∀(left:Nat)(t:A3)(k:Nat),left<=5000->4*left+4<=k->C9 t<1099511627776->∃c:Int,Qs k t left=some (decide (C9 t<=left),c)/\(C9 t<=left->c=(left:Int)-C9 t):=by intro left;induction left using Nat.strongRecOn with|_ left l=>intro t k y F G;have hp:=Zs t;have s:=Mf t;have q:=Xc t.K;obtain⟨j,rfl⟩:∃j,k=j+1:=⟨k-1,ω⟩;cases left with|zero=>refine⟨-1,?_,λh=>ω⟩;rw[Qs,A6 (ω:¬C9 t<=0)];rfl|succ f=>have x:Ac (((f+1:Nat):Int)-1)=(f:Int):=ξ;obtain⟨g,rfl⟩:∃g,j=g+3:=⟨j-3,ω⟩;obtain⟨⟨i,c⟩,r,A,B⟩:=Bbs g t.K f ω ω (λa C b u=>by have:=M7 C;exact l b ω a g ω ω ω);rw[Qs,x,A6 ω];simp only[An,Abz,r,Ae];by_cases o:Ef t.K<=f;obtain⟨e,E⟩:=A o;simp only at e E;refine⟨c,?_,λ_=>ω⟩;rw[A6 ω,Av ω];rfl;have e:=B o;simp only at e;refine⟨c,?_,λh=>ω⟩;rw[Av ω,A6 ω];rfl
mutual
def Hs(Δ:List Ai):A3->Ad->Bool
 |⟨k,n,e⟩,t=>
  if t.G=1 then k==3&&decide (-1099511627776<=n)&&decide (n<=1099511627776)&&e.length==0
  else if t.G=2 then k==2&&(n==0||n==1)&&e.length==0
  else if t.G=3 then k==1&&n==0&&e.length==0
  else if t.G=6 then k==4&&n==0&&Ik Δ e t.R
  else if t.G=5 then k==5&&decide (0<=n)&&decide (n<8)&&(match H9 Δ t n with|some l=>Ik Δ e l|none=>false)
  else if t.G=7 then k==6&&n==0&&decide (e.length<=4096)&&(match t.R with|u::_=>Xd Δ e u|[]=>false)
  else if t.G=8 then k==7&&n==0&&Ik Δ e t.R
  else k==8&&decide (0<=n)&&decide (n<64)&&e.length==0
def Ik(Δ:List Ai):List A3->List Ad->Bool
 |[],[]=>true
 |x::xs,t::ts=>Hs Δ x t&&Ik Δ xs ts
 |[],_::_=>false
 |_::_,[]=>false
def Xd(Δ:List Ai):List A3->Ad->Bool
 |[],_=>true
 |x::xs,t=>Hs Δ x t&&Xd Δ xs t
end
theorem Sx(Δ:Ap)(v:A3)(t:Ad):Hs Δ v t=if t.G=1 then v.G==3&&decide (-1099511627776<=v.U)&&decide (v.U<=1099511627776)&&v.K.length==0 else if t.G=2 then v.G==2&&(v.U==0||v.U==1)&&v.K.length==0 else if t.G=3 then v.G==1&&v.U==0&&v.K.length==0 else if t.G=6 then v.G==4&&v.U==0&&Ik Δ v.K t.R else if t.G=5 then v.G==5&&decide (0<=v.U)&&decide (v.U<8)&&(match H9 Δ t v.U with|some l=>Ik Δ v.K l|none=>false)else if t.G=7 then v.G==6&&v.U==0&&decide (v.K.length<=4096)&&(match t.R with|u::_=>Xd Δ v.K u|[]=>false)else if t.G=8 then v.G==7&&v.U==0&&Ik Δ v.K t.R else v.G==8&&decide (0<=v.U)&&decide (v.U<64)&&v.K.length==0:=by cases v;simp only[Hs]
theorem Bbu(Δ:Ap)(l:A9)(t:Ad):Xd Δ l t=l.all (Hs Δ · t):=by induction l with|nil=>rfl|cons x xs ih=>simp only[Xd,ih,all_cons]
theorem Ad0(Δ:Ap):∀(l:A9)(ts:Au),l.length≠ts.length->Ik Δ l ts=false
 |[],[],h=>absurd rfl h
 |x::xs,t::ts,h=>by simp only[Ik,Ad0 Δ xs ts (by simpa using h),Bool.and_false]
 |[],_::_,_=>by simp only[Ik]
 |_::_,[],_=>by simp only[Ik]
theorem Zt(Δ:Ap):∀(l:A9)(ts:Au),l.length=ts.length->Ik Δ l ts=(l.zip ts).all (λq=>Hs Δ q.1 q.2)
 |[],[],_=>rfl
 |x::xs,t::ts,h=>by simp only[Ik,zip_cons_cons,all_cons,Zt Δ xs ts (by simpa using h)]
 |[],_::_,h=>by simp at h
 |_::_,[],h=>by simp at h
mutual
theorem Aoi(Δ:List Ai)(d:Nat)(v:Int):∀t,Fw (Δ.take d) v t=true->Fw Δ v t=true
 |⟨k,n,l⟩,h=>by
  simp only[Fw,C5]at h ⊢
  refine⟨?_,Ax8 Δ d v l h.2⟩
  have e:=h.1
  unfold Ma at e ⊢
  by_cases i:k=5
  .subst i
   simp only[getElem?_take]at e ⊢
   by_cases o:n.toNat<d
   .simpa[o]using e
   .simp[o]at e
  .simp only[i,if_false]at e ⊢
   exact e
theorem Ax8(Δ:List Ai)(d:Nat)(v:Int):∀l,G7 (Δ.take d) v l=true->G7 Δ v l=true
 |[],_=>rfl
 |x::xs,h=>by
  simp only[G7,C5]at h ⊢
  exact⟨Aoi Δ d v x h.1,Ax8 Δ d v xs h.2⟩
end
mutual
theorem Ax9(Δ:List Ai)(v:Int)(σ:List Ad)(o:∀s∈σ,Fw Δ 0 s=true)(A:(σ.length:Int)=v):∀t,Fw Δ v t=true->Fw Δ 0 (Ey σ t)=true
 |⟨k,n,l⟩,h=>by
  simp only[Fw,C5]at h
  cases i:isV σ k n with
  |true=>
   obtain⟨s,e,_,B⟩:=Aij i
   rw[Adn (t:=⟨k,n,l⟩) i e]
   exact o s B
  |false=>
   rw[Aik (t:=⟨k,n,l⟩) i,<-An3]
   simp only[Fw,C5]
   refine⟨?_,Aya Δ v σ o A l h.2⟩
   rw[An3,Cp]
   have e:=h.1
   unfold Ma at e ⊢
   by_cases r:k=4
   .exfalso
    subst r
    simp at e
    unfold isV at i
    rw[Av e.1.1,Av ω]at i
    cases i
   .simp only[r,if_false]at e ⊢
    exact e
theorem Aya(Δ:List Ai)(v:Int)(σ:List Ad)(e:∀s∈σ,Fw Δ 0 s=true)(i:(σ.length:Int)=v):∀l,G7 Δ v l=true->G7 Δ 0 (Px σ l)=true
 |[],_=>rfl
 |x::xs,h=>by
  simp only[G7,C5]at h
  simp only[Px,G7,C5]
  exact⟨Ax9 Δ v σ e i x h.1,Aya Δ v σ e i xs h.2⟩
end
variable{t:Ad}{Δ:Ap}{α β:Type}
theorem Ayb(h:Fw Δ 0 t=true):∀a∈t.R,Fw Δ 0 a=true:=by rw[Zh,C5,Awi,Hx]at h;exact h.2
theorem Bbv(A:Hj Δ)(ht:Fw Δ 0 t=true){c:Int}{l:Au}(h:H9 Δ t c=some l):∀a∈l,Fw Δ 0 a=true/\Bz a<=200:=by obtain⟨x,y,G,B,g,C,rfl,f⟩:=Lb h;intro a r;refine⟨?_,f a r⟩;obtain⟨b,E,rfl⟩:=mem_map.1 r;obtain⟨H,_,i,_⟩:=Gb B;have s:=A.2.1 t.U.toNat x i;obtain⟨_,_,F⟩:=s.2.2.2.2.2 y (Gb C).2.2.2;have o:=Hx.1 F b E;refine Ax9 Δ x.V t.R (Ayb ht) g b ?_;unfold Us at o;rw[Bool.or_eq_true]at o;rcases o with e|e;exact Aoi Δ _ _ b (Anz i s.2.1 e).1;rw[C5]at e;exact Aoi Δ _ _ b e.1
theorem Bbw(h:Fw Δ 0 t=true):(t.G=1\/t.G=2\/t.G=3\/t.G=5\/t.G=6\/t.G=7\/t.G=8\/t.G=9)/\(t.G=7->t.R.length=1)/\(t.G=8->t.R.length=1):=by rw[Zh,C5]at h;have e:=h.1;unfold Ma at e;by_cases q:t.G=1;simp[q];by_cases l:t.G=2;simp[l];by_cases k:t.G=3;simp[k];by_cases j:t.G=4;exfalso;simp[j]at e;omega;by_cases i:t.G=5;simp[i];by_cases g:t.G=6;simp[g];by_cases f:t.G=7;simp[f]at e⊢;exact e.2;by_cases c:t.G=8;simp[c]at e⊢;exact e.2;by_cases b:t.G=9;simp[b];simp[q,l,k,j,i,g,f,c,b]at e
theorem Ajd(l:Λ α):((l.length:Int)==(0:Int))=(l.length==0):=Awe l 0
def Ad1(m:Λ β)(p:α×β->Bool)(q:α×Nat):Bool:=match m[q.2]? with|some y=>p (q.1,y)|none=>false
theorem Bbx(l:Λ α)(m:Λ β)(p:α×β->Bool)(h:l.length=m.length):(l.zip m).all p=l.zipIdx.all (Ad1 m p):=by rw[Bool.eq_iff_iff];constructor;intro o;refine Ant λj x r=>?_;have e:=Ek r;have s:m[j]?=some m[j]:=Bl ω;simp only[Ad1,s];refine Hx.1 o _ (Bu (i:=j) ?_);rw[getElem?_zip_eq_some];exact⟨r,s⟩;intro o;rw[Hx];rintro⟨x,y⟩ A;obtain⟨j,e⟩:=Hw A;rw[getElem?_zip_eq_some]at e;have:=Kb o e.1;simp only[Ad1,e.2]at this;exact this
theorem Bby(hv:Hj Δ):∀(n:Nat)(v:A3)(t:Ad)(k:Nat),C9 v<=n->4*n<=k->n<=5000->Fw Δ 0 t=true->Bz t<=200->T5 k Δ v t=some (Hs Δ v t):=by intro n;induction n with|zero=>intro v t k h;have:=Zs v;omega|succ n ih=>intro v t k h hk hn H D;have a1:=Mf v;have a6:=Xc v.K;obtain⟨k,rfl⟩:∃k',k=k'+4:=⟨k-4,ω⟩;obtain⟨kd,k7,k8⟩:=Bbw H;(have f:∀ts:Au,(∀a∈ts,Fw Δ 0 a=true/\Bz a<=200)->T8 (k+3) Δ v.K ts=some (Ik Δ v.K ts):=by intro ts S;rw[T8,Ach];by_cases V:v.K.length=ts.length;rw[Gx ω,Zt Δ _ _ V,Bbx _ _ _ V];simp only[An];have e:=Adf v.K (Ad1 ts λq=>Hs Δ q.1 q.2) (λj=>(j:Int)) (s0:=(0:Int)) rfl ω (rt:=true) (rf:=false) (J:=λz:Bool⊕Unit=>match z with|.inl R=>some R|.inr _=>some true) (step:=λE=>bif E<(v.K.length:Int)then((Ah v.K E).bind λX=>(Ah ts E).bind λv9=>(Y0 (k+1) X v9 Δ).bind λQ=>bif(!Q)then some (.inr (.inl false))else some (.inl (Ac (E+1))))else some (.inr (.inr ()))) (by intro j x o _ T W h3;have r:ts[j]?=some (ts[j]'(by have:=Ek o;omega)):=Bl (by have:=Ek o;omega);generalize ts[j]'(by have:=Ek o;omega)=y at r;have s:=S y (Bu r);have a0:=M7 (Bu o);simp only[T,W,h3,Al,Ae,Br rfl r,Ad1,r,Y0,ih x y k ω ω ω s.1 s.2];cases Hs Δ x y with|true=>exact⟨λ_=>rfl,λh=>by cases h⟩|false=>exact⟨nofun,λ_=>⟨.inl false,rfl,rfl⟩⟩) (by intro h _;exact⟨.inr (),by simp only[h];rfl,rfl⟩);rw[Aif]at e;exact congrArg (λq=>Option.bind q some) e;rw[Ga ω,Ad0 Δ _ _ V];rfl);have b:∀a∈t.R,Fw Δ 0 a=true/\Bz a<=200:=λa ha=>⟨Ayb H a ha,by have:=Kr ha;have:=Jc t;omega⟩;rw[T5,Sx];by_cases N:t.G=1;rw[Fa N,Aq N,Ajd];cases(v.G==3)<;>cases decide (-1099511627776<=v.U)<;>cases decide (v.U<=1099511627776)<;>rfl;rw[Da N,Ao N];by_cases M:t.G=2;rw[Fa M,Aq M,Ajd];cases(v.G==2)<;>cases(v.U==0)<;>cases(v.U==1)<;>rfl;rw[Da M,Ao M];by_cases L:t.G=3;rw[Fa L,Aq L,Ajd];cases(v.G==1)<;>cases(v.U==0)<;>rfl;rw[Da L,Ao L];by_cases G:t.G=6;rw[Fa G,Aq G,f t.R b];cases(v.G==4)<;>cases(v.U==0)<;>rfl;rw[Da G,Ao G];by_cases I:t.G=5;rw[Fa I,Aq I,Bak hv.szv t D];simp only[An,Al];by_cases C:v.G=5;rw[Gx C,Fa C];by_cases g2:v.U<0;rw[Av g2,A6 (ω:¬0<=v.U)];rfl;by_cases g3:v.U>=8;rw[A6 g2,Av g3,A6 (ω:¬v.U<8)];simp;rw[A6 g2,A6 g3,Av (ω:0<=v.U),Av (ω:v.U<8)];simp only[An,Ae,Bool.true_and];(cases hf:H9 Δ t v.U with|none=>rfl|some l=>simp only[okL,Al];rw[f l (Bbv hv H hf)];rfl);rw[Ga C,Da C];rfl;rw[Da I,Ao I];by_cases c:t.G=7;rw[Fa c,Aq c,show decide ((v.K.length:Int)<=4096)=decide (v.K.length<=4096)by congr 1;simp only[eq_iff_iff];omega];have U:=k7 c;(match A:t.R,U with|[u],_=>have hu:=b u (by rw[A];simp);(have B:Adb (k+3) v.K Δ t=some (!Xd Δ v.K u):=by rw[Adb,Ah1,Bbu];have e:=Anu v.K (λx=>!Hs Δ x u) ω (J:=λz=>match z with|.inl Y=>some Y|.inr _=>some (-1)) (step:=λF=>bif F<(v.K.length:Int)then((Ah v.K F).bind λv4=>(Ys (k+1) v4 Δ t).bind λv5=>bif v5 then some (.inr (.inl F))else some (.inl (Ac (F+1))))else some (.inr (.inr ()))) (by intro j x o T W h3;have a0:=M7 o;have hi:Ah t.R 0=some u:=(by rw[A];rfl);simp only[T,W,h3,Al,Ae,Ys,hi,ih x u k ω ω ω hu.1 hu.2]) (λh=>by simp only[h];rfl) (λ_=>rfl) rfl;obtain⟨i,i1,i2⟩:=e;erw[i1];simp only[Ae,i2];rw[any_eq_not_all_not];simp);simp only[An,Al,B,Ae];cases(v.G==6)<;>cases(v.U==0)<;>cases decide (v.K.length<=4096)<;>cases Xd Δ v.K u<;>rfl);rw[Da c,Ao c];by_cases g:t.G=8;rw[Fa g,Aq g,f t.R b];cases(v.G==7)<;>cases(v.U==0)<;>rfl;rw[Da g,Ao g];have Z:t.G=9:=ω;rw[Fa Z,Ajd];cases(v.G==8)<;>cases decide (0<=v.U)<;>cases decide (v.U<64)<;>rfl
def M8(Δ:Ap)(v:A3)(t:Ad):Bool:=Fc Δ t&&decide (C9 v<=5000)&&Hs Δ v t
theorem Ayc(j:DSz Δ)(v:A3)(t:Ad)(f:C9 v<1099511627776)(ht:Bz t<=1048576):∃b,Ty Δ v t=some b/\(b=true↔Hj Δ/\M8 Δ v t=true):=by obtain⟨b,r,e⟩:=Adm j;unfold Ty Ag1 M8;rw[r,W4 Δ t 0 ω];simp only[Ae];rw[show(Fw Δ 0 t&&decide (Bz t<=200))=Fc Δ t from rfl];cases b with|false=>exact⟨false,rfl,by simp;intro h;have:=e.2 h;cases this⟩|true=>have o:=e.1 rfl;cases s:Fc Δ t with|false=>exact⟨false,rfl,ψ⟩|true=>obtain⟨k,i,_⟩:=Bbt 5000 v 4000000 ω ω f;have i:Qs 4000000 v 5000=_:=i;simp only[Al,Ae,i];by_cases g:C9 v<=5000;have c:=s;simp only[Fc,C5,D2]at c;rw[Av g];simp only[Al,Bby o 5000 v t 4000000 g ω ω c.1 c.2,Ae];exact⟨_,rfl,by simp[o]⟩;rw[A6 g];exact⟨false,rfl,ψ⟩
mutual
def Ht(Δ:List Ai)(d:Int):A3->List A3
 |⟨k,n,e⟩=>⟨k,n,e⟩::Ih Δ d e (B5 Δ d n)
def Ih(Δ:List Ai)(d:Int):List A3->List Bool->List A3
 |x::xs,b::bs=>(bif b then Ht Δ d x else[])++Ih Δ d xs bs
 |[],_=>[]
 |_::_,[]=>[]
end
theorem Aoj(Δ:Ap)(d:Int)(v:A3):Ht Δ d v=v::Ih Δ d v.K (B5 Δ d v.U):=by cases v;simp only[Ht]
mutual
theorem Aok(Δ:List Ai)(d:Int):∀v,(Ht Δ d v).length<=C9 v
 |⟨k,n,e⟩=>by
  have:=Aol Δ d e (B5 Δ d n)
  simp only[Ht,C9,D3];omega
theorem Aol(Δ:List Ai)(d:Int):∀l r,(Ih Δ d l r).length<=Ef l
 |x::xs,b::bs=>by
  have e:=Aok Δ d x
  have h:=Aol Δ d xs bs
  cases b<;>simp only[Ih,Ef,D6,Al,An,length_nil]<;>omega
 |[],_=>by simp[Ih]
 |_::_,[]=>by simp[Ih]
end
variable{m:A4}{Θ:Ad}{t u:Aj}{a:Ar}{x:Bx}{d n v w y:Int}{Ξ:Au}{Δ:Ap}{p q ts:A1}{P R S X b l:Aa}{K j k:Nat}{α β:Type}{g:α->Aa}
theorem Ayd(Δ:Ap)(d:Int):∀(l:A9)(r:Bp)(x:A3)(b:Bool),l.length=r.length->Ih Δ d (l++[x]) (r++[b])=Ih Δ d l r++(bif b then Ht Δ d x else[])
 |[],[],x,b,_=>by simp[Ih]
 |y::e,c::cs,x,b,h=>by simp only[Ej,Ih,Ayd Δ d e cs x b (by simpa using h),append_assoc]
 |[],_::_,_,_,h=>by simp at h
 |_::_,[],_,_,h=>by simp at h
theorem Aye{a:Ad}{Ξ:Int}{σ:Au}(h:La a d Ξ=true)(f:(σ.length:Int)=Ξ):Ey σ a=⟨5,d,σ⟩:=by unfold La at h;simp only[C5,beq_iff_eq]at h;obtain⟨⟨⟨i,o⟩,B⟩,r⟩:=h;(have A:isV σ a.G a.U=false:=by unfold isV;rw[i];rfl);rw[Aik A,i,o];congr 1;apply ext_getElem?;intro j;rw[getElem?_map];cases e:a.R[j]? with|none=>rw[List.getElem?_eq_none_iff]at e;rw[Mu ω];rfl|some x=>have C:=Ek e;have:=Kb r e;simp only[Ur,C5,beq_iff_eq]at this;have c:σ[j]?=some (σ[j]' ω):=Bl ω;generalize σ[j]' ω=s at c;have b:isV σ x.G x.U=true:=(by unfold isV;rw[this.1.1,this.1.2,Av ω,Av ω];rfl);rw[c,Option.map_some,Adn b (by rw[this.1.2];exact c)]
theorem Aje{v:A3}{t:Ad}(r:t.G=5)(h:Hs Δ v t=true):∃x,Ah Δ t.U=some x/\0<=v.U/\v.U<x.O.length/\(B5 Δ t.U v.U).length=v.K.length/\∀(j:Nat)(w:A3),v.K[j]?=some w->(B5 Δ t.U v.U)[j]?=some true->Hs Δ w t=true:=by rw[Sx,Ao ω,Ao ω,Ao ω,Ao ω,Aq r]at h;cases e:H9 Δ t v.U with|none=>rw[e]at h;simp at h|some l=>rw[e]at h;simp only[C5]at h;have b:=h.2;(have c:v.K.length=l.length:=by by_cases q:v.K.length=l.length;exact q;rw[Ad0 Δ _ _ q]at b;cases b);have D:=M6 e;obtain⟨x,y,_,E,s,F,q,_⟩:=Lb e;obtain⟨B,A,_,_⟩:=Gb F;refine⟨x,E,B,A,ω,λj w G z=>?_⟩;rw[Zt Δ _ _ c]at b;have H:=Ek G;have g:l[j]?=some (l[j]' ω):=Bl ω;have o:=Hx.1 b (w,l[j]' ω) (Bu (i:=j) (by rw[getElem?_zip_eq_some];exact⟨G,g⟩));simp only at o;have C:y.R[j]?=some (y.R[j]'(by rw[q]at c;simp at c;omega)):=Bl _;generalize y.R[j]'_=a at C;have u:(B5 Δ t.U v.U)[j]?=some (La a t.U x.V):=(by unfold B5;simp only[E,F,getElem?_map,C,Option.map_some]);rw[u]at z;have f:=Fv z;have k:l[j]?=some (Ey t.R a):=(by rw[q,getElem?_map,C];rfl);rw[k]at g;rw[<-Fv g,Aye f s]at o;have:(Ad.mk 5 t.U t.R)=t:=(by cases t;simp only at r;rw[r]);rw[this]at o;exact o
theorem Bbz{t:Ad}(C:t.G=5)(B:Λ (List Bool))(I:∀(x:Ai),Ah Δ t.U=some x->∀n:Int,0<=n->n<x.O.length->Ah B n=some (B5 Δ t.U n)):∀(n:Nat)(v:A3)(k:Nat)(b:A9),C9 v<=n->n<=k->n<=1048576->b.length+C9 v<=1048576->Hs Δ v t=true->Ws k v b B=some (b++Ht Δ t.U v):=by intro n;induction n with|zero=>intro v k b h;have:=Zs v;omega|succ n ih=>intro v k b h E J N G;obtain⟨k,rfl⟩:∃s,k=s+1:=⟨k-1,ω⟩;have y:=Mf v;have z:=Xc v.K;obtain⟨x,F,q,l,i,f⟩:=Aje C G;rw[Ws,D7 ζ,Ae,Adj b [] _ _ b.length rfl rfl,Ae,Adi b [] _ _ _ b.length rfl rfl,I x F v.U q l,Ae,Aoj];generalize L:B5 Δ t.U v.U=R at *;have g:∀j,(Ih Δ t.U (v.K.take j) (R.take j)).length<=Ef (v.K.take j):=λj=>Aol _ _ _ _;refine Gj R (λj=>((j:Int),b++[v]++Ih Δ t.U (v.K.take j) (R.take j))) (by simp[Ih]) ω ?_ ?_;intro j c Q r o H M;have e:v.K[j]?=some (v.K[j]' ω):=Bl ω;generalize v.K[j]'_=w at e;have u:=M7 (Bu e);have A:=Ax6 e;have D:=Ax7 v.K (j+1);have hp:=g j;simp only[o,H,M,Al,Ae,Br rfl e,Cu e,Cu r];rw[Ayd _ _ _ _ _ _ ζ];(cases c with|false=>simp|true=>rw[ih w k _ ω ω ω ζ (f j w e r)];simp);intro o;refine⟨b++(v::Ih Δ t.U v.K R),?_,rfl⟩;simp only[o];rw[H8 (ω:v.K.length<=R.length),C6];simp
theorem Bb0(k:Nr Δ)(l:∀x∈Δ,x.O.length<=8){t:Ad}(o:t.G=5)(v:A3)(A:C9 v<=5000)(h:Hs Δ v t=true):Acj Δ t v=some (Ht Δ t.U v):=by obtain⟨x,e,u,s,g,f⟩:=Aje o h;have i:=l x (Gb e).2.2.2;unfold Acj;rw[e,Ae];refine Gj x.O (λj=>((j:Int),(range j).map λc:Nat=>B5 Δ t.U (c:Int))) rfl ω ?_ ?_;intro j y C E r F B;simp only[r,B,Al,W5 Δ t.U (j:Int) k,Ae];rw[D7 ζ,Ae,range_succ];simp;intro r;refine⟨(range x.O.length).map λc:Nat=>B5 Δ t.U (c:Int),ψ,?_⟩;rw[Bbz o _ (λq b n G H=>?_) 5000 v 4000000 [] A ω ω ζ h];rfl;rw[e]at b;cases b;rw[Br (n:=n.toNat) ω];rw[getElem?_map,getElem?_range ω];simp only[Option.map_some];rw[show((n.toNat:Nat):Int)=n by omega]
theorem Bb1:∀(k:Nat)(t:Ad),Bz t<=k->k<1099511627776->∃i,Se k t=some i/\True:=by intro k;induction k with|zero=>intro t h;have:=Uq t;omega|succ k ih=>intro t h A;have g:=Jc t;have c:=Lw t.R;rw[Se];refine So ?_ ⟨_,rfl,trivial⟩;refine Fo (λ(i,o)=>∃j:Nat,i=j/\j<=t.R.length/\o.length=j) (λ(i,_)=>t.R.length-i.toNat) (λ_=>True) ⟨0,rfl,ω,rfl⟩ ?_ λe _=>⟨_,rfl,trivial⟩;rintro⟨i,o⟩ ⟨j,rfl,B,b⟩;rcases Co j t.R.length with r|r;have s:t.R[j]?=some t.R[j]:=Bl r;generalize t.R[j]=x at s;have C:=Kr (Bu s);obtain⟨y,f,_⟩:=ih x ω ω;simp only[Av (ω:(j:Int)<(t.R.length:Int)),Al,Br rfl s,Ae,f,Db r ω];have b:o.length=j:=b;rw[D7 ζ,Ae];exact .inl ⟨_,rfl,⟨j+1,rfl,ω,by simp[b]⟩,ζ⟩;have:j=t.R.length:=ω;subst this;exact .inr ⟨o,ψ,trivial⟩
theorem Zu(c:DSz Δ)(r:Hj Δ)(t:Ad)(hg:Fc Δ t=true)(i:Ag)(s:Bt i<=1048576):Nk Δ t i=some (J0 (Dc Δ i t)):=by have b:=hg;simp only[Fc,C5,D2]at b;obtain⟨q,g,f⟩:=Adm c;have A:q=true:=f.2 r;subst A;unfold Nk Q3;rw[g,W4 Δ t 0 ω];simp only[Ae,Al];rw[show(Fw Δ 0 t&&decide (Bz t<=200))=Fc Δ t from rfl,hg];obtain⟨p,j,h⟩:=(Ban r.szv c.sz.short 4000000).1 i t ω s b.2;simp only[bnt,An,j,Ae];(rcases h with⟨e,d,o,B,C⟩|⟨e,o⟩);rw[e,o,Oz B,C];rfl;rw[e,Awz o];rfl
theorem Ajf(h:Ks Δ Ξ Θ m=true):(∀f∈m.F,∃t,De Ξ Θ f.v=some t)/\m.F.length<=6:=by unfold Ks at h;simp only[C5,D2]at h;obtain⟨⟨r,s⟩,E⟩:=h;(have e:∀f∈m.F,1<=D0 Δ Ξ Θ f:=by intro f e;obtain⟨j,i⟩:=Hw e;have:=Kb r i;simp only[Rj,C5,D2]at this;exact this.1);have A:0<=E6 m.A:=(Axi m.A (λa A=>by obtain⟨j,i⟩:=Hw A;have:=Kb s i;simp only[O2,C5,D2]at this;omega)).1;refine⟨λf b=>?_,?_⟩;have:=e f b;unfold D0 at this;(cases B:De Ξ Θ f.v with|none=>rw[B]at this;have:(1:Int)<=-1:=this;omega|some t=>exact⟨t,rfl⟩);have o:∀l:Bf,(∀f∈l,1<=D0 Δ Ξ Θ f)->(l.length:Int)<=Cf Δ Ξ Θ l:=(by intro l;induction l with|nil=>intro _;simp[Cf]|cons f F ih=>intro c;have r:=c f ψ;have s:=ih λg C=>c g (by simp[C]);unfold Cf at *;simp only[map_cons,sum_cons,D3];omega);have:=o m.F e;omega
theorem Bb2(a b:Ar)(j k:Nat)(e:RB j a)(hb:RB k b)(o:j<34359738000)(r:k<34359738000):∃c,J7 a b=some c/\True/\RB (j+k+3) c:=by refine⟨_,Aja a b j k e hb ω ω,trivial,?_⟩;have s:=e.nv;have A:=e.dv;have B:=hb.nv;have C:=hb.dv;have q:=Kq (nv a) (dv b);have l:=Kq (nv b) (dv a);have i:=Kq (dv a) (dv b);(have f:Nv (sv a) (nv a) (dv a) (sv b) (nv b) (dv b)<=nv a*dv b+nv b*dv a:=by unfold Nv;split;omega;split<;>omega);have h:=Nq f;have g:=Aid (nv a*dv b) (nv b*dv a);exact P1 _ _ _ _ ω ω ω
theorem Bb3(k:Nat):RB k ⟨false,[],[]⟩:=⟨nofun,nofun,ψ,ψ⟩
def sg(s:Bool)(n:Nat):Int:=if s then -(n:Int)else n
def rq(a:Ar):Rat:=mkRat (sg (sv a) (nv a)) (dv a)
def Hu(a:Ar):Prop:=a=Dd (sv a) (nv a) (dv a)
theorem P3(s:Bool)(n d:Nat)(e:d≠0):rq (Dd s n d)=mkRat (sg s n) d:=by obtain⟨g,i,o,r,A,C⟩:=Ajc s n d e;unfold rq;rw[Rat.mkRat_eq_iff (Ij _) e];generalize nv (Dd s n d)=b at *;generalize dv (Dd s n d)=f at *;generalize sv (Dd s n d)=B at *;by_cases c:n=0;(have:b=0:=by rcases Nat.eq_zero_or_pos b with h|h;exact h;have:=Nat.mul_pos (Nat.pos_of_ne_zero i) h;omega);subst this;subst c;cases s<;>cases B<;>simp[sg];rw[A c,o,r];cases s<;>simp only[sg,if_true,if_false,Bool.false_eq_true,Int.natCast_mul]<;>grind
theorem U4(s:Bool)(n d:Nat)(B:d≠0):Hu (Dd s n d):=by obtain⟨g,i,o,r,A,C⟩:=Ajc s n d B;unfold Hu;generalize E:Dd s n d=c at o r A C;have e:=Zo s (nv c) (dv c) g i;rw[<-o,<-r,E]at e;by_cases b:n=0;(have F:nv c=0:=by rcases Nat.eq_zero_or_pos (nv c)with h|h;exact h;have:=Nat.mul_pos (Nat.pos_of_ne_zero i) h;omega);rw[F,Ajb]at e⊢;exact e;rw[A b];exact e
theorem Ayf(n m:Int){d e:Nat}(o:d≠0)(g:e≠0):mkRat n d<mkRat m e↔n*e<m*d:=by have c:(0:Rat)<(d:Rat):=Rat.natCast_pos.2 ω;have b:(0:Rat)<(e:Rat):=Rat.natCast_pos.2 ω;rw[Rat.mkRat_eq_div,Rat.mkRat_eq_div,Rat.div_lt_iff c];rw[<-Rat.mul_lt_mul_right b];(have f:(m:Rat)/(e:Rat)*(d:Rat)*(e:Rat)=(m:Rat)*(d:Rat):=by grind);rw[f];(have h:(n:Rat)*(e:Rat)=((n*(e:Int):Int):Rat):=by rw[Rat.intCast_mul];rfl);(have i:(m:Rat)*(d:Rat)=((m*(d:Int):Int):Rat):=by rw[Rat.intCast_mul];rfl);rw[h,i,Rat.intCast_lt_intCast]
theorem Ad2{b:Ar}(r:Hu a)(hb:Hu b)(h:rq a=rq b):a=b:=by unfold rq at h;rw[Rat.mkRat_eq_iff (Ij _) (Ij _)]at h;rw[r,hb];have l:=Ij a;have k:=Ij b;generalize nv a=n at *;generalize dv a=d at *;generalize sv a=s at *;generalize nv b=m at *;generalize dv b=e at *;generalize sv b=t at *;(have o:n*e=m*d/\(n≠0->s=t):=by have c:n≠0->0<n*e:=λh=>Nat.mul_pos ω ω;have f:m≠0->0<m*d:=λh=>Nat.mul_pos ω ω;have B:((n*e:Nat):Int)=(n:Int)*e:=ψ;have C:((m*d:Nat):Int)=(m:Int)*d:=ψ;cases s<;>cases t<;>simp only[sg,if_true,if_false,Bool.false_eq_true,Int.neg_mul]at h;exact⟨ω,λ_=>rfl⟩;have:n*e=0/\m*d=0:=ω;refine⟨ω,λg=>?_⟩;have:=c g;omega;have:n*e=0/\m*d=0:=ω;refine⟨ω,λg=>?_⟩;have:=c g;omega;exact⟨ω,λ_=>rfl⟩);have j:=Zo s n d e k;have i:=Zo t m e d l;rw[<-j,<-i,Nat.mul_comm e n,o.1,Nat.mul_comm e d,Nat.mul_comm m d];refine Axy λA=>o.2 ?_;rintro rfl;rw[Nat.zero_mul]at o;have:=o.1;rw[Nat.mul_comm d m]at A;omega
theorem Ayg(j:Bool)(c g:Nat)(i:Bool)(b f:Nat):sg (Rl j c g i b f) (Nv j c g i b f)=sg j c*f+sg i b*g:=by unfold Rl Nv sg;have e:((c*f:Nat):Int)=(c:Int)*f:=ψ;have o:((b*g:Nat):Int)=(b:Int)*g:=ψ;cases j<;>cases i<;>simp only[if_true,if_false,Bool.false_eq_true,Bool.true_eq_false,Int.neg_mul];omega;by_cases h:b*g<=c*f;simp only[Aq h];simp only[if_false,Bool.false_eq_true];omega;simp only[Ao h];simp only[if_true];omega;by_cases h:b*g<=c*f;simp only[Aq h];simp only[if_true];omega;simp only[Ao h];simp only[if_false,Bool.false_eq_true];omega;omega
theorem Ad3{b:Ar}(h:RB j a)(hb:RB k b)(r:j<34359738000)(s:k<34359738000):∃c,J7 a b=some c/\True/\RB (j+k+3) c/\Hu c/\rq c=rq a+rq b:=by obtain⟨c,i,A,B⟩:=Bb2 a b j k h hb r s;have e:=Aja a b j k h hb ω ω;rw[i]at e;have e:=Fv e;have o:dv a*dv b≠0:=Nat.mul_ne_zero (Ij a) (Ij b);refine⟨c,i,A,B,?_,?_⟩;rw[e];exact U4 _ _ _ o;rw[e,P3 _ _ _ o,Ayg,rq,rq,Rat.mkRat_add_mkRat _ _ (Ij a) (Ij b)]
theorem Bb4(s t:Bool)(n m:Nat):sg (s != t) (n*m)=sg s n*sg t m:=by unfold sg;cases s<;>cases t<;>simp[Int.neg_mul,Int.mul_neg]
theorem Sy{b:Ar}(e:RB j a)(hb:RB k b)(i:j<34359738000)(o:k<34359738000):∃c,Fz a b=some c/\RB (j+k+2) c/\Hu c/\rq c=rq a*rq b:=by have h:dv a*dv b≠0:=Nat.mul_ne_zero (Ij a) (Ij b);have r:=e.nv;have s:=e.dv;have A:=hb.nv;have B:=hb.dv;have g:=Kq (nv a) (nv b);have f:=Kq (dv a) (dv b);refine⟨_,Ai9 a b j k e hb ω ω,P1 _ _ _ _ ω ω ω,U4 _ _ _ h,?_⟩;rw[P3 _ _ _ h,Bb4,rq,rq,Rat.mkRat_mul_mkRat]
def O3(x:Rat):Int:=if x<0 then -1 else if 0<x then 1 else 0
theorem Bb5(a:Ar):rq a<0↔Me (sv a) (nv a) = -1:=by have e:(0:Rat)=mkRat 0 1:=ψ;rw[rq,e,Ayf _ _ (Ij a) δ];unfold sg Me;split<;>split<;>simp<;>omega
theorem Bb6(a:Ar):0<rq a↔Me (sv a) (nv a)=1:=by have e:(0:Rat)=mkRat 0 1:=ψ;rw[rq,e,Ayf _ _ δ (Ij a)];unfold sg Me;split<;>split<;>simp<;>omega
theorem Bb7(a:Ar):Me (sv a) (nv a)=O3 (rq a):=by have o:=Bb5 a;have r:=Bb6 a;(have e:Me (sv a) (nv a) = -1\/Me (sv a) (nv a)=0\/Me (sv a) (nv a)=1:=by unfold Me;split<;>(try split)<;>simp);unfold O3;split;rename_i h;exact o.1 h;rename_i h;split;rename_i i;exact r.1 i;rename_i i;rcases e with e|e|e;exact(h (o.2 e)).elim;exact e;exact(i (r.2 e)).elim
theorem Ajg(h:RB k a)(e:k<34359738000):Jq a=some (O3 (rq a))/\True:=by rw[<-Bb7];exact⟨Ai8 a k h ω,trivial⟩
structure Gy{α:Type}(S:α->Prop)(g:α->α->Int):Prop where
 zero:∀a b,S a->S b->(g a b=0↔a=b)
 anti:∀a b,S a->S b->g b a = - g a b
 trans:∀a b c,S a->S b->S c->g a b<0->g b c<0->g a c<0
theorem Gy.cmpI:Gy (λ_:Int=>True) Hk:=by
 refine⟨λa b _ _=>Ly,λa b _ _=>?_,λa b c _ _ _=>?_⟩
 .unfold Go.Ab.Hk;split<;>split<;>(try split)<;>(try split)<;>omega
 .unfold Go.Ab.Hk;intro h1 h2;split at h1<;>(try split at h1)<;>split at h2<;>(try split at h2)<;>first|omega|(rw[Aq ω];decide)
theorem Ayh{x:Int}:orI x y<0↔x<0\/(x=0/\y<0):=by unfold orI;split<;>omega
theorem Ayi{x:Int}:orI x y=0↔x=0/\y=0:=by unfold orI;split<;>omega
theorem Gy.or{γ:Type}{S:α->Prop}{s:β->Prop}{l:γ->Prop}{j:β->β->Int}{i:γ->γ->Int}(p:α->β)(q:α->γ)(g:∀a b,p a=p b->q a=q b->a=b)(h1:Gy s j)(h2:Gy l i)(f:∀a,S a->s (p a)/\l (q a)):Gy S (λa b=>orI (j (p a) (p b)) (i (q a) (q b))):=by refine⟨λa b ha hb=>?_,λa b ha hb=>?_,λa b c ha hb hc=>?_⟩;rw[Ayi,h1.zero _ _ (f a ha).1 (f b hb).1,h2.zero _ _ (f a ha).2 (f b hb).2];exact⟨λh=>g a b h.1 h.2,λh=>by subst h;exact⟨rfl,rfl⟩⟩;show orI (j (p b) (p a)) (i (q b) (q a)) = - orI (j (p a) (p b)) (i (q a) (q b));have z:=h1.anti _ _ (f a ha).1 (f b hb).1;have y:=h2.anti _ _ (f a ha).2 (f b hb).2;rw[z,y];unfold orI;split<;>split<;>omega;show orI _ _<0->orI _ _<0->orI _ _<0;simp only[Ayh];have u:=h1.zero _ _ (f a ha).1 (f b hb).1;have e:=h1.zero _ _ (f b hb).1 (f c hc).1;have t1:=h1.trans _ _ _ (f a ha).1 (f b hb).1 (f c hc).1;have t2:=h2.trans _ _ _ (f a ha).2 (f b hb).2 (f c hc).2;rintro(h|⟨h,h'⟩) (k|⟨k,x⟩);exact .inl (t1 h k);rw[<-e.1 k];exact .inl h;rw[u.1 h];exact .inl k;rw[<-e.1 k,h];exact .inr ⟨rfl,t2 h' x⟩
theorem Gy.mono{S S':α->Prop}{g:α->α->Int}(h:Gy S g)(f:∀a,S' a->S a):Gy S' g:=⟨λa b ha hb=>h.zero a b (f a ha) (f b hb),λa b ha hb=>h.anti a b (f a ha) (f b hb),λa b c ha hb hc=>h.trans a b c (f a ha) (f b hb) (f c hc)⟩
theorem Gy.congr{S:α->Prop}{g c:α->α->Int}(h:Gy S g)(e:∀a b,c a b=g a b):Gy S c:=by have:c=g:=funext λa=>funext λb=>e a b;rw[this];exact h
def LL(g:α->α->Int)(l m:Λ α):Int:=if l.length=m.length then Hm g l m else Go.Ab.Hk l.length m.length
theorem Ayj{α:Type}{S:α->Prop}{g:α->α->Int}(h:Gy S g):∀l m:Λ α,l.length=m.length->(∀x∈l,S x)->(∀x∈m,S x)->(Hm g l m=0↔l=m)
 |[],[],_,_,_=>by simp[Hm]
 |x::xs,y::o,b,e,i=>by simp only[Hm,Ayi,h.zero x y (e x ψ) (i y ψ),Ayj h xs o (by simpa using b) (λz c=>e z (by simp[c])) λz c=>i z (by simp[c]),List.cons.injEq]
 |[],_::_,b,_,_=>by simp at b
 |_::_,[],b,_,_=>by simp at b
theorem Ayk{α:Type}{S:α->Prop}{g:α->α->Int}(h:Gy S g):∀l m:Λ α,l.length=m.length->(∀x∈l,S x)->(∀x∈m,S x)->Hm g m l = - Hm g l m
 |[],[],_,_,_=>by simp[Hm]
 |x::xs,y::o,b,e,i=>by simp only[Hm,h.anti x y (e x ψ) (i y ψ),Ayk h xs o (by simpa using b) (λz c=>e z (by simp[c])) λz c=>i z (by simp[c])];unfold orI;split<;>split<;>omega
 |[],_::_,b,_,_=>by simp at b
 |_::_,[],b,_,_=>by simp at b
theorem Ayl{α:Type}{S:α->Prop}{g:α->α->Int}(h:Gy S g):∀l m n:Λ α,l.length=m.length->m.length=n.length->(∀x∈l,S x)->(∀x∈m,S x)->(∀x∈n,S x)->Hm g l m<0->Hm g m n<0->Hm g l n<0
 |[],[],_,_,_,_,_,_=>by intro h;simp[Hm]at h
 |x::xs,y::B,z::i,f,o,r,e,s=>by simp only[Hm,Ayh];have j:=h.zero x y (r x ψ) (e y ψ);have A:=h.zero y z (e y ψ) (s z ψ);have t1:=h.trans x y z (r x ψ) (e y ψ) (s z ψ);have t2:=Ayl h xs B i (by simpa using f) (by simpa using o) (λz c=>r z (by simp[c])) (λz c=>e z (by simp[c])) λz c=>s z (by simp[c]);rintro(a|⟨a,q⟩) (b|⟨b,k⟩);exact .inl (t1 a b);rw[<-A.1 b];exact .inl a;rw[j.1 a];exact .inl b;rw[<-A.1 b,a];exact .inr ⟨rfl,t2 q k⟩
 |_::_,_::_,[],_,o,_,_,_=>by simp at o
 |[],_::_,_,f,_,_,_,_=>by simp at f
 |_::_,[],_,f,_,_,_,_=>by simp at f
theorem Gy.ll{S:α->Prop}{g:α->α->Int}(h:Gy S g):Gy (λl=>∀x∈l,S x) (LL g):=by
 have c:=Gy.cmpI;refine⟨λa b ha hb=>?_,λa b ha hb=>?_,λx y z hx hy q=>?_⟩;unfold LL;split;rename_i i;exact Ayj h a b i ha hb;rename_i i;rw[Ly];exact⟨λe=>(i ω).elim,λe=>(i (by rw[e])).elim⟩;unfold LL;by_cases i:a.length=b.length;rw[Aq i,Aq i.symm];exact Ayk h a b i ha hb;rw[Ao i,Ao λe=>i e.symm];exact c.anti _ _ trivial trivial
 .unfold LL;intro h1 h2;have neg:∀a b:Int,Go.Ab.Hk a b<0->a<b:=(by intro a b h;unfold Go.Ab.Hk at h;split at h<;>(try split at h)<;>omega);have f:∀a b:Int,a<b->Go.Ab.Hk a b<0:=(by intro a b h;unfold Go.Ab.Hk;rw[Aq h];decide);by_cases k:x.length=y.length;rw[Aq k]at h1;by_cases j:y.length=z.length;rw[Aq j]at h2;rw[Aq ω];exact Ayl h x y z k j hx hy q h1 h2;rw[Ao j]at h2;rw[Ao ω];have:=neg _ _ h2;exact f _ _ ω;rw[Ao k]at h1;have:=neg _ _ h1;by_cases j:y.length=z.length;rw[Ao ω];exact f _ _ ω;rw[Ao j]at h2;have:=neg _ _ h2;rw[Ao ω];exact f _ _ ω
theorem Aym(g:α->α->Int)(l m:Λ α)(y:Int):orI (LL g l m) y=if l.length=m.length then orI (Hm g l m) y else Go.Ab.Hk l.length m.length:=by unfold LL;by_cases h:l.length=m.length;rw[Aq h,Aq h];rw[Ao h,Ao h];unfold orI;rw[Ao λe=>h (by have:=Ly.1 e;omega)]
theorem Bb8:Gy (λ_=>True) Adt:=(Gy.or (S:=λ_=>True) (λt:Fm=>t.v) (λt=>t.C) (λa b e h=>by cases a;cases b;cases e;cases h;rfl) Gy.cmpI Gy.cmpI λ_ _=>⟨trivial,trivial⟩).congr λ_ _=>rfl
theorem Mh:Gy (λ_=>True) Hn:=(Gy.or (S:=λ_=>True) (λt:Cg=>t.T) (λt=>t.Q) (λa b e h=>by cases a;cases b;cases e;cases h;rfl) Bb8.ll Gy.cmpI λ_ _=>⟨λ_ _=>trivial,trivial⟩).congr λa b=>by show Hn a b=orI (LL Adt a.T b.T) (Go.Ab.Hk a.Q b.Q);rw[Aym];rfl
theorem Bb9(i j:Ag):Ho i j=orI (Go.Ab.Hk i.U j.U) (LL Ho i.K j.K):=by rw[Aoa,Ai1];unfold orI LL;by_cases h:i.U=j.U;rw[Aq h,Aq (Ly.2 h)];rw[Ao h,Ao λe=>h (Ly.1 e)]
theorem Aom:∀n:Nat,Gy (λi=>Bt i<=n) Ho:=by intro n;induction n with|zero=>exact⟨λa _ e=>by have:=Er a;omega,λa _ e=>by have:=Er a;omega,λa _ _ e=>by have:=Er a;omega⟩|succ n ih=>refine(Gy.or (S:=λi=>Bt i<=n+1) (λi:Ag=>i.U) (λi=>i.K) (λa b h o=>by cases a;cases b;cases h;cases o;rfl) Gy.cmpI ih.ll ?_).congr Bb9;intro i s;refine⟨trivial,λx r=>?_⟩;have h:=Kc r;have o:=Er i;show Bt x<=n;omega
theorem U5:Gy (λ_=>True) Ho:=⟨λa b _ _=>(Aom (max (Bt a) (Bt b))).zero a b (by show Bt a<=_;omega) (by show Bt b<=_;omega),λa b _ _=>(Aom (max (Bt a) (Bt b))).anti a b (by show Bt a<=_;omega) (by show Bt b<=_;omega), λa b c _ _ _=>(Aom (max (Bt a) (max (Bt b) (Bt c)))).trans a b c (by show Bt a<=_;omega) (by show Bt b<=_;omega) (by show Bt c<=_;omega)⟩
theorem Bca:Gy (λ_=>True) Zm:=(Gy.or (S:=λ_=>True) (λt:A8=>t.v) (λt=>t.I) (λa b e h=>by cases a;cases b;cases e;cases h;rfl) Gy.cmpI U5 λ_ _=>⟨trivial,trivial⟩).congr λ_ _=>rfl
theorem Bcb:Gy (λ_=>True) Adu:=(Gy.or (S:=λ_=>True) (λt:Bh=>t.L) (λt=>t.P) (λa b e h=>by cases a;cases b;cases e;cases h;rfl) Mh Gy.cmpI λ_ _=>⟨trivial,trivial⟩).congr λ_ _=>rfl
theorem Aon:Gy (λ_=>True) Et:=(Gy.or (S:=λ_=>True) (λt:A4=>t.F) (λt=>t.A) (λa b e h=>by cases a;cases b;cases e;cases h;rfl) Bca.ll Bcb.ll λ_ _=>⟨λ_ _=>trivial,λ_ _=>trivial⟩).congr λa b=>by show Et a b=orI (LL Zm a.F b.F) (LL Adu a.A b.A);rw[Aym];rfl
theorem Rm{a b:A4}:Et a b=0↔a=b:=Aon.zero a b trivial trivial
theorem Zv(a b:A4):Et b a = - Et a b:=Aon.anti a b trivial trivial
theorem Zw{a b c:A4}(h:Et a b<0)(e:Et b c<0):Et a c<0:=Aon.trans a b c trivial trivial trivial h e
theorem Ayn(m:A4):Et m m=0:=Rm.2 rfl
theorem Aoo{a b:A4}:0<Et a b↔Et b a<0:=by rw[Zv a b];omega
def cf:A1->A4->Rat
 |[],_=>0
 |t::p,m=>(if Et t.M m=0 then rq t.C else 0)+cf p m
def ltT(t u:Aj):Prop:=Et t.M u.M<0
structure CP(p:List Aj):Prop where
 srt:p.Pairwise ltT
 coe:∀t∈p,Hu t.C/\rq t.C≠0
theorem CP.tail(h:CP (t::p)):CP p:=⟨(pairwise_cons.1 h.srt).2,λu e=>h.coe u (by simp[e])⟩
theorem CP.head(h:CP (t::p)):∀u∈p,Et t.M u.M<0:=(pairwise_cons.1 h.srt).1
theorem CP.nil:CP []:=⟨Pairwise.nil,λ_ h=>by cases h⟩
theorem CP.cons{t:Aj}{p:A1}(h:CP p)(h1:∀u∈p,Et t.M u.M<0)(h2:Hu t.C)(h3:rq t.C≠0):CP (t::p):=⟨pairwise_cons.2 ⟨h1,h.srt⟩,λu e=>by rcases F0.1 e with rfl|e;exact⟨h2,h3⟩;exact h.coe u e⟩
theorem Bcc(h:∀t∈p,Et t.M m≠0):cf p m=0:=by induction p with|nil=>rfl|cons t p ih=>simp only[cf];rw[Ao (h t ψ),ih λu e=>h u (by simp[e])];grind
theorem Xe(h:∀t∈p,Et m t.M<0):cf p m=0:=Bcc λt i e=>by have:=h t i;rw[Zv,e]at this;omega
theorem Xf(h:CP (t::p)):cf (t::p) t.M=rq t.C:=by simp only[cf];rw[Aq (Ayn _),Xe h.head];grind
theorem Aop(h:Et t.M m≠0):cf (t::p) m=cf p m:=by simp only[cf];rw[Ao h];grind
theorem Ad4(p q:A1)(m:A4):cf (p++q) m=cf p m+cf q m:=by induction p with|nil=>simp only[nil_append,cf];grind|cons t p ih=>simp only[Ej,cf,ih];grind
theorem Ayo(h:CP p)(ht:t∈p):cf p t.M=rq t.C:=by induction p with|nil=>cases ht|cons u p ih=>rcases F0.1 ht with rfl|ht;exact Xf h;have:=h.head t ht;rw[Aop ω];exact ih h.tail ht
theorem CP.ext:∀{p q:A1},CP p->CP q->(∀m,cf p m=cf q m)->p=q
 |[],[],_,_,_=>rfl
 |[],u::q,_,h2,h=>by have:=h u.M;rw[Xf h2]at this;exact((h2.coe u ψ).2 this.symm).elim
 |t::p,[],h1,_,h=>by have:=h t.M;rw[Xf h1]at this;exact((h1.coe t ψ).2 this).elim
 |t::p,u::q,h1,h2,h=>by(have b:Et t.M u.M=0:=by rcases Int.lt_trichotomy (Et t.M u.M) 0 with k|k|k;have e:=h t.M;rw[Xf h1,Xe (p:=u::q)]at e;exact((h1.coe t ψ).2 e).elim;intro w i;rcases F0.1 i with rfl|i;exact k;exact Zw k (h2.head w i);exact k;have k:=Aoo.1 k;have e:=h u.M;rw[Xf h2,Xe (p:=t::p)]at e;exact((h2.coe u ψ).2 e.symm).elim;intro w i;rcases F0.1 i with rfl|i;exact k;exact Zw k (h1.head w i));have hm:=Rm.1 b;have hc:t.C=u.C:=(by refine Ad2 (h1.coe t ψ).1 (h2.coe u ψ).1 ?_;have e:=h t.M;rw[Xf h1,hm,Xf h2]at e;exact e);have o:t=u:=(by cases t;cases u;simp_all);subst o;congr 1;refine CP.ext h1.tail h2.tail λm=>?_;by_cases e:Et t.M m=0;rw[<-Rm.1 e,Xe h1.head,Xe h2.head];have:=h m;rwa [Aop e,Aop e]at this
theorem Ayp(c:Ar):Adz c=true↔Hu c/\rq c≠0:=by unfold Adz Hu;rw[C5,Ax4];(have h:(!(nv c==0))=true↔rq c≠0:=by have e:rq c=0↔nv c=0:=(by unfold rq;rw[Rat.mkRat_eq_zero (Ij c)];unfold sg;split<;>omega);rw[Ne,e];simp);rw[h];exact⟨λ⟨a,b⟩=>⟨a.symm,b⟩,λ⟨a,b⟩=>⟨a.symm,b⟩⟩
theorem Bcd{l:A1}(h:∀(j:Nat)(x y:Aj),l[j]?=some x->l[j+1]?=some y->Et x.M y.M<0):l.Pairwise ltT:=by induction l with|nil=>exact Pairwise.nil|cons t l ih=>have ih:=ih λj x y o r=>h (j+1) x y (by simpa using o) (by simpa using r);refine pairwise_cons.2 ⟨?_,ih⟩;cases l with|nil=>intro u e;cases e|cons v l=>have i:=h 0 t v rfl rfl;intro u e;rcases F0.1 e with rfl|e;exact i;exact Zw i ((pairwise_cons.1 ih).1 u e)
theorem Ad5:Kf Δ Ξ Θ p=true↔p.length<=1000/\CP p/\∀t∈p,Ks Δ Ξ Θ t.M=true:=by unfold Kf;rw[C5,D2];constructor;rintro⟨o,i⟩;have g:∀(j:Nat)(t:Aj),p[j]?=some t->Adz t.C=true/\Ks Δ Ξ Θ t.M=true/\Xb p t j=true:=(by intro j t e;have:=Kb i e;simp only[Zr,C5]at this;exact⟨this.1.1,this.1.2,this.2⟩);refine⟨o,⟨Bcd λj x y A B=>?_,λt r=>?_⟩,λt r=>?_⟩;have:=(g _ _ B).2.2;unfold Xb at this;rw[show j+1-1=j by omega,A]at this;simpa using this;obtain⟨j,e⟩:=Hw r;exact(Ayp _).1 (g j t e).1;obtain⟨j,e⟩:=Hw r;exact(g j t e).2.1;rintro⟨o,i,C⟩;refine⟨o,Hx.2 λq h=>?_⟩;have h:=mem_zipIdx' h;have e:p[q.2]?=some q.1:=(Bl h.1).trans (congrArg some h.2.symm);have s:q.1∈p:=Bu e;simp only[Zr,C5];refine⟨⟨(Ayp _).2 (i.coe _ s),C _ s⟩,?_⟩;unfold Xb;by_cases E:q.2=0;rw[E];rfl;have b:q.2-1<p.length:=ω;rw[Bl b];have:=pairwise_iff_getElem.1 i.srt (q.2-1) q.2 b h.1 ω;rw[<-h.2]at this;simp only[Bool.or_eq_true,D2];exact .inr this
theorem Aoq:∀(k:Nat)(t:Ag),Bt t<=k->k<1099511627776->Pt k t=some t:=by intro k;induction k with|zero=>intro t h;have:=Er t;omega|succ k ih=>intro t h s;have c:=Er t;have b:=Ri t.K;rw[Pt];refine Gj t.K (λj=>((j:Int),t.K.take j)) rfl ω ?_ ?_;intro j x A e i o r;have:=Kc (Bu e);simp only[i,o,r,Al,Ae,ih x ω ω];rw[D7 ζ,Ae,Cu e];intro i;exact⟨t.K,ψ,by cases t;rfl⟩
theorem Bce(m:A4)(b:MSz m):Ace m=some m:=by have f:=b.nf;have c:=b.na;unfold Ace;refine Gj m.F (λj=>((j:Int),m.F.take j)) rfl ω ?_ ?_;intro j x s e h i o;have r:=Bu e;have:=b.fi x r;simp only[h,i,o,Al,Ae,Aoq 4000000 x.I ω ω];rw[D7 ζ,Ae,Cu e];intro h;refine⟨m.F,ψ,?_⟩;dsimp only;refine Gj m.A (λj=>((j:Int),m.A.take j)) rfl ω ?_ ?_;intro j x s e h i o;have r:=Bu e;have:=b.al x r;simp only[h,i,o,Al,Ae,Ahn];rw[D7 ζ,Ae,D7 ζ,Ae,Cu e];rfl;intro h;exact⟨m.A,ψ,by cases m;rfl⟩
structure TB(k:Nat)(t:Aj):Prop where
 co:RB k t.C
 mo:MSz t.M
theorem TSz.tb(h:TSz t):TB 1048576 t:=⟨h.co,h.mo⟩
theorem TB.mono(h:TB j t)(hk:j<=k):TB k t:=⟨h.co.mono hk,h.mo⟩
def Xg(c:Ar)(m:A4):A1:=if nv c=0 then[]else[⟨Dd (sv c) (nv c) (dv c),m⟩]
theorem Aor(c:Ar):rq c=0↔nv c=0:=by unfold rq;rw[Rat.mkRat_eq_zero (Ij c)];unfold sg;split<;>omega
theorem Bcf(c:Ar)(m n:A4):cf (Xg c m) n=if Et m n=0 then rq c else 0:=by unfold Xg;split;rename_i h;rw[(Aor c).2 h];simp[cf];simp only[cf,P3 _ _ _ (Ij c)];show(if Et m n=0 then rq c else 0)+0=_;grind
structure Mg(F:Rat->Rat->Rat)(k:Nat)(p q R:List Aj):Prop where
 cp:CP R
 val:∀m,cf R m=F (cf p m) (cf q m)
 mon:∀t∈R,(∃u∈p,u.M=t.M)\/(∃u∈q,u.M=t.M)
 len:R.length<=p.length+q.length
 rb:∀t∈R,RB (k+1) t.C
theorem Bcg{c:Ar}(o:RB k c):(∀t∈Xg c m,t.M=m/\Hu t.C/\rq t.C≠0/\RB (k+1) t.C)/\(Xg c m).length<=1:=by unfold Xg;split;exact⟨λ_ h=>(by cases h),ψ⟩;rename_i h;refine⟨λt i=>?_,ψ⟩;simp only[Ee]at i;subst i;exact⟨rfl,U4 _ _ _ (Ij c),by rw[P3 _ _ _ (Ij c)];exactλe=>h ((Aor c).1 e),Axz o⟩
theorem Mg.step{F:Rat->Rat->Rat}{g f R:A1}{c:Ar}(h:Mg F k g f R)(x:F 0 0=0)(hc:RB k c)(hv:∀n,Et m n≠0->cf p n=cf g n/\cf q n=cf f n)(h0:rq c=F (cf p m) (cf q m))(l:∀u∈g,Et m u.M<0)(j:∀u∈f,Et m u.M<0)(hm:(∃u∈p,u.M=m)\/(∃u∈q,u.M=m))(hp:∀u∈g,u∈p)(A:∀u∈f,u∈q)(z:g.length+f.length+1<=p.length+q.length):Mg F k p q (Xg c m++R):=by obtain⟨i,y⟩:=Bcg (m:=m) hc;(have s:∀t∈R,Et m t.M<0:=by intro t o;(rcases h.mon t o with⟨u,r,e⟩|⟨u,r,e⟩);rw[<-e];exact l u r;rw[<-e];exact j u r);refine⟨?_,?_,?_,?_,?_⟩;refine⟨pairwise_append.2 ⟨?_,h.cp.srt,?_⟩,?_⟩;unfold Xg;split;exact Pairwise.nil;exact pairwise_singleton _ _;intro a ha b hb;show Et a.M b.M<0;rw[(i a ha).1];exact s b hb;intro t o;rcases E9.1 o with o|o;exact⟨(i t o).2.1,(i t o).2.2.1⟩;exact h.cp.coe t o;intro n;rw[Ad4,Bcf,h.val n];by_cases e:Et m n=0;rw[Aq e];have e':=Rm.1 e;subst e';rw[Xe l,Xe j,x,h0];grind;rw[Ao e,(hv n e).1,(hv n e).2];grind;intro t o;rcases E9.1 o with o|o;rw[(i t o).1];exact hm;(rcases h.mon t o with⟨u,r,e⟩|⟨u,r,e⟩);exact .inl ⟨u,hp u r,e⟩;exact .inr ⟨u,A u r,e⟩;rw[D6];have:=h.len;omega;intro t o;rcases E9.1 o with o|o;exact(i t o).2.2.2;exact h.rb t o
def Ky(n:Int)(f:Bool):Aa:=if f then(if n<0 then[45]else[])else(if n<0 then[32,45,32]else[32,43,32])
def Mi(n:Int):Aa:=if n.natAbs=1 then[]else ti n.natAbs++[42]
def Ld(v:Int):Aa:=if v = -1 then[114,101,115]else 118::ti v
def tT(f:Bool)(t:Fm):Aa:=Ky t.C f++(Mi t.C++Ld t.v)
def J1:Bool->Ch->Int->Aa
 |f,[],c=>if c≠0\/f=true then Ky c f++ti c.natAbs else[]
 |f,t::ts,c=>tT f t++J1 false ts c
def Ad6(l:Cg):Aa:=J1 true l.T l.Q
def Kt(X:Aa):Prop:=∀c m,X=c::m->c=97
theorem Kt.nil:Kt []:=by intro c m h;cases h
theorem Kt.cons(X:Aa):Kt (97::X):=by intro c m h;cases h;rfl
theorem Kt.nonum(h:Kt X):Nu X:=by intro c m e;rw[h c m e];decide
theorem Aos(n:Nat):∃c m,ti n=c::m/\48<=c/\c<=57:=by have b:=Air (n:Int);cases h:ti (n:Int)with|nil=>exact(b h).elim|cons c m=>refine⟨c,m,rfl,?_⟩;have i:c∈ti (n:Int):=(by rw[h];simp);unfold ti at i;obtain⟨x,o,rfl⟩:=mem_map.1 i;have e:Lib.itoa (n:Int)=Lib.decDigits n:=(by unfold Lib.itoa;first|rfl|(rw[Ao ω];simp)|simp);rw[e]at o;have:=Aip n n (Nat.le_refl _) x o;omega
theorem Ayq(ts:Ch)(c:Int)(b:Kt X):Nu (J1 false ts c++X):=by(have k:∀(n:Int)(Y:Aa),Nu (Ky n false++Y):=by intro n Y c m e;unfold Ky at e;simp only[Bool.false_eq_true,if_false]at e;split at e<;>(cases e;decide));cases ts with|nil=>simp only[J1];split;rw[append_assoc];exact k _ _;exact b.nonum|cons t ts=>simp only[J1,tT,append_assoc];exact k _ _
theorem Ayr(c:Nu R)(b:Nu S)(h:Ld v++R=Ld w++S):v=w/\R=S:=by unfold Ld at h;split at h<;>split at h;simp only[Ej,nil_append,List.cons.injEq,true_and]at h;exact⟨ω,h⟩;simp at h;simp at h;simp only[Ej,List.cons.injEq,true_and]at h;obtain⟨g,f⟩:=Ss _ _ _ _ (Kd v) (Kd w) c b h;exact⟨W6 g,f⟩
theorem Aot(v:Int):∃c m,Ld v=c::m/\(c=114\/c=118):=by unfold Ld;split;exact⟨_,_,rfl,.inl rfl⟩;exact⟨_,_,rfl,.inr rfl⟩
theorem Aou(X:Aa):Nu (42::X):=by intro c m e;cases e;decide
theorem Bch{a b:Int}(i:Nu R)(g:Nu S)(h:Mi a++(Ld v++R)=Mi b++(Ld w++S)):a.natAbs=b.natAbs/\v=w/\R=S:=by unfold Mi at h;(have o:∀(n:Nat)(u:Int)(X Y:Aa),Ld u++X=ti n++[42]++Y->False:=by intro n u X Y e;obtain⟨c,m,f,q⟩:=Aot u;obtain⟨d,k,l,j⟩:=Aos n;rw[f,l]at e;simp only[Ej,List.cons.injEq]at e;omega);split at h<;>split at h;rename_i r A;simp only[nil_append]at h;exact⟨r.trans A.symm,Ayr i g h⟩;exact(o _ _ _ _ h).elim;exact(o _ _ _ _ h.symm).elim;simp only[append_assoc,Ej,nil_append]at h;obtain⟨f,q⟩:=Ss _ _ _ _ (Kd _) (Kd _) (Aou _) (Aou _) h;have l:=W6 f;obtain⟨j,s⟩:=Ayr i g (List.cons.inj q).2;exact⟨ω,j,s⟩
def NoM(P:Aa):Prop:=∃c m,P=c::m/\c≠45
theorem NoM.ti(n:Nat)(X:Aa):NoM (Go.Ab.ti n++X):=by obtain⟨c,m,e,h⟩:=Aos n;exact⟨c,m++X,by rw[e];rfl,ω⟩
theorem NoM.pT(a v:Int)(X:Aa):NoM (Mi a++(Ld v++X)):=by unfold Mi;split;obtain⟨c,m,e,h⟩:=Aot v;exact⟨c,m++X,by rw[e];rfl,ω⟩;rw[append_assoc];exact NoM.ti _ _
theorem Aov{a b:Int}{f:Bool}{Q:Aa}(i:NoM P)(g:NoM Q)(h:Ky a f++P=Ky b f++Q):(a<0↔b<0)/\P=Q:=by obtain⟨c,m,rfl,r⟩:=i;obtain⟨d,k,rfl,s⟩:=g;unfold Ky at h;cases f with|true=>simp only[if_true]at h;split at h<;>split at h;rename_i e o;exact⟨by simp[e,o],by simpa using h⟩;simp at h;exact(s h.1.symm).elim;simp at h;exact(r h.1).elim;rename_i e o;exact⟨by simp[e,o],by simpa using h⟩|false=>simp only[Bool.false_eq_true,if_false]at h;split at h<;>split at h;rename_i e o;exact⟨by simp[e,o],by simpa using h⟩;simp at h;simp at h;rename_i e o;exact⟨by simp[e,o],by simpa using h⟩
theorem Aow(b:Kt X)(h:Ky n false++P=X):False:=by unfold Ky at h;simp only[Bool.false_eq_true,if_false]at h;split at h;have:=b _ _ h.symm;omega;have:=b _ _ h.symm;omega
theorem Ays{c:Int}{f:Bool}{u:Fm}{m:Ch}{Y:Aa}(b:Kt X)(k:Kt Y)(h:J1 f [] c++X=J1 f (u::m) d++Y):False:=by simp only[J1,tT]at h;split at h;simp only[append_assoc]at h;obtain⟨_,e⟩:=Aov (NoM.ti _ _) (NoM.pT _ _ _) h;unfold Mi at e;split at e;obtain⟨r,s,j,A⟩:=Aot u.v;obtain⟨B,C,g,E⟩:=Aos c.natAbs;rw[j,g]at e;simp only[nil_append,Ej,List.cons.injEq]at e;omega;simp only[append_assoc,Ej,nil_append]at e;obtain⟨_,g⟩:=Ss _ _ _ _ (Kd _) (Kd _) b.nonum (Aou _) e;have:=b _ _ g;omega;rename_i i;have o:f=false:=(by cases f with|true=>simp at i|false=>rfl);subst o;simp only[nil_append,append_assoc]at h;exact Aow b h.symm
theorem Ayt:∀(l m:Ch)(f:Bool)(c d:Int)(X Y:Aa),Kt X->Kt Y->J1 f l c++X=J1 f m d++Y->l=m/\c=d/\X=Y
 |[],[],f,c,d,X,Y,g,b,h=>by simp only[J1]at h;split at h<;>split at h;simp only[append_assoc]at h;obtain⟨x,q⟩:=Aov (NoM.ti _ _) (NoM.ti _ _) h;obtain⟨j,i⟩:=Ss _ _ _ _ (Kd _) (Kd _) g.nonum b.nonum q;have s:=W6 j;exact⟨rfl,ω,i⟩;rename_i e o;have r:f=false:=(by cases f with|true=>simp at o|false=>rfl);subst r;simp only[append_assoc,nil_append]at h;exact(Aow b h).elim;rename_i e o;have r:f=false:=(by cases f with|true=>simp at e|false=>rfl);subst r;simp only[append_assoc,nil_append]at h;exact(Aow g h.symm).elim;rename_i e o;refine⟨rfl,?_,by simpa using h⟩;have B:c=0:=(by by_cases k:c=0;exact k;exact(e (.inl k)).elim);have C:d=0:=(by by_cases k:d=0;exact k;exact(o (.inl k)).elim);omega
 |[],u::m,f,c,d,X,Y,g,b,h=>(Ays g b h).elim
 |t::l,[],f,c,d,X,Y,g,b,h=>(Ays b g h.symm).elim
 |t::l,u::m,f,c,d,X,Y,g,b,h=>by simp only[J1,tT,append_assoc]at h;obtain⟨x,q⟩:=Aov (NoM.pT _ _ _) (NoM.pT _ _ _) h;obtain⟨j,i,s⟩:=Bch (Ayq _ _ g) (Ayq _ _ b) q;obtain⟨A,z,y⟩:=Ayt l m false c d X Y g b s;have:t=u:=(by cases t;cases u;simp only at x j i;subst i;congr 1;omega);exact⟨by rw[this,A],z,y⟩
def Jr(a:Bh):Aa:=97::(ti a.P++58::Ad6 a.L)
def El(f:A8):Aa:=Md f.v f.I
def Ad7(m:A4):Aa:=m.F.flatMap El++m.A.flatMap Jr
theorem Ajh(l:A7):Kt (l.flatMap Jr):=by cases l with|nil=>exact Kt.nil|cons a l=>simp only[flatMap_cons,Jr,Ej];exact Kt.cons _
theorem Aji(X:Aa):Nu (58::X):=by intro c m e;cases e;decide
theorem Ayu:∀(l m:A7),l.flatMap Jr=m.flatMap Jr->l=m
 |[],[],_=>rfl
 |[],b::m,h=>by simp[Jr]at h
 |a::l,[],h=>by simp[Jr]at h
 |a::l,b::m,h=>by simp only[flatMap_cons,Jr,Ej,append_assoc,List.cons.injEq,true_and]at h;obtain⟨s,q⟩:=Ss _ _ _ _ (Kd _) (Kd _) (Aji _) (Aji _) h;have k:=(List.cons.inj q).2;obtain⟨g,f,j⟩:=Ayt _ _ true _ _ _ _ (Ajh l) (Ajh m) k;have i:=Ayu l m j;have c:=W6 s;obtain⟨⟨e,t1⟩,d1⟩:=a;obtain⟨⟨o,t2⟩,d2⟩:=b;simp only at g f c;rw[g,f,c,i]
theorem Ayv(l:Bf)(b:Kt X):Uu (l.flatMap El++X):=by cases l with|nil=>intro c m e;rw[b c m e];exact⟨δ,δ⟩|cons a l=>intro c m e;simp only[flatMap_cons,El,Md,Ej]at e;cases e;exact⟨δ,δ⟩
theorem Aox:∀(l m:Bf)(X Y:Aa),Kt X->Kt Y->l.flatMap El++X=m.flatMap El++Y->l=m/\X=Y
 |[],[],X,Y,_,_,h=>⟨rfl,by simpa using h⟩
 |[],b::m,X,Y,f,_,h=>by simp only[flatMap_cons,flatMap_nil,El,Md,Ej,nil_append]at h;have:=f _ _ h;omega
 |a::l,[],X,Y,_,c,h=>by simp only[flatMap_cons,flatMap_nil,El,Md,Ej,nil_append]at h;have:=c _ _ h.symm;omega
 |a::l,b::m,X,Y,f,c,h=>by simp only[flatMap_cons,El,Md,Ej,append_assoc,List.cons.injEq,true_and]at h;obtain⟨x,u⟩:=Ss _ _ _ _ (Kd _) (Kd _) (Aji _) (Aji _) h;have s:=(List.cons.inj u).2;obtain⟨i,q⟩:=Aiu _ _ _ _ (Ayv l f) (Ayv m c) s;obtain⟨k,j⟩:=Aox l m X Y f c q;have g:=W6 x;obtain⟨y,e⟩:=a;obtain⟨o,r⟩:=b;simp only at i g;exact⟨by rw[i,g,k],j⟩
theorem Bci{n:A4}(h:Ad7 m=Ad7 n):m=n:=by obtain⟨c,f⟩:=Aox _ _ _ _ (Ajh _) (Ajh _) h;have b:=Ayu _ _ f;cases m;cases n;simp only at c b;rw[c,b]
def By(l:Aa):Prop:=∀c∈l,0<=c/\c<256
theorem By.app{m:Aa}(h:By l)(h':By m):By (l++m):=by intro c hc;rcases E9.1 hc with k|k;exact h c k;exact h' c k
theorem By.ti(n:Int):By (Go.Ab.ti n):=by intro c h;have:=Kd n c h;simp only[Sr,Bool.or_eq_true,C5,beq_iff_eq,D2]at this;omega
theorem By.cons{c:Int}{l:Aa}(hc:0<=c/\c<256)(h:By l):By (c::l):=by intro d hd;rcases F0.1 hd with rfl|k;exact hc;exact h d k
theorem By.nil:By []:=λc h=>by cases h
theorem By.sgn(n:Int)(f:Bool):By (Ky n f):=by unfold Ky;split<;>split<;>intro c hc<;>simp at hc<;>omega
theorem By.mag(n:Int):By (Mi n):=by unfold Mi;split;exact By.nil;exact(By.ti _).app (By.cons ω By.nil)
theorem By.var(n:Int):By (Ld n):=by unfold Ld;split;intro c hc;simp at hc;omega;exact By.cons ω (By.ti _)
theorem By.tT(f:Bool)(t:Fm):By (tT f t):=(By.sgn _ _).app ((By.mag _).app (By.var _))
theorem By.lins:∀(l:Ch)(f:Bool)(c:Int),By (J1 f l c)
 |[],f,c=>by simp only[J1];split;exact(By.sgn _ _).app (By.ti _);exact By.nil
 |t::l,f,c=>(By.tT f t).app (By.lins l false c)
theorem By.at(a:Bh):By (Jr a):=By.cons ω ((By.ti _).app (By.cons ω (By.lins _ _ _)))
theorem By.flat(h:∀a,By (g a))(l:Λ α):By (l.flatMap g):=by intro c hc;obtain⟨a,_,k⟩:=mem_flatMap.1 hc;exact h a c k
theorem By.fac(f:A8):By (El f):=Aix f.v f.I
theorem By.mono(m:A4):By (Ad7 m):=(By.flat By.fac _).app (By.flat By.at _)
def bs(l:Aa):Β:=⟨(Fj l).toArray⟩
theorem Aoy{m:Aa}(b:By l)(e:By m)(h:bs l=bs m):l=m:=by unfold bs at h;(have i:(Fj l).toArray=(Fj m).toArray:=by injection h);(have o:Fj l=Fj m:=by simpa using congrArg Array.toList i);exact An9 _ _ b e o
def M9(m:A4):Β:=bs (Ad7 m)
theorem Ayw{n:A4}(h:M9 m=M9 n):m=n:=Bci (Aoy (By.mono m) (By.mono n) h)
theorem Zx(l:Aa):(bs l).size=l.length:=by unfold bs Fj;simp[ByteArray.size]
theorem Ayx(h:By l):Pg (bs l)=l:=by
 unfold Pg bs Fj
 simp only[map_map]
 conv=>rhs;rw[<-map_id l]
 refine map_congr_left λc e=>?_
 have:=h c e
 simp only[Function.comp,UInt8.toNat_ofNat',id]
 omega
theorem Bcj(l m:Aa):bs l++bs m=bs (l++m):=by apply ByteArray.ext;rw[ByteArray.data_append];unfold bs Fj;simp
theorem Xh{m:Aa}(h:l.length+m.length<=9223372036854775807):Hg (bs l) (bs m)=some (bs (l++m)):=by unfold Hg;rw[Aq (by rw[Zx,Zx];exact h),Bcj]
theorem Ajj(h:Es n):R1 n=some (bs (ti n)):=by
 rw[An7 h]
 congr 2
 congr 1
 unfold Fj ti
 rw[map_map]
 conv=>lhs;rw[<-map_id (Lib.itoa n)]
 refine map_congr_left λc _=>?_
 simp[Function.comp]
theorem Ad8{S E R:Type}{step:S->Ο (S⊕E)}{s0:S}{J:E->Ο R}{r:R}(c:α)(xs:Λ α)(b:Nat->S)(h0:s0=b 0)(h:xs.length<2305843009213693952)(f:∀(j:Nat)(x:α),xs[j]?=some x->decide (((j+1:Nat):Int)<((c::xs).length:Int))=true->Ah (c::xs) ((j+1:Nat):Int)=some x->Ac (((j+1:Nat):Int)+1)=((j+1+1:Nat):Int)->step (b j)=some (.inl (b (j+1))))(g:decide (((xs.length+1:Nat):Int)<((c::xs).length:Int))=false->∃e,step (b xs.length)=some (.inr e)/\J e=some r):(Ak step s0).bind J=some r:=by refine Lv xs.length b h0 (λj i=>?_) (g ψ);have o:xs[j]?=some xs[j]:=Bl i;exact f j _ o (Av (by simp only[D3];omega)) (Br rfl ψ) (Db (n:=xs.length+1) ω ω)
theorem bnd{X:Ο α}{a:α}{K:α->Ο β}{r:Ο β}(h:X=some a)(k:K a=r):X.bind K=r:=by rw[h];exact k
theorem O4(c:By l)(h:b.length+l.length<=140737488355328):Ig (bs l) b=some ((l.length:Int),b++l):=by simp only[Ig,Zb,Ae,Ayx c,Zx];rw[D7 ω];rfl
theorem Xi(c:By l)(h:b.length+l.length<=140737488355328):K8 (bs l) b=some ((l.length:Int),b++l):=by simp only[K8,Acf,Ae,Ayx c,Zx];rw[D7 ω];rfl
theorem Rn(hb:By b):M2 b=some (bs b):=by exact Aq hb
theorem Bck(hb:By b):Ac9 b=some (bs b):=Rn hb
theorem Aoz(n:Int)(h : -1048576<=n/\n<=1048576):(Mi n).length<=22:=by unfold Mi;split;simp;have:=Pz (n:=(n.natAbs:Int)) (by unfold Es;omega);simp;omega
theorem Ajk(n:Int)(f:Bool):(Ky n f).length<=3:=by unfold Ky;split<;>split<;>simp
theorem Bcl(h : -1<=v/\v<3000):(Ld v).length<=22:=by unfold Ld;split;simp;have:=Pz (n:=v) (by unfold Es;omega);simp;omega
structure Ayy(a:Cg):Prop where
 c : -1048576<=a.Q/\a.Q<=1048576
 n:a.T.length<=16
 t:∀t∈a.T,(-1<=t.v/\t.v<3000)/\(-1048576<=t.C/\t.C<=1048576)
theorem Ao0{a:Cg}(h:Jd a=true):Ayy a:=by unfold Jd at h;simp only[C5,D2]at h;refine⟨⟨h.1.1,h.1.2.1⟩,h.1.2.2,λt e=>?_⟩;obtain⟨j,i⟩:=Hw e;have:=Kb h.2 i;simp only[Adv,C5,D2]at this;omega
theorem Ao1{t:Fm}(f:Bool)(h:(-1<=t.v/\t.v<3000)/\(-1048576<=t.C/\t.C<=1048576)):(tT f t).length<=47:=by have:=Ajk t.C f;have:=Aoz t.C h.2;have:=Bcl h.1;unfold tT;simp only[D6];omega
theorem Ayz(h : -1048576<=n/\n<=1048576):(if Ac (0-n)>n then Ac (0-n)else n)=(n.natAbs:Int):=by rw[Ac,Ct ω ω];split<;>omega
theorem c45:ByteArray.mk #[45]=bs [45]:=rfl
theorem Bcm:ByteArray.mk #[32,45,32]=bs [32,45,32]:=rfl
theorem Bcn:ByteArray.mk #[32,43,32]=bs [32,43,32]:=rfl
theorem c42:ByteArray.mk #[42]=bs [42]:=rfl
theorem Ay0:ByteArray.mk #[118]=bs [118]:=rfl
theorem c97:ByteArray.mk #[97]=bs [97]:=rfl
theorem c58:ByteArray.mk #[58]=bs [58]:=rfl
theorem Ay1:ByteArray.mk #[114,101,115]=bs [114,101,115]:=rfl
theorem Ay2:By [45]:=By.cons ω By.nil
theorem by3(a b c:Int)(e:0<=a/\a<256)(hb:0<=b/\b<256)(h:0<=c/\c<256):By [a,b,c]:=By.cons e (By.cons hb (By.cons h By.nil))
theorem Ay3(f:Bool)(c : -1048576<=n/\n<=1048576)(hb:b.length<=1099511627776):Ada n f b=some ((n.natAbs:Int),b++Ky n f):=by unfold Ada Ky;rw[Ayz c,c45,Bcm,Bcn];rw[O4 Ay2 ζ,O4 (by3 _ _ _ ω ω ω) ζ,O4 (by3 _ _ _ ω ω ω) ζ];by_cases h:n<0;rw[Av h,Aq h,Aq h];cases f<;>rfl;rw[A6 h,Ao h,Ao h];cases f<;>simp
theorem Bco(c : -1048576<=n/\n<=1048576)(hb:b.length<=1099511627776):Wp n true b=some (if n<0 then .inl ((n.natAbs:Int),b++[45])else .inr ((n.natAbs:Int),b)):=by unfold Wp;rw[Ayz c,c45,Xi Ay2 ζ];by_cases h:n<0;rw[Av h,Aq h];rfl;rw[A6 h,Ao h];rfl
theorem Ao2{n:Nat}(h:n<=1048576):Ps (n:Int) 10=some (bs (ti n)):=by unfold Ps Agu;exact Ajj (by unfold Es;omega)
theorem Ajl{n:Nat}(h:n<=1048576):(ti (n:Int)).length<=21:=Pz (by unfold Es;omega)
theorem Ay4(c : -1048576<=n/\n<=1048576)(hb:b.length<=1099511627776):(bif((n.natAbs:Int) != (1:Int))then(Ps (n.natAbs:Int) 10).bind λv=>(Hg v (ByteArray.mk #[42])).bind λu=>(Ig u b).bind λw=>some w.2 else some b)=some (b++Mi n):=by have e:=Ajl (n:=n.natAbs) ω;unfold Mi;by_cases h:n.natAbs=1;rw[Gx ω,Aq h];simp;rw[Ga ω,Ao h,Ao2 ω,c42];simp only[Al,Ae];rw[Xh ζ,Ae,O4 ((By.ti _).app (By.cons ω By.nil)) ζ];rfl
theorem Ao3{R:Type}(K:Aa->Ο R)(e : -1<=v/\v<3000)(hb:b.length<=1099511627776):(bif(v==(-1))then(Ig (ByteArray.mk #[114,101,115]) b).bind λw=>K w.2 else(J8 v).bind λx=>(Hg (ByteArray.mk #[118]) x).bind λy=>(Ig y b).bind λw=>K w.2)=K (b++Ld v):=by have i:=Pz (n:=v) (by unfold Es;omega);unfold Ld;by_cases h:v = -1;rw[Fa h,Aq h,Ay1,O4 (by3 _ _ _ ω ω ω) ζ];rfl;rw[Da h,Ao h,Ay0];simp only[An,J8];rw[Ajj (by unfold Es;omega),Ae,Xh ζ,Ae];rw[show[118]++ti v=118::ti v from rfl,O4 (By.cons ω (By.ti _)) ζ];rfl
theorem Ajm{l:Λ α}{x:α}(h:l[j]?=some x):(l.take (j+1)).flatMap g=(l.take j).flatMap g++g x:=by rw[Cu h];simp
theorem Ao4{α:Type}{g:α->Aa}{n:Nat}:∀(l:Λ α),(∀a∈l,(g a).length<=n)->(l.flatMap g).length<=l.length*n
 |[],_=>ψ
 |a::l,h=>by have i:=h a ψ;have o:=Ao4 l λb e=>h b (by simp[e]);simp only[flatMap_cons,D6,D3,Nat.add_mul];omega
theorem Ao5{n:Nat}(l:Λ α)(j:Nat)(h:∀a∈l,(g a).length<=n):((l.take j).flatMap g).length<=l.length*n:=by refine Nat.le_trans (Ao4 _ λa e=>h a (mem_of_mem_take e)) (Nat.mul_le_mul_right _ ?_);rw[length_take];omega
theorem Ay5:∀(ts:Ch)(c:Int),J1 false ts c=ts.flatMap (tT false)++J1 false [] c
 |[],c=>ψ
 |t::ts,c=>by have:=Ay5 ts c;simp only[flatMap_cons,append_assoc,<-this];rfl
theorem Bcp{a:Cg}(h:Jd a=true)(A:a.T≠[]):Sd a=some (bs (Ad6 a)):=by have y:=Ao0 h;unfold Sd;rw[Axf,h];obtain⟨c,l⟩:=a;cases l with|nil=>exact(A rfl).elim|cons t ts=>have M : -1048576<=c/\c<=1048576:=y.c;have L:ts.length<=15:=(by have:=y.n;simp at this;omega);have r:(-1<=t.v/\t.v<3000)/\(-1048576<=t.C/\t.C<=1048576):=y.t t ψ;have s:∀u∈ts,(-1<=u.v/\u.v<3000)/\(-1048576<=u.C/\u.C<=1048576):=λu C=>y.t u (by simp[C]);have x:=λj=>Ao5 (g:=tT false) (n:=47) ts j λu C=>Ao1 false (s u C);have I:=Ao1 true r;simp only[Ae,bnt,An];rw[Av (by simp only[D3];omega),Al];refine bnd (a:=((t.C.natAbs:Int),tT true t)) ?_ ?_;rw[show Ah (t::ts) 0=some t from rfl,Ae,Bco r.2 ψ,Ae];have E:=Pz (n:=t.v) (by unfold Es;omega);have G:=Ajl (n:=t.C.natAbs) ω;have B:=Aoz t.C r.2;by_cases q:t.C<0;rw[Aq q];simp only;rw[Ay4 r.2 ψ,Ae];refine(Ao3 (λb=>some ((t.C.natAbs:Int),b)) r.1 ζ).trans ?_;simp[tT,Ky,q];rw[Ao q];simp only;by_cases o:t.C.natAbs=1;rw[Gx ω];simp only[An];by_cases F:t.v = -1;rw[Fa F,Ay1,Al,Xi (by3 _ _ _ ω ω ω) ψ];simp[tT,Ky,q,Mi,o,Ld,F];rw[Da F,An,Ay0,J8,Ajj (by unfold Es;omega),Ae,Xh ζ,Ae,show[118]++ti t.v=118::ti t.v from rfl, Xi (By.cons ω (By.ti _)) ζ];simp[tT,Ky,q,Mi,o,Ld,F];rw[Ga ω];simp only[Al];rw[Ao2 ω,Ae,c42,Xh ζ,Ae,Xi ((By.ti _).app (By.cons ω By.nil)) ζ,Ae];refine(Ao3 (λb=>some ((t.C.natAbs:Int),b)) r.1 ζ).trans ?_;simp[tT,Ky,q,Mi,o];simp only;refine Ad8 t ts (λj=>(((j+1:Nat):Int),tT true t++(ts.take j).flatMap (tT false))) (by simp[Ac,Ct]) ω ?_ ?_;intro j u C o H N;have f:=s u (Bu C);have:=x j;have B:=Aoz u.C f.2;have z:=Ajk u.C false;simp only[o,H,N,Al,Ae];rw[Da ω,Ay3 false f.2 (by simp only[D6];omega),Ae,Ay4 f.2 (by simp only[D6];omega),Ae];refine(Ao3 (R:=(Int×List Int)⊕List Int) (λb=>some (.inl (((j+1+1:Nat):Int),b))) f.1 (by simp only[D6];omega)).trans ?_;rw[Ajm C];simp[tT];intro o;have H:=x ts.length;rw[C6]at H;refine⟨tT true t++ts.flatMap (tT false),by simp only[o,An,C6],?_⟩;have D:By (tT true t++ts.flatMap (tT false)):=(By.tT _ _).app (By.flat (By.tT _) _);have e:Ad6 ⟨c,t::ts⟩=tT true t++ts.flatMap (tT false)++J1 false [] c:=(by have:=Ay5 ts c;rw[append_assoc,<-this];rfl);rw[e];have k:((((t::ts).length:Nat):Int)==(0:Int))=false:=Da (by simp only[D3];omega);by_cases i:c=0;simp only[Gx i,An,k,Ae];rw[Rn D];simp[J1,i];have J:=Ajl (n:=c.natAbs) ω;have z:=Ajk c false;simp only[Ga i,Al,Ae,k];rw[Ay3 false M (by simp only[D6];omega),Ae,Ao2 ω,Ae,O4 (By.ti _) (by simp only[D6];omega),Ae, Rn ((D.app (By.sgn _ _)).app (By.ti _))];simp[J1,i]
theorem Ay6{a:Cg}(h:Ayy a):(Ad6 a).length<=1024:=by(have e:∀(l:Ch)(f:Bool),(∀t∈l,(-1<=t.v/\t.v<3000)/\(-1048576<=t.C/\t.C<=1048576))->(J1 f l a.Q).length<=47*l.length+24:=by intro l;induction l with|nil=>intro f _;have i:=Ajl (n:=a.Q.natAbs) (by have:=h.c;omega);have o:=Ajk a.Q f;simp only[J1];split<;>simp<;>omega|cons t l ih=>intro f b;have i:=Ao1 f (b t ψ);have o:=ih false λu r=>b u (by simp[r]);simp only[J1,D6,D3];omega);have:=e a.T true h.t;have:=h.n;unfold Ad6;omega
structure CMo(m:A4):Prop where
 sz:MSz m
 nf:m.F.length<=6
 na:m.A.length<=6
 al:∀a∈m.A,Jd a.L=true/\a.L.T≠[]/\1<=a.P/\a.P<=6
theorem Ajn{R:Type}{a:Bh}(K:Β->Ο R)(h:Jd a.L=true/\a.L.T≠[]/\1<=a.P/\a.P<=6):((J8 a.P).bind λu=>(Hg (ByteArray.mk #[97]) u).bind λv=>(Hg v (ByteArray.mk #[58])).bind λw=>(Sd a.L).bind λx=>(Hg w x).bind λy=>K y)=K (bs (Jr a)):=by have e:=Pz (n:=a.P) (by unfold Es;omega);have i:=Ay6 (Ao0 h.1);rw[J8,Ajj (by unfold Es;omega),Ae,c97,Xh ζ,Ae,c58,Xh ζ,Ae,Bcp h.1 h.2.1,Ae,Xh ζ,Ae];simp[Jr]
theorem Ad9{a:Bh}(h:Jd a.L=true/\a.L.T≠[]/\1<=a.P/\a.P<=6):(Jr a).length<=1100:=by have e:=Pz (n:=a.P) (by unfold Es;omega);have i:=Ay6 (Ao0 h.1);simp[Jr];omega
theorem Ajo{f:A8}(h:Bt f.I<=1048576)(b:iR f.I/\Es f.v):(El f).length<=33554432:=by have e:=Pz b.2;have i:=An6 f.I b.1;simp[El,Md];omega
theorem Bcq(h:CMo m):Abu m=some (M9 m):=by obtain⟨e,c⟩:=m;have k:∀f∈e,Bt f.I<=1048576/\iR f.I/\Es f.v:=λf r=>⟨h.sz.fi f r,h.sz.fr f r⟩;have s:∀a∈c,Jd a.L=true/\a.L.T≠[]/\1<=a.P/\a.P<=6:=h.al;have Q:e.length<=6:=h.nf;have N:c.length<=6:=h.na;have z:=λ(l:Bf) (u:∀f∈l,f∈e) (j:Nat)=>Ao5 (g:=El) (n:=33554432) l j λf r=>Ajo (k f (u f r)).1 (k f (u f r)).2;have A:=λ(l:A7) (u:∀a∈l,a∈c) (j:Nat)=>Ao5 (g:=Jr) (n:=1100) l j λa F=>Ad9 (s a (u a F));have J:∀l:Bf,By (l.flatMap El):=λl=>By.flat By.fac l;have D:∀l:A7,By (l.flatMap Jr):=λl=>By.flat By.at l;have H:∀f:A8,f∈e->M1 f.v f.I=some (bs (El f)):=λf r=>Adq f.v f.I (k f r).2.2 (k f r).2.1 (k f r).1;unfold Abu M9 Ad7;cases e with|nil=>(rw[A6 ψ,An];cases c with|nil=>rw[A6 ψ,An];rw[Bck By.nil];rfl|cons a c=>have F:=s a ψ;have x:=Ad9 F;rw[Av (by simp only[D3];omega),Al,show Ah (a::c) 0=some a from rfl,Ae];refine(Ajn _ F).trans ?_;rw[Xi (By.at a) ζ,Ae];refine Ad8 a c (λj=>(((j+1:Nat):Int),[]++Jr a++(c.take j).flatMap Jr)) (by simp[Ac,Ct]) (by simp at N;omega) ?_ ?_;intro j b o C L M;have i:=s b (by simp[Bu o]);have:=Ad9 i;have:=A c (λb o=>by simp[o]) j;simp at N;simp only[C,L,M,Al,Ae];refine(Ajn _ i).trans ?_;rw[O4 (By.at b) (by simp only[D6,length_nil];omega),Ae,Ajm o];simp;intro C;refine⟨[]++Jr a++c.flatMap Jr,by simp only[C,An,C6],?_⟩;dsimp only;rw[Rn ((By.nil.app (By.at a)).app (D c))];simp)|cons f e=>have r:=k f ψ;have I:=Ajo r.1 r.2;rw[Av (by simp only[D3];omega),Al,show Ah (f::e) 0=some f from rfl,Ae,H f ψ,Ae,Xi (By.fac f) ζ,Ae];refine Ad8 f e (λj=>(((j+1:Nat):Int),[]++El f++(e.take j).flatMap El)) (by simp[Ac,Ct]) (by simp at Q;omega) ?_ ?_;intro j g T C L M;have q:g∈f::e:=(by simp[Bu T]);have:=Ajo (k g q).1 (k g q).2;have:=z e (λb o=>by simp[o]) j;simp at Q;simp only[C,L,M,Al,Ae];rw[H g q,Ae,O4 (By.fac g) (by simp only[D6,length_nil];omega),Ae,Ajm T];simp;intro C;have E:=z e (λb o=>by simp[o]) e.length;rw[C6]at E;simp at Q;refine⟨[]++El f++e.flatMap El,by simp only[C,An,C6],?_⟩;have y:By ([]++El f++e.flatMap El):=(By.nil.app (By.fac f)).app (J e);have G:([]++El f++e.flatMap El).length<=234881024:=(by simp only[D6,length_nil];omega);have eB:(f::e).flatMap El=[]++El f++e.flatMap El:=ψ;rw[eB];generalize[]++El f++e.flatMap El=B at y G;cases c with|nil=>rw[A6 ψ,An,Rn y];simp|cons a c=>have F:=s a ψ;have x:=Ad9 F;rw[Av (by simp only[D3];omega),Al,show Ah (a::c) 0=some a from rfl,Ae];refine(Ajn _ F).trans ?_;rw[O4 (By.at a) ω,Ae];refine Ad8 a c (λj=>(((j+1:Nat):Int),B++Jr a++(c.take j).flatMap Jr)) (by simp[Ac,Ct]) (by simp at N;omega) ?_ ?_;intro j b o C L M;have i:=s b (by simp[Bu o]);have:=Ad9 i;have:=A c (λb o=>by simp[o]) j;simp at N;simp only[C,L,M,Al,Ae];refine(Ajn _ i).trans ?_;rw[O4 (By.at b) (by simp only[D6];omega),Ae,Ajm o];simp;intro C;refine⟨B++Jr a++c.flatMap Jr,by simp only[C,An,C6],?_⟩;dsimp only;rw[Rn ((y.app (By.at a)).app (D c))];simp
def plc(ts:A1):Af:=ts.zipIdx.map λq=>(M9 q.1.M,(q.2:Int))
def Dst(ts:A1):Prop:=ts.Pairwise λt u=>t.M≠u.M
theorem Bcr(ts:A1)(t:Aj):plc (ts++[t])=plc ts++[(M9 t.M,(ts.length:Int))]:=by unfold plc;simp[zipIdx_append]
theorem Aea(ts:A1)(j:Nat):(plc ts)[j]?=(ts[j]?).map λt=>(M9 t.M,(j:Int)):=by unfold plc;simp[getElem?_map,getElem?_zipIdx];cases ts[j]?<;>rfl
theorem Bcs(h:ts[j]?=some t)(o:u.M=t.M):plc (ts.set j u)=plc ts:=by apply ext_getElem?;intro i;rw[Aea,Aea,getElem?_set];by_cases e:j=i;subst e;rw[Aq rfl,Aq (Ek h),h];simp[o];rw[Ao e]
theorem Ao6{α:Type}:∀(o:Λ (Β×α))(s:Β)(v:α),Fk o s=false->G5 o s v=o++[(s,v)]
 |[],_,_,_=>rfl
 |p::o,s,v,h=>by simp only[Fk,any_cons,Bool.or_eq_false_iff]at h;simp only[G5,h.1,An,Ej,List.cons.injEq,true_and];exact Ao6 o s v h.2
theorem Bct(h:∀t∈ts,t.M≠m):Fk (plc ts) (M9 m)=false:=by unfold Fk;rw[any_eq_false];intro p hp;obtain⟨j,i⟩:=Hw hp;rw[Aea]at i;cases o:ts[j]? with|none=>rw[o]at i;cases i|some t=>rw[o]at i;simp only[Option.map_some,Option.some.injEq]at i;subst i;intro e;have e:=(Ns _ _).1 e;exact h t (Bu o) (Ayw e).symm
theorem Bcu(A:Dst ts)(h:ts[j]?=some t):Fk (plc ts) (M9 t.M)=true/\Ir (plc ts) (M9 t.M) 0=(j:Int):=by(have hp:(plc ts)[j]?=some (M9 t.M,(j:Int)):=by rw[Aea,h];rfl);refine⟨any_eq_true.2 ⟨_,Bu hp,(Ns _ _).2 rfl⟩,?_⟩;unfold Ir;(have s:(plc ts).find? (λp=>M9 t.M==p.1)=some (M9 t.M,(j:Int)):=by cases s:(plc ts).find? (λp=>M9 t.M==p.1)with|none=>have:=find?_eq_none.1 s _ (Bu hp);exact(this ((Ns _ _).2 rfl)).elim|some q=>have B:=find?_some s;obtain⟨i,o⟩:=Hw (mem_of_find?_eq_some s);rw[Aea]at o;cases r:ts[i]? with|none=>rw[r]at o;cases o|some u=>rw[r]at o;simp only[Option.map_some,Option.some.injEq]at o;subst o;have e:=Ayw ((Ns _ _).1 B);(have f:i=j:=by have c:=Ek r;have b:=Ek h;rw[Bl c]at r;rw[Bl b]at h;rcases Nat.lt_trichotomy i j with k|k|k;have:=pairwise_iff_getElem.1 A i j c b k;rw[Fv r,Fv h]at this;exact(this e.symm).elim;exact k;have:=pairwise_iff_getElem.1 A j i b c k;rw[Fv r,Fv h]at this;exact(this e).elim);subst f;rw[e]);rw[s];rfl
open Classical in
theorem Xj(t:Aj)(p:A1)(m:A4):cf (t::p) m=(if t.M=m then rq t.C else 0)+cf p m:=by simp only[cf];by_cases e:t.M=m;rw[Aq (Rm.2 e),Aq e];rw[Ao λh=>e (Rm.1 h),Ao e]
open Classical in
theorem Ay7:∀{ts:A1}{j:Nat}{t u:Aj},ts[j]?=some t->u.M=t.M->∀m,cf (ts.set j u) m=cf ts m+(if t.M=m then rq u.C-rq t.C else 0)
 |[],j,t,u,h,_,m=>by simp at h
 |s::ts,0,t,u,h,e,m=>by simp only[getElem?_cons_zero,Option.some.injEq]at h;subst h;rw[set_cons_zero,Xj,Xj,e];split<;>grind
 |s::ts,j+1,t,u,h,e,m=>by simp only[getElem?_cons_succ]at h;rw[set_cons_succ,Xj,Xj,Ay7 h e m];grind
theorem Dst.set(h:Dst ts)(ht:ts[j]?=some t)(hm:u.M=t.M):Dst (ts.set j u):=by(have e:(ts.set j u).map (·.M)=ts.map (·.M):=by apply ext_getElem?;intro i;rw[getElem?_map,getElem?_map,getElem?_set];by_cases e:j=i;subst e;rw[Aq rfl,Aq (Ek ht),ht];simp[hm];rw[Ao e]);(have k:∀l:A1,Dst l↔(l.map (·.M)).Pairwise (·≠·):=λl=>by rw[pairwise_map];exact Iff.rfl);rw[k,e,<-k];exact h
structure Col(k:Nat)(P:A4->Prop)(ts:List Aj):Prop where
 dst:Dst ts
 tb:∀t∈ts,RB k t.C
 mo:∀t∈ts,P t.M
theorem Col.nil(k:Nat)(P:A4->Prop):Col k P []:=⟨Pairwise.nil,λ_ h=>(by cases h),λ_ h=>(by cases h)⟩
theorem Ao7(t u:Aj)(h:MSz t.M):R9 t u=some (Et t.M u.M):=by unfold R9;rw[Axc _ _ h];rfl
theorem Bcv(A R:Λ α)(x y:α):((A++y::x::R).set (A.length+1) y).set A.length x=A++x::y::R:=by induction A with|nil=>rfl|cons a A ih=>simp only[Ej,D3,set_cons_succ,ih]
theorem Ay8(A R:Λ α)(x:α):(A++x::R)[A.length]?=some x:=by simp
theorem Bcw(A R:Λ α)(x y:α):(A++y::x::R)[A.length+1]?=some x:=by induction A with|nil=>rfl|cons a A ih=>simp
theorem Bcx{step:Int×List Aj->Cs}(N:Nat)(D:N<4611686018427387904)(b:∀(x:Aj)(R:A1),step (0,x::R)=some (.inr (0,x::R)))(k:∀(A R:A1)(x y:Aj),(∀t∈A++y::x::R,MSz t.M)->(A++y::x::R).length<=N->step (((A.length+1:Nat):Int),A++y::x::R)=if Et x.M y.M<0 then some (.inl ((A.length:Int),A++x::y::R))else some (.inr (((A.length+1:Nat):Int),A++y::x::R))):∀(n:Nat)(A R:A1)(x:Aj),A.length=n->(∀t∈A++x::R,MSz t.M)->(A++x::R).length<=N->∃f i,Ak step ((A.length:Int),A++x::R)=some ((f.length:Int),f++x::(i++R))/\A=f++i/\(∀a∈i,ltT x a)/\∀l y,f=l++[y]->¬ltT x y:=by intro n;induction n with|zero=>intro A R x g _ _;have:A=[]:=Hb.1 g;subst this;exact⟨[],[],G0 (b x R),rfl,nofun,(λl y h=>by simp at h)⟩|succ n ih=>intro A R x g C c;(obtain⟨B,y,rfl⟩:∃B y,A=B++[y]:=by rcases eq_nil_or_concat A with h|⟨B,y,h⟩;rw[h]at g;cases g;exact⟨B,y,by simpa using h⟩);have s:B.length=n:=(by simpa using g);have u:(B++[y])++x::R=B++y::x::R:=ψ;have el:(((B++[y]).length:Nat):Int)=((B.length+1:Nat):Int):=ψ;rw[u]at C c⊢;rw[el];have j:=k B R x y C c;by_cases r:Et x.M y.M<0;rw[Aq r]at j;obtain⟨f,i,F,G,H,I⟩:=ih B (y::R) x s (by intro t E;refine C t ?_;simp only[E9,F0]at E⊢;rcases E with h|h|h|h<;>simp[h]) (by simpa using c);refine⟨f,i++[y],?_,by rw[G];simp,?_,I⟩;rw[Mo j,F];simp;intro a o;rcases E9.1 o with o|o;exact H a o;simp only[Ee]at o;subst o;exact r;rw[Ao r]at j;refine⟨B++[y],[],?_,ψ,nofun,?_⟩;rw[G0 j];simp;intro l z q;have:=append_inj' q rfl;have e:y=z:=(by simpa using this.2);subst e;exact r
theorem Bcy{a b c:Aj}(h:ltT a b)(e:ltT b c):ltT a c:=Zw h e
theorem Bcz{c j:A1}{x:Aj}(u:(c++j).Pairwise ltT)(r:∀a∈j,ltT x a)(A:∀g y,c=g++[y]->¬ltT x y)(B:∀a∈c,a.M≠x.M):(c++x::j).Pairwise ltT:=by obtain⟨i,s,l⟩:=pairwise_append.1 u;(have C:∀a∈c,ltT a x:=by intro a e;rcases eq_nil_or_concat c with h|⟨g,y,h⟩;rw[h]at e;cases e;have h:c=g++[y]:=(by simpa using h);(have f:ltT y x:=by have q:=A g y h;have z:=B y (by rw[h];simp);unfold ltT at *;rcases Int.lt_trichotomy (Et x.M y.M) 0 with k|k|k;exact(q k).elim;exact(z (Rm.1 k).symm).elim;exact Aoo.1 k);rw[h]at e i;rcases E9.1 e with e|e;exact Bcy ((pairwise_append.1 i).2.2 a e y ψ) f;simp only[Ee]at e;subst e;exact f);refine pairwise_append.2 ⟨i,pairwise_cons.2 ⟨r,s⟩,λa e b o=>?_⟩;rcases F0.1 o with rfl|o;exact C a e;exact l a e b o
noncomputable def Aeb:Int×List Aj->Cs:=λ(e,b)=>(show OB from bif e>(0:Int)then((Ah b e).bind λi=>(Ah b (Ac (e-1))).bind λg=>(R9 i g).bind λo=>some (decide (o<(0:Int))))else some false).bind λf=>bif f then((Ah b (Ac (e-1))).bind λh=>(Ah b e).bind λc=>(Ah b e).bind λr=>(Ah (Cn b e h) (Ac (e-1))).bind λs=>some (.inl (Ac (e-1),Cn (Cn b e h) (Ac (e-1)) c)))else some (.inr (e,b))
theorem Bc0(y:Aj)(R:A1):Aeb (0,y::R)=some (.inr (0,y::R)):=by unfold Aeb;simp only[A6 (ω:¬(0:Int)>0),An,Ae]
theorem Bc1{N:Nat}(h:N<=1099511627776)(A R:A1)(u y:Aj)(b:∀t∈A++y::u::R,MSz t.M)(c:(A++y::u::R).length<=N):Aeb (((A.length+1:Nat):Int),A++y::u::R)=if Et u.M y.M<0 then some (.inl ((A.length:Int),A++u::y::R))else some (.inr (((A.length+1:Nat):Int),A++y::u::R)):=by(have g:A.length+1<N:=by simp at c;omega);(have f:Ac (((A.length+1:Nat):Int)-1)=(A.length:Int):=by rw[Ac,Ct]<;>omega);unfold Aeb;simp only[Av (ω:((A.length+1:Nat):Int)>0),Al,f,Br (n:=A.length+1) rfl (Bcw A R u y),Br (n:=A.length) rfl (Ay8 A (u::R) y),Ae,Ao7 u y (b u ψ)];by_cases e:Et u.M y.M<0;rw[Av e,Aq e];simp only[Al];rw[Ii (n:=A.length+1) rfl,Ii (n:=A.length) rfl,Bcv];have:Ah ((A++y::u::R).set (A.length+1) y) (A.length:Int)=some y:=(by refine Br rfl ?_;rw[getElem?_set_ne ω];exact Ay8 A (u::R) y);rw[this];rfl;rw[A6 e,Ao e];rfl
theorem Bc2(b:A1)(L:Dst b)(M:∀t∈b,MSz t.M)(J:b.length<=1099511627776):∃R,Acl 0 (b.length:Int) b=some R/\R.Perm b/\R.Pairwise ltT:=by
 unfold Acl;cases b with
 |nil=>refine⟨[],?_,Perm.refl _,Pairwise.nil⟩;refine Lv 0 (λ_=>((1:Int),([]:A1))) (by simp[Ac,Ct]) (λj U=>ω) ⟨[],?_,rfl⟩;simp
 |cons H A=>
 generalize f:H::A=b at *;have o:1<=b.length:=by rw[<-f];simp
 refine Fo (λs=>∃(i:Nat)(S:A1),s=((i:Int),S++b.drop i)/\1<=i/\i<=b.length/\S.length=i/\S.Perm (b.take i)/\S.Pairwise ltT) (λs=>b.length-s.1.toNat) (λR=>R.Perm b/\R.Pairwise ltT) ⟨1,[H],by rw[<-f];simp[Ac,Ct],ω,o,rfl,by rw[<-f];simp,pairwise_singleton _ _⟩ ?_ ?_
 .rintro _ ⟨i,S,rfl,I,V,G,c,k⟩;rcases Co i b.length with h|h
  .have F:b[i]?=some b[i]:=Bl h;generalize b[i]=x at F;have g:b.drop i=x::b.drop (i+1):=Nt F;have z:(S++x::b.drop (i+1)).length=b.length:=ζ;have y:∀t∈S++x::b.drop (i+1),t∈b:=by
    intro t e;rcases E9.1 e with e|e
    .exact mem_of_mem_take (c.mem_iff.1 e)
    .rw[<-g]at e;exact mem_of_mem_drop e
   simp only[Av (ω:(i:Int)<(b.length:Int)),Al,Db h ω];rw[g];left;obtain⟨q,l,C,r,N,Q⟩:=Bcx (step:=Aeb) b.length ω Bc0 (Bc1 ω) S.length S (b.drop (i+1)) x rfl (λt e=>M t (y t e)) (by rw[z];exact Nat.le_refl _);rw[G]at C;have hp:(q++x::l).Perm (b.take (i+1)):=(by rw[Cu F];have:(q++x::l).Perm ((q++l)++[x]):=(by rw[append_assoc];exact Perm.append_left q (perm_append_singleton x l).symm);exact this.trans (by rw[<-r];exact c.append_right [x]));refine⟨(((i+1:Nat):Int),(q++x::l)++b.drop (i+1)),bnd C ψ,⟨i+1,q++x::l,rfl,ω,ω,?_,hp,?_⟩,ζ⟩
   .rw[hp.length_eq,length_take];omega
   .rw[r]at k;refine Bcz k N Q λa T=>?_;have E:a∈b.take i:=c.mem_iff.1 (by rw[r];simp[T]);have B:x∈b.drop i:=(by rw[g];simp);have D:(b.take i++b.drop i).Pairwise λt u=>t.M≠u.M:=(by rw[take_append_drop];exact L);exact(pairwise_append.1 D).2.2 a E x B
  .have:i=b.length:=ω;subst this;rw[C6]at c;simp only[A6 (ω:¬(b.length:Int)<(b.length:Int)),An,drop_length,append_nil];exact .inr ⟨S,rfl,c,k⟩
 .rintro R ⟨C,r⟩;exact⟨R,rfl,C,r⟩
theorem Nw{n:Nat}{l:Λ α}(h:n=l.length):G2 n l=some ():=by unfold G2;rw[Aq h]
theorem Bc3{s:Β}{i:Int}(h0:0<=i)(h:i.toNat<s.size):∃c,Lp s i=some c:=by unfold Lp;rw[Aq h0];exact⟨_,getElem?_pos s i.toNat h⟩
set_option maxRecDepth 20000 in
theorem Ao8{n:Nat}(h:n<256):∃v,Sc (Bi (n:Int))=some v:=by unfold Sc Ahi;rw[Bi,Gu ω ω,A6 ω];simp only[An,Ae];rw[A6 ω];simp only[An,Ae];rw[A6 ω];simp only[An,Ae];(have b:wu8 (n:Int)=(n:Int):=by rw[wu8];unfold IntKind.wrap;simp[IntKind.bits,IntKind.signed];omega);rw[b];generalize g:ByteArray.mk _=T;(have f:T.size=256:=by rw[<-g];rfl);obtain⟨c,e⟩:=Bc3 (s:=T) (i:=(n:Int)) ω (by rw[f];simpa using h);rw[e];exact⟨_,rfl⟩
theorem Bc4(b:A1)(h:Dst b)(i:∀t∈b,MSz t.M)(c:b.length<=12):∃R,R8 b=some R/\R.Perm b/\R.Pairwise ltT:=by obtain⟨R,o,e,r⟩:=Bc2 b h i ω;obtain⟨v,s⟩:=Ao8 (n:=b.length) ω;refine⟨R,?_,e,r⟩;unfold R8;rw[Nat.ble_eq_true_of_le c,Al];unfold Ani;rw[s,Ae];(have hp:Acd 0 (b.length:Int) v b=some R:=by unfold Acd;refine bnd (a:=R) (G0 ?_) rfl;have w:Ac ((b.length:Int)-0)=(b.length:Int):=ξ;simp only[w,Av (ω:(b.length:Int)<=12),Al,o,Ae,Nw e.length_eq.symm]);rw[hp,Ae,Nw e.length_eq.symm];rfl
def clT(t:Aj):Aj:=⟨Dd (sv t.C) (nv t.C) (dv t.C),t.M⟩
theorem Bc5(p:A1)(A:k<34359738000)(hp:∀t∈p,RB k t.C/\MSz t.M)(b:p.length<=1048576):Yp p=some (p.map clT):=by unfold Yp;refine Gj p (λj=>((j:Int),(p.take j).map clT)) rfl ω ?_ ?_;intro j x B e h i o;obtain⟨r,s⟩:=hp x (Bu e);simp only[h,i,o,Al,Ae,Aog x.C k r ω,Bce x.M s];rw[D7 ζ,Ae,Cu e];simp[clT];intro h;exact⟨p.map clT,ψ,rfl⟩
theorem Bc6(p:A1)(m:A4):cf (p.map clT) m=cf p m:=by induction p with|nil=>rfl|cons t p ih=>simp only[map_cons,cf,ih,clT];rw[P3 _ _ _ (Ij _)];rfl
theorem Bc7(h:p.Perm q)(m:A4):cf p m=cf q m:=by induction h with|nil=>rfl|cons x _ ih=>simp only[cf,ih]|swap x y l=>simp only[cf];grind|trans _ _ e i=>rw[e,i]
def nzT(t:Aj):Bool:=decide (rq t.C≠0)
theorem Bc8(p:A1)(m:A4):cf (p.filter nzT) m=cf p m:=by induction p with|nil=>rfl|cons t p ih=>by_cases h:rq t.C=0;rw[filter_cons_of_neg (by simp[nzT,h]),ih];simp only[cf,h];grind;rw[filter_cons_of_pos (by simp[nzT,h])];simp only[cf,ih]
theorem Bc9(x:Rat):(O3 x != (0:Int))=decide (x≠0):=by unfold O3;by_cases h:x<0;rw[Aq h];have:x≠0:=(by intro e;subst e;exact absurd h δ);simp[this];rw[Ao h];by_cases i:0<x;rw[Aq i];have:x≠0:=(by intro e;subst e;exact absurd i δ);simp[this];rw[Ao i];have:x=0:=Rat.le_antisymm (Rat.not_lt.1 i) (Rat.not_lt.1 h);simp[this]
theorem Ay9{f:α->Bool}{l:Λ α}{x:α}(h:l[j]?=some x):(l.take (j+1)).filter f=(l.take j).filter f++(if f x then[x]else[]):=by rw[Cu h,filter_append];congr 1;cases k:f x<;>simp[filter,k]
theorem Aza(x:Bx)(g:CSz x)(ps:Do)(B:∀p∈ps,∀t∈p,TSz t)(I:ps.length<=1048576):∃r,Pi x ps=some r/\(((Gw x/\∀p∈ps,Kf x.D x.V x.E p=true)/\∃A,r=.inl (true,x,A,[],x.D,x.V,x.E.G,x.E.U,x.E.R)/\Dz x.D x.V x.E A)\/((¬(Gw x/\∀p∈ps,Kf x.D x.V x.E p=true))/\r=.inr false)):=by obtain⟨b,Q,J⟩:=Adm g.ds;have G:=g.nv;have E:=g.rs;unfold Pi;rw[Q,W4 x.D x.E 0 ω];by_cases l:x.V.length<=3000;rw[A6 ω];simp only[An,Ae];(cases b with|false=>exact⟨_,rfl,.inr ⟨λh=>(by have:=J.2 h.1.2.1;cases this),rfl⟩⟩|true=>have T:=J.1 rfl;simp only[bnt,An];cases D:(Fw x.D 0 x.E&&decide (Bz x.E<=200))with|false=>exact⟨_,rfl,.inr ⟨λh=>(by have:=h.1.2.2.1;rw[show Fc x.D x.E=false from D]at this;cases this),rfl⟩⟩|true=>simp only[bnt,An,Ae];refine Fo (λi=>∃j:Nat,i=j/\j<=x.V.length/\(x.V.take j).all (Fc x.D)=true) (λi=>x.V.length-i.toNat) (λz=>match z with|.inl r=>r=false/\¬Gw x|.inr _=>Gw x) ⟨0,rfl,ω,ψ⟩ ?_ ?_;rintro i ⟨j,rfl,U,c⟩;rcases Co j x.V.length with h|h;have e:x.V[j]?=some x.V[j]:=Bl h;generalize x.V[j]=t at e;have:=g.vs t (Bu e);simp only[Av (ω:(j:Int)<(x.V.length:Int)),Al,Br rfl e,Ae,W4 x.D t 0 ω,Db h ω];rw[show(Fw x.D 0 t&&decide (Bz t<=200))=Fc x.D t from rfl];(cases L:Fc x.D t with|true=>exact .inl ⟨_,rfl,⟨j+1,rfl,ω,by rw[Cu e,all_append,c];simp[L]⟩,ζ⟩|false=>refine .inr ⟨.inl false,rfl,rfl,λH=>?_⟩;have:=Hx.1 H.2.2.2 t (Bu e);rw[L]at this;cases this);have:j=x.V.length:=ω;subst this;rw[C6]at c;exact .inr ⟨.inr (),ψ,l,T,D,c⟩;rintro(r|u) f;obtain⟨rfl,f⟩:=f;exact⟨_,rfl,.inr ⟨λh=>f h.1,rfl⟩⟩;have M:Gw x:=f;simp only;refine Fo (λs=>∃(j:Nat)(o:Af),s=((j:Int),o)/\j<=ps.length/\Dz x.D x.V x.E o/\∀p∈ps.take j,Kf x.D x.V x.E p=true) (λs=>ps.length-s.1.toNat) (λz=>match z with|.inl r=>r=false/\¬(∀p∈ps,Kf x.D x.V x.E p=true)|.inr o=>Dz x.D x.V x.E o/\∀p∈ps,Kf x.D x.V x.E p=true) ⟨0,[],rfl,ω,(λq h=>by cases h),(λq h=>by simp at h)⟩ ?_ ?_;rintro _ ⟨j,o,rfl,U,N,c⟩;rcases Co j ps.length with h|h;have e:ps[j]?=some ps[j]:=Bl h;generalize ps[j]=p at e;have k:=Bu e;obtain⟨A,V,W⟩:=Bbr (M.ctx g) [] N p (B p k);simp only[Av (ω:(j:Int)<(ps.length:Int)),Al,Br rfl e,Ae,V,Db h ω];(cases y:Kf x.D x.V x.E p with|true=>(refine .inl ⟨_,rfl,⟨j+1,A,rfl,ω,W,λq C=>?_⟩,ζ⟩;rw[Cu e]at C;rcases E9.1 C with C|C;exact c q C;simp only[Ee]at C;subst C;exact y)|false=>refine .inr ⟨.inl false,rfl,rfl,λH=>?_⟩;have:=H p k;rw[y]at this;cases this);have:j=ps.length:=ω;subst this;rw[C6]at c;exact .inr ⟨.inr o,ψ,N,c⟩;rintro(r|o) F;obtain⟨rfl,F⟩:=F;exact⟨_,rfl,.inr ⟨λh=>F h.2,rfl⟩⟩;exact⟨_,rfl,.inl ⟨⟨M,F.2⟩,o,rfl,F.1⟩⟩);rw[Av ω];exact⟨_,rfl,.inr ⟨λh=>l h.1.1,rfl⟩⟩
theorem Ao9(h:Ks Δ Ξ Θ m=true)(k:MSz m):CMo m:=by have r:=(Ajf h).2;unfold Ks at h;simp only[C5,D2]at h;obtain⟨⟨B,C⟩,G⟩:=h;(have b:∀f∈m.F,0<=D0 Δ Ξ Θ f:=by intro f r;obtain⟨j,s⟩:=Hw r;have:=Kb B s;simp only[Rj,C5,D2]at this;omega);(have o:∀a∈m.A,1<=a.P/\Jd a.L=true/\a.L.T≠[]:=by intro a o;obtain⟨j,s⟩:=Hw o;have:=Kb C s;simp only[O2,C5,D2]at this;refine⟨this.1.1.1.1,this.1.1.1.2,λe=>?_⟩;have i:=this.1.1.2;rw[e]at i;simp at i);(obtain⟨H,I,E⟩:=Axi m.A λa h=>by have:=(o a h).1;omega);have f1:=Ba6 m.F b;(have J:(m.A.length:Int)<=E6 m.A:=by have A:∀l:A7,(∀a∈l,1<=a.P)->(l.length:Int)<=E6 l:=(by intro l;induction l with|nil=>intro _;simp[E6]|cons f L ih=>intro c;have B:=c f ψ;have C:=ih λg F=>c g (by simp[F]);unfold E6 at *;simp only[map_cons,sum_cons,D3];omega);exact A _ λa h=>(o a h).1);exact⟨k,r,ω,λa h=>⟨(o a h).2.1,(o a h).2.2,(o a h).1,by have:=E a h;omega⟩⟩
def Kg(x:Bx)(m:A4):Prop:=Ks x.D x.V x.E m=true/\MSz m
theorem Kg.cmo(h:Kg x m):CMo m:=Ao9 h.1 h.2
structure Lf(x:Bx)(p:List Aj):Prop where
 can:Kf x.D x.V x.E p=true
 sz:∀t∈p,TSz t
theorem Lf.cp(h:Lf x p):CP p:=(Ad5.1 h.can).2.1
theorem Lf.mo(h:Lf x p):∀t∈p,Kg x t.M:=λt e=>⟨(Ad5.1 h.can).2.2 t e,(h.sz t e).mo⟩
theorem Lf.of(hc:CP p)(hm:∀t∈p,Kg x t.M)(b:∀t∈p,RB 1048576 t.C)(c:p.length<=1000):Lf x p:=⟨Ad5.2 ⟨c,hc,λt e=>(hm t e).1⟩,λt e=>⟨b t e,(hm t e).2⟩⟩
theorem Lf.tb(h:Lf x p):∀t∈p,RB 1048576 t.C/\Kg x t.M:=λt e=>⟨(h.sz t e).co,h.mo t e⟩
def bc:Nat->Nat->Nat
 |_,0=>1
 |0,_+1=>0
 |n+1,k+1=>bc n k+bc n (k+1)
theorem Kz(n:Nat):bc n 0=1:=by cases n<;>rfl
theorem Aec:∀{n k:Nat},n<k->Iw n k=0
 |n,0,h=>absurd h ω
 |n,k+1,h=>by rw[Iw];by_cases e:n<k;rw[Aec e,Nat.zero_mul];rw[show n-k=0 by omega,Nat.mul_zero]
theorem Azb(n:Nat):∀k,Iw (n+1) (k+1)=(n+1)*Iw n k
 |0=>by simp[Iw]
 |k+1=>by rw[Iw,Azb n k,Iw,show n+1-(k+1)=n-k by omega,Nat.mul_assoc]
theorem Zy:∀n k,Iw n k=fct k*bc n k
 |n,0=>by rw[Kz];rfl
 |0,k+1=>by rw[Aec ω];simp[bc]
 |n+1,k+1=>by have h:=Zy n (k+1);have i:=Zy n k;rw[Azb,bc,Nat.mul_add,<-h,fct,Iw,Nat.mul_right_comm,<-i];by_cases e:k<=n;rw[<-Nat.mul_add,Nat.mul_comm,show k+1+(n-k)=n+1 by omega];rw[Aec ω];simp
theorem Aed:∀n k,bc n k<=2^n
 |n,0=>by rw[Kz];exact Nat.one_le_two_pow
 |0,k+1=>by simp[bc]
 |n+1,k+1=>by have e:=Aed n (k+1);have h:=Aed n k;rw[bc,Nat.pow_succ];omega
def cR(n:Nat):Ar:=Dd false n 1
theorem U6(n:Nat):sv (cR n)=false/\nv (cR n)=n/\dv (cR n)=1:=by obtain⟨g,f,c,b⟩:=Axx false n 1 δ;refine⟨?_,?_,?_⟩;by_cases h:n=0;exact b h;exact c h;unfold cR;rw[g];simp;unfold cR;rw[f];simp
theorem Nx{n:Nat}(h:Cq n<=k)(e:1<=k):RB k (cR n):=P1 _ _ _ _ h (by rw[U2];exact e) e
theorem Bda{a b:Nat}(e:Cq a<=K)(hb:Cq b<=K)(c:1<=K)(h:K<60000000000):J7 (cR a) (cR b)=some (cR (a+b)):=by obtain⟨i,o,r⟩:=U6 a;obtain⟨s,A,f⟩:=U6 b;rw[Aja _ _ K K (Nx e c) (Nx hb c) ω ω,i,o,r,s,A,f];simp[Rl,Nv,cR]
theorem Bdb{a:Nat}(e:Cq a<=K)(b:1<=K)(h:K<60000000000):Jq (cR a)=some (if a=0 then 0 else 1):=by obtain⟨i,o,r⟩:=U6 a;rw[Ai8 _ K (Nx e b) ω,i,o];simp[Me]
theorem Ajp:E4 0=some (cR 0):=Ady 0 δ δ
theorem Na:E4 1=some (cR 1):=Ady 1 δ δ
theorem Azc(n k:Nat)(b:n<1000000000)(h:k<=64):Ab1 (n:Int) (k:Int)=some (cR (bc n k),true):=by unfold Ab1;(have e:(if(n:Int)>0 then(n:Int)else 0)=(n:Int):=by split<;>omega);simp only[A6 (ω:¬(k:Int)<0),An,A6 (ω:¬(k:Int)>64),Ae,e,Ax2 n k b h];rw[Zy,show Dd false (fct k*bc n k) (fct k)=Dd false (fct k*bc n k) (fct k*1)by rw[Nat.mul_one],Zo _ _ _ _ (Zp k)];rfl
theorem Azd(n k:Nat)(b:n<1000000000)(e:k<=64):Zc (n:Int) (k:Int)=some (cR (bc n k),true):=Azc n k b e
theorem Apa:∀(l:Au)(r:Bp)(s:Nat)(n:Nat)(p:Int)(L:Nat->Ο Ad),l.length=r.length->(∀j,L (s+j)=l[j]?)->(((r.zipIdx s).filter λq=>!q.1).map λq=>(q.2:Int))[n]?=some p->∃(m:Nat)(a:Ad),p=m/\L m=some a/\(Fq l r)[n]?=some a
 |[],[],s,n,p,L,_,_,h=>by simp at h
 |a::l,b::r,s,n,p,L,i,g,h=>by have c:l.length=r.length:=(by simpa using i);(have f:∀j,L (s+1+j)=l[j]?:=λj=>by rw[show s+1+j=s+(j+1)by omega,g];rfl);cases b with|true=>simp only[zipIdx_cons,filter_cons,bnt]at h;obtain⟨m,x,e,o,A⟩:=Apa l r (s+1) n p L c f (by simpa using h);exact⟨m,x,e,o,by simpa[Fq]using A⟩|false=>simp only[zipIdx_cons,filter_cons,Bool.not_false,if_true,map_cons]at h;cases n with|zero=>simp only[getElem?_cons_zero,Option.some.injEq]at h;exact⟨s,a,h.symm,by have:=g 0;simpa using this,by simp[Fq]⟩|succ n=>simp only[getElem?_cons_succ]at h;obtain⟨m,x,e,o,A⟩:=Apa l r (s+1) n p L c f h;exact⟨m,x,e,o,by simpa[Fq]using A⟩
 |[],_::_,_,_,_,_,h,_,_=>by simp at h
 |_::_,[],_,_,_,_,h,_,_=>by simp at h
theorem Bdc{l:Au}{r:Bp}(b:l.length=r.length){n:Nat}{p:Int}(h:(Ep r)[n]?=some p):∃(m:Nat)(a:Ad),p=m/\l[m]?=some a/\(Fq l r)[n]?=some a:=Apa l r 0 n p (λj=>l[j]?) b (λj=>ψ) (by unfold Ep at h;exact h)
theorem Bdd(l:Au)(r:Bp)(c:l.length=r.length):(Ep r).length=(Fq l r).length:=by unfold Ep Fq;rw[Cp,Cp];(have e:∀(l:Au)(r:Bp)(s:Nat),l.length=r.length->((r.zipIdx s).filter λq=>!q.1).length=((l.zip r).filter λp=>!p.2).length:=by intro l;induction l with|nil=>intro r s h;have:r=[]:=Hb.1 h.symm;subst this;rfl|cons a l ih=>intro r s h;cases r with|nil=>simp at h|cons b r=>have:=ih r (s+1) (by simpa using h);cases b<;>simp[this]);exact e l r 0 c
theorem Aze{t:Ad}(B:t.G=5):∀(n:Nat)(v:A3),C9 v<=n->Hs Δ v t=true->∀x∈Ht Δ t.U v,Hs Δ x t=true/\C9 x<=C9 v:=by intro n;induction n with|zero=>intro v h;have:=Zs v;omega|succ n ih=>intro v h q x e;have s:=Mf v;obtain⟨y,_,_,_,k,f⟩:=Aje B q;rw[Aoj]at e;rcases F0.1 e with rfl|e;exact⟨q,Nat.le_refl _⟩;(have A:∀(l:A9)(r:Bp),(∀(j:Nat)(w:A3),l[j]?=some w->r[j]?=some true->Hs Δ w t=true)->Ef l<=n->x∈Ih Δ t.U l r->Hs Δ x t=true/\C9 x<=Ef l:=by intro l;induction l with|nil=>intro r _ _ e;simp[Ih]at e|cons w l c=>intro r i u e;cases r with|nil=>simp[Ih]at e|cons b r=>have F:Ef (w::l)=C9 w+Ef l:=(by simp[Ef]);have g:∀(j:Nat)(o:A3),l[j]?=some o->r[j]?=some true->Hs Δ o t=true:=λj o C E=>i (j+1) o C E;cases b with|true=>(simp only[Ih,Al,E9]at e;rcases e with e|e;have:=ih w ω (i 0 w rfl rfl) x e;exact⟨this.1,ω⟩;have:=c r g ω e;exact⟨this.1,ω⟩)|false=>simp only[Ih,An,nil_append]at e;have:=c r g ω e;exact⟨this.1,ω⟩);have:=A v.K _ f ω e;exact⟨this.1,ω⟩
theorem P4(Δ:Ap):∀(is:A0)(ts:Au)(d:Nat),Cj Δ is ts=some d->is.length=ts.length/\∀(j:Nat)(i:Ag)(t:Ad),is[j]?=some i->ts[j]?=some t->∃e,Dc Δ i t=some e/\e<=d
 |[],[],d,_=>⟨rfl,λj i t h=>by simp at h⟩
 |i::is,t::ts,d,h=>by rw[Lc]at h;cases o:Dc Δ i t with|none=>rw[o]at h;cases h|some a=>rw[o,Ae]at h;cases r:Cj Δ is ts with|none=>rw[r]at h;cases h|some b=>rw[r]at h;have h:a+b=d:=Fv h;obtain⟨B,C⟩:=P4 Δ is ts b r;refine⟨by simp[B],λj i' t' s A=>?_⟩;cases j with|zero=>cases s;cases A;exact⟨a,o,ω⟩|succ j=>obtain⟨e,c,f⟩:=C j i' t' s A;exact⟨e,c,ω⟩
 |[],_::_,_,h=>by simp only[Cj]at h;cases h
 |_::_,[],_,h=>by simp only[Cj]at h;cases h
end Go.Ab
