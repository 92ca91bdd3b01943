/- Plain laws: what the plain functions answer. -/
import Derived.Test.YtdjgjhnhlpiccaaGreatDoorMsPl1
import Derived.KernelRfl
open List
namespace Go.Ab
open Go
theorem Alp (a:Ao) (k:Nat) (h:RB k a) (hk:k<274877906900):Ko a=some (C2 (sv a) (nv a) (dv a)):=by unfold Ko;have h1:=h.nv;have h2:=h.dv;rw[Ss a k h hk,Ad,Pm _ _ _ ω ω];rfl
def K6 (s:Bool) (n:Nat):Int:=if n=0 then 0 else if s then -1 else 1
theorem A59 (s:Bool) (n:Nat) (d:List Int):Zu ⟨s,Al n,d⟩=some (K6 s n):=by
 unfold Zu K6;dsimp only;by_cases h:n=0
 .subst h;rw[Jg];rfl
 .have b:(Al n).length≠0:=λe=>Mj h (Gn.1 e);rw[C3 ω,Aq,Ar h];cases s <;> rfl
theorem Agm (a:Ao) (k:Nat) (h:RB k a) (hk:k<274877906900):Ir a=some (K6 (sv a) (nv a)):=by unfold Ir;rw[Ss a k h hk,Ad,A59];rfl
theorem Alq (z:Int) (h1 : -9223372036854775808<=z) (h2:z<=9223372036854775807):T7 z=some (Al z.natAbs):=by
 unfold T7;by_cases h:z<0
 .have e:Bg z=z+18446744073709551616:=(by have:IntKind.u64.wrap z=z % 18446744073709551616:=(by simp[IntKind.wrap,IntKind.bits,IntKind.signed]);rw[Bg,this];omega);have b:Bg (0-(z+18446744073709551616))=((z.natAbs:Nat):Int):=(by have:IntKind.u64.wrap (0-(z+18446744073709551616))=(0-(z+18446744073709551616)) % 18446744073709551616:=(by simp[IntKind.wrap,IntKind.bits,IntKind.signed]);rw[Bg,this];omega);rw[As h,Am,e,b,Agi _ ω];rfl
 .have b:Bg z=((z.natAbs:Nat):Int):=(by rw[Bg,F1 ω ω];omega);rw[A5 h,Aq,b,Agi _ ω];rfl
theorem Abi (z:Int) (h1 : -9223372036854775808<=z) (h2:z<=9223372036854775807):Ed z=some (C2 (decide (z<0)) z.natAbs 1):=by unfold Ed;have:=U9 (n:=z.natAbs) ω;rw[Alq z h1 h2,Ad,<-Agl,Pm _ _ _ ω (by rw[Sr];decide)];rfl
theorem Atz (x y:Int) (h1 : -9223372036854775808<=x) (h2:x<=9223372036854775807) (h3 : -9223372036854775808<=y) (b:y<=9223372036854775807) (hy:y≠0):P8 x y=some (C2 (decide (x<0) != decide (y<0)) x.natAbs y.natAbs):=by unfold P8;have a1:=U9 (n:=x.natAbs) ω;have a2:=U9 (n:=y.natAbs) ω;rw[C3 hy,Aq,Alq x h1 h2,Ad,Alq y h3 b,Ad,Pm _ _ _ ω ω];rfl
theorem Agn (a b:Ao) (j k:Nat) (ha:RB j a) (hb:RB k b) (hj:j<68719476736) (hk:k<68719476736):Fa a b=some (C2 (sv a != sv b) (nv a*nv b) (dv a*dv b)):=by unfold Fa;have h1:=ha.nv;have h2:=ha.dv;have h3:=hb.nv;have g:=hb.dv;have f:=Jp (nv a) (nv b);have c:=Jp (dv a) (dv b);rw[Ss a j ha ω,Ad,Ss b k hb ω,Ad];dsimp only;rw[Sp _ _ ω ω,Ad,Sp _ _ ω ω,Ad,Pm _ _ _ ω ω];rfl
def Pn (b:Bool) (g i:Nat) (c:Bool) (f h:Nat):Bool:=if b=c then b else if f*i<=g*h then b else c
def Mo (i:Bool) (c g:Nat) (h:Bool) (b f:Nat):Nat:=if i=h then c*f+b*g else if b*g<=c*f then c*f-b*g else b*g-c*f
theorem Ago (a b:Ao) (j k:Nat) (ha:RB j a) (hb:RB k b) (hj:j<68719476736) (hk:k<68719476736) : Jd a b=some (C2 (Pn (sv a) (nv a) (dv a) (sv b) (nv b) (dv b)) (Mo (sv a) (nv a) (dv a) (sv b) (nv b) (dv b)) (dv a*dv b)):=by
 unfold Jd Wp;have h1:=ha.nv;have h2:=ha.dv;have h3:=hb.nv;have s:=hb.dv;have q:=Jp (nv a) (dv b);have l:=Jp (nv b) (dv a);have i:=Jp (dv a) (dv b);have h:=Aft (nv a*dv b) (nv b*dv a);have g:=Mk (Nat.sub_le (nv a*dv b) (nv b*dv a));have f:=Mk (Nat.sub_le (nv b*dv a) (nv a*dv b));rw[Ss a j ha ω,Ad,Ss b k hb ω,Ad];dsimp only;rw[Sp _ _ ω ω,Ad,Sp _ _ ω ω,Ad,Sp _ _ ω ω,Ad];by_cases c:sv a=sv b
 .have e:(sv a==sv b)=true:=(by rw[c];exact beq_self_eq_true _);rw[e,Am,Atq _ _ ω ω,Ad,Ad,Pm _ _ _ ω ω,Pn,Mo,Av c,Av c];rfl
 .have e:(sv a==sv b)=false:=(by simpa using c);rw[e,Aq,All _ _ ω ω,Ad,Pn,Mo,Ar c,Ar c];by_cases hc:nv b*dv a<=nv a*dv b
  .rw[As (show Jk (nv a*dv b) (nv b*dv a)>=0 by rw[Jk,Ar ω];split <;> decide),Am,Agj _ _ ω hc,Ad,Ad,Pm _ _ _ ω ω,Av hc,Av hc];rfl
  .rw[A5 (show ¬Jk (nv a*dv b) (nv b*dv a)>=0 by rw[Jk,Av ω];decide),Aq,Agj _ _ ω ω,Ad,Ad,Pm _ _ _ ω ω,Ar hc,Ar hc];rfl
theorem Agp (s:Bool) (d:Nat):C2 s 0 d=⟨false,[],[1]⟩:=by simp[C2]
theorem Oi (s:Bool) (n d k:Nat) (b:Ck n<=k) (hd:Ck d<=k) (hk:1<=k):RB k (C2 s n d):=by
 unfold C2;split
 .refine⟨nofun,(λx h=>?_),ψ,by simpa using hk⟩;simp at h;subst h;decide
 .have h1:=Asb n (Nat.gcd n d);have h2:=Asb d (Nat.gcd n d);unfold Ck at *;exact⟨(Ik _).u32,(Ik _).u32,by simp only;omega,by simp only;omega⟩
theorem At0 (s:Bool) (n d:Nat) (hd:d≠0):nv (C2 s n d)=n / Nat.gcd n d/\dv (C2 s n d)=d / Nat.gcd n d/\(n≠0->sv (C2 s n d)=s)/\(n=0->sv (C2 s n d)=false):=by
 by_cases h0:n=0
 .subst h0;rw[Agp];have c:d / Nat.gcd 0 d=1:=(by rw[Nat.gcd_zero_left];exact Nat.div_self ω);refine⟨by simp[nv,Au],?_,λh=>(h rfl).elim,λ_=>by simp[sv,Au]⟩;rw[c];simp[dv,Au]
 .have hg:0<Nat.gcd n d:=Nat.gcd_pos_of_pos_left d ω;have h1:n / Nat.gcd n d≠0:=(by have:=Nat.div_pos (Nat.gcd_le_left d (ω:0<n)) hg;omega);have h2:d / Nat.gcd n d≠0:=(by have:=Nat.div_pos (Nat.gcd_le_right n (ω:0<d)) hg;omega);have e:C2 s n d=⟨s,Al (n / Nat.gcd n d),Al (d / Nat.gcd n d)⟩:=(by simp[C2,h0]);have b:(Au (Al (n / Nat.gcd n d))).toNat=n / Nat.gcd n d:=(by rw[Ij];rfl);have v2:(Au (Al (d / Nat.gcd n d))).toNat=d / Nat.gcd n d:=(by rw[Ij];rfl);rw[e];have hc:¬(n / Nat.gcd n d=0\/d / Nat.gcd n d=0):=ω;refine⟨?_,?_,λ_=>?_,λh=>(h0 h).elim⟩
  .simp only[nv,b,v2,Ar hc]
  .simp only[dv,b,v2,Ar hc]
  .simp only[sv,b,v2,Ar hc]
theorem Xv (s:Bool) (n d k:Nat) (hk:k≠0):C2 s (k*n) (k*d)=C2 s n d:=by
 unfold C2;by_cases h:n=0
 .subst h;simp
 .have h1:k*n≠0:=Nat.mul_ne_zero hk h;rw[Ar h1,Ar h,Nat.gcd_mul_left,Nat.mul_div_mul_left _ _ ω,Nat.mul_div_mul_left _ _ ω]
theorem At1 {s t:Bool} {n d:Nat} (h:n≠0->s=t):C2 s n d=C2 t n d:=by
 unfold C2;by_cases h0:n=0
 .simp[h0]
 .rw[h h0]
theorem cl1 {o X K c s x y A w:Int} (f:c+x+w=s) (hw:w=y*A) (b:1000000000*(s / 1000000000)+s % 1000000000=s) (z V:Int) (h:o+X*K*c=z+X*(y*V)):o+X*K*(s % 1000000000-x)+X*K*1000000000*(s / 1000000000)=z+X*(y*(V+K*A)):=by grind
end Go.Ab
namespace Go.Ab
open Go Ieee
end Go.Ab
namespace Go.Ab
open Go
variable {k n:Nat}
theorem A6a {a:Ao} (h:RB k a):RB (k+1) (C2 (sv a) (nv a) (dv a)):=Oi _ _ _ _ h.nv h.dv ω
theorem Agq (s:Bool) (n d:Nat) (hd:d≠0):∃g:Nat,g≠0/\n=g*nv (C2 s n d)/\d=g*dv (C2 s n d)/\(n≠0->sv (C2 s n d)=s)/\(n=0->sv (C2 s n d)=false):=by obtain⟨h1,h2,h3,b⟩:=At0 s n d hd;have hg:0<Nat.gcd n d:=Nat.gcd_pos_of_pos_right _ ω;exact⟨Nat.gcd n d,ω,by rw[h1];exact (Nat.mul_div_cancel' (Nat.gcd_dvd_left _ _)).symm,by rw[h2];exact (Nat.mul_div_cancel' (Nat.gcd_dvd_right _ _)).symm,h3,b⟩
theorem A6b (s t:Bool) (n d m e:Nat) (hd:d≠0) (k:e≠0):C2 (sv (C2 s n d) != sv (C2 t m e)) (nv (C2 s n d)*nv (C2 t m e)) (dv (C2 s n d)*dv (C2 t m e))=C2 (s != t) (n*m) (d*e):=by
 obtain⟨g,hg,a1,a2,a3,_⟩:=Agq s n d hd;obtain⟨h,hh,b1,b2,q,_⟩:=Agq t m e k;have l:C2 (s != t) (n*m) (d*e)=C2 (sv (C2 s n d) != sv (C2 t m e)) (n*m) (d*e):=by apply At1;intro b;have i:n≠0:=λe=>b (by rw[e];simp);have j:m≠0:=λe=>b (by rw[e];simp);rw[a3 i,q j]
 rw[l];generalize C2 s n d=c at *;generalize C2 t m e=f at *;rw[a1,a2,b1,b2,show g*nv c*(h*nv f)=g*h*(nv c*nv f) by grind,show g*dv c*(h*dv f)=g*h*(dv c*dv f) by grind,Xv _ _ _ _ (Nat.mul_ne_zero hg hh)]
def Hx (n:Nat):Nat->Nat
 | 0=>1
 | k+1=>Hx n k*(n-k)
def fct:Nat->Nat
 | 0=>1
 | k+1=>fct k*(k+1)
theorem Xw:∀k,fct k≠0
 | 0=>δ
 | k+1=>Nat.mul_ne_zero (Xw k) ω
theorem A6c (h:n<k):Hx n k=0:=by
 induction k with
 | zero=>omega
 | succ k ih=>
  simp only[Hx];rcases Cj n k with h'|h'
  .rw[ih h'];simp
  .have:n-k=0:=ω;rw[this];simp
theorem A6d (n k:Nat) (b:n<1000000000):Ck (Hx n k)<=k+1:=by induction k with| zero=>simp[Hx,Sr]| succ k ih=>have h1:=Jp (Hx n k) (n-k);have h2:Ck (n-k)<=1:=Kz ζ;simp only[Hx];omega
theorem A6e (k:Nat) (hk:k<1000000000):Ck (fct k)<=k+1:=by induction k with| zero=>simp[fct,Sr]| succ k ih=>have h1:=Jp (fct k) (k+1);have h2:Ck (k+1)<=1:=Kz ζ;simp only[fct];have:=ih ω;omega
theorem At2 (h:n<1000000000):Ck n<=1:=Kz (by simpa using h)
theorem A6f (n k:Nat) (b:n<1000000000) (hk:k<=64):RB (k+1) (C2 false (Hx n k) (fct k)) := Oi _ _ _ _ (A6d n k b) (A6e k ω) ω
theorem At3 (a:Ao):Ao.mk a.N a.U a.B=a:=by cases a;rfl
theorem At4 (n k:Nat) (A:n<1000000000) (hk:k<=64):Ug (n:Int) (k:Int)=some (C2 false (Hx n k) (fct k)):=by
 unfold Ug;have B:Ed 1=some (C2 false (Hx n 0) (fct 0)):=Abi 1 δ δ;rw[B,Ad];refine Nj (λ(i,s,b,c)=>∃q:Nat,i=q/\q<=k/\q<=n/\Ao.mk s b c=C2 false (Hx n q) (fct q)) (λ(i,_,_,_)=>k-i.toNat) (λe=>match e with|.inl r=>r=C2 false (Hx n k) (fct k) | .inr (s,b,c)=>Ao.mk s b c=C2 false (Hx n k) (fct k)) ⟨0,rfl,ω,ω,At3 _⟩ ?_ ?_
 .rintro⟨i,s,b,c⟩ ⟨q,rfl,hq,z,ha⟩;rcases Cj q k with h|h
  .simp only[As (ω:(q:Int)<(k:Int)),Am];by_cases x:n=q
   .subst x;refine .inr ⟨.inl (C2 false 0 1),?_,?_⟩
    .rw[Eu rfl,Am,Abi 0 δ δ];rfl
    .show C2 false 0 1=_;rw[A6c h,Agp,Agp]
   .have u:Ac ((n:Int)-(q:Int))=((n-q:Nat):Int):=ξ;have l:Ac ((q:Int)+1)=((q+1:Nat):Int):=So h ω;have y:P8 ((n-q:Nat):Int) ((q+1:Nat):Int)=some (C2 false (n-q) (q+1)):=(by rw[Atz _ _ ω ω ω ω ω,A5 (ω:¬((n-q:Nat):Int)<0),A5 (ω:¬((q+1:Nat):Int)<0)];rfl);have g:RB 1 (C2 false (n-q) (q+1)):=Oi _ _ _ _ (At2 ω) (At2 ω) ω;have j:=Agn _ _ _ _ (A6f n q A ω) g ω ω;rw[A6b false false (Hx n q) (fct q) (n-q) (q+1) (Xw q) ω]at j;refine .inl ⟨(((q+1:Nat):Int),(C2 false (Hx n (q+1)) (fct (q+1))).N,(C2 false (Hx n (q+1)) (fct (q+1))).U,(C2 false (Hx n (q+1)) (fct (q+1))).B),?_,⟨q+1,rfl,ω,ω,At3 _⟩,ζ⟩;rw[C3 ω,Aq,u,l,y,Ad,ha,j,Ad];rfl
  .have:q=k:=ω;subst this;refine .inr ⟨.inr (s,b,c),ψ,ha⟩
 .rintro (e|⟨s,b,c⟩) f
  .simp only at f ⊢;rw[f]
  .simp only at f ⊢;rw[f]
theorem A6g {α:Type} [DecidableEq α] (l m:List α) (b:l.length=m.length):(decide (l=m))=l.zipIdx.all (λq=>decide (m[q.2]? = some q.1)):=by
 rw[Bool.eq_iff_iff,Du];constructor
 .rintro rfl;exact Aky λj x hx=>by simpa using hx
 .intro h;apply ext_getElem?;intro j;cases hx:l[j]? with| none=>rw[List.getElem?_eq_none_iff]at hx;rw[Lq ω]| some x=>have:=Is h hx;rw[Du]at this;rw[this]
theorem A6h {R:Type} (l m:List Int) (b:l.length<1099511627776) (h:l.length=m.length) {J:Bool⊕Unit->Option R} {rt rf:R} (h1:J (.inl false)=some rf) (h2:J (.inr ())=some rt) : (Ak (S:=Int) (E:=(Bool⊕Unit)) (λv3=>bif v3<(l.length:Int) then ((Ag l v3).bind λv4=>(Ag m v3).bind λv5=>bif (v4 != v5) then some (.inr (.inl false)) else some (.inl (Ac (v3+1)))) else some (.inr (.inr ()))) 0).bind J=some (bif decide (l=m) then rt else rf):=by
 rw[A6g l m h];refine Aa3 l (λq=>decide (m[q.2]? = some q.1)) (λj=>(j:Int)) rfl ω (rt:=rt) (rf:=rf) ?_ ?_
 .intro j x hx _ g1 g2 g3;have hj:j<m.length:=(by have:=Eg hx;omega);have hy:m[j]? = some m[j]:=Bs hj;generalize m[j]=y at hy;simp only[g1,g2,g3,Am,Ad,Br rfl hy,hy,Option.some.injEq];by_cases e:x=y
  .rw[Gb e,As e.symm];exact⟨λ_=>rfl,λh=>by cases h⟩
  .rw[F2 e,A5 (λh=>e h.symm)];exact⟨nofun,λ_=>⟨.inl false,rfl,h1⟩⟩
 .intro h _;exact⟨.inr (),by simp only[h];rfl,h2⟩
theorem At5 (l m:List Int) (b:l.length<1099511627776):O4 l m=some (decide (l=m)):=by
 unfold O4;by_cases h:l.length=m.length
 .rw[Gb ω];simp only[Aq];refine (A6h l m b h (rt:=true) (rf:=false) ?_ ?_).trans (by rw[Afv]) <;> rfl
 .rw[F2 ω,A5 (λe=>h (by rw[e]))];rfl
def Xx (a b:Ao):Bool:=a.N==b.N&&decide (a.U=b.U)&&decide (a.B=b.B)
theorem At6 (a b:Ao):Xx a b=true↔a=b:=by
 unfold Xx;simp only[Ct,beq_iff_eq,Du];constructor
 .rintro⟨⟨h1,h2⟩,h3⟩;cases a;cases b;simp_all
 .rintro rfl;simp
def Abj (c:Ao):Bool:=Xx (C2 (sv c) (nv c) (dv c)) c && !(nv c==0)
structure TSz (t:Aj):Prop where
 co:RB 1048576 t.C
 mo:MSz t.M
def Va (l:List Aj) (x:Aj) (j:Nat):Bool:=j==0||(match l[j-1]? with|some y=>decide (Ey y.M x.M<0) | none=>false)
def Xy (data:List Ai) (vars:List Af) (res:Af) (l:List Aj) (t:Aj) (j:Nat):Bool:=Abj t.C&&Jq data vars res t.M&&Va l t j
def I4 (data:List Ai) (vars:List Af) (res:Af) (p:List Aj):Bool:=decide (p.length<=1000)&&p.zipIdx.all (λq=>Xy data vars res p q.1 q.2)
theorem A6i {S E:Type} (F:A3->A3->Option Int) (l:List Aj) (g:∀y∈l,∀x,F y.M x=some (Ey y.M x)) {x:Aj} {j:Nat} (hx:l[j]? = some x) (i:l.length<4611686018427387904) (c b:Option (S⊕E)) : (bif decide ((j:Int)>0) then ((Ag l (Ac ((j:Int)-1))).bind λf=>(F f.M x.M).bind λv28=>bif decide (v28>=0) then c else b) else b)=bif Va l x j then b else c:=by
 have hj:=Eg hx;unfold Va;by_cases h:j=0
 .subst h;rfl
 .rw[As ω];have e:Ac ((j:Int)-1)=((j-1:Nat):Int):=ξ;have hy:l[j-1]? = some l[j-1]:=Bs ω;rw[e,Br rfl hy,hy];have h0:(j==0)=false:=(by simpa using h);simp only[Am,Ad,h0,Bool.false_or,g _ (getElem_mem (ω:j-1<l.length))];by_cases hc:Ey l[j-1].M x.M<0
  .rw[A5 ω,As hc];rfl
  .rw[As ω,A5 hc];rfl
theorem A6j (s:Bool) (n:Nat):(K6 s n==0)=(n==0):=by
 unfold K6;by_cases h:n=0
 .rw[Av h];subst h;rfl
 .rw[Ar h];have:(n==0)=false:=(by simpa using h);rw[this];cases s <;> rfl
theorem A6k {data:List Ai} {vars:List Af} {res:Af} (hc:Oh data vars res) {b1:List (ByteArray×Int)} (b2:List (ByteArray×List Ap)) (U:Ew data vars res b1) (p:List Aj) (S:∀t∈p,TSz t) :
  ∃A,Ze p b1 b2 data vars res.G res.U res.R=some (I4 data vars res p,A)/\Ew data vars res A:=by
 unfold Ze I4
 by_cases u:p.length<=1000
 .rw[A5 ω,As u,Bool.true_and]
  simp only[Aq]
  obtain⟨r,V,N⟩:=Ak0 (M:=List (ByteArray×Int)) (R:=Bool×List (ByteArray×Int)) p (λq=>Xy data vars res p q.1 q.2) (λj o=>((j:Int),o)) (Ew data vars res)
   (λr=>Ew data vars res r.2/\r.1=true) (λr=>Ew data vars res r.2/\r.1=false) b1
   (s0:=((0:Int),b1))
   (step:=(λ(v10,f)=>
    bif v10<(p.length:Int) then (
    (Ag p v10).bind λv12=>
    (Ko v12.C).bind λc=>
    (show OB from
    bif (c.N==v12.C.N) then (
    (O4 c.U v12.C.U).bind λg=>
    bif g then (
    (O4 c.B v12.C.B).bind λv17=>
    some v17)
    else some false)
    else some false).bind λD=>
    bif (!D) then some (.inr (.inl (false,f)))
    else (
    (Ir c).bind λB=>
    bif (B==(0:Int)) then some (.inr (.inl (false,f)))
    else (
    (Wr v12.M f b2 data vars res.G res.U res.R).bind λv20=>
    bif (!v20.1) then some (.inr (.inl (false,v20.2)))
    else (
    bif v10>(0:Int) then (
    (Ag p (Ac (v10-1))).bind λv21=>
    (Rw v21.M v12.M).bind λv22=>
    bif v22>=(0:Int) then some (.inr (.inl (false,v20.2)))
    else some (.inl ((Ac (v10+1)),v20.2)))
    else some (.inl ((Ac (v10+1)),v20.2))))))
    else some (.inr (.inr f)):Int×List (ByteArray×Int)->Option ((Int×List (ByteArray×Int))⊕((Bool×List (ByteArray×Int))⊕List (ByteArray×Int)))))
   (J:=(λz=>match z with
    | .inl (G,E)=>some (G,E)
    | .inr I=>some (true,I)))
   rfl U ω (by
    intro j t o s hx _ h1 h2 h3
    have b:=S t (Bu hx)
    obtain⟨A,d1,d2⟩:=A5x b2 hc s t.M b.mo
    have k:∀l:List Int,l=(C2 (sv t.C) (nv t.C) (dv t.C)).U\/l=(C2 (sv t.C) (nv t.C) (dv t.C)).B->l.length<1099511627776:=by
     intro l u
     have q:=Oi (sv t.C) (nv t.C) (dv t.C) 1048577 b.co.nv b.co.dv ω
     have:=q.nl
     have:=q.dl
     rcases u with rfl|rfl <;> omega
    have i:(bif ((C2 (sv t.C) (nv t.C) (dv t.C)).N==t.C.N) then ((O4 (C2 (sv t.C) (nv t.C) (dv t.C)).U t.C.U).bind λg=>bif g then ((O4 (C2 (sv t.C) (nv t.C) (dv t.C)).B t.C.B).bind λv17=>some v17) else some false) else some false)=some (Xx (C2 (sv t.C) (nv t.C) (dv t.C)) t.C):=by
     unfold Xx
     rw[At5 _ _ (k _ (.inl rfl)),At5 _ _ (k _ (.inr rfl))]
     cases ((C2 (sv t.C) (nv t.C) (dv t.C)).N==t.C.N) <;> cases decide ((C2 (sv t.C) (nv t.C) (dv t.C)).U=t.C.U) <;> rfl
    simp only[h1,h2,h3,Am,Ad,Alp t.C 1048576 b.co ω,i,A6i Rw p (λy hy x=>Atg y.M x (S y hy).mo) hx ω,Xy,Abj]
    cases L:Xx (C2 (sv t.C) (nv t.C) (dv t.C)) t.C with
    | false=>exact⟨nofun,λ_=>⟨_,rfl,_,rfl,s,rfl⟩⟩
    | true=>
     have e:=(At6 _ _).1 L
     simp only[bnt,Aq,Bool.true_and]
     rw[e,Agm t.C 1048576 b.co ω,Ad,A6j]
     cases (nv t.C==0) with
     | true=>exact⟨nofun,λ_=>⟨_,rfl,_,rfl,s,rfl⟩⟩
     | false=>
      simp only[Aq,d1,Ad,Bool.not_false,Bool.true_and]
      cases Jq data vars res t.M with
      | false=>exact⟨nofun,λ_=>⟨_,rfl,_,rfl,d2,rfl⟩⟩
      | true=>
       cases Va p t j with
       | true=>exact⟨λ_=>⟨A,rfl,d2⟩,λh=>by cases h⟩
       | false=>exact⟨nofun,λ_=>⟨_,rfl,_,rfl,d2,rfl⟩⟩) (by
    intro o s h1 _
    exact⟨.inr o,by simp only[h1];rfl,_,rfl,s,rfl⟩)
  refine⟨r.2,?_,?_⟩
  .have e:some r=some (p.zipIdx.all (λq=>Xy data vars res p q.1 q.2),r.2):=by
    rcases N with⟨h1,h2,h3⟩|⟨h1,h2,h3⟩
    .rw[h1,<-h3]
    .rw[h1,<-h3]
   rw[<-e]
   exact V
  .rcases N with⟨h1,h2,h3⟩|⟨h1,h2,h3⟩ <;> exact h2
 .rw[As ω,A5 u]
  exact⟨b1,rfl,U⟩
structure CSz (x:B9):Prop where
 ds:DSz x.D
 nv:x.V.length<=1048576
 vs:∀t∈x.V,B3 t<=1048576
 rs:B3 x.E<=1048576
def G0 (data:List Ai) (t:Af):Bool:=Fb data 0 t&&decide (B3 t<=200)
def Hq (x:B9):Prop:=x.V.length<=3000/\Hw x.D/\G0 x.D x.E=true/\x.V.all (G0 x.D)=true
theorem Hq.ctx {x:B9} (h:Hq x) (b:CSz x):Oh x.D x.V x.E:=by
 refine⟨h.2.1,b.ds.sz.short,λv t ht=>?_,h.1⟩;have good:∀t,G0 x.D t=true->B3 t<=200:=λt h=>by simp only[G0,Ct,Du]at h;exact h.2
 unfold Dj at ht;by_cases hv:v = -1
 .rw[Av hv]at ht;cases ht;exact good _ h.2.2.1
 .rw[Ar hv]at ht;exact good t (G7.1 h.2.2.2 t (Hc ht).2.2.2)
mutual
def Cp:Ax->Nat
 | ⟨_,_,l⟩=>1+D0 l
def D0:List Ax->Nat
 | []=>0
 | x::xs=>Cp x+D0 xs
end
variable {l:List Ax}
theorem Lv (t:Ax):Cp t=1+D0 t.K:=by cases t;simp only[Cp]
theorem Xz (t:Ax):1<=Cp t:=by rw[Lv];omega
theorem L7 {a:Ax} (h:a∈l):Cp a<=D0 l:=by
 induction l with
 | nil=>cases h
 | cons x xs ih=>
  simp only[D0];rcases Gi.1 h with rfl|h
  .omega
  .have:=ih h;omega
theorem Vb (l:List Ax):l.length<=D0 l:=by induction l with| nil=>simp| cons x xs ih=>simp only[D0,D6];have:=Xz x;omega
theorem At7 (l m:List Ax):D0 (l++m)=D0 l+D0 m:=by induction l with| nil=>simp[D0]| cons x xs ih=>simp only[D9,D0,ih];omega
theorem At8 {j:Nat} {x:Ax} (h:l[j]? = some x):D0 (l.take (j+1))=D0 (l.take j)+Cp x:=by rw[C4 h,At7];simp[D0]
theorem At9 (l:List Ax) (j:Nat):D0 (l.take j)<=D0 l:=by have:=At7 (l.take j) (l.drop j);rw[take_append_drop]at this;omega
theorem A6l (k:Nat) (l:List Ax) (c:Nat) (L:l.length<1099511627776) (B:c<=5000) (ih:∀(a:Ax),a∈l->∀f:Nat,f<=c->∃q:Int,O1 k a f=some (decide (Cp a<=f),q)/\(Cp a<=f->q=(f:Int)-Cp a)) : ∃p:Int×Int,W1 (k+2) l c=some p/\(D0 l<=c->p.1 = -1/\p.2=(c:Int)-D0 l)/\(¬D0 l<=c->0<=p.1):=by
 rw[W1];refine Et (λ(v3,v4)=>∃j:Nat,v3=j/\j<=l.length/\D0 (l.take j)<=c/\v4=(c:Int)-D0 (l.take j)) (λ(v3,_)=>l.length-v3.toNat) (λz=>match z with|.inl (i,_)=>0<=i/\¬D0 l<=c | .inr v4=>D0 l<=c/\v4=(c:Int)-D0 l) ⟨0,rfl,ω,by simp[D0],by simp[D0]⟩ ?_ ?_
 .rintro⟨v3,v4⟩ ⟨j,rfl,hj,y,D⟩;have D:v4=_:=D;subst D;rcases Cj j l.length with h|h
  .have hx:l[j]? = some l[j]:=Bs h;generalize l[j]=x at hx;obtain⟨g,A,s⟩:∃g:Nat,(c:Int)-D0 (l.take j)=g/\g<=c:=⟨c-D0 (l.take j),ω,ω⟩;obtain⟨q,J,I⟩:=ih x (Bu hx) g s;have E:=At8 hx;have G:=At9 l (j+1);simp only[As (ω:(j:Int)<(l.length:Int)),Am,Br rfl hx,Ad,Zr,A,J,C5 h ω];by_cases hb:Cp x<=g
   .rw[As hb];have M:=I hb;exact .inl ⟨_,rfl,⟨j+1,rfl,ω,ω,by show q=_;omega⟩,ζ⟩
   .rw[A5 hb];exact .inr ⟨.inl ((j:Int),q),rfl,ω,ω⟩
  .have:j=l.length:=ω;subst this;rw[Db]at *;exact .inr ⟨.inr ((c:Int)-D0 l),ψ,y,rfl⟩
 .rintro (⟨i,b⟩|v4) u
  .exact⟨(i,b),rfl,λh=>absurd h u.2,λ_=>u.1⟩
  .exact⟨(-1,v4),rfl,λ_=>⟨rfl,u.2⟩,λh=>absurd u.1 h⟩
theorem A6m:∀(left:Nat) (t:Ax) (k:Nat),left<=5000->4*left+4<=k->Cp t<1099511627776->∃c:Int,O1 k t left=some (decide (Cp t<=left),c)/\(Cp t<=left->c=(left:Int)-Cp t):=by
 intro left;induction left using Nat.strongRecOn with
 | _ left l=>
  intro t k y hk ht;have hp:=Xz t;have s:=Lv t;have q:=Vb t.K;obtain⟨j,rfl⟩:∃j,k=j+1:=⟨k-1,ω⟩;cases left with
  | zero=>refine⟨-1,?_,λh=>ω⟩;rw[O1,A5 (ω:¬Cp t<=0)];rfl
  | succ f=>
   have x:Ac (((f+1:Nat):Int)-1)=(f:Int):=ξ;obtain⟨g,rfl⟩:∃g,j=g+3:=⟨j-3,ω⟩;obtain⟨⟨i,c⟩,h1,h2,h3⟩:=A6l g t.K f ω ω (λa ha b u=>by have:=L7 ha;exact l b ω a g ω ω ω);rw[O1,x,A5 ω];simp only[Aq,Zq,h1,Ad];by_cases hb:D0 t.K<=f
   .obtain⟨a1,a2⟩:=h2 hb;simp only at a1 a2;refine⟨c,?_,λ_=>ω⟩;rw[A5 ω,As ω];rfl
   .have a1:=h3 hb;simp only at a1;refine⟨c,?_,λh=>ω⟩;rw[As ω,A5 ω];rfl
mutual
def G9 (data:List Ai):Ax->Af->Bool
 | ⟨k,n,kids⟩,t=>
  if t.G=1 then k==3&&decide (-1099511627776<=n)&&decide (n<=1099511627776)&&kids.length==0
  else if t.G=2 then k==2&&(n==0||n==1)&&kids.length==0
  else if t.G=3 then k==1&&n==0&&kids.length==0
  else if t.G=6 then k==4&&n==0&&Hy data kids t.R
  else if t.G=5 then k==5&&decide (0<=n)&&decide (n<8)&&(match Jh data t n with|some l=>Hy data kids l|none=>false)
  else if t.G=7 then k==6&&n==0&&decide (kids.length<=4096)&&(match t.R with|u::_=>Vc data kids u | []=>false)
  else if t.G=8 then k==7&&n==0&&Hy data kids t.R
  else k==8&&decide (0<=n)&&decide (n<64)&&kids.length==0
def Hy (data:List Ai):List Ax->List Af->Bool
 | [],[]=>true
 | x::xs,t::ts=>G9 data x t&&Hy data xs ts
 | [],_::_=>false
 | _::_,[]=>false
def Vc (data:List Ai):List Ax->Af->Bool
 | [],_=>true
 | x::xs,t=>G9 data x t&&Vc data xs t
end
theorem Su (data:List Ai) (v:Ax) (t:Af):G9 data v t = if t.G=1 then v.G==3&&decide (-1099511627776<=v.U)&&decide (v.U<=1099511627776)&&v.K.length==0 else if t.G=2 then v.G==2&&(v.U==0||v.U==1)&&v.K.length==0 else if t.G=3 then v.G==1&&v.U==0&&v.K.length==0 else if t.G=6 then v.G==4&&v.U==0&&Hy data v.K t.R else if t.G=5 then v.G==5&&decide (0<=v.U)&&decide (v.U<8)&&(match Jh data t v.U with|some l=>Hy data v.K l|none=>false) else if t.G=7 then v.G==6&&v.U==0&&decide (v.K.length<=4096)&&(match t.R with|u::_=>Vc data v.K u | []=>false) else if t.G=8 then v.G==7&&v.U==0&&Hy data v.K t.R else v.G==8&&decide (0<=v.U)&&decide (v.U<64)&&v.K.length==0:=by cases v;simp only[G9]
theorem A6n (data:List Ai) (l:List Ax) (t:Af):Vc data l t=l.all (G9 data · t):=by induction l with| nil=>rfl| cons x xs ih=>simp only[Vc,ih,all_cons]
theorem Abk (data:List Ai):∀(l:List Ax) (ts:List Af),l.length≠ts.length->Hy data l ts=false
 | [],[],h=>absurd rfl h
 | x::xs,t::ts,h=>by simp only[Hy,Abk data xs ts (by simpa using h),Bool.and_false]
 | [],_::_,_=>by simp only[Hy]
 | _::_,[],_=>by simp only[Hy]
theorem Abl (data:List Ai):∀(l:List Ax) (ts:List Af),l.length=ts.length->Hy data l ts=(l.zip ts).all (λq=>G9 data q.1 q.2)
 | [],[],_=>rfl
 | x::xs,t::ts,h=>by simp only[Hy,zip_cons_cons,all_cons,Abl data xs ts (by simpa using h)]
 | [],_::_,h=>by simp at h
 | _::_,[],h=>by simp at h
mutual
theorem Alr (data:List Ai) (d:Nat) (v:Int):∀t,Fb (data.take d) v t=true->Fb data v t=true
 | ⟨k,n,l⟩,h=>by
  simp only[Fb,Ct]at h ⊢
  refine⟨?_,Aua data d v l h.2⟩
  have h1:=h.1
  unfold Lt at h1 ⊢
  by_cases hk:k=5
  .subst hk
   simp only[getElem?_take]at h1 ⊢
   by_cases hd:n.toNat<d
   .simpa[hd] using h1
   .simp[hd]at h1
  .simp only[hk,if_false]at h1 ⊢
   exact h1
theorem Aua (data:List Ai) (d:Nat) (v:Int):∀l,Gj (data.take d) v l=true->Gj data v l=true
 | [],_=>rfl
 | x::xs,h=>by
  simp only[Gj,Ct]at h ⊢
  exact⟨Alr data d v x h.1,Aua data d v xs h.2⟩
end
mutual
theorem Aub (data:List Ai) (v:Int) (σ:List Af) (hσ:∀s∈σ,Fb data 0 s=true) (hv:(σ.length:Int)=v):∀t,Fb data v t=true->Fb data 0 (Ec σ t)=true
 | ⟨k,n,l⟩,h=>by
  simp only[Fb,Ct]at h
  cases hV:isV σ k n with
  | true=>
   obtain⟨s,h1,_,h3⟩:=Af0 hV
   rw[Abb (t:=⟨k,n,l⟩) hV h1]
   exact hσ s h3
  | false=>
   rw[Af1 (t:=⟨k,n,l⟩) hV,<-Ak7]
   simp only[Fb,Ct]
   refine⟨?_,Auc data v σ hσ hv l h.2⟩
   rw[Ak7,C1]
   have h1:=h.1
   unfold Lt at h1 ⊢
   by_cases hk:k=4
   .exfalso
    subst hk
    simp at h1
    unfold isV at hV
    rw[As h1.1.1,As ω]at hV
    cases hV
   .simp only[hk,if_false]at h1 ⊢
    exact h1
theorem Auc (data:List Ai) (v:Int) (σ:List Af) (hσ:∀s∈σ,Fb data 0 s=true) (hv:(σ.length:Int)=v):∀l,Gj data v l=true->Gj data 0 (Oe σ l)=true
 | [],_=>rfl
 | x::xs,h=>by
  simp only[Gj,Ct]at h
  simp only[Oe,Gj,Ct]
  exact⟨Aub data v σ hσ hv x h.1,Auc data v σ hσ hv xs h.2⟩
end
variable {t:Af} {data:List Ai} {α β:Type}
theorem Aud (h:Fb data 0 t=true):∀a∈t.R,Fb data 0 a=true:=by rw[Aa5,Ct,Asl,G7]at h;exact h.2
theorem A6o (hv:Hw data) (ht:Fb data 0 t=true) {c:Int} {l:List Af} (h:Jh data t c=some l):∀a∈l,Fb data 0 a=true/\B3 a<=200:=by
 obtain⟨x,y,hk,hx,g,hy,rfl,f⟩:=Ph h;intro a ha;refine⟨?_,f a ha⟩;obtain⟨b,hb,rfl⟩:=mem_map.1 ha;obtain⟨i0,_,i,_⟩:=Hc hx;have h1:=hv.2.1 t.U.toNat x i;obtain⟨_,_,c3⟩:=h1.2.2.2.2.2 y (Hc hy).2.2.2;have c4:=G7.1 c3 b hb;refine Aub data x.V t.R (Aud ht) g b ?_;unfold Si at c4;rw[Bool.or_eq_true]at c4;rcases c4 with h'|h'
 .exact Alr data _ _ b (Ak3 i h1.2.1 h').1
 .rw[Ct]at h';exact Alr data _ _ b h'.1
theorem A6p (h:Fb data 0 t=true):(t.G=1\/t.G=2\/t.G=3\/t.G=5\/t.G=6\/t.G=7\/t.G=8\/t.G=9)/\(t.G=7->t.R.length=1)/\(t.G=8->t.R.length=1):=by
 rw[Aa5,Ct]at h;have h1:=h.1;unfold Lt at h1;by_cases q:t.G=1
 .simp[q]
 by_cases l:t.G=2
 .simp[l]
 by_cases k:t.G=3
 .simp[k]
 by_cases j:t.G=4
 .exfalso;simp[j]at h1;omega
 by_cases i:t.G=5
 .simp[i]
 by_cases g:t.G=6
 .simp[g]
 by_cases f:t.G=7
 .simp[f]at h1 ⊢;exact h1.2
 by_cases c:t.G=8
 .simp[c]at h1 ⊢;exact h1.2
 by_cases b:t.G=9
 .simp[b]
 .simp[q,l,k,j,i,g,f,c,b]at h1
theorem Agr (l:List α):((l.length:Int)==(0:Int))=(l.length==0):=Ash l 0
def Abm (m:List β) (p:α×β->Bool) (q:α×Nat):Bool:=match m[q.2]? with|some y=>p (q.1,y) | none=>false
theorem A6q (l:List α) (m:List β) (p:α×β->Bool) (h:l.length=m.length):(l.zip m).all p=l.zipIdx.all (Abm m p):=by
 rw[Bool.eq_iff_iff];constructor
 .intro ha;refine Aky λj x hx=>?_;have hj:=Eg hx;have hy:m[j]? = some m[j]:=Bs ω;simp only[Abm,hy];refine G7.1 ha _ (Bu (i:=j) ?_);rw[getElem?_zip_eq_some];exact⟨hx,hy⟩
 .intro ha;rw[G7];rintro⟨x,y⟩ hq;obtain⟨j,hj⟩:=Hi hq;rw[getElem?_zip_eq_some]at hj;have:=Is ha hj.1;simp only[Abm,hj.2]at this;exact this
theorem A6r (hv:Hw data):∀(n:Nat) (v:Ax) (t:Af) (k:Nat),Cp v<=n->4*n<=k->n<=5000->Fb data 0 t=true->B3 t<=200->Ru k data v t=some (G9 data v t):=by
 intro n;induction n with
 | zero=>intro v t k h;have:=Xz v;omega
 | succ n ih=>
  intro v t k h hk hn ht D;have a1:=Lv v;have a6:=Vb v.K;obtain⟨k,rfl⟩:∃k',k=k' + 4:=⟨k-4,ω⟩;obtain⟨kd,k7,k8⟩:=A6p ht;have f:∀ts:List Af,(∀a∈ts,Fb data 0 a=true/\B3 a<=200)->Ry (k+3) data v.K ts=some (Hy data v.K ts):=by
   intro ts S;rw[Ry,Z4];by_cases V:v.K.length=ts.length
   .rw[Gb ω,Abl data _ _ V,A6q _ _ _ V];simp only[Aq];have key:=Aa3 v.K (Abm ts (λq=>G9 data q.1 q.2)) (λj=>(j:Int)) (s0:=(0:Int)) rfl ω (rt:=true) (rf:=false) (J:=λz:Bool⊕Unit=>match z with|.inl R=>some R | .inr _=>some true)
     (step:=λE=>bif E<(v.K.length:Int) then ((Ag v.K E).bind λX=>(Ag ts E).bind λv9=>(W2 (k+1) X v9 data).bind λv11=>bif (!v11) then some (.inr (.inl false)) else some (.inl (Ac (E+1)))) else some (.inr (.inr ()))) (by intro j x hx _ h1 h2 h3;have hy:ts[j]? = some (ts[j]'(by have:=Eg hx;omega)):=Bs (by have:=Eg hx;omega);generalize ts[j]'(by have:=Eg hx;omega)=y at hy;have s:=S y (Bu hy);have hxm:=L7 (Bu hx);simp only[h1,h2,h3,Am,Ad,Br rfl hy,Abm,hy,W2,ih x y k ω ω ω s.1 s.2];cases G9 data x y with| true=>exact⟨λ_=>rfl,λh=>by cases h⟩| false=>exact⟨nofun,λ_=>⟨.inl false,rfl,rfl⟩⟩) (by intro h _;exact⟨.inr (),by simp only[h];rfl,rfl⟩)
    rw[Afv]at key;exact congrArg (λq=>Option.bind q some) key
   .rw[F2 ω,Abk data _ _ V];rfl
  have b:∀a∈t.R,Fb data 0 a=true/\B3 a<=200:=λa ha=>⟨Aud ht a ha,by have:=Kc ha;have:=J0 t;omega⟩;rw[Ru,Su];by_cases N:t.G=1
  .rw[Eu N,Av N,Agr];cases (v.G==3) <;> cases decide (-1099511627776<=v.U) <;> cases decide (v.U<=1099511627776) <;> rfl
  rw[C3 N,Ar N];by_cases M:t.G=2
  .rw[Eu M,Av M,Agr];cases (v.G==2) <;> cases (v.U==0) <;> cases (v.U==1) <;> rfl
  rw[C3 M,Ar M];by_cases L:t.G=3
  .rw[Eu L,Av L,Agr];cases (v.G==1) <;> cases (v.U==0) <;> rfl
  rw[C3 L,Ar L];by_cases G:t.G=6
  .rw[Eu G,Av G,f t.R b];cases (v.G==4) <;> cases (v.U==0) <;> rfl
  rw[C3 G,Ar G];by_cases I:t.G=5
  .rw[Eu I,Av I,A5d hv.szv t D];simp only[Aq,Am];by_cases g1:v.G=5
   .rw[Gb g1,Eu g1];by_cases g2:v.U<0
    .rw[As g2,A5 (ω:¬0<=v.U)];rfl
    .by_cases g3:v.U>=8
     .rw[A5 g2,As g3,A5 (ω:¬v.U<8)];simp
     .rw[A5 g2,A5 g3,As (ω:0<=v.U),As (ω:v.U<8)];simp only[Aq,Ad,Bool.true_and];cases hf:Jh data t v.U with| none=>rfl| some l=>simp only[okL,Am];rw[f l (A6o hv ht hf)];rfl
   .rw[F2 g1,C3 g1];rfl
  rw[C3 I,Ar I];by_cases c:t.G=7
  .rw[Eu c,Av c,show decide ((v.K.length:Int)<=4096)=decide (v.K.length<=4096) by congr 1;simp only[eq_iff_iff];omega];have U:=k7 c
   match A:t.R,U with
   | [u],_=>
    have hu:=b u (by rw[A];simp);have B:Aaw (k+3) v.K data t=some (!Vc data v.K u):=by
     rw[Aaw,Afl,A6n];have key:=Akz v.K (λx=>!G9 data x u) ω (J:=λz=>match z with|.inl Y=>some Y | .inr _=>some (-1)) (step:=λv3=>bif v3<(v.K.length:Int) then ((Ag v.K v3).bind λv4=>(Ww (k+1) v4 data t).bind λv5=>bif v5 then some (.inr (.inl v3)) else some (.inl (Ac (v3+1)))) else some (.inr (.inr ()))) (by intro j x hx h1 h2 h3;have hxm:=L7 hx;have hi:Ag t.R 0=some u:=(by rw[A];rfl);simp only[h1,h2,h3,Am,Ad,Ww,hi,ih x u k ω ω ω hu.1 hu.2]) (λh=>by simp only[h];rfl) (λ_=>rfl) rfl
     obtain⟨i,i1,i2⟩:=key
     erw[i1];simp only[Ad,i2];rw[any_eq_not_all_not];simp
    simp only[Aq,Am,B,Ad];cases (v.G==6) <;> cases (v.U==0) <;> cases decide (v.K.length<=4096) <;> cases Vc data v.K u <;> rfl
  rw[C3 c,Ar c];by_cases g:t.G=8
  .rw[Eu g,Av g,f t.R b];cases (v.G==7) <;> cases (v.U==0) <;> rfl
  rw[C3 g,Ar g];have Z:t.G=9:=ω;rw[Eu Z,Agr];cases (v.G==8) <;> cases decide (0<=v.U) <;> cases decide (v.U<64) <;> rfl
def Mp (data:List Ai) (v:Ax) (t:Af):Bool:=G0 data t&&decide (Cp v<=5000)&&G9 data v t
theorem Aue (j:DSz data) (v:Ax) (t:Af) (f:Cp v<1099511627776) (ht:B3 t<=1048576):∃b,Rr data v t=some b/\(b=true↔Hw data/\Mp data v t=true):=by
 obtain⟨b,b1,b2⟩:=Afz j;unfold Rr Ael Mp;rw[b1,Xl data t 0 ω];simp only[Ad];rw[show (Fb data 0 t&&decide (B3 t<=200))=G0 data t from rfl];cases b with
 | false=>exact⟨false,rfl,by simp;intro h;have:=b2.2 h;cases this⟩
 | true=>
  have hv:=b2.1 rfl;cases hg:G0 data t with
  | false=>exact⟨false,rfl,ψ⟩
  | true=>
   obtain⟨k,i,_⟩:=A6m 5000 v 4000000 ω ω f;have i:O1 4000000 v 5000=_:=i;simp only[Am,Ad,i];by_cases g:Cp v<=5000
   .have c:=hg;simp only[G0,Ct,Du]at c;rw[As g];simp only[Am,A6r hv 5000 v t 4000000 g ω ω c.1 c.2,Ad];exact⟨_,rfl,by simp[hv]⟩
   .rw[A5 g];exact⟨false,rfl,ψ⟩
mutual
def Il (data:List Ai) (d:Int):Ax->List Ax
 | ⟨k,n,kids⟩=>⟨k,n,kids⟩::Im data d kids (D7 data d n)
def Im (data:List Ai) (d:Int):List Ax->List Bool->List Ax
 | x::xs,b::bs=>(bif b then Il data d x else [])++Im data d xs bs
 | [],_=>[]
 | _::_,[]=>[]
end
theorem Auf (data:List Ai) (d:Int) (v:Ax):Il data d v=v::Im data d v.K (D7 data d v.U):=by cases v;simp only[Il]
mutual
theorem Als (data:List Ai) (d:Int):∀v,(Il data d v).length<=Cp v
 | ⟨k,n,kids⟩=>by
  have:=Alt data d kids (D7 data d n)
  simp only[Il,Cp,D6];omega
theorem Alt (data:List Ai) (d:Int):∀l r,(Im data d l r).length<=D0 l
 | x::xs,b::bs=>by
  have h1:=Als data d x
  have h2:=Alt data d xs bs
  cases b <;> simp only[Im,D0,Ek,Am,Aq,length_nil] <;> omega
 | [],_=>by simp[Im]
 | _::_,[]=>by simp[Im]
end
variable {m:A3} {res:Af} {t u:Aj} {a:Ao} {x:B9} {d n v w y:Int} {vars:List Af} {data:List Ai} {p ts:List Aj} {P R S X b l:List Int} {K j k:Nat} {α β:Type} {g:α->List Int}
theorem Aug (data:List Ai) (d:Int):∀(l:List Ax) (r:List Bool) (x:Ax) (b:Bool),l.length=r.length->Im data d (l++[x]) (r++[b])=Im data d l r++(bif b then Il data d x else [])
 | [],[],x,b,_=>by simp[Im]
 | y::ys,c::cs,x,b,h=>by simp only[D9,Im,Aug data d ys cs x b (by simpa using h),append_assoc]
 | [],_::_,_,_,h=>by simp at h
 | _::_,[],_,_,h=>by simp at h
theorem A6s {a:Af} {vars:Int} {σ:List Af} (h:Kr a d vars=true) (g:(σ.length:Int)=vars):Ec σ a=⟨5,d,σ⟩:=by
 unfold Kr at h;simp only[Ct,beq_iff_eq]at h;obtain⟨⟨⟨h1,h2⟩,h3⟩,f⟩:=h;have hv:isV σ a.G a.U=false:=by unfold isV;rw[h1];rfl
 rw[Af1 hv,h1,h2];congr 1;apply ext_getElem?;intro j;rw[getElem?_map];cases hx:a.R[j]? with| none=>rw[List.getElem?_eq_none_iff]at hx;rw[Lq ω];rfl| some x=>have hj:=Eg hx;have:=Is f hx;simp only[Sh,Ct,beq_iff_eq]at this;have c:σ[j]? = some (σ[j]' ω):=Bs ω;generalize σ[j]' ω=s at c;have b:isV σ x.G x.U=true:=(by unfold isV;rw[this.1.1,this.1.2,As ω,As ω];rfl);rw[c,Option.map_some,Abb b (by rw[this.1.2];exact c)]
theorem Ags {v:Ax} {t:Af} (hk:t.G=5) (h:G9 data v t=true) : ∃x,Ag data t.U=some x/\0<=v.U/\v.U<x.O.length/\(D7 data t.U v.U).length=v.K.length/\∀(j:Nat) (w:Ax),v.K[j]? = some w->(D7 data t.U v.U)[j]? = some true->G9 data w t=true:=by
 rw[Su,Ar ω,Ar ω,Ar ω,Ar ω,Av hk]at h;cases hf:Jh data t v.U with
 | none=>rw[hf]at h;simp at h
 | some l=>
  rw[hf]at h;simp only[Ct]at h;have b:=h.2;have c:v.K.length=l.length:=by
   by_cases q:v.K.length=l.length
   .exact q
   .rw[Abk data _ _ q]at b;cases b
  have D:=Xn hf;obtain⟨x,y,_,hx,s,hy,q,_⟩:=Ph hf;obtain⟨B,A,_,_⟩:=Hc hy;refine⟨x,hx,B,A,ω,λj w hw z=>?_⟩;rw[Abl data _ _ c]at b;have hj:=Eg hw;have g:l[j]? = some (l[j]' ω):=Bs ω;have hh:=G7.1 b (w,l[j]' ω) (Bu (i:=j) (by rw[getElem?_zip_eq_some];exact⟨hw,g⟩));simp only at hh;have ha:y.R[j]? = some (y.R[j]'(by rw[q]at c;simp at c;omega)):=Bs _;generalize y.R[j]'_=a at ha;have u:(D7 data t.U v.U)[j]? = some (Kr a t.U x.V):=(by unfold D7;simp only[hx,hy,getElem?_map,ha,Option.map_some]);rw[u]at z;have f:=Fp z;have k:l[j]? = some (Ec t.R a):=(by rw[q,getElem?_map,ha];rfl);rw[k]at g;rw[<-Fp g,A6s f s]at hh;have:(Af.mk 5 t.U t.R)=t:=(by cases t;simp only at hk;rw[hk]);rw[this]at hh;exact hh
theorem A6t {t:Af} (hk:t.G=5) (B:List (List Bool)) (I:∀(x:Ai),Ag data t.U=some x->∀n:Int,0<=n->n<x.O.length->Ag B n=some (D7 data t.U n)):∀(n:Nat) (v:Ax) (k:Nat) (b:List Ax),Cp v<=n->n<=k->n<=1048576->b.length+Cp v<=1048576->G9 data v t=true->Un k v b B=some (b++Il data t.U v):=by
 intro n;induction n with
 | zero=>intro v k b h;have:=Xz v;omega
 | succ n ih=>
  intro v k b h E J hb G;obtain⟨k,rfl⟩:∃s,k=s+1:=⟨k-1,ω⟩;have y:=Lv v;have z:=Vb v.K;obtain⟨x,hx,q,l,i,f⟩:=Ags hk G;rw[Un,D2 ζ,Ad,Aa8 b [] _ _ b.length rfl rfl,Ad,Aa7 b [] _ _ _ b.length rfl rfl,I x hx v.U q l,Ad,Auf];generalize L:D7 data t.U v.U=R at *;have g:∀j,(Im data t.U (v.K.take j) (R.take j)).length<=D0 (v.K.take j):=λj=>Alt _ _ _ _;refine F6 R (λj=>((j:Int),b++[v]++Im data t.U (v.K.take j) (R.take j))) (by simp[Im]) ω ?_ ?_
  .intro j c hj hc h1 h2 h3;have hw:v.K[j]? = some (v.K[j]' ω):=Bs ω;generalize v.K[j]'_=w at hw;have u:=L7 (Bu hw);have A:=At8 hw;have D:=At9 v.K (j+1);have hp:=g j;simp only[h1,h2,h3,Am,Ad,Br rfl hw,C4 hw,C4 hc];rw[Aug _ _ _ _ _ _ ζ];cases c with| false=>simp| true=>rw[ih w k _ ω ω ω ζ (f j w hw hc)];simp
  .intro h1;refine⟨b++(v::Im data t.U v.K R),?_,rfl⟩;simp only[h1];rw[Ii (ω:v.K.length<=R.length),Db];simp
theorem A6u (k:Ml data) (l:∀x∈data,x.O.length<=8) {t:Af} (hk:t.G=5) (v:Ax) (hv:Cp v<=5000) (h:G9 data v t=true):Z6 data t v=some (Il data t.U v):=by
 obtain⟨x,hx,u,s,g,f⟩:=Ags hk h;have i:=l x (Hc hx).2.2.2;unfold Z6;rw[hx,Ad];refine F6 x.O (λj=>((j:Int),(range j).map λc:Nat=>D7 data t.U (c:Int))) rfl ω ?_ ?_
 .intro j y hj hy h1 h2 h3;simp only[h1,h3,Am,Xm data t.U (j:Int) k,Ad];rw[D2 ζ,Ad,range_succ];simp
 .intro h1;refine⟨(range x.O.length).map λc:Nat=>D7 data t.U (c:Int),ψ,?_⟩;rw[A6t hk _ (λq b n a1 a2=>?_) 5000 v 4000000 [] hv ω ω ζ h]
  .rfl
  .rw[hx]at b;cases b;rw[Br (n:=n.toNat) ω];rw[getElem?_map,getElem?_range ω];simp only[Option.map_some];rw[show ((n.toNat:Nat):Int)=n by omega]
theorem A6v:∀(k:Nat) (t:Af),B3 t<=k->k<1099511627776->∃i,Ur k t=some i/\True:=by
 intro k;induction k with
 | zero=>intro t h;have:=U1 t;omega
 | succ k ih=>
  intro t h hk;have g:=J0 t;have c:=Lr t.R;rw[Ur];refine Qp ?_ ⟨_,rfl,trivial⟩;refine Et (λ(i,o)=>∃j:Nat,i=j/\j<=t.R.length/\o.length=j) (λ(i,_)=>t.R.length-i.toNat) (λ_=>True) ⟨0,rfl,ω,rfl⟩ ?_ (λe _=>⟨_,rfl,trivial⟩);rintro⟨i,o⟩ ⟨j,rfl,hj,b⟩;rcases Cj j t.R.length with h'|h'
  .have hx:t.R[j]? = some t.R[j]:=Bs h';generalize t.R[j]=x at hx;have l:=Kc (Bu hx);obtain⟨y,f,_⟩:=ih x ω ω;simp only[As (ω:(j:Int)<(t.R.length:Int)),Am,Br rfl hx,Ad,f,C5 h' ω];have b:o.length=j:=b;rw[D2 ζ,Ad];exact .inl ⟨_,rfl,⟨j+1,rfl,ω,by simp[b]⟩,ζ⟩
  .have:j=t.R.length:=ω;subst this;exact .inr ⟨o,ψ,trivial⟩
theorem Agt (c:DSz data) (hv:Hw data) (t:Af) (hg:G0 data t=true) (i:Ah) (hi:Bv i<=1048576):Mf data t i=some (Ji (Di data i t)):=by
 have b:=hg;simp only[G0,Ct,Du]at b;obtain⟨q,g,f⟩:=Afz c;have hq:q=true:=f.2 hv;subst hq;unfold Mf Uf;rw[g,Xl data t 0 ω];simp only[Ad,Am];rw[show (Fb data 0 t&&decide (B3 t<=200))=G0 data t from rfl,hg];obtain⟨p,j,h⟩:=(A5f hv.szv c.sz.short 4000000).1 i t ω hi b.2;simp only[bnt,Aq,j,Ad];rcases h with⟨a1,d,a2,a3,a4⟩|⟨a1,a2⟩
 .rw[a1,a2,Pj a3,a4];rfl
 .rw[a1,As2 a2];rfl
theorem Agu (h:Jq data vars res m=true):(∀f∈m.F,∃t,Dj vars res f.v=some t)/\m.F.length<=6:=by
 unfold Jq at h;simp only[Ct,Du]at h;obtain⟨⟨h1,h2⟩,h3⟩:=h;have hf:∀f∈m.F,1<=Dz data vars res f:=by intro f hf;obtain⟨j,hj⟩:=Hi hf;have:=Is h1 hj;simp only[Pl,Ct,Du]at this;exact this.1
 have ha:0<=Ef m.A:=(Alk m.A (λa ha=>by obtain⟨j,hj⟩:=Hi ha;have:=Is h2 hj;simp only[No,Ct,Du]at this;omega)).1;refine⟨λf b=>?_,?_⟩
 .have:=hf f b;unfold Dz at this;cases ht:Dj vars res f.v with
  | none=>rw[ht]at this;have:(1:Int)<=-1:=this;omega
  | some t=>exact⟨t,rfl⟩
 .have key:∀l:List Bb,(∀f∈l,1<=Dz data vars res f)->(l.length:Int)<=Cs data vars res l:=(by intro l;induction l with| nil=>intro _;simp[Cs]| cons f fs ih=>intro c;have h1:=c f ψ;have h2:=ih (λg hg=>c g (by simp[hg]));unfold Cs at *;simp only[map_cons,sum_cons,D6];omega);have:=key m.F hf;omega
theorem A6w (a b:Ao) (j k:Nat) (ha:RB j a) (hb:RB k b) (hj:j<34359738000) (hk:k<34359738000):∃c,Jd a b=some c/\True/\RB (j+k+3) c:=by
 refine⟨_,Ago a b j k ha hb ω ω,trivial,?_⟩;have h1:=ha.nv;have h2:=ha.dv;have h3:=hb.nv;have s:=hb.dv;have q:=Jp (nv a) (dv b);have l:=Jp (nv b) (dv a);have i:=Jp (dv a) (dv b);have f:Mo (sv a) (nv a) (dv a) (sv b) (nv b) (dv b)<=nv a*dv b+nv b*dv a:=by
  unfold Mo;split
  .omega
  .split <;> omega
 have h:=Mk f;have g:=Aft (nv a*dv b) (nv b*dv a);exact Oi _ _ _ _ ω ω ω
theorem A6x (k:Nat):RB k ⟨false,[],[]⟩:=⟨nofun,nofun,ψ,ψ⟩
def sg (s:Bool) (n:Nat):Int:=if s then -(n:Int) else n
def rq (a:Ao):Rat:=mkRat (sg (sv a) (nv a)) (dv a)
def Hr (a:Ao):Prop:=a=C2 (sv a) (nv a) (dv a)
theorem Qw (s:Bool) (n d:Nat) (hd:d≠0):rq (C2 s n d)=mkRat (sg s n) d:=by
 obtain⟨g,hg,h1,h2,h3,f⟩:=Agq s n d hd;unfold rq;rw[Rat.mkRat_eq_iff (H8 _) hd];generalize nv (C2 s n d)=b at *;generalize dv (C2 s n d)=i at *;generalize sv (C2 s n d)=s' at *;by_cases c:n=0
 .have:b=0:=by
   rcases Nat.eq_zero_or_pos b with h|h
   .exact h
   .have:=Nat.mul_pos (Nat.pos_of_ne_zero hg) h;omega
  subst this;subst c;cases s <;> cases s' <;> simp[sg]
 .rw[h3 c,h1,h2];cases s <;> simp only[sg,if_true,if_false,Bool.false_eq_true,Int.natCast_mul] <;> grind
theorem Vd (s:Bool) (n d:Nat) (hd:d≠0):Hr (C2 s n d):=by
 obtain⟨g,hg,h1,h2,h3,f⟩:=Agq s n d hd;unfold Hr;generalize hc:C2 s n d=c at h1 h2 h3 f;have e:=Xv s (nv c) (dv c) g hg;rw[<-h1,<-h2,hc]at e;by_cases b:n=0
 .have h0:nv c=0:=by
   rcases Nat.eq_zero_or_pos (nv c) with h|h
   .exact h
   .have:=Nat.mul_pos (Nat.pos_of_ne_zero hg) h;omega
  rw[h0,Agp]at e ⊢;exact e
 .rw[h3 b];exact e
theorem Auh (n m:Int) {d e:Nat} (hd:d≠0) (g:e≠0):mkRat n d<mkRat m e↔n*e<m*d:=by
 have c:(0:Rat)<(d:Rat):=Rat.natCast_pos.2 ω;have b:(0:Rat)<(e:Rat):=Rat.natCast_pos.2 ω;rw[Rat.mkRat_eq_div,Rat.mkRat_eq_div,Rat.div_lt_iff c];rw[<-Rat.mul_lt_mul_right b];have f:(m:Rat) / (e:Rat)*(d:Rat)*(e:Rat)=(m:Rat)*(d:Rat):=by grind
 rw[f];have a1:(n:Rat)*(e:Rat)=((n*(e:Int):Int):Rat):=by rw[Rat.intCast_mul];rfl
 have a2:(m:Rat)*(d:Rat)=((m*(d:Int):Int):Rat):=by rw[Rat.intCast_mul];rfl
 rw[a1,a2,Rat.intCast_lt_intCast]
theorem Agv {b:Ao} (ha:Hr a) (hb:Hr b) (h:rq a=rq b):a=b:=by
 unfold rq at h;rw[Rat.mkRat_eq_iff (H8 _) (H8 _)]at h;rw[ha,hb];have l:=H8 a;have k:=H8 b;generalize nv a=n at *;generalize dv a=d at *;generalize sv a=s at *;generalize nv b=m at *;generalize dv b=e at *;generalize sv b=t at *;have hh:n*e=m*d/\(n≠0->s=t):=by
  have c:n≠0->0<n*e:=λh=>Nat.mul_pos ω ω;have f:m≠0->0<m*d:=λh=>Nat.mul_pos ω ω;have c1:((n*e:Nat):Int)=(n:Int)*e:=ψ;have c2:((m*d:Nat):Int)=(m:Int)*d:=ψ;cases s <;> cases t <;> simp only[sg,if_true,if_false,Bool.false_eq_true,Int.neg_mul]at h
  .exact⟨ω,λ_=>rfl⟩
  .have:n*e=0/\m*d=0:=ω;refine⟨ω,λg=>?_⟩;have:=c g;omega
  .have:n*e=0/\m*d=0:=ω;refine⟨ω,λg=>?_⟩;have:=c g;omega
  .exact⟨ω,λ_=>rfl⟩
 have j:=Xv s n d e k;have i:=Xv t m e d l;rw[<-j,<-i,Nat.mul_comm e n,hh.1,Nat.mul_comm e d,Nat.mul_comm m d];refine At1 λh0=>hh.2 ?_;rintro rfl;rw[Nat.zero_mul]at hh;have:=hh.1;rw[Nat.mul_comm d m]at h0;omega
theorem Aui (j:Bool) (c g:Nat) (i:Bool) (b f:Nat):sg (Pn j c g i b f) (Mo j c g i b f)=sg j c*f+sg i b*g:=by
 unfold Pn Mo sg;have c1:((c*f:Nat):Int)=(c:Int)*f:=ψ;have c2:((b*g:Nat):Int)=(b:Int)*g:=ψ;cases j <;> cases i <;> simp only[if_true,if_false,Bool.false_eq_true,Bool.true_eq_false,Int.neg_mul]
 .omega
 .by_cases h:b*g<=c*f
  .simp only[Av h];simp only[if_false,Bool.false_eq_true];omega
  .simp only[Ar h];simp only[if_true];omega
 .by_cases h:b*g<=c*f
  .simp only[Av h];simp only[if_true];omega
  .simp only[Ar h];simp only[if_false,Bool.false_eq_true];omega
 .omega
theorem Agw {b:Ao} (ha:RB j a) (hb:RB k b) (hj:j<34359738000) (hk:k<34359738000):∃c,Jd a b=some c/\True/\RB (j+k+3) c/\Hr c/\rq c=rq a+rq b:=by
 obtain⟨c,h1,h2,h3⟩:=A6w a b j k ha hb hj hk;have e:=Ago a b j k ha hb ω ω;rw[h1]at e;have e:=Fp e;have hd:dv a*dv b≠0:=Nat.mul_ne_zero (H8 a) (H8 b);refine⟨c,h1,h2,h3,?_,?_⟩
 .rw[e];exact Vd _ _ _ hd
 .rw[e,Qw _ _ _ hd,Aui,rq,rq,Rat.mkRat_add_mkRat _ _ (H8 a) (H8 b)]
theorem A6y (s t:Bool) (n m:Nat):sg (s != t) (n*m)=sg s n*sg t m:=by unfold sg;cases s <;> cases t <;> simp[Int.neg_mul,Int.mul_neg]
theorem Sv {b:Ao} (ha:RB j a) (hb:RB k b) (hj:j<34359738000) (hk:k<34359738000):∃c,Fa a b=some c/\RB (j+k+2) c/\Hr c/\rq c=rq a*rq b:=by have hd:dv a*dv b≠0:=Nat.mul_ne_zero (H8 a) (H8 b);have h1:=ha.nv;have h2:=ha.dv;have h3:=hb.nv;have h:=hb.dv;have g:=Jp (nv a) (nv b);have f:=Jp (dv a) (dv b);refine⟨_,Agn a b j k ha hb ω ω,Oi _ _ _ _ ω ω ω,Vd _ _ _ hd,?_⟩;rw[Qw _ _ _ hd,A6y,rq,rq,Rat.mkRat_mul_mkRat]
def Nq (x:Rat):Int:=if x<0 then -1 else if 0<x then 1 else 0
theorem A6z (a:Ao):rq a<0↔K6 (sv a) (nv a) = -1:=by have e:(0:Rat)=mkRat 0 1:=ψ;rw[rq,e,Auh _ _ (H8 a) δ];unfold sg K6;split <;> split <;> simp <;> omega
theorem A60 (a:Ao):0<rq a↔K6 (sv a) (nv a)=1:=by have e:(0:Rat)=mkRat 0 1:=ψ;rw[rq,e,Auh _ _ δ (H8 a)];unfold sg K6;split <;> split <;> simp <;> omega
theorem A61 (a:Ao):K6 (sv a) (nv a)=Nq (rq a):=by
 have h1:=A6z a;have h2:=A60 a;have h3:K6 (sv a) (nv a) = -1\/K6 (sv a) (nv a)=0\/K6 (sv a) (nv a)=1:=by unfold K6;split <;> (try split) <;> simp
 unfold Nq;split
 .rename_i h;exact h1.1 h
 .rename_i h;split
  .rename_i h';exact h2.1 h'
  .rename_i h';rcases h3 with h3|h3|h3
   .exact (h (h1.2 h3)).elim
   .exact h3
   .exact (h' (h2.2 h3)).elim
theorem Agx (h:RB k a) (hk:k<34359738000):Ir a=some (Nq (rq a))/\True:=by rw[<-A61];exact⟨Agm a k h ω,trivial⟩
structure F8 {α:Type} (S:α->Prop) (g:α->α->Int):Prop where
 zero:∀a b,S a->S b->(g a b=0↔a=b)
 anti:∀a b,S a->S b->g b a = - g a b
 trans:∀a b c,S a->S b->S c->g a b<0->g b c<0->g a c<0
theorem F8.cmpI:F8 (λ_:Int=>True) Gy:=by
 refine⟨λa b _ _=>Ks,λa b _ _=>?_,λa b c _ _ _=>?_⟩
 .unfold Go.Ab.Gy;split <;> split <;> (try split) <;> (try split) <;> omega
 .unfold Go.Ab.Gy;intro h1 h2;split at h1 <;> (try split at h1) <;> split at h2 <;> (try split at h2) <;> first|omega | (rw[Av ω];decide)
theorem Auj {x:Int}:orI x y<0↔x<0\/(x=0/\y<0):=by unfold orI;split <;> omega
theorem Auk {x:Int}:orI x y=0↔x=0/\y=0:=by unfold orI;split <;> omega
theorem F8.or {γ:Type} {S:α->Prop} {s:β->Prop} {l:γ->Prop} {j:β->β->Int} {i:γ->γ->Int} (p:α->β) (q:α->γ) (g:∀a b,p a=p b->q a=q b->a=b) (h1:F8 s j) (h2:F8 l i) (f:∀a,S a->s (p a)/\l (q a)) : F8 S (λa b=>orI (j (p a) (p b)) (i (q a) (q b))):=by
 refine⟨λa b ha hb=>?_,λa b ha hb=>?_,λa b c ha hb hc=>?_⟩
 .rw[Auk,h1.zero _ _ (f a ha).1 (f b hb).1,h2.zero _ _ (f a ha).2 (f b hb).2];exact⟨λh=>g a b h.1 h.2,λh=>by subst h;exact⟨rfl,rfl⟩⟩
 .show orI (j (p b) (p a)) (i (q b) (q a)) = - orI (j (p a) (p b)) (i (q a) (q b));have z:=h1.anti _ _ (f a ha).1 (f b hb).1;have y:=h2.anti _ _ (f a ha).2 (f b hb).2;rw[z,y];unfold orI;split <;> split <;> omega
 .show orI _ _<0->orI _ _<0->orI _ _<0;simp only[Auj];have u:=h1.zero _ _ (f a ha).1 (f b hb).1;have z2:=h1.zero _ _ (f b hb).1 (f c hc).1;have t1:=h1.trans _ _ _ (f a ha).1 (f b hb).1 (f c hc).1;have t2:=h2.trans _ _ _ (f a ha).2 (f b hb).2 (f c hc).2;rintro (h|⟨h,h'⟩) (k|⟨k,x⟩)
  .exact .inl (t1 h k)
  .rw[<-z2.1 k];exact .inl h
  .rw[u.1 h];exact .inl k
  .rw[<-z2.1 k,h];exact .inr ⟨rfl,t2 h' x⟩
theorem F8.mono {S S':α->Prop} {g:α->α->Int} (h:F8 S g) (f:∀a,S' a->S a):F8 S' g := ⟨λa b ha hb=>h.zero a b (f a ha) (f b hb),λa b ha hb=>h.anti a b (f a ha) (f b hb),λa b c ha hb hc=>h.trans a b c (f a ha) (f b hb) (f c hc)⟩
theorem F8.congr {S:α->Prop} {g c:α->α->Int} (h:F8 S g) (e:∀a b,c a b=g a b):F8 S c:=by have:c=g:=funext λa=>funext λb=>e a b;rw[this];exact h
def LL (g:α->α->Int) (l m:List α):Int:=if l.length=m.length then Gz g l m else Go.Ab.Gy l.length m.length
theorem Aul {α:Type} {S:α->Prop} {g:α->α->Int} (h:F8 S g):∀l m:List α,l.length=m.length->(∀x∈l,S x)->(∀x∈m,S x)->(Gz g l m=0↔l=m)
 | [],[],_,_,_=>by simp[Gz]
 | x::xs,y::ys,b,h1,h2=>by simp only[Gz,Auk,h.zero x y (h1 x ψ) (h2 y ψ),Aul h xs ys (by simpa using b) (λz c=>h1 z (by simp[c])) (λz c=>h2 z (by simp[c])),List.cons.injEq]
 | [],_::_,b,_,_=>by simp at b
 | _::_,[],b,_,_=>by simp at b
theorem Aum {α:Type} {S:α->Prop} {g:α->α->Int} (h:F8 S g):∀l m:List α,l.length=m.length->(∀x∈l,S x)->(∀x∈m,S x)->Gz g m l = - Gz g l m
 | [],[],_,_,_=>by simp[Gz]
 | x::xs,y::ys,b,h1,h2=>by simp only[Gz,h.anti x y (h1 x ψ) (h2 y ψ),Aum h xs ys (by simpa using b) (λz c=>h1 z (by simp[c])) (λz c=>h2 z (by simp[c]))];unfold orI;split <;> split <;> omega
 | [],_::_,b,_,_=>by simp at b
 | _::_,[],b,_,_=>by simp at b
theorem Aun {α:Type} {S:α->Prop} {g:α->α->Int} (h:F8 S g):∀l m n:List α,l.length=m.length->m.length=n.length->(∀x∈l,S x)->(∀x∈m,S x)->(∀x∈n,S x)->Gz g l m<0->Gz g m n<0->Gz g l n<0
 | [],[],_,_,_,_,_,_=>by intro h;simp[Gz]at h
 | x::xs,y::ys,z::j,f,i,h1,h2,h3=>by
  simp only[Gz,Auj];have k:=h.zero x y (h1 x ψ) (h2 y ψ);have z2:=h.zero y z (h2 y ψ) (h3 z ψ);have t1:=h.trans x y z (h1 x ψ) (h2 y ψ) (h3 z ψ);have t2:=Aun h xs ys j (by simpa using f) (by simpa using i) (λz c=>h1 z (by simp[c])) (λz c=>h2 z (by simp[c])) (λz c=>h3 z (by simp[c]));rintro (a|⟨a,s⟩) (b|⟨b,q⟩)
  .exact .inl (t1 a b)
  .rw[<-z2.1 b];exact .inl a
  .rw[k.1 a];exact .inl b
  .rw[<-z2.1 b,a];exact .inr ⟨rfl,t2 s q⟩
 | _::_,_::_,[],_,i,_,_,_=>by simp at i
 | [],_::_,_,f,_,_,_,_=>by simp at f
 | _::_,[],_,f,_,_,_,_=>by simp at f
theorem F8.ll {S:α->Prop} {g:α->α->Int} (h:F8 S g):F8 (λl=>∀x∈l,S x) (LL g):=by
 have c:=F8.cmpI;refine⟨λa b ha hb=>?_,λa b ha hb=>?_,λx y z hx hy q=>?_⟩
 .unfold LL;split
  .rename_i i;exact Aul h a b i ha hb
  .rename_i i;rw[Ks];exact⟨λe=>(i ω).elim,λe=>(i (by rw[e])).elim⟩
 .unfold LL;by_cases i:a.length=b.length
  .rw[Av i,Av i.symm];exact Aum h a b i ha hb
  .rw[Ar i,Ar (λe=>i e.symm)];exact c.anti _ _ trivial trivial
 .unfold LL;intro h1 h2;have neg:∀a b:Int,Go.Ab.Gy a b<0->a<b:=(by intro a b h;unfold Go.Ab.Gy at h;split at h <;> (try split at h) <;> omega);have f:∀a b:Int,a<b->Go.Ab.Gy a b<0:=(by intro a b h;unfold Go.Ab.Gy;rw[Av h];decide);by_cases k:x.length=y.length
  .rw[Av k]at h1;by_cases j:y.length=z.length
   .rw[Av j]at h2;rw[Av ω];exact Aun h x y z k j hx hy q h1 h2
   .rw[Ar j]at h2;rw[Ar ω];have:=neg _ _ h2;exact f _ _ ω
  .rw[Ar k]at h1;have:=neg _ _ h1;by_cases j:y.length=z.length
   .rw[Ar ω];exact f _ _ ω
   .rw[Ar j]at h2;have:=neg _ _ h2;rw[Ar ω];exact f _ _ ω
theorem Auo (g:α->α->Int) (l m:List α) (y:Int):orI (LL g l m) y=if l.length=m.length then orI (Gz g l m) y else Go.Ab.Gy l.length m.length:=by
 unfold LL;by_cases h:l.length=m.length
 .rw[Av h,Av h]
 .rw[Ar h,Ar h];unfold orI;rw[Ar (λe=>h (by have:=Ks.1 e;omega))]
theorem A62:F8 (λ_=>True) Abe := (F8.or (S:=λ_=>True) (λt:Es=>t.v) (λt=>t.C) (λa b h1 h2=>by cases a;cases b;cases h1;cases h2;rfl) F8.cmpI F8.cmpI (λ_ _=>⟨trivial,trivial⟩)).congr λ_ _=>rfl
theorem K7:F8 (λ_=>True) Ez := (F8.or (S:=λ_=>True) (λt:Bn=>t.T) (λt=>t.Q) (λa b h1 h2=>by cases a;cases b;cases h1;cases h2;rfl) A62.ll F8.cmpI (λ_ _=>⟨λ_ _=>trivial,trivial⟩)).congr λa b=>by show Ez a b=orI (LL Abe a.T b.T) (Go.Ab.Gy a.Q b.Q);rw[Auo];rfl
theorem A63 (i j:Ah):G8 i j=orI (Go.Ab.Gy i.U j.U) (LL G8 i.K j.K):=by
 rw[Ate,Ali];unfold orI LL;by_cases h:i.U=j.U
 .rw[Av h,Av (Ks.2 h)]
 .rw[Ar h,Ar (λe=>h (Ks.1 e))]
theorem Alu:∀n:Nat,F8 (λi=>Bv i<=n) G8:=by intro n;induction n with| zero=>exact⟨λa _ ha=>by have:=El a;omega,λa _ ha=>by have:=El a;omega,λa _ _ ha=>by have:=El a;omega⟩| succ n ih=>refine (F8.or (S:=λi=>Bv i<=n+1) (λi:Ah=>i.U) (λi=>i.K) (λa b h1 h2=>by cases a;cases b;cases h1;cases h2;rfl) F8.cmpI ih.ll ?_).congr A63;intro i hi;refine⟨trivial,λx hx=>?_⟩;have h1:=Kd hx;have h2:=El i;show Bv x<=n;omega
theorem Agy:F8 (λ_=>True) G8 := ⟨λa b _ _=>(Alu (max (Bv a) (Bv b))).zero a b (by show Bv a<=_;omega) (by show Bv b<=_;omega),λa b _ _=>(Alu (max (Bv a) (Bv b))).anti a b (by show Bv a<=_;omega) (by show Bv b<=_;omega),
  λa b c _ _ _=>(Alu (max (Bv a) (max (Bv b) (Bv c)))).trans a b c (by show Bv a<=_;omega) (by show Bv b<=_;omega) (by show Bv c<=_;omega)⟩
theorem A64:F8 (λ_=>True) Xt := (F8.or (S:=λ_=>True) (λt:Bb=>t.v) (λt=>t.I) (λa b h1 h2=>by cases a;cases b;cases h1;cases h2;rfl) F8.cmpI Agy (λ_ _=>⟨trivial,trivial⟩)).congr λ_ _=>rfl
theorem A65:F8 (λ_=>True) Abf := (F8.or (S:=λ_=>True) (λt:Bd=>t.L) (λt=>t.P) (λa b h1 h2=>by cases a;cases b;cases h1;cases h2;rfl) K7 F8.cmpI (λ_ _=>⟨trivial,trivial⟩)).congr λ_ _=>rfl
theorem Alv:F8 (λ_=>True) Ey := (F8.or (S:=λ_=>True) (λt:A3=>t.F) (λt=>t.A) (λa b h1 h2=>by cases a;cases b;cases h1;cases h2;rfl) A64.ll A65.ll (λ_ _=>⟨λ_ _=>trivial,λ_ _=>trivial⟩)).congr λa b=>by show Ey a b=orI (LL Xt a.F b.F) (LL Abf a.A b.A);rw[Auo];rfl
theorem Qx {a b:A3}:Ey a b=0↔a=b:=Alv.zero a b trivial trivial
theorem X0 (a b:A3):Ey b a = - Ey a b:=Alv.anti a b trivial trivial
theorem X1 {a b c:A3} (h:Ey a b<0) (h':Ey b c<0):Ey a c<0:=Alv.trans a b c trivial trivial trivial h h'
theorem Aup (m:A3):Ey m m=0:=Qx.2 rfl
theorem Alw {a b:A3}:0<Ey a b↔Ey b a<0:=by rw[X0 a b];omega
def cf:List Aj->A3->Rat
 | [],_=>0
 | t::p,m=>(if Ey t.M m=0 then rq t.C else 0)+cf p m
def ltT (t u:Aj):Prop:=Ey t.M u.M<0
structure CP (p:List Aj):Prop where
 srt:p.Pairwise ltT
 coe:∀t∈p,Hr t.C/\rq t.C≠0
theorem CP.tail (h:CP (t::p)):CP p:=⟨(pairwise_cons.1 h.srt).2,λu hu=>h.coe u (by simp[hu])⟩
theorem CP.head (h:CP (t::p)):∀u∈p,Ey t.M u.M<0:=(pairwise_cons.1 h.srt).1
theorem CP.nil:CP []:=⟨Pairwise.nil,λ_ h=>by cases h⟩
theorem CP.cons {t:Aj} {p:List Aj} (h:CP p) (h1:∀u∈p,Ey t.M u.M<0) (h2:Hr t.C) (h3:rq t.C≠0):CP (t::p) := ⟨pairwise_cons.2 ⟨h1,h.srt⟩,λu hu=>by
  rcases Gi.1 hu with rfl|hu
  .exact⟨h2,h3⟩
  .exact h.coe u hu⟩
theorem A66 (h:∀t∈p,Ey t.M m≠0):cf p m=0:=by induction p with| nil=>rfl| cons t p ih=>simp only[cf];rw[Ar (h t ψ),ih (λu hu=>h u (by simp[hu]))];grind
theorem Abn (h:∀t∈p,Ey m t.M<0):cf p m=0 := A66 λt ht e=>by have:=h t ht;rw[X0,e]at this;omega
theorem Ve (h:CP (t::p)):cf (t::p) t.M=rq t.C:=by simp only[cf];rw[Av (Aup _),Abn h.head];grind
theorem Alx (h:Ey t.M m≠0):cf (t::p) m=cf p m:=by simp only[cf];rw[Ar h];grind
theorem Agz (p q:List Aj) (m:A3):cf (p++q) m=cf p m+cf q m:=by induction p with| nil=>simp only[nil_append,cf];grind| cons t p ih=>simp only[D9,cf,ih];grind
theorem A67 (h:CP p) (ht:t∈p):cf p t.M=rq t.C:=by
 induction p with
 | nil=>cases ht
 | cons u p ih=>
  rcases Gi.1 ht with rfl|ht
  .exact Ve h
  .have:=h.head t ht;rw[Alx ω];exact ih h.tail ht
theorem CP.ext:∀{p q:List Aj},CP p->CP q->(∀m,cf p m=cf q m)->p=q
 | [],[],_,_,_=>rfl
 | [],u::q,_,h2,h=>by have:=h u.M;rw[Ve h2]at this;exact ((h2.coe u ψ).2 this.symm).elim
 | t::p,[],h1,_,h=>by have:=h t.M;rw[Ve h1]at this;exact ((h1.coe t ψ).2 this).elim
 | t::p,u::q,h1,h2,h=>by
  have b:Ey t.M u.M=0:=by
   rcases Int.lt_trichotomy (Ey t.M u.M) 0 with k|k|k
   .have e:=h t.M;rw[Ve h1,Abn (p:=u::q)]at e
    .exact ((h1.coe t ψ).2 e).elim
    .intro w hw;rcases Gi.1 hw with rfl|hw
     .exact k
     .exact X1 k (h2.head w hw)
   .exact k
   .have k:=Alw.1 k;have e:=h u.M;rw[Ve h2,Abn (p:=t::p)]at e
    .exact ((h2.coe u ψ).2 e.symm).elim
    .intro w hw;rcases Gi.1 hw with rfl|hw
     .exact k
     .exact X1 k (h1.head w hw)
  have c:=Qx.1 b;have hc:t.C=u.C:=(by refine Agv (h1.coe t ψ).1 (h2.coe u ψ).1 ?_;have e:=h t.M;rw[Ve h1,c,Ve h2]at e;exact e);have ht:t=u:=(by cases t;cases u;simp_all);subst ht;congr 1;refine CP.ext h1.tail h2.tail λm=>?_;by_cases e:Ey t.M m=0
  .rw[<-Qx.1 e,Abn h1.head,Abn h2.head]
  .have:=h m;rwa [Alx e,Alx e]at this
theorem Auq (c:Ao):Abj c=true↔Hr c/\rq c≠0:=by
 unfold Abj Hr;rw[Ct,At6];have h:(!(nv c==0))=true↔rq c≠0:=by have e:rq c=0↔nv c=0:=(by unfold rq;rw[Rat.mkRat_eq_zero (H8 c)];unfold sg;split <;> omega);rw[Ne,e];simp
 rw[h];exact⟨λ⟨a,b⟩=>⟨a.symm,b⟩,λ⟨a,b⟩=>⟨a.symm,b⟩⟩
theorem A68 {l:List Aj} (h:∀(j:Nat) (x y:Aj),l[j]? = some x->l[j+1]? = some y->Ey x.M y.M<0):l.Pairwise ltT:=by
 induction l with
 | nil=>exact Pairwise.nil
 | cons t l ih=>
  have ih:=ih λj x y hx hy=>h (j+1) x y (by simpa using hx) (by simpa using hy);refine pairwise_cons.2 ⟨?_,ih⟩;cases l with
  | nil=>intro u hu;cases hu
  | cons v l=>
   have h0:=h 0 t v rfl rfl;intro u hu;rcases Gi.1 hu with rfl|hu
   .exact h0
   .exact X1 h0 ((pairwise_cons.1 ih).1 u hu)
theorem Abo:I4 data vars res p=true↔p.length<=1000/\CP p/\∀t∈p,Jq data vars res t.M=true:=by
 unfold I4;rw[Ct,Du];constructor
 .rintro⟨h1,h2⟩;have g:∀(j:Nat) (t:Aj),p[j]? = some t->Abj t.C=true/\Jq data vars res t.M=true/\Va p t j=true:=(by intro j t hj;have:=Is h2 hj;simp only[Xy,Ct]at this;exact⟨this.1.1,this.1.2,this.2⟩);refine⟨h1,⟨A68 λj x y hx hy=>?_,λt ht=>?_⟩,λt ht=>?_⟩
  .have:=(g _ _ hy).2.2;unfold Va at this;rw[show j+1-1=j by omega,hx]at this;simpa using this
  .obtain⟨j,hj⟩:=Hi ht;exact (Auq _).1 (g j t hj).1
  .obtain⟨j,hj⟩:=Hi ht;exact (g j t hj).2.1
 .rintro⟨h1,h2,h3⟩;refine⟨h1,G7.2 λq hq=>?_⟩;have hq:=mem_zipIdx' hq;have hj:p[q.2]? = some q.1:=(Bs hq.1).trans (congrArg some hq.2.symm);have c:q.1∈p:=Bu hj;simp only[Xy,Ct];refine⟨⟨(Auq _).2 (h2.coe _ c),h3 _ c⟩,?_⟩;unfold Va;by_cases h0:q.2=0
  .rw[h0];rfl
  .have b:q.2-1<p.length:=ω;rw[Bs b];have:=pairwise_iff_getElem.1 h2.srt (q.2-1) q.2 b hq.1 ω;rw[<-hq.2]at this;simp only[Bool.or_eq_true,Du];exact .inr this
theorem Aur:∀(k:Nat) (t:Ah),Bv t<=k->k<1099511627776->Qg k t=some t:=by
 intro k;induction k with
 | zero=>intro t h;have:=El t;omega
 | succ k ih=>
  intro t h hk;have c:=El t;have b:=Pi t.K;rw[Qg];refine F6 t.K (λj=>((j:Int),(t.K.take j))) rfl ω ?_ ?_
  .intro j x hj hx h1 h2 h3;have:=Kd (Bu hx);simp only[h1,h2,h3,Am,Ad,ih x ω ω];rw[D2 ζ,Ad,C4 hx]
  .intro h1;exact⟨t.K,ψ,by cases t;rfl⟩
theorem A69 (m:A3) (b:MSz m):Z2 m=some m:=by
 have g:=b.nf;have f:=b.na;unfold Z2;refine F6 m.F (λj=>((j:Int),(m.F.take j))) rfl ω ?_ ?_
 .intro j x hj hx h1 h2 h3;have c:=Bu hx;have:=b.fi x c;simp only[h1,h2,h3,Am,Ad,Aur 4000000 x.I ω ω];rw[D2 ζ,Ad,C4 hx]
 .intro h1;refine⟨m.F,ψ,?_⟩;dsimp only;refine F6 m.A (λj=>((j:Int),(m.A.take j))) rfl ω ?_ ?_
  .intro j x hj hx h1 h2 h3;have c:=Bu hx;have:=b.al x c;simp only[h1,h2,h3,Am,Ad,Ae7];rw[D2 ζ,Ad,D2 ζ,Ad,C4 hx];rfl
  .intro h1;exact⟨m.A,ψ,by cases m;rfl⟩
structure TB (k:Nat) (t:Aj):Prop where
 co:RB k t.C
 mo:MSz t.M
theorem TSz.tb (h:TSz t):TB 1048576 t:=⟨h.co,h.mo⟩
theorem TB.mono (h:TB j t) (hk:j<=k):TB k t:=⟨h.co.mono hk,h.mo⟩
theorem A7a (c:Ao):rq c=0↔nv c=0:=by unfold rq;rw[Rat.mkRat_eq_zero (H8 c)];unfold sg;split <;> omega
def J2 (n:Int) (f:Bool):List Int:=if f then (if n<0 then [45] else []) else (if n<0 then [32,45,32] else [32,43,32])
def K8 (n:Int):List Int:=if n.natAbs=1 then [] else ti n.natAbs++[42]
def Ke (v:Int):List Int:=if v = -1 then [114,101,115] else 118::ti v
def tT (f:Bool) (t:Es):List Int:=J2 t.C f++(K8 t.C++Ke t.v)
def I5:Bool->List Es->Int->List Int
 | f,[],c=>if c≠0\/f=true then J2 c f++ti c.natAbs else []
 | f,t::ts,c=>tT f t++I5 false ts c
def Abp (l:Bn):List Int:=I5 true l.T l.Q
def Jr (X:List Int):Prop:=∀c m,X=c::m->c=97
theorem Jr.nil:Jr []:=by intro c m h;cases h
theorem Jr.cons (X:List Int):Jr (97::X):=by intro c m h;cases h;rfl
theorem Jr.nonum (h:Jr X):Mn X:=by intro c m e;rw[h c m e];decide
theorem Aly (n:Nat):∃c m,ti n=c::m/\48<=c/\c<=57:=by
 have b:=Af7 (n:Int);cases h:ti (n:Int) with
 | nil=>exact (b h).elim
 | cons c m=>refine⟨c,m,rfl,?_⟩;have hc:c∈ti (n:Int):=(by rw[h];simp);unfold ti at hc;obtain⟨x,hx,rfl⟩:=mem_map.1 hc;have e:Lib.itoa (n:Int)=Lib.decDigits n:=(by unfold Lib.itoa;first|rfl | (rw[Ar ω];simp) | simp);rw[e]at hx;have:=Af5 n n (Nat.le_refl _) x hx;omega
theorem Aus (ts:List Es) (c:Int) (b:Jr X):Mn (I5 false ts c++X):=by
 have k:∀(n:Int) (Y:List Int),Mn (J2 n false++Y):=by intro n Y c m e;unfold J2 at e;simp only[Bool.false_eq_true,if_false]at e;split at e <;> (cases e;decide)
 cases ts with
 | nil=>
  simp only[I5];split
  .rw[append_assoc];exact k _ _
  .exact b.nonum
 | cons t ts=>simp only[I5,tT,append_assoc];exact k _ _
theorem Aut (c:Mn R) (b:Mn S) (h:Ke v++R=Ke w++S):v=w/\R=S:=by
 unfold Ke at h;split at h <;> split at h
 .simp only[D9,nil_append,List.cons.injEq,true_and]at h;exact⟨ω,h⟩
 .simp at h
 .simp at h
 .simp only[D9,List.cons.injEq,true_and]at h;obtain⟨g,f⟩:=Qs _ _ _ _ (Jj v) (Jj w) c b h;exact⟨U4 g,f⟩
theorem Alz (v:Int):∃c m,Ke v=c::m/\(c=114\/c=118):=by
 unfold Ke;split
 .exact⟨_,_,rfl,.inl rfl⟩
 .exact⟨_,_,rfl,.inr rfl⟩
theorem Al0 (X:List Int):Mn (42::X):=by intro c m e;cases e;decide
theorem A7b {a b:Int} (i:Mn R) (g:Mn S) (h:K8 a++(Ke v++R)=K8 b++(Ke w++S)):a.natAbs=b.natAbs/\v=w/\R=S:=by
 unfold K8 at h;have bad:∀(n:Nat) (u:Int) (X Y:List Int),Ke u++X=ti n++[42]++Y->False:=by intro n u X Y e;obtain⟨c,m,f,q⟩:=Alz u;obtain⟨d,k,l,j⟩:=Aly n;rw[f,l]at e;simp only[D9,List.cons.injEq]at e;omega
 split at h <;> split at h
 .rename_i h1 h2;simp only[nil_append]at h;exact⟨h1.trans h2.symm,Aut i g h⟩
 .exact (bad _ _ _ _ h).elim
 .exact (bad _ _ _ _ h.symm).elim
 .simp only[append_assoc,D9,nil_append]at h;obtain⟨f,q⟩:=Qs _ _ _ _ (Jj _) (Jj _) (Al0 _) (Al0 _) h;have l:=U4 f;obtain⟨j,s⟩:=Aut i g (List.cons.inj q).2;exact⟨ω,j,s⟩
def NoM (P:List Int):Prop:=∃c m,P=c::m/\c≠45
theorem NoM.ti (n:Nat) (X:List Int):NoM (Go.Ab.ti n++X):=by obtain⟨c,m,e,h⟩:=Aly n;exact⟨c,m++X,by rw[e];rfl,ω⟩
theorem NoM.pT (a v:Int) (X:List Int):NoM (K8 a++(Ke v++X)):=by
 unfold K8;split
 .obtain⟨c,m,e,h⟩:=Alz v;exact⟨c,m++X,by rw[e];rfl,ω⟩
 .rw[append_assoc];exact NoM.ti _ _
theorem Al1 {a b:Int} {f:Bool} {Q:List Int} (i:NoM P) (g:NoM Q) (h:J2 a f++P=J2 b f++Q):(a<0↔b<0)/\P=Q:=by
 obtain⟨c,m,rfl,hc⟩:=i;obtain⟨d,k,rfl,hd⟩:=g;unfold J2 at h;cases f with
 | true=>
  simp only[if_true]at h;split at h <;> split at h
  .rename_i h1 h2;exact⟨by simp[h1,h2],by simpa using h⟩
  .simp at h;exact (hd h.1.symm).elim
  .simp at h;exact (hc h.1).elim
  .rename_i h1 h2;exact⟨by simp[h1,h2],by simpa using h⟩
 | false=>
  simp only[Bool.false_eq_true,if_false]at h;split at h <;> split at h
  .rename_i h1 h2;exact⟨by simp[h1,h2],by simpa using h⟩
  .simp at h
  .simp at h
  .rename_i h1 h2;exact⟨by simp[h1,h2],by simpa using h⟩
theorem Al2 (b:Jr X) (h:J2 n false++P=X):False:=by
 unfold J2 at h;simp only[Bool.false_eq_true,if_false]at h;split at h
 .have:=b _ _ h.symm;omega
 .have:=b _ _ h.symm;omega
theorem Auu {c:Int} {f:Bool} {u:Es} {m:List Es} {Y:List Int} (b:Jr X) (k:Jr Y) (h:I5 f [] c++X=I5 f (u::m) d++Y):False:=by
 simp only[I5,tT]at h;split at h
 .simp only[append_assoc]at h;obtain⟨_,e⟩:=Al1 (NoM.ti _ _) (NoM.pT _ _ _) h;unfold K8 at e;split at e
  .obtain⟨c1,m1,j,h1⟩:=Alz u.v;obtain⟨c2,m2,g,h2⟩:=Aly c.natAbs;rw[j,g]at e;simp only[nil_append,D9,List.cons.injEq]at e;omega
  .simp only[append_assoc,D9,nil_append]at e;obtain⟨_,g⟩:=Qs _ _ _ _ (Jj _) (Jj _) b.nonum (Al0 _) e;have:=b _ _ g;omega
 .rename_i i;have hf:f=false:=(by cases f with|true=>simp at i|false=>rfl);subst hf;simp only[nil_append,append_assoc]at h;exact Al2 b h.symm
theorem Auv:∀(l m:List Es) (f:Bool) (c d:Int) (X Y:List Int),Jr X->Jr Y->I5 f l c++X=I5 f m d++Y->l=m/\c=d/\X=Y
 | [],[],f,c,d,X,Y,g,b,h=>by
  simp only[I5]at h;split at h <;> split at h
  .simp only[append_assoc]at h;obtain⟨x,q⟩:=Al1 (NoM.ti _ _) (NoM.ti _ _) h;obtain⟨j,i⟩:=Qs _ _ _ _ (Jj _) (Jj _) g.nonum b.nonum q;have s:=U4 j;exact⟨rfl,ω,i⟩
  .rename_i h1 h2;have hf:f=false:=(by cases f with|true=>simp at h2|false=>rfl);subst hf;simp only[append_assoc,nil_append]at h;exact (Al2 b h).elim
  .rename_i h1 h2;have hf:f=false:=(by cases f with|true=>simp at h1|false=>rfl);subst hf;simp only[append_assoc,nil_append]at h;exact (Al2 g h.symm).elim
  .rename_i h1 h2;refine⟨rfl,?_,by simpa using h⟩;have a1:c=0:=(by by_cases k:c=0;exact k;exact (h1 (.inl k)).elim);have a2:d=0:=(by by_cases k:d=0;exact k;exact (h2 (.inl k)).elim);omega
 | [],u::m,f,c,d,X,Y,g,b,h=>(Auu g b h).elim
 | t::l,[],f,c,d,X,Y,g,b,h=>(Auu b g h.symm).elim
 | t::l,u::m,f,c,d,X,Y,g,b,h=>by simp only[I5,tT,append_assoc]at h;obtain⟨x,q⟩:=Al1 (NoM.pT _ _ _) (NoM.pT _ _ _) h;obtain⟨j,i,s⟩:=A7b (Aus _ _ g) (Aus _ _ b) q;obtain⟨A,z,y⟩:=Auv l m false c d X Y g b s;have:t=u:=(by cases t;cases u;simp only at x j i;subst i;congr 1;omega);exact⟨by rw[this,A],z,y⟩
def Iu (a:Bd):List Int:=97::(ti a.P++58::Abp a.L)
def D3 (f:Bb):List Int:=K5 f.v f.I
def Abq (m:A3):List Int:=m.F.flatMap D3++m.A.flatMap Iu
theorem Ag0 (l:List Bd):Jr (l.flatMap Iu):=by cases l with| nil=>exact Jr.nil| cons a l=>simp only[flatMap_cons,Iu,D9];exact Jr.cons _
theorem Ag1 (X:List Int):Mn (58::X):=by intro c m e;cases e;decide
theorem Auw:∀(l m:List Bd),l.flatMap Iu=m.flatMap Iu->l=m
 | [],[],_=>rfl
 | [],b::m,h=>by simp[Iu]at h
 | a::l,[],h=>by simp[Iu]at h
 | a::l,b::m,h=>by simp only[flatMap_cons,Iu,D9,append_assoc,List.cons.injEq,true_and]at h;obtain⟨s,q⟩:=Qs _ _ _ _ (Jj _) (Jj _) (Ag1 _) (Ag1 _) h;have k:=(List.cons.inj q).2;obtain⟨g,f,j⟩:=Auv _ _ true _ _ _ _ (Ag0 l) (Ag0 m) k;have i:=Auw l m j;have c:=U4 s;obtain⟨⟨c1,t1⟩,d1⟩:=a;obtain⟨⟨c2,t2⟩,d2⟩:=b;simp only at g f c;rw[g,f,c,i]
theorem Aux (l:List Bb) (b:Jr X):Sj (l.flatMap D3++X):=by cases l with| nil=>intro c m e;rw[b c m e];exact⟨δ,δ⟩| cons a l=>intro c m e;simp only[flatMap_cons,D3,K5,D9]at e;cases e;exact⟨δ,δ⟩
theorem Al3:∀(l m:List Bb) (X Y:List Int),Jr X->Jr Y->l.flatMap D3++X=m.flatMap D3++Y->l=m/\X=Y
 | [],[],X,Y,_,_,h=>⟨rfl,by simpa using h⟩
 | [],b::m,X,Y,f,_,h=>by simp only[flatMap_cons,flatMap_nil,D3,K5,D9,nil_append]at h;have:=f _ _ h;omega
 | a::l,[],X,Y,_,c,h=>by simp only[flatMap_cons,flatMap_nil,D3,K5,D9,nil_append]at h;have:=c _ _ h.symm;omega
 | a::l,b::m,X,Y,f,c,h=>by simp only[flatMap_cons,D3,K5,D9,append_assoc,List.cons.injEq,true_and]at h;obtain⟨x,u⟩:=Qs _ _ _ _ (Jj _) (Jj _) (Ag1 _) (Ag1 _) h;have s:=(List.cons.inj u).2;obtain⟨i,q⟩:=Aga _ _ _ _ (Aux l f) (Aux m c) s;obtain⟨k,j⟩:=Al3 l m X Y f c q;have g:=U4 x;obtain⟨y,i1⟩:=a;obtain⟨v2,i2⟩:=b;simp only at i g;exact⟨by rw[i,g,k],j⟩
theorem A7c {n:A3} (h:Abq m=Abq n):m=n:=by obtain⟨c,f⟩:=Al3 _ _ _ _ (Ag0 _) (Ag0 _) h;have b:=Auw _ _ f;cases m;cases n;simp only at c b;rw[c,b]
def By (l:List Int):Prop:=∀c∈l,0<=c/\c<256
theorem By.app {m:List Int} (h:By l) (h':By m):By (l++m):=by
 intro c hc;rcases Ej.1 hc with k|k
 .exact h c k
 .exact h' c k
theorem By.ti (n:Int):By (Go.Ab.ti n):=by intro c h;have:=Jj n c h;simp only[Qq,Bool.or_eq_true,Ct,beq_iff_eq,Du]at this;omega
theorem By.cons {c:Int} {l:List Int} (hc:0<=c/\c<256) (h:By l):By (c::l):=by
 intro d hd;rcases Gi.1 hd with rfl|k
 .exact hc
 .exact h d k
theorem By.nil:By []:=λc h=>by cases h
theorem By.sgn (n:Int) (f:Bool):By (J2 n f):=by unfold J2;split <;> split <;> intro c hc <;> simp at hc <;> omega
theorem By.mag (n:Int):By (K8 n):=by
 unfold K8;split
 .exact By.nil
 .exact (By.ti _).app (By.cons ω By.nil)
theorem By.var (n:Int):By (Ke n):=by
 unfold Ke;split
 .intro c hc;simp at hc;omega
 .exact By.cons ω (By.ti _)
theorem By.tT (f:Bool) (t:Es):By (tT f t):=(By.sgn _ _).app ((By.mag _).app (By.var _))
theorem By.lins:∀(l:List Es) (f:Bool) (c:Int),By (I5 f l c)
 | [],f,c=>by
  simp only[I5];split
  .exact (By.sgn _ _).app (By.ti _)
  .exact By.nil
 | t::l,f,c=>(By.tT f t).app (By.lins l false c)
theorem By.at (a:Bd):By (Iu a):=By.cons ω ((By.ti _).app (By.cons ω (By.lins _ _ _)))
theorem By.flat (h:∀a,By (g a)) (l:List α):By (l.flatMap g):=by intro c hc;obtain⟨a,_,k⟩:=mem_flatMap.1 hc;exact h a c k
theorem By.fac (f:Bb):By (D3 f):=Agc f.v f.I
theorem By.mono (m:A3):By (Abq m):=(By.flat By.fac _).app (By.flat By.at _)
def bs (l:List Int):ByteArray:=⟨(Fm l).toArray⟩
theorem Al4 {m:List Int} (c:By l) (b:By m) (h:bs l=bs m):l=m:=by
 unfold bs at h;have h1:(Fm l).toArray=(Fm m).toArray:=by injection h
 have h2:Fm l=Fm m:=by simpa using congrArg Array.toList h1
 exact Alg _ _ c b h2
def L8 (m:A3):ByteArray:=bs (Abq m)
theorem Auy {n:A3} (h:L8 m=L8 n):m=n:=A7c (Al4 (By.mono m) (By.mono n) h)
theorem X2 (l:List Int):(bs l).size=l.length:=by unfold bs Fm;simp[ByteArray.size]
theorem Auz (h:By l):N6 (bs l)=l:=by
 unfold N6 bs Fm
 simp only[map_map]
 conv=>rhs;rw[<-map_id l]
 refine map_congr_left λc hc=>?_
 have:=h c hc
 simp only[Function.comp,UInt8.toNat_ofNat',id]
 omega
theorem A7d (l m:List Int):bs l++bs m=bs (l++m):=by apply ByteArray.ext;rw[ByteArray.data_append];unfold bs Fm;simp
theorem Vf {m:List Int} (h:l.length+m.length<=9223372036854775807):Gt (bs l) (bs m)=some (bs (l++m)):=by unfold Gt;rw[Av (by rw[X2,X2];exact h),A7d]
theorem Ag2 (h:Ev n):Px n=some (bs (ti n)):=by
 rw[Ale h]
 congr 2
 congr 1
 unfold Fm ti
 rw[map_map]
 conv=>lhs;rw[<-map_id (Lib.itoa n)]
 refine map_congr_left λc _=>?_
 simp[Function.comp]
theorem Abr {S E R:Type} {step:S->Option (S⊕E)} {s0:S} {J:E->Option R} {r:R} (c:α) (xs:List α) (b:Nat->S) (h0:s0=b 0) (h:xs.length<2305843009213693952) (f:∀(j:Nat) (x:α),xs[j]? = some x->decide (((j+1:Nat):Int)<((c::xs).length:Int))=true->Ag (c::xs) ((j+1:Nat):Int)=some x->Ac (((j+1:Nat):Int)+1)=((j+1+1:Nat):Int)->step (b j)=some (.inl (b (j+1)))) (g:decide (((xs.length+1:Nat):Int)<((c::xs).length:Int))=false->∃e,step (b xs.length)=some (.inr e)/\J e=some r):(Ak step s0).bind J=some r:=by refine K1 xs.length b h0 (λj hj=>?_) (g ψ);have hx:xs[j]? = some xs[j]:=Bs hj;exact f j _ hx (As (by simp only[D6];omega)) (Br rfl ψ) (C5 (n:=xs.length+1) ω ω)
theorem bnd {X:Option α} {a:α} {K:α->Option β} {r:Option β} (h:X=some a) (k:K a=r):X.bind K=r:=by rw[h];exact k
theorem Nr (c:By l) (h:b.length+l.length<=140737488355328):Hm (bs l) b=some ((l.length:Int),b++l):=by simp only[Hm,Xe,Ad,Auz c,X2];rw[D2 ω];rfl
theorem Vg (c:By l) (h:b.length+l.length<=140737488355328):Kb (bs l) b=some ((l.length:Int),b++l):=by simp only[Kb,Z8,Ad,Auz c,X2];rw[D2 ω];rfl
theorem Po (hb:By b):L0 b=some (bs b):=by exact Av hb
theorem A7e (hb:By b):Aau b=some (bs b):=Po hb
theorem Al5 (n:Int) (h : -1048576<=n/\n<=1048576):(K8 n).length<=22:=by
 unfold K8;split
 .simp
 .have:=Of (n:=(n.natAbs:Int)) (by unfold Ev;omega);simp;omega
theorem Ag3 (n:Int) (f:Bool):(J2 n f).length<=3:=by unfold J2;split <;> split <;> simp
theorem A7f (h : -1<=v/\v<3000):(Ke v).length<=22:=by
 unfold Ke;split
 .simp
 .have:=Of (n:=v) (by unfold Ev;omega);simp;omega
structure Au0 (a:Bn):Prop where
 c : -1048576<=a.Q/\a.Q<=1048576
 n:a.T.length<=16
 t:∀t∈a.T,(-1<=t.v/\t.v<3000)/\(-1048576<=t.C/\t.C<=1048576)
theorem Al6 {a:Bn} (h:F3 a=true):Au0 a:=by unfold F3 at h;simp only[Ct,Du]at h;refine⟨⟨h.1.1,h.1.2.1⟩,h.1.2.2,λt ht=>?_⟩;obtain⟨j,hj⟩:=Hi ht;have:=Is h.2 hj;simp only[Sk,Ct,Du]at this;omega
theorem Al7 {t:Es} (f:Bool) (h:(-1<=t.v/\t.v<3000)/\(-1048576<=t.C/\t.C<=1048576)):(tT f t).length<=47:=by have:=Ag3 t.C f;have:=Al5 t.C h.2;have:=A7f h.1;unfold tT;simp only[Ek];omega
theorem Au1 (h : -1048576<=n/\n<=1048576):(if Ac (0-n)>n then Ac (0-n) else n)=(n.natAbs:Int):=by rw[Ac,Cl ω ω];split <;> omega
theorem c45:ByteArray.mk #[45]=bs [45]:=rfl
theorem A7g:ByteArray.mk #[32,45,32]=bs [32,45,32]:=rfl
theorem A7h:ByteArray.mk #[32,43,32]=bs [32,43,32]:=rfl
theorem c42:ByteArray.mk #[42]=bs [42]:=rfl
theorem Au2:ByteArray.mk #[118]=bs [118]:=rfl
theorem c97:ByteArray.mk #[97]=bs [97]:=rfl
theorem c58:ByteArray.mk #[58]=bs [58]:=rfl
theorem Au3:ByteArray.mk #[114,101,115]=bs [114,101,115]:=rfl
theorem Au4:By [45]:=By.cons ω By.nil
theorem by3 (a b c:Int) (ha:0<=a/\a<256) (hb:0<=b/\b<256) (hc:0<=c/\c<256):By [a,b,c]:=By.cons ha (By.cons hb (By.cons hc By.nil))
theorem Au5 (f:Bool) (c : -1048576<=n/\n<=1048576) (hb:b.length<=1099511627776):Aav n f b=some ((n.natAbs:Int),b++J2 n f):=by
 unfold Aav J2;rw[Au1 c,c45,A7g,A7h];rw[Nr Au4 ζ,Nr (by3 _ _ _ ω ω ω) ζ,Nr (by3 _ _ _ ω ω ω) ζ];by_cases h:n<0
 .rw[As h,Av h,Av h];cases f <;> rfl
 .rw[A5 h,Ar h,Ar h];cases f <;> simp
theorem A7i (c : -1048576<=n/\n<=1048576) (hb:b.length<=1099511627776):Um n true b=some (if n<0 then .inl ((n.natAbs:Int),b++[45]) else .inr ((n.natAbs:Int),b)):=by
 unfold Um;rw[Au1 c,c45,Vg Au4 ζ];by_cases h:n<0
 .rw[As h,Av h];rfl
 .rw[A5 h,Ar h];rfl
theorem Al8 {n:Nat} (h:n<=1048576):Oc (n:Int) 10=some (bs (ti n)):=by unfold Oc Aeb;exact Ag2 (by unfold Ev;omega)
theorem Ag4 {n:Nat} (h:n<=1048576):(ti (n:Int)).length<=21:=Of (by unfold Ev;omega)
theorem Au6 (c : -1048576<=n/\n<=1048576) (hb:b.length<=1099511627776) : (bif ((n.natAbs:Int) != (1:Int)) then (Oc (n.natAbs:Int) 10).bind λv=>(Gt v (ByteArray.mk #[42])).bind λu=>(Hm u b).bind λw=>some w.2 else some b)=some (b++K8 n):=by
 have ht:=Ag4 (n:=n.natAbs) ω;unfold K8;by_cases h:n.natAbs=1
 .rw[Gb ω,Av h];simp
 .rw[F2 ω,Ar h,Al8 ω,c42];simp only[Am,Ad];rw[Vf ζ,Ad,Nr ((By.ti _).app (By.cons ω By.nil)) ζ];rfl
theorem Al9 {R:Type} (K:List Int->Option R) (hv : -1<=v/\v<3000) (hb:b.length<=1099511627776) : (bif (v==(-1)) then (Hm (ByteArray.mk #[114,101,115]) b).bind λw=>K w.2 else (Je v).bind λx=>(Gt (ByteArray.mk #[118]) x).bind λy=>(Hm y b).bind λw=>K w.2)=K (b++Ke v):=by
 have ht:=Of (n:=v) (by unfold Ev;omega);unfold Ke;by_cases h:v = -1
 .rw[Eu h,Av h,Au3,Nr (by3 _ _ _ ω ω ω) ζ];rfl
 .rw[C3 h,Ar h,Au2];simp only[Aq,Je];rw[Ag2 (by unfold Ev;omega),Ad,Vf ζ,Ad];rw[show [118]++ti v=118::ti v from rfl,Nr (By.cons ω (By.ti _)) ζ];rfl
theorem Ag5 {l:List α} {x:α} (h:l[j]? = some x):(l.take (j+1)).flatMap g=(l.take j).flatMap g++g x:=by rw[C4 h];simp
theorem Ama {α:Type} {g:α->List Int} {n:Nat}:∀(l:List α),(∀a∈l,(g a).length<=n)->(l.flatMap g).length<=l.length*n
 | [],_=>ψ
 | a::l,h=>by have h1:=h a ψ;have h2:=Ama l λb hb=>h b (by simp[hb]);simp only[flatMap_cons,Ek,D6,Nat.add_mul];omega
theorem Amb {n:Nat} (l:List α) (j:Nat) (h:∀a∈l,(g a).length<=n):((l.take j).flatMap g).length<=l.length*n:=by refine Nat.le_trans (Ama _ λa ha=>h a (mem_of_mem_take ha)) (Nat.mul_le_mul_right _ ?_);rw[length_take];omega
theorem Au7:∀(ts:List Es) (c:Int),I5 false ts c=ts.flatMap (tT false)++I5 false [] c
 | [],c=>ψ
 | t::ts,c=>by have:=Au7 ts c;simp only[flatMap_cons,append_assoc,<-this];rfl
theorem A7j {a:Bn} (h:F3 a=true) (A:a.T≠[]):Qc a=some (bs (Abp a)):=by
 have y:=Al6 h;unfold Qc;rw[Alj,h];obtain⟨c,l⟩:=a;cases l with
 | nil=>exact (A rfl).elim
 | cons t ts=>
  have hc : -1048576<=c/\c<=1048576:=y.c;have L:ts.length<=15:=(by have:=y.n;simp at this;omega);have ht:(-1<=t.v/\t.v<3000)/\(-1048576<=t.C/\t.C<=1048576):=y.t t ψ;have s:∀u∈ts,(-1<=u.v/\u.v<3000)/\(-1048576<=u.C/\u.C<=1048576):=λu hu=>y.t u (by simp[hu]);have x:=λj=>Amb (g:=tT false) (n:=47) ts j (λu hu=>Al7 false (s u hu));have I:=Al7 true ht;simp only[Ad,bnt,Aq];rw[As (by simp only[D6];omega),Am];refine bnd (a:=((t.C.natAbs:Int),tT true t)) ?_ ?_
  .rw[show Ag (t::ts) 0=some t from rfl,Ad,A7i ht.2 ψ,Ad];have E:=Of (n:=t.v) (by unfold Ev;omega);have G:=Ag4 (n:=t.C.natAbs) ω;have B:=Al5 t.C ht.2;by_cases q:t.C<0
   .rw[Av q];simp only;rw[Au6 ht.2 ψ,Ad];refine (Al9 (λb=>some ((t.C.natAbs:Int),b)) ht.1 ζ).trans ?_;simp[tT,J2,q]
   .rw[Ar q];simp only;by_cases h1:t.C.natAbs=1
    .rw[Gb ω];simp only[Aq];by_cases hv:t.v = -1
     .rw[Eu hv,Au3,Am,Vg (by3 _ _ _ ω ω ω) ψ];simp[tT,J2,q,K8,h1,Ke,hv]
     .rw[C3 hv,Aq,Au2,Je,Ag2 (by unfold Ev;omega),Ad,Vf ζ,Ad,show [118]++ti t.v=118::ti t.v from rfl,
       Vg (By.cons ω (By.ti _)) ζ];simp[tT,J2,q,K8,h1,Ke,hv]
    .rw[F2 ω];simp only[Am];rw[Al8 ω,Ad,c42,Vf ζ,Ad,Vg ((By.ti _).app (By.cons ω By.nil)) ζ,Ad];refine (Al9 (λb=>some ((t.C.natAbs:Int),b)) ht.1 ζ).trans ?_;simp[tT,J2,q,K8,h1]
  .simp only;refine Abr t ts (λj=>(((j+1:Nat):Int),tT true t++(ts.take j).flatMap (tT false))) (by simp[Ac,Cl]) ω ?_ ?_
   .intro j u hu h1 h2 h3;have f:=s u (Bu hu);have:=x j;have B:=Al5 u.C f.2;have z:=Ag3 u.C false;simp only[h1,h2,h3,Am,Ad];rw[C3 ω,Au5 false f.2 (by simp only[Ek];omega),Ad,Au6 f.2 (by simp only[Ek];omega),Ad];refine (Al9 (R:=(Int×List Int)⊕List Int) (λb=>some (.inl (((j+1+1:Nat):Int),b))) f.1 (by simp only[Ek];omega)).trans ?_;rw[Ag5 hu];simp[tT]
   .intro h1;have h2:=x ts.length;rw[Db]at h2;refine⟨tT true t++ts.flatMap (tT false),by simp only[h1,Aq,Db],?_⟩;have D:By (tT true t++ts.flatMap (tT false)):=(By.tT _ _).app (By.flat (By.tT _) _);have e:Abp ⟨c,t::ts⟩=tT true t++ts.flatMap (tT false)++I5 false [] c:=(by have:=Au7 ts c;rw[append_assoc,<-this];rfl);rw[e];have k:((((t::ts).length:Nat):Int)==(0:Int))=false:=C3 (by simp only[D6];omega);by_cases i:c=0
    .simp only[Gb i,Aq,k,Ad];rw[Po D];simp[I5,i]
    .have J:=Ag4 (n:=c.natAbs) ω;have z:=Ag3 c false;simp only[F2 i,Am,Ad,k];rw[Au5 false hc (by simp only[Ek];omega),Ad,Al8 ω,Ad,Nr (By.ti _) (by simp only[Ek];omega),Ad, Po ((D.app (By.sgn _ _)).app (By.ti _))];simp[I5,i]
theorem Au8 {a:Bn} (h:Au0 a):(Abp a).length<=1024:=by
 have key:∀(l:List Es) (f:Bool),(∀t∈l,(-1<=t.v/\t.v<3000)/\(-1048576<=t.C/\t.C<=1048576))->(I5 f l a.Q).length<=47*l.length+24:=by
  intro l;induction l with
  | nil=>intro f _;have h1:=Ag4 (n:=a.Q.natAbs) (by have:=h.c;omega);have h2:=Ag3 a.Q f;simp only[I5];split <;> simp <;> omega
  | cons t l ih=>intro f b;have h1:=Al7 f (b t ψ);have h2:=ih false λu hu=>b u (by simp[hu]);simp only[I5,Ek,D6];omega
 have:=key a.T true h.t;have:=h.n;unfold Abp;omega
structure CMo (m:A3):Prop where
 sz:MSz m
 nf:m.F.length<=6
 na:m.A.length<=6
 al:∀a∈m.A,F3 a.L=true/\a.L.T≠[]/\1<=a.P/\a.P<=6
theorem Ag6 {R:Type} {a:Bd} (K:ByteArray->Option R) (h:F3 a.L=true/\a.L.T≠[]/\1<=a.P/\a.P<=6) : ((Je a.P).bind λu=>(Gt (ByteArray.mk #[97]) u).bind λv=>(Gt v (ByteArray.mk #[58])).bind λw=>(Qc a.L).bind λx=>(Gt w x).bind λy=>K y)=K (bs (Iu a)):=by have h1:=Of (n:=a.P) (by unfold Ev;omega);have h2:=Au8 (Al6 h.1);rw[Je,Ag2 (by unfold Ev;omega),Ad,c97,Vf ζ,Ad,c58,Vf ζ,Ad,A7j h.1 h.2.1,Ad,Vf ζ,Ad];simp[Iu]
theorem Abs {a:Bd} (h:F3 a.L=true/\a.L.T≠[]/\1<=a.P/\a.P<=6):(Iu a).length<=1100:=by have h1:=Of (n:=a.P) (by unfold Ev;omega);have h2:=Au8 (Al6 h.1);simp[Iu];omega
theorem Ag7 {f:Bb} (h:Bv f.I<=1048576) (b:iR f.I/\Ev f.v):(D3 f).length<=33554432:=by have h1:=Of b.2;have h2:=Alc f.I b.1;simp[D3,K5];omega
theorem A7k (h:CMo m):Zo m=some (L8 m):=by
 obtain⟨fs,c⟩:=m;have k:∀f∈fs,Bv f.I<=1048576/\iR f.I/\Ev f.v:=λf hf=>⟨h.sz.fi f hf,h.sz.fr f hf⟩;have s:∀a∈c,F3 a.L=true/\a.L.T≠[]/\1<=a.P/\a.P<=6:=h.al;have nf:fs.length<=6:=h.nf;have na:c.length<=6:=h.na;have z:=λ(l:List Bb) (u:∀f∈l,f∈fs) (j:Nat)=>Amb (g:=D3) (n:=33554432) l j (λf hf=>Ag7 (k f (u f hf)).1 (k f (u f hf)).2);have A:=λ(l:List Bd) (u:∀a∈l,a∈c) (j:Nat)=>Amb (g:=Iu) (n:=1100) l j (λa ha=>Abs (s a (u a ha)));have J:∀l:List Bb,By (l.flatMap D3):=λl=>By.flat By.fac l;have D:∀l:List Bd,By (l.flatMap Iu):=λl=>By.flat By.at l;have key:∀f:Bb,f∈fs->Mg f.v f.I=some (bs (D3 f)):=λf hf=>Agd f.v f.I (k f hf).2.2 (k f hf).2.1 (k f hf).1;unfold Zo L8 Abq;cases fs with
 | nil=>
  rw[A5 ψ,Aq];cases c with
  | nil=>rw[A5 ψ,Aq];rw[A7e By.nil];rfl
  | cons a c=>
   have ha:=s a ψ;have x:=Abs ha;rw[As (by simp only[D6];omega),Am,show Ag (a::c) 0=some a from rfl,Ad];refine (Ag6 _ ha).trans ?_;rw[Vg (By.at a) ζ,Ad];refine Abr a c (λj=>(((j+1:Nat):Int),[]++Iu a++(c.take j).flatMap Iu)) (by simp[Ac,Cl]) (by simp at na;omega) ?_ ?_
   .intro j b hb h1 h2 h3;have i:=s b (by simp[Bu hb]);have:=Abs i;have:=A c (λb hb=>by simp[hb]) j;simp at na;simp only[h1,h2,h3,Am,Ad];refine (Ag6 _ i).trans ?_;rw[Nr (By.at b) (by simp only[Ek,length_nil];omega),Ad,Ag5 hb];simp
   .intro h1;refine⟨[]++Iu a++c.flatMap Iu,by simp only[h1,Aq,Db],?_⟩;dsimp only;rw[Po ((By.nil.app (By.at a)).app (D c))];simp
 | cons f fs=>
  have hf:=k f ψ;have I:=Ag7 hf.1 hf.2;rw[As (by simp only[D6];omega),Am,show Ag (f::fs) 0=some f from rfl,Ad,key f ψ,Ad,Vg (By.fac f) ζ,Ad];refine Abr f fs (λj=>(((j+1:Nat):Int),[]++D3 f++(fs.take j).flatMap D3)) (by simp[Ac,Cl]) (by simp at nf;omega) ?_ ?_
  .intro j g hg h1 h2 h3;have q:g∈f::fs:=(by simp[Bu hg]);have:=Ag7 (k g q).1 (k g q).2;have:=z fs (λb hb=>by simp[hb]) j;simp at nf;simp only[h1,h2,h3,Am,Ad];rw[key g q,Ad,Nr (By.fac g) (by simp only[Ek,length_nil];omega),Ad,Ag5 hg];simp
  .intro h1;have E:=z fs (λb hb=>by simp[hb]) fs.length;rw[Db]at E;simp at nf;refine⟨[]++D3 f++fs.flatMap D3,by simp only[h1,Aq,Db],?_⟩;have y:By ([]++D3 f++fs.flatMap D3):=(By.nil.app (By.fac f)).app (J fs);have G:([]++D3 f++fs.flatMap D3).length<=234881024:=(by simp only[Ek,length_nil];omega);have eB:(f::fs).flatMap D3 = []++D3 f++fs.flatMap D3:=ψ;rw[eB];generalize []++D3 f++fs.flatMap D3=B at y G;cases c with
   | nil=>rw[A5 ψ,Aq,Po y];simp
   | cons a c=>
    have ha:=s a ψ;have x:=Abs ha;rw[As (by simp only[D6];omega),Am,show Ag (a::c) 0=some a from rfl,Ad];refine (Ag6 _ ha).trans ?_;rw[Nr (By.at a) ω,Ad];refine Abr a c (λj=>(((j+1:Nat):Int),B++Iu a++(c.take j).flatMap Iu)) (by simp[Ac,Cl]) (by simp at na;omega) ?_ ?_
    .intro j b hb h1 h2 h3;have i:=s b (by simp[Bu hb]);have:=Abs i;have:=A c (λb hb=>by simp[hb]) j;simp at na;simp only[h1,h2,h3,Am,Ad];refine (Ag6 _ i).trans ?_;rw[Nr (By.at b) (by simp only[Ek];omega),Ad,Ag5 hb];simp
    .intro h1;refine⟨B++Iu a++c.flatMap Iu,by simp only[h1,Aq,Db],?_⟩;dsimp only;rw[Po ((y.app (By.at a)).app (D c))];simp
def plc (ts:List Aj):List (ByteArray×Int):=ts.zipIdx.map λq=>(L8 q.1.M,(q.2:Int))
def Dst (ts:List Aj):Prop:=ts.Pairwise λt u=>t.M≠u.M
theorem A7l (ts:List Aj) (t:Aj):plc (ts++[t])=plc ts++[(L8 t.M,(ts.length:Int))]:=by unfold plc;simp[zipIdx_append]
theorem Abt (ts:List Aj) (j:Nat):(plc ts)[j]? = (ts[j]?).map λt=>(L8 t.M,(j:Int)):=by unfold plc;simp[getElem?_map,getElem?_zipIdx];cases ts[j]? <;> rfl
theorem A7m (h:ts[j]? = some t) (b:u.M=t.M):plc (ts.set j u)=plc ts:=by
 apply ext_getElem?;intro i;rw[Abt,Abt,getElem?_set];by_cases e:j=i
 .subst e;rw[Av rfl,Av (Eg h),h];simp[b]
 .rw[Ar e]
theorem Amc {α:Type}:∀(o:List (ByteArray×α)) (s:ByteArray) (v:α),E9 o s=false->Gu o s v=o++[(s,v)]
 | [],_,_,_=>rfl
 | p::o,s,v,h=>by simp only[E9,any_cons,Bool.or_eq_false_iff]at h;simp only[Gu,h.1,Aq,D9,List.cons.injEq,true_and];exact Amc o s v h.2
theorem A7n (h:∀t∈ts,t.M≠m):E9 (plc ts) (L8 m)=false:=by unfold E9;rw[any_eq_false];intro p hp;obtain⟨j,hj⟩:=Hi hp;rw[Abt]at hj;cases ht:ts[j]? with| none=>rw[ht]at hj;cases hj| some t=>rw[ht]at hj;simp only[Option.map_some,Option.some.injEq]at hj;subst hj;intro e;have e:=(Nl _ _).1 e;exact h t (Bu ht) (Auy e).symm
theorem A7o (hd:Dst ts) (h:ts[j]? = some t):E9 (plc ts) (L8 t.M)=true/\Ib (plc ts) (L8 t.M) 0=(j:Int):=by
 have hp:(plc ts)[j]? = some (L8 t.M,(j:Int)):=by rw[Abt,h];rfl
 refine⟨any_eq_true.2 ⟨_,Bu hp,(Nl _ _).2 rfl⟩,?_⟩;unfold Ib;have hf:(plc ts).find? (λp=>L8 t.M==p.1)=some (L8 t.M,(j:Int)):=by
  cases hf:(plc ts).find? (λp=>L8 t.M==p.1) with
  | none=>have:=find?_eq_none.1 hf _ (Bu hp);exact (this ((Nl _ _).2 rfl)).elim
  | some q=>
   have h1:=find?_some hf;obtain⟨i,hi⟩:=Hi (mem_of_find?_eq_some hf);rw[Abt]at hi;cases hu:ts[i]? with
   | none=>rw[hu]at hi;cases hi
   | some u=>
    rw[hu]at hi;simp only[Option.map_some,Option.some.injEq]at hi;subst hi;have e:=Auy ((Nl _ _).1 h1);have f:i=j:=by
     have c:=Eg hu;have b:=Eg h;rw[Bs c]at hu;rw[Bs b]at h;rcases Nat.lt_trichotomy i j with k|k|k
     .have:=pairwise_iff_getElem.1 hd i j c b k;rw[Fp hu,Fp h]at this;exact (this e.symm).elim
     .exact k
     .have:=pairwise_iff_getElem.1 hd j i b c k;rw[Fp hu,Fp h]at this;exact (this e).elim
    subst f;rw[e]
 rw[hf];rfl
open Classical in
theorem Vh (t:Aj) (p:List Aj) (m:A3):cf (t::p) m=(if t.M=m then rq t.C else 0)+cf p m:=by
 simp only[cf];by_cases e:t.M=m
 .rw[Av (Qx.2 e),Av e]
 .rw[Ar (λh=>e (Qx.1 h)),Ar e]
open Classical in
theorem Au9:∀{ts:List Aj} {j:Nat} {t u:Aj},ts[j]? = some t->u.M=t.M->∀m,cf (ts.set j u) m=cf ts m+(if t.M=m then rq u.C-rq t.C else 0)
 | [],j,t,u,h,_,m=>by simp at h
 | s::ts,0,t,u,h,hm,m=>by simp only[getElem?_cons_zero,Option.some.injEq]at h;subst h;rw[set_cons_zero,Vh,Vh,hm];split <;> grind
 | s::ts,j+1,t,u,h,hm,m=>by simp only[getElem?_cons_succ]at h;rw[set_cons_succ,Vh,Vh,Au9 h hm m];grind
theorem Dst.set (h:Dst ts) (ht:ts[j]? = some t) (b:u.M=t.M):Dst (ts.set j u):=by
 have e:(ts.set j u).map (·.M)=ts.map (·.M):=by
  apply ext_getElem?;intro i;rw[getElem?_map,getElem?_map,getElem?_set];by_cases e:j=i
  .subst e;rw[Av rfl,Av (Eg ht),ht];simp[b]
  .rw[Ar e]
 have k:∀l:List Aj,Dst l↔(l.map (·.M)).Pairwise (·≠·):=λl=>by rw[pairwise_map];exact Iff.rfl
 rw[k,e,<-k];exact h
structure Col (k:Nat) (P:A3->Prop) (ts:List Aj):Prop where
 dst:Dst ts
 tb:∀t∈ts,RB k t.C
 mo:∀t∈ts,P t.M
theorem Col.nil (k:Nat) (P:A3->Prop):Col k P []:=⟨Pairwise.nil,λ_ h=>(by cases h),λ_ h=>(by cases h)⟩
theorem Amd (t u:Aj) (h:MSz t.M):Qa t u=some (Ey t.M u.M):=by unfold Qa;rw[Atg _ _ h];rfl
theorem A7p (A R:List α) (x y:α):((A++y::x::R).set (A.length+1) y).set A.length x=A++x::y::R:=by induction A with| nil=>rfl| cons a A ih=>simp only[D9,D6,set_cons_succ,ih]
theorem Ava (A R:List α) (x:α):(A++x::R)[A.length]? = some x:=ψ
theorem A7q (A R:List α) (x y:α):(A++y::x::R)[A.length+1]? = some x:=by induction A with| nil=>rfl| cons a A ih=>simp
theorem A7r {step:Int×List Aj->Option ((Int×List Aj)⊕(Int×List Aj))} (N:Nat) (G:N<4611686018427387904) (b:∀(x:Aj) (R:List Aj),step (0,x::R)=some (.inr (0,x::R))) (l:∀(A R:List Aj) (x y:Aj),(∀t∈A++y::x::R,MSz t.M)->(A++y::x::R).length<=N->step (((A.length+1:Nat):Int),A++y::x::R) = if Ey x.M y.M<0 then some (.inl ((A.length:Int),A++x::y::R)) else some (.inr (((A.length+1:Nat):Int),A++y::x::R))) : ∀(n:Nat) (A R:List Aj) (x:Aj),A.length=n->(∀t∈A++x::R,MSz t.M)->(A++x::R).length<=N -> ∃f i,Ak step ((A.length:Int),A++x::R)=some ((f.length:Int),f++x::(i++R))/\A=f++i/\(∀a∈i,ltT x a)/\∀q y,f=q++[y]->¬ltT x y:=by
 intro n;induction n with
 | zero=>intro A R x g _ _;have:A = []:=Gn.1 g;subst this;exact⟨[],[],Gf (b x R),rfl,nofun,(λq y h=>by simp at h)⟩
 | succ n ih=>
  intro A R x g k c;obtain⟨B,y,rfl⟩:∃B y,A=B++[y]:=by
   rcases eq_nil_or_concat A with h|⟨B,y,h⟩
   .rw[h]at g;cases g
   .exact⟨B,y,by simpa using h⟩
  have u:B.length=n:=(by simpa using g);have E:(B++[y])++x::R=B++y::x::R:=ψ;have el:(((B++[y]).length:Nat):Int)=((B.length+1:Nat):Int):=ψ;rw[E]at k c ⊢;rw[el];have j:=l B R x y k c;by_cases hc:Ey x.M y.M<0
  .rw[Av hc]at j;obtain⟨f,i,h1,h2,h3,D⟩:=ih B (y::R) x u (by intro t ht;refine k t ?_;simp only[Ej,Gi]at ht ⊢;rcases ht with h|h|h|h <;> simp[h]) (by simpa using c);refine⟨f,i++[y],?_,by rw[h2];simp,?_,D⟩
   .rw[Lh j,h1];simp
   .intro a ha;rcases Ej.1 ha with ha|ha
    .exact h3 a ha
    .simp only[Ea]at ha;subst ha;exact hc
  .rw[Ar hc]at j;refine⟨B++[y],[],?_,ψ,nofun,?_⟩
   .rw[Gf j];simp
   .intro q z s;have:=append_inj' s rfl;have e:y=z:=(by simpa using this.2);subst e;exact hc
theorem A7s {a b c:Aj} (h:ltT a b) (h':ltT b c):ltT a c:=X1 h h'
theorem A7t {c j:List Aj} {x:Aj} (u:(c++j).Pairwise ltT) (h2:∀a∈j,ltT x a) (h1:∀g y,c=g++[y]->¬ltT x y) (hd:∀a∈c,a.M≠x.M):(c++x::j).Pairwise ltT:=by
 obtain⟨i,s,l⟩:=pairwise_append.1 u;have hx:∀a∈c,ltT a x:=by
  intro a ha;rcases eq_nil_or_concat c with h|⟨g,y,h⟩
  .rw[h]at ha;cases ha
  .have h:c=g++[y]:=(by simpa using h);have f:ltT y x:=by
    have q:=h1 g y h;have z:=hd y (by rw[h];simp);unfold ltT at *;rcases Int.lt_trichotomy (Ey x.M y.M) 0 with k|k|k
    .exact (q k).elim
    .exact (z (Qx.1 k).symm).elim
    .exact Alw.1 k
   rw[h]at ha i;rcases Ej.1 ha with ha|ha
   .exact A7s ((pairwise_append.1 i).2.2 a ha y ψ) f
   .simp only[Ea]at ha;subst ha;exact f
 refine pairwise_append.2 ⟨i,pairwise_cons.2 ⟨h2,s⟩,λa ha b hb=>?_⟩;rcases Gi.1 hb with rfl|hb
 .exact hx a ha
 .exact l a ha b hb
noncomputable def Abu:Int×List Aj->Option ((Int×List Aj)⊕(Int×List Aj)):=λ(v31,b)=> (show OB from bif v31>(0:Int) then ((Ag b v31).bind λv33=> (Ag b (Ac (v31-1))).bind λg=> (Qa v33 g).bind λv35=> some (decide (v35<(0:Int)))) else some false).bind λf=>
 bif f then ((Ag b (Ac (v31-1))).bind λv37=> (Ag b v31).bind λc=> (Ag b v31).bind λv39=> (Ag (Cu b v31 v37) (Ac (v31-1))).bind λv40=> some (.inl ((Ac (v31-1)),(Cu (Cu b v31 v37) (Ac (v31-1)) c)))) else some (.inr (v31,b))
theorem A7u (y:Aj) (R:List Aj):Abu (0,y::R)=some (.inr (0,y::R)):=by unfold Abu;simp only[A5 (ω:¬(0:Int)>0),Aq,Ad]
theorem A7v {N:Nat} (h:N<=1099511627776) (A R:List Aj) (u y:Aj) (b:∀t∈A++y::u::R,MSz t.M) (c:(A++y::u::R).length<=N):Abu (((A.length+1:Nat):Int),A++y::u::R) = if Ey u.M y.M<0 then some (.inl ((A.length:Int),A++u::y::R)) else some (.inr (((A.length+1:Nat):Int),A++y::u::R)):=by
 have g:A.length+1<N:=by simp at c;omega
 have f:Ac (((A.length+1:Nat):Int)-1)=(A.length:Int):=by rw[Ac,Cl] <;> omega
 unfold Abu;simp only[As (ω:((A.length+1:Nat):Int)>0),Am,f,Br (n:=A.length+1) rfl (A7q A R u y),Br (n:=A.length) rfl (Ava A (u::R) y),Ad,Amd u y (b u ψ)];by_cases hc:Ey u.M y.M<0
 .rw[As hc,Av hc];simp only[Am];rw[H5 (n:=A.length+1) rfl,H5 (n:=A.length) rfl,A7p];have:Ag ((A++y::u::R).set (A.length+1) y) (A.length:Int)=some y:=(by refine Br rfl ?_;rw[getElem?_set_ne ω];exact Ava A (u::R) y);rw[this];rfl
 .rw[A5 hc,Ar hc];rfl
theorem A7w (b:List Aj) (hd:Dst b) (I:∀t∈b,MSz t.M) (M:b.length<=1099511627776) : ∃R,Aaa 0 (b.length:Int) b=some R/\R.Perm b/\R.Pairwise ltT:=by
 unfold Aaa;cases b with
 | nil=>refine⟨[],?_,Perm.refl _,Pairwise.nil⟩;refine K1 0 (λ_=>((1:Int),([]:List Aj))) (by simp[Ac,Cl]) (λj hj=>ω) ⟨[],?_,rfl⟩;simp
 | cons z0 A=>
 generalize f:z0::A=b at *;have hpos:1<=b.length:=by rw[<-f];simp
 refine Et (λs=>∃(i:Nat) (S:List Aj),s=((i:Int),S++b.drop i)/\1<=i/\i<=b.length/\S.length=i/\S.Perm (b.take i)/\S.Pairwise ltT) (λs=>b.length-s.1.toNat) (λR=>R.Perm b/\R.Pairwise ltT) ⟨1,[z0],by rw[<-f];simp[Ac,Cl],ω,hpos,rfl,by rw[<-f];simp,pairwise_singleton _ _⟩ ?_ ?_
 .rintro _ ⟨i,S,rfl,J,hi,G,c,k⟩;rcases Cj i b.length with h|h
  .have hx:b[i]? = some b[i]:=Bs h;generalize b[i]=x at hx;have g:b.drop i=x::b.drop (i+1):=Mm hx;have z:(S++x::b.drop (i+1)).length=b.length:=ζ;have y:∀t∈S++x::b.drop (i+1),t∈b:=by
    intro t ht;rcases Ej.1 ht with ht|ht
    .exact mem_of_mem_take (c.mem_iff.1 ht)
    .rw[<-g]at ht;exact mem_of_mem_drop ht
   simp only[As (ω:(i:Int)<(b.length:Int)),Am,C5 h ω];rw[g];left;obtain⟨q,l,h1,h2,h3,L⟩:=A7r (step:=Abu) b.length ω A7u (A7v ω) S.length S (b.drop (i+1)) x rfl (λt ht=>I t (y t ht)) (by rw[z];exact Nat.le_refl _);rw[G]at h1;have hp:(q++x::l).Perm (b.take (i+1)):=(by rw[C4 hx];have:(q++x::l).Perm ((q++l)++[x]):=(by rw[append_assoc];exact Perm.append_left q (perm_append_singleton x l).symm);exact this.trans (by rw[<-h2];exact c.append_right [x]));refine⟨(((i+1:Nat):Int),(q++x::l)++b.drop (i+1)),bnd h1 ψ,⟨i+1,q++x::l,rfl,ω,ω,?_,hp,?_⟩,ζ⟩
   .rw[hp.length_eq,length_take];omega
   .rw[h2]at k;refine A7t k h3 L λa ha=>?_;have E:a∈b.take i:=c.mem_iff.1 (by rw[h2];simp[ha]);have B:x∈b.drop i:=(by rw[g];simp);have D:(b.take i++b.drop i).Pairwise λt u=>t.M≠u.M:=(by rw[take_append_drop];exact hd);exact (pairwise_append.1 D).2.2 a E x B
  .have:i=b.length:=ω;subst this;rw[Db]at c;simp only[A5 (ω:¬(b.length:Int)<(b.length:Int)),Aq,drop_length,append_nil];exact .inr ⟨S,rfl,c,k⟩
 .rintro R ⟨h1,h2⟩;exact⟨R,rfl,h1,h2⟩
theorem Ns {n:Nat} {l:List α} (h:n=l.length):Gm n l=some ():=by unfold Gm;rw[Av h]
theorem A7x {s:ByteArray} {i:Int} (h0:0<=i) (h:i.toNat<s.size):∃c,Km s i=some c:=by unfold Km;rw[Av h0];exact⟨_,getElem?_pos s i.toNat h⟩
set_option maxRecDepth 20000 in
theorem Avb {n:Nat} (h:n<256):∃v,Ua (Bg (n:Int))=some v:=by
 unfold Ua Ae3;rw[Bg,F1 ω ω,A5 ω];simp only[Aq,Ad];rw[A5 ω];simp only[Aq,Ad];rw[A5 ω];simp only[Aq,Ad];have b:wu8 (n:Int)=(n:Int):=by rw[wu8];unfold IntKind.wrap;simp[IntKind.bits,IntKind.signed];omega
 rw[b];generalize g:ByteArray.mk _=T;have f:T.size=256:=by rw[<-g];rfl
 obtain⟨c,hc⟩:=A7x (s:=T) (i:=(n:Int)) ω (by rw[f];simpa using h);rw[hc];exact⟨_,rfl⟩
theorem A7y (b:List Aj) (hd:Dst b) (f:∀t∈b,MSz t.M) (c:b.length<=12):∃R,P9 b=some R/\R.Perm b/\R.Pairwise ltT:=by
 obtain⟨R,h1,h2,h3⟩:=A7w b hd f ω;obtain⟨v,hv⟩:=Avb (n:=b.length) ω;refine⟨R,?_,h2,h3⟩;unfold P9;rw[Nat.ble_eq_true_of_le c,Am];unfold Akq;rw[hv,Ad];have hp:Z1 0 (b.length:Int) v b=some R:=by unfold Z1;refine bnd (a:=R) (Gf ?_) rfl;have w:Ac ((b.length:Int)-0)=(b.length:Int):=ξ;simp only[w,As (ω:(b.length:Int)<=12),Am,h1,Ad,Ns h2.length_eq.symm]
 rw[hp,Ad,Ns h2.length_eq.symm];rfl
def clT (t:Aj):Aj:=⟨C2 (sv t.C) (nv t.C) (dv t.C),t.M⟩
theorem A7z (p:List Aj) (hk:k<34359738000) (hp:∀t∈p,RB k t.C/\MSz t.M) (b:p.length<=1048576):Wv p=some (p.map clT):=by
 unfold Wv;refine F6 p (λj=>((j:Int),(p.take j).map clT)) rfl ω ?_ ?_
 .intro j x hj hx h1 h2 h3;obtain⟨a1,a2⟩:=hp x (Bu hx);simp only[h1,h2,h3,Am,Ad,Alp x.C k a1 ω,A69 x.M a2];rw[D2 ζ,Ad,C4 hx];simp[clT]
 .intro h1;exact⟨p.map clT,ψ,rfl⟩
theorem A70 (p:List Aj) (m:A3):cf (p.map clT) m=cf p m:=by induction p with| nil=>rfl| cons t p ih=>simp only[map_cons,cf,ih,clT];rw[Qw _ _ _ (H8 _)];rfl
theorem A71 {q:List Aj} (h:p.Perm q) (m:A3):cf p m=cf q m:=by induction h with| nil=>rfl| cons x _ ih=>simp only[cf,ih]| swap x y l=>simp only[cf];grind| trans _ _ h1 h2=>rw[h1,h2]
def nzT (t:Aj):Bool:=decide (rq t.C≠0)
theorem A72 (p:List Aj) (m:A3):cf (p.filter nzT) m=cf p m:=by
 induction p with
 | nil=>rfl
 | cons t p ih=>
  by_cases h:rq t.C=0
  .rw[filter_cons_of_neg (by simp[nzT,h]),ih];simp only[cf,h];grind
  .rw[filter_cons_of_pos (by simp[nzT,h])];simp only[cf,ih]
theorem A73 (x:Rat):(Nq x != (0:Int))=decide (x≠0):=by
 unfold Nq;by_cases h1:x<0
 .rw[Av h1];have:x≠0:=(by intro e;subst e;exact absurd h1 δ);simp[this]
 .rw[Ar h1];by_cases h2:0<x
  .rw[Av h2];have:x≠0:=(by intro e;subst e;exact absurd h2 δ);simp[this]
  .rw[Ar h2];have:x=0:=Rat.le_antisymm (Rat.not_lt.1 h2) (Rat.not_lt.1 h1);simp[this]
theorem Avc {f:α->Bool} {l:List α} {x:α} (h:l[j]? = some x):(l.take (j+1)).filter f=(l.take j).filter f++(if f x then [x] else []):=by rw[C4 h,filter_append];congr 1;cases k:f x <;> simp[filter,k]
theorem Avd (x:B9) (g:CSz x) (ps:List (List Aj)) (B:∀p∈ps,∀t∈p,TSz t) (J:ps.length<=1048576) : ∃r,Na x ps=some r/\(((Hq x/\∀p∈ps,I4 x.D x.V x.E p=true)/\∃A,r = .inl (true,x,A,[],x.D,x.V,x.E.G,x.E.U,x.E.R)/\Ew x.D x.V x.E A) \/ ((¬(Hq x/\∀p∈ps,I4 x.D x.V x.E p=true))/\r = .inr false)):=by
 obtain⟨b,b1,b2⟩:=Afz g.ds;have I:=g.nv;have G:=g.rs;unfold Na;rw[b1,Xl x.D x.E 0 ω];by_cases l:x.V.length<=3000
 .rw[A5 ω];simp only[Aq,Ad];cases b with
  | false=>exact⟨_,rfl,.inr ⟨λh=>(by have:=b2.2 h.1.2.1;cases this),rfl⟩⟩
  | true=>
   have hv:=b2.1 rfl;simp only[bnt,Aq];cases D:(Fb x.D 0 x.E&&decide (B3 x.E<=200)) with
   | false=>exact⟨_,rfl,.inr ⟨λh=>(by have:=h.1.2.2.1;rw[show G0 x.D x.E=false from D]at this;cases this),rfl⟩⟩
   | true=>
    simp only[bnt,Aq,Ad];refine Et (λi=>∃j:Nat,i=j/\j<=x.V.length/\(x.V.take j).all (G0 x.D)=true) (λi=>x.V.length-i.toNat) (λz=>match z with|.inl r=>r=false/\¬Hq x | .inr _=>Hq x) ⟨0,rfl,ω,ψ⟩ ?_ ?_
    .rintro i ⟨j,rfl,hj,c⟩;rcases Cj j x.V.length with h|h
     .have ht:x.V[j]? = some x.V[j]:=Bs h;generalize x.V[j]=t at ht;have:=g.vs t (Bu ht);simp only[As (ω:(j:Int)<(x.V.length:Int)),Am,Br rfl ht,Ad,Xl x.D t 0 ω,C5 h ω];rw[show (Fb x.D 0 t&&decide (B3 t<=200))=G0 x.D t from rfl];cases hg:G0 x.D t with| true=>exact .inl ⟨_,rfl,⟨j+1,rfl,ω,by rw[C4 ht,all_append,c];simp[hg]⟩,ζ⟩| false=>refine .inr ⟨.inl false,rfl,rfl,λhh=>?_⟩;have:=G7.1 hh.2.2.2 t (Bu ht);rw[hg]at this;cases this
     .have:j=x.V.length:=ω;subst this;rw[Db]at c;exact .inr ⟨.inr (),ψ,l,hv,D,c⟩
    .rintro (r|u) f
     .obtain⟨rfl,f⟩:=f;exact⟨_,rfl,.inr ⟨λh=>f h.1,rfl⟩⟩
     .have hf:Hq x:=f;simp only;refine Et (λs=>∃(j:Nat) (o:List (ByteArray×Int)),s=((j:Int),o)/\j<=ps.length/\Ew x.D x.V x.E o/\∀p∈ps.take j,I4 x.D x.V x.E p=true) (λs=>ps.length-s.1.toNat) (λz=>match z with|.inl r=>r=false/\¬(∀p∈ps,I4 x.D x.V x.E p=true) | .inr o=>Ew x.D x.V x.E o/\∀p∈ps,I4 x.D x.V x.E p=true) ⟨0,[],rfl,ω,(λq h=>by cases h),(λq h=>by simp at h)⟩ ?_ ?_
      .rintro _ ⟨j,o,rfl,hj,E,c⟩;rcases Cj j ps.length with h|h
       .have ht:ps[j]? = some ps[j]:=Bs h;generalize ps[j]=p at ht;have k:=Bu ht;obtain⟨A,c1,c2⟩:=A6k (hf.ctx g) [] E p (B p k);simp only[As (ω:(j:Int)<(ps.length:Int)),Am,Br rfl ht,Ad,c1,C5 h ω];cases y:I4 x.D x.V x.E p with
        | true=>
         refine .inl ⟨_,rfl,⟨j+1,A,rfl,ω,c2,λq hq=>?_⟩,ζ⟩;rw[C4 ht]at hq;rcases Ej.1 hq with hq|hq
         .exact c q hq
         .simp only[Ea]at hq;subst hq;exact y
        | false=>refine .inr ⟨.inl false,rfl,rfl,λhh=>?_⟩;have:=hh p k;rw[y]at this;cases this
       .have:j=ps.length:=ω;subst this;rw[Db]at c;exact .inr ⟨.inr o,ψ,E,c⟩
      .rintro (r|o) hw
       .obtain⟨rfl,hw⟩:=hw;exact⟨_,rfl,.inr ⟨λh=>hw h.2,rfl⟩⟩
       .exact⟨_,rfl,.inl ⟨⟨hf,hw.2⟩,o,rfl,hw.1⟩⟩
 .rw[As ω];exact⟨_,rfl,.inr ⟨λh=>l h.1.1,rfl⟩⟩
theorem Ame (h:Jq data vars res m=true) (k:MSz m):CMo m:=by
 have hf:=(Agu h).2;unfold Jq at h;simp only[Ct,Du]at h;obtain⟨⟨h1,h2⟩,h3⟩:=h;have b:∀f∈m.F,0<=Dz data vars res f:=by intro f hf;obtain⟨j,hj⟩:=Hi hf;have:=Is h1 hj;simp only[Pl,Ct,Du]at this;omega
 have ha:∀a∈m.A,1<=a.P/\F3 a.L=true/\a.L.T≠[]:=by intro a ha;obtain⟨j,hj⟩:=Hi ha;have:=Is h2 hj;simp only[No,Ct,Du]at this;refine⟨this.1.1.1.1,this.1.1.1.2,λe=>?_⟩;have i:=this.1.1.2;rw[e]at i;simp at i
 obtain⟨a1,a2,a3⟩:=Alk m.A λa h=>by have:=(ha a h).1;omega
 have f1:=A5y m.F b;have al:(m.A.length:Int)<=Ef m.A:=by have key:∀l:List Bd,(∀a∈l,1<=a.P)->(l.length:Int)<=Ef l:=(by intro l;induction l with| nil=>intro _;simp[Ef]| cons f fs ih=>intro c;have h1:=c f ψ;have h2:=ih (λg hg=>c g (by simp[hg]));unfold Ef at *;simp only[map_cons,sum_cons,D6];omega);exact key _ λa h=>(ha a h).1
 exact⟨k,hf,ω,λa h=>⟨(ha a h).2.1,(ha a h).2.2,(ha a h).1,by have:=a3 a h;omega⟩⟩
def Js (x:B9) (m:A3):Prop:=Jq x.D x.V x.E m=true/\MSz m
theorem Js.cmo (h:Js x m):CMo m:=Ame h.1 h.2
structure I6 (x:B9) (p:List Aj):Prop where
 can:I4 x.D x.V x.E p=true
 sz:∀t∈p,TSz t
theorem I6.cp (h:I6 x p):CP p:=(Abo.1 h.can).2.1
theorem I6.mo (h:I6 x p):∀t∈p,Js x t.M:=λt ht=>⟨(Abo.1 h.can).2.2 t ht,(h.sz t ht).mo⟩
theorem I6.of (hc:CP p) (b:∀t∈p,Js x t.M) (c:∀t∈p,RB 1048576 t.C) (f:p.length<=1000):I6 x p := ⟨Abo.2 ⟨f,hc,λt ht=>(b t ht).1⟩,λt ht=>⟨c t ht,(b t ht).2⟩⟩
theorem I6.tb (h:I6 x p):∀t∈p,RB 1048576 t.C/\Js x t.M:=λt ht=>⟨(h.sz t ht).co,h.mo t ht⟩
def bc:Nat->Nat->Nat
 | _,0=>1
 | 0,_+1=>0
 | n+1,k+1=>bc n k+bc n (k+1)
theorem J3 (n:Nat):bc n 0=1:=by cases n <;> rfl
theorem Abv:∀{n k:Nat},n<k->Hx n k=0
 | n,0,h=>absurd h ω
 | n,k+1,h=>by
  rw[Hx];by_cases e:n<k
  .rw[Abv e,Nat.zero_mul]
  .rw[show n-k=0 by omega,Nat.mul_zero]
theorem Ave (n:Nat):∀k,Hx (n+1) (k+1)=(n+1)*Hx n k
 | 0=>by simp[Hx]
 | k+1=>by rw[Hx,Ave n k,Hx,show n+1-(k+1)=n-k by omega,Nat.mul_assoc]
theorem X3:∀n k,Hx n k=fct k*bc n k
 | n,0=>by rw[J3];rfl
 | 0,k+1=>by rw[Abv ω];simp[bc]
 | n+1,k+1=>by
  have h1:=X3 n (k+1);have h2:=X3 n k;rw[Ave,bc,Nat.mul_add,<-h1,fct,Hx,Nat.mul_right_comm,<-h2];by_cases e:k<=n
  .rw[<-Nat.mul_add,Nat.mul_comm,show k+1+(n-k)=n+1 by omega]
  .rw[Abv ω];simp
theorem Abw:∀n k,bc n k<=2 ^ n
 | n,0=>by rw[J3];exact Nat.one_le_two_pow
 | 0,k+1=>by simp[bc]
 | n+1,k+1=>by have h1:=Abw n (k+1);have h2:=Abw n k;rw[bc,Nat.pow_succ];omega
def cR (n:Nat):Ao:=C2 false n 1
theorem Sw (n:Nat):sv (cR n)=false/\nv (cR n)=n/\dv (cR n)=1:=by
 obtain⟨g,f,c,b⟩:=At0 false n 1 δ;refine⟨?_,?_,?_⟩
 .by_cases h:n=0
  .exact b h
  .exact c h
 .unfold cR;rw[g];simp
 .unfold cR;rw[f];simp
theorem Oj {n:Nat} (h:Ck n<=k) (hk:1<=k):RB k (cR n):=Oi _ _ _ _ h (by rw[Sr];exact hk) hk
theorem A74 {a b:Nat} (ha:Ck a<=K) (hb:Ck b<=K) (c:1<=K) (h:K<60000000000):Jd (cR a) (cR b)=some (cR (a+b)):=by obtain⟨a1,a2,a3⟩:=Sw a;obtain⟨b1,b2,f⟩:=Sw b;rw[Ago _ _ K K (Oj ha c) (Oj hb c) ω ω,a1,a2,a3,b1,b2,f];simp[Pn,Mo,cR]
theorem A75 {a:Nat} (ha:Ck a<=K) (b:1<=K) (h:K<60000000000):Ir (cR a)=some (if a=0 then 0 else 1):=by obtain⟨a1,a2,a3⟩:=Sw a;rw[Agm _ K (Oj ha b) ω,a1,a2];simp[K6]
theorem Ag8:Ed 0=some (cR 0):=Abi 0 δ δ
theorem L9:Ed 1=some (cR 1):=Abi 1 δ δ
theorem Avf (n k:Nat) (b:n<1000000000) (hk:k<=64):Zs (n:Int) (k:Int)=some (cR (bc n k),true):=by
 unfold Zs;have e:(if (n:Int)>0 then (n:Int) else 0)=(n:Int):=by split <;> omega
 simp only[A5 (ω:¬(k:Int)<0),Aq,A5 (ω:¬(k:Int)>64),Ad,e,At4 n k b hk];rw[X3,show C2 false (fct k*bc n k) (fct k)=C2 false (fct k*bc n k) (fct k*1) by rw[Nat.mul_one],Xv _ _ _ _ (Xw k)];rfl
theorem Avg (n k:Nat) (b:n<1000000000) (hk:k<=64):Xf (n:Int) (k:Int)=some (cR (bc n k),true):=Avf n k b hk
theorem Amf:∀(l:List Af) (r:List Bool) (s:Nat) (n:Nat) (p:Int) (L:Nat->Option Af),l.length=r.length->(∀j,L (s+j)=l[j]?) -> (((r.zipIdx s).filter λq=>!q.1).map λq=>(q.2:Int))[n]? = some p->∃(m:Nat) (a:Af),p=m/\L m=some a/\(F7 l r)[n]? = some a
 | [],[],s,n,p,L,_,_,h=>by simp at h
 | a::l,b::r,s,n,p,L,i,g,h=>by
  have c:l.length=r.length:=(by simpa using i);have f:∀j,L (s+1+j)=l[j]?:=λj=>by rw[show s+1+j=s+(j+1) by omega,g];rfl
  cases b with
  | true=>simp only[zipIdx_cons,filter_cons,bnt]at h;obtain⟨m,x,h1,h2,h3⟩:=Amf l r (s+1) n p L c f (by simpa using h);exact⟨m,x,h1,h2,by simpa[F7] using h3⟩
  | false=>simp only[zipIdx_cons,filter_cons,Bool.not_false,if_true,map_cons]at h;cases n with| zero=>simp only[getElem?_cons_zero,Option.some.injEq]at h;exact⟨s,a,h.symm,by have:=g 0;simpa using this,by simp[F7]⟩| succ n=>simp only[getElem?_cons_succ]at h;obtain⟨m,x,h1,h2,h3⟩:=Amf l r (s+1) n p L c f h;exact⟨m,x,h1,h2,by simpa[F7] using h3⟩
 | [],_::_,_,_,_,_,h,_,_=>by simp at h
 | _::_,[],_,_,_,_,h,_,_=>by simp at h
theorem A76 {l:List Af} {r:List Bool} (b:l.length=r.length) {n:Nat} {p:Int} (h:(I3 r)[n]? = some p):∃(m:Nat) (a:Af),p=m/\l[m]? = some a/\(F7 l r)[n]? = some a := Amf l r 0 n p (λj=>l[j]?) b (λj=>ψ) (by unfold I3 at h;exact h)
theorem A77 (l:List Af) (r:List Bool) (c:l.length=r.length):(I3 r).length=(F7 l r).length:=by
 unfold I3 F7;rw[C1,C1];have key:∀(l:List Af) (r:List Bool) (s:Nat),l.length=r.length->((r.zipIdx s).filter λq=>!q.1).length=((l.zip r).filter λp=>!p.2).length:=by
  intro l;induction l with
  | nil=>intro r s h;have:r = []:=Gn.1 h.symm;subst this;rfl
  | cons a l ih=>intro r s h;cases r with| nil=>simp at h| cons b r=>have:=ih r (s+1) (by simpa using h);cases b <;> simp[this]
 exact key l r 0 c
theorem Avh {t:Af} (hk:t.G=5):∀(n:Nat) (v:Ax),Cp v<=n->G9 data v t=true->∀x∈Il data t.U v,G9 data x t=true/\Cp x<=Cp v:=by
 intro n;induction n with
 | zero=>intro v h;have:=Xz v;omega
 | succ n ih=>
  intro v h q x hx;have s:=Lv v;obtain⟨y,_,_,_,k,f⟩:=Ags hk q;rw[Auf]at hx;rcases Gi.1 hx with rfl|hx
  .exact⟨q,Nat.le_refl _⟩
  .have key:∀(l:List Ax) (r:List Bool),(∀(j:Nat) (w:Ax),l[j]? = some w->r[j]? = some true->G9 data w t=true)->D0 l<=n->x∈Im data t.U l r->G9 data x t=true/\Cp x<=D0 l:=by
    intro l;induction l with
    | nil=>intro r _ _ hx;simp[Im]at hx
    | cons w l c=>
     intro r i u hx;cases r with
     | nil=>simp[Im]at hx
     | cons b r=>
      have hw:D0 (w::l)=Cp w+D0 l:=(by simp[D0]);have g:∀(j:Nat) (w':Ax),l[j]? = some w'->r[j]? = some true->G9 data w' t=true:=λj w' h1 h2=>i (j+1) w' h1 h2;cases b with
      | true=>
       simp only[Im,Am,Ej]at hx;rcases hx with hx|hx
       .have:=ih w ω (i 0 w rfl rfl) x hx;exact⟨this.1,ω⟩
       .have:=c r g ω hx;exact⟨this.1,ω⟩
      | false=>simp only[Im,Aq,nil_append]at hx;have:=c r g ω hx;exact⟨this.1,ω⟩
   have:=key v.K _ f ω hx;exact⟨this.1,ω⟩
theorem X4 (data:List Ai):∀(is:List Ah) (ts:List Af) (d:Nat),Cx data is ts=some d->is.length=ts.length/\∀(j:Nat) (i:Ah) (t:Af),is[j]? = some i->ts[j]? = some t->∃e,Di data i t=some e/\e<=d
 | [],[],d,_=>⟨rfl,λj i t h=>by simp at h⟩
 | i::is,t::ts,d,h=>by
  rw[Nm]at h;cases h1:Di data i t with
  | none=>rw[h1]at h;cases h
  | some a=>
   rw[h1,Ad]at h;cases h2:Cx data is ts with
   | none=>rw[h2]at h;cases h
   | some b=>rw[h2]at h;have h:a+b=d:=Fp h;obtain⟨g1,g2⟩:=X4 data is ts b h2;refine⟨by simp[g1],λj i' t' hi ht=>?_⟩;cases j with| zero=>cases hi;cases ht;exact⟨a,h1,ω⟩| succ j=>obtain⟨e,c,f⟩:=g2 j i' t' hi ht;exact⟨e,c,ω⟩
 | [],_::_,_,h=>by simp only[Cx]at h;cases h
 | _::_,[],_,h=>by simp only[Cx]at h;cases h
end Go.Ab
