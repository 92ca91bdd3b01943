/- Plain laws. -/
import Derived.Test.YtdinnpegmcadbaaGreatDoorRnPl1
import Derived.KernelRfl
open List
namespace Go.Ab
open Go
theorem Alt (a:Aq) (k:Nat) (h:RB k a) (e:k<274877906900):Ko a=some (C6 (sv a) (nv a) (dv a)):=by unfold Ko;have i:=h.nv;have o:=h.dv;rw[Sn a k h e,Ad,Pj _ _ _ ω ω];rfl
def La (s:Bool) (n:Nat):Int:=if n=0 then 0 else if s then -1 else 1
theorem A6d (s:Bool) (n:Nat) (d:List Int):Z0 ⟨s,Al n,d⟩=some (La s n):=by
 unfold Z0 La;dsimp only;by_cases h:n=0
 .subst h;rw[Jd];rfl
 .have b:(Al n).length≠0:=λe=>Mg h (F3.1 e);rw[C8 ω,Ap,Ao h];cases s <;> rfl
theorem Agl (a:Aq) (k:Nat) (h:RB k a) (e:k<274877906900):Is a=some (La (sv a) (nv a)):=by unfold Is;rw[Sn a k h e,Ad,A6d];rfl
theorem Alu (z:Int) (i : -9223372036854775808<=z) (o:z<=9223372036854775807):Tz z=some (Al z.natAbs):=by
 unfold Tz;by_cases h:z<0
 .have e:Bh z=z+18446744073709551616:=(by have:IntKind.u64.wrap z=z % 18446744073709551616:=(by simp[IntKind.wrap,IntKind.bits,IntKind.signed]);rw[Bh,this];omega);have b:Bh (0-(z+18446744073709551616))=((z.natAbs:Nat):Int):=(by have:IntKind.u64.wrap (0-(z+18446744073709551616))=(0-(z+18446744073709551616)) % 18446744073709551616:=(by simp[IntKind.wrap,IntKind.bits,IntKind.signed]);rw[Bh,this];omega);rw[Ar h,Am,e,b,Agh _ ω];rfl
 .have b:Bh z=((z.natAbs:Nat):Int):=(by rw[Bh,Fz ω ω];omega);rw[A3 h,Ap,b,Agh _ ω];rfl
theorem Abr (z:Int) (e : -9223372036854775808<=z) (h:z<=9223372036854775807):Ej z=some (C6 (decide (z<0)) z.natAbs 1):=by unfold Ej;have:=U3 (n:=z.natAbs) ω;rw[Alu z e h,Ad,<-Agk,Pj _ _ _ ω (by rw[Sl];decide)];rfl
theorem At0 (x y:Int) (e : -9223372036854775808<=x) (h:x<=9223372036854775807) (i : -9223372036854775808<=y) (b:y<=9223372036854775807) (o:y≠0):Pz x y=some (C6 (decide (x<0) != decide (y<0)) x.natAbs y.natAbs):=by unfold Pz;have s:=U3 (n:=x.natAbs) ω;have A:=U3 (n:=y.natAbs) ω;rw[C8 o,Ap,Alu x e h,Ad,Alu y i b,Ad,Pj _ _ _ ω ω];rfl
theorem Agm (a b:Aq) (j k:Nat) (e:RB j a) (hb:RB k b) (h:j<68719476736) (i:k<68719476736):Fa a b=some (C6 (sv a != sv b) (nv a*nv b) (dv a*dv b)):=by unfold Fa;have o:=e.nv;have s:=e.dv;have A:=hb.nv;have g:=hb.dv;have f:=Jq (nv a) (nv b);have c:=Jq (dv a) (dv b);rw[Sn a j e ω,Ad,Sn b k hb ω,Ad];dsimp only;rw[Sj _ _ ω ω,Ad,Sj _ _ ω ω,Ad,Pj _ _ _ ω ω];rfl
def Pk (b:Bool) (g i:Nat) (c:Bool) (f h:Nat):Bool:=if b=c then b else if f*i<=g*h then b else c
def Mm (i:Bool) (c g:Nat) (h:Bool) (b f:Nat):Nat:=if i=h then c*f+b*g else if b*g<=c*f then c*f-b*g else b*g-c*f
theorem Agn (a b:Aq) (j k:Nat) (A:RB j a) (hb:RB k b) (B:j<68719476736) (C:k<68719476736) : Ja a b=some (C6 (Pk (sv a) (nv a) (dv a) (sv b) (nv b) (dv b)) (Mm (sv a) (nv a) (dv a) (sv b) (nv b) (dv b)) (dv a*dv b)):=by
 unfold Ja Wk;have D:=A.nv;have E:=A.dv;have F:=hb.nv;have s:=hb.dv;have q:=Jq (nv a) (dv b);have l:=Jq (nv b) (dv a);have i:=Jq (dv a) (dv b);have h:=Afs (nv a*dv b) (nv b*dv a);have g:=Mh (Nat.sub_le (nv a*dv b) (nv b*dv a));have f:=Mh (Nat.sub_le (nv b*dv a) (nv a*dv b));rw[Sn a j A ω,Ad,Sn b k hb ω,Ad];dsimp only;rw[Sj _ _ ω ω,Ad,Sj _ _ ω ω,Ad,Sj _ _ ω ω,Ad];by_cases c:sv a=sv b
 .have e:(sv a==sv b)=true:=(by rw[c];exact beq_self_eq_true _);rw[e,Am,Atr _ _ ω ω,Ad,Ad,Pj _ _ _ ω ω,Pk,Mm,As c,As c];rfl
 .have e:(sv a==sv b)=false:=(by simpa using c);rw[e,Ap,Alp _ _ ω ω,Ad,Pk,Mm,Ao c,Ao c];by_cases o:nv b*dv a<=nv a*dv b
  .rw[Ar (show Jj (nv a*dv b) (nv b*dv a)>=0 by rw[Jj,Ao ω];split <;> decide),Am,Agi _ _ ω o,Ad,Ad,Pj _ _ _ ω ω,As o,As o];rfl
  .rw[A3 (show ¬Jj (nv a*dv b) (nv b*dv a)>=0 by rw[Jj,As ω];decide),Ap,Agi _ _ ω ω,Ad,Ad,Pj _ _ _ ω ω,Ao o,Ao o];rfl
theorem Ago (s:Bool) (d:Nat):C6 s 0 d=⟨false,[],[1]⟩:=by simp[C6]
theorem Oc (s:Bool) (n d k:Nat) (b:Ck n<=k) (i:Ck d<=k) (e:1<=k):RB k (C6 s n d):=by
 unfold C6;split
 .refine⟨nofun,λx h=>?_,ψ,by simpa using e⟩;simp at h;subst h;decide
 .have o:=Asd n (Nat.gcd n d);have A:=Asd d (Nat.gcd n d);unfold Ck at *;exact⟨(Im _).u32,(Im _).u32,by simp only;omega,by simp only;omega⟩
theorem At1 (s:Bool) (n d:Nat) (C:d≠0):nv (C6 s n d)=n / Nat.gcd n d/\dv (C6 s n d)=d / Nat.gcd n d/\(n≠0->sv (C6 s n d)=s)/\(n=0->sv (C6 s n d)=false):=by
 by_cases i:n=0
 .subst i;rw[Ago];have c:d / Nat.gcd 0 d=1:=(by rw[Nat.gcd_zero_left];exact Nat.div_self ω);refine⟨by simp[nv,Av],?_,λh=>(h rfl).elim,λ_=>by simp[sv,Av]⟩;rw[c];simp[dv,Av]
 .have B:0<Nat.gcd n d:=Nat.gcd_pos_of_pos_left d ω;have D:n / Nat.gcd n d≠0:=(by have:=Nat.div_pos (Nat.gcd_le_left d (ω:0<n)) B;omega);have E:d / Nat.gcd n d≠0:=(by have:=Nat.div_pos (Nat.gcd_le_right n (ω:0<d)) B;omega);have e:C6 s n d=⟨s,Al (n / Nat.gcd n d),Al (d / Nat.gcd n d)⟩:=(by simp[C6,i]);have b:(Av (Al (n / Nat.gcd n d))).toNat=n / Nat.gcd n d:=(by rw[Il];rfl);have o:(Av (Al (d / Nat.gcd n d))).toNat=d / Nat.gcd n d:=(by rw[Il];rfl);rw[e];have A:¬(n / Nat.gcd n d=0\/d / Nat.gcd n d=0):=ω;refine⟨?_,?_,λ_=>?_,λh=>(i h).elim⟩
  .simp only[nv,b,o,Ao A]
  .simp only[dv,b,o,Ao A]
  .simp only[sv,b,o,Ao A]
theorem Xq (s:Bool) (n d k:Nat) (e:k≠0):C6 s (k*n) (k*d)=C6 s n d:=by
 unfold C6;by_cases h:n=0
 .subst h;simp
 .have i:k*n≠0:=Nat.mul_ne_zero e h;rw[Ao i,Ao h,Nat.gcd_mul_left,Nat.mul_div_mul_left _ _ ω,Nat.mul_div_mul_left _ _ ω]
theorem At2 {s t:Bool} {n d:Nat} (h:n≠0->s=t):C6 s n d=C6 t n d:=by
 unfold C6;by_cases e:n=0
 .simp[e]
 .rw[h e]
theorem cl1 {o X K c s x y A w:Int} (f:c+x+w=s) (e:w=y*A) (b:1000000000*(s / 1000000000)+s % 1000000000=s) (z V:Int) (h:o+X*K*c=z+X*(y*V)):o+X*K*(s % 1000000000-x)+X*K*1000000000*(s / 1000000000)=z+X*(y*(V+K*A)):=by grind
end Go.Ab
namespace Go.Ab
open Go Ieee
end Go.Ab
namespace Go.Ab
open Go
variable {k n:Nat}
theorem A6e {a:Aq} (h:RB k a):RB (k+1) (C6 (sv a) (nv a) (dv a)):=Oc _ _ _ _ h.nv h.dv ω
theorem Agp (s:Bool) (n d:Nat) (e:d≠0):∃g:Nat,g≠0/\n=g*nv (C6 s n d)/\d=g*dv (C6 s n d)/\(n≠0->sv (C6 s n d)=s)/\(n=0->sv (C6 s n d)=false):=by obtain⟨h,i,o,b⟩:=At1 s n d e;have A:0<Nat.gcd n d:=Nat.gcd_pos_of_pos_right _ ω;exact⟨Nat.gcd n d,ω,by rw[h];exact (Nat.mul_div_cancel' (Nat.gcd_dvd_left _ _)).symm,by rw[i];exact (Nat.mul_div_cancel' (Nat.gcd_dvd_right _ _)).symm,o,b⟩
theorem A6f (s t:Bool) (n d m e:Nat) (o:d≠0) (k:e≠0):C6 (sv (C6 s n d) != sv (C6 t m e)) (nv (C6 s n d)*nv (C6 t m e)) (dv (C6 s n d)*dv (C6 t m e))=C6 (s != t) (n*m) (d*e):=by
 obtain⟨g,A,B,C,D,_⟩:=Agp s n d o;obtain⟨h,E,F,G,q,_⟩:=Agp t m e k;have l:C6 (s != t) (n*m) (d*e)=C6 (sv (C6 s n d) != sv (C6 t m e)) (n*m) (d*e):=by apply At2;intro b;have i:n≠0:=λe=>b (by rw[e];simp);have j:m≠0:=λe=>b (by rw[e];simp);rw[D i,q j]
 rw[l];generalize C6 s n d=c at *;generalize C6 t m e=f at *;rw[B,C,F,G,show g*nv c*(h*nv f)=g*h*(nv c*nv f) by grind,show g*dv c*(h*dv f)=g*h*(dv c*dv f) by grind,Xq _ _ _ _ (Nat.mul_ne_zero A E)]
def Hv (n:Nat):Nat->Nat
 | 0=>1
 | k+1=>Hv n k*(n-k)
def fct:Nat->Nat
 | 0=>1
 | k+1=>fct k*(k+1)
theorem Xr:∀k,fct k≠0
 | 0=>δ
 | k+1=>Nat.mul_ne_zero (Xr k) ω
theorem A6g (h:n<k):Hv n k=0:=by
 induction k with
 | zero=>omega
 | succ k ih=>
  simp only[Hv];rcases Cf n k with e|e
  .rw[ih e];simp
  .have:n-k=0:=ω;rw[this];simp
theorem A6h (n k:Nat) (b:n<1000000000):Ck (Hv n k)<=k+1:=by induction k with| zero=>simp[Hv,Sl]| succ k ih=>have e:=Jq (Hv n k) (n-k);have h:Ck (n-k)<=1:=K6 ζ;simp only[Hv];omega
theorem A6i (k:Nat) (e:k<1000000000):Ck (fct k)<=k+1:=by induction k with| zero=>simp[fct,Sl]| succ k ih=>have h:=Jq (fct k) (k+1);have i:Ck (k+1)<=1:=K6 ζ;simp only[fct];have:=ih ω;omega
theorem At3 (h:n<1000000000):Ck n<=1:=K6 (by simpa using h)
theorem A6j (n k:Nat) (b:n<1000000000) (e:k<=64):RB (k+1) (C6 false (Hv n k) (fct k)) := Oc _ _ _ _ (A6h n k b) (A6i k ω) ω
theorem At4 (a:Aq):Aq.mk a.N a.U a.B=a:=by cases a;rfl
theorem At5 (n k:Nat) (A:n<1000000000) (C:k<=64):T9 (n:Int) (k:Int)=some (C6 false (Hv n k) (fct k)):=by
 unfold T9;have B:Ej 1=some (C6 false (Hv n 0) (fct 0)):=Abr 1 δ δ;rw[B,Ad];refine M8 (λ(i,s,b,c)=>∃q:Nat,i=q/\q<=k/\q<=n/\Aq.mk s b c=C6 false (Hv n q) (fct q)) (λ(i,_,_,_)=>k-i.toNat) (λe=>match e with|.inl r=>r=C6 false (Hv n k) (fct k) | .inr (s,b,c)=>Aq.mk s b c=C6 false (Hv n k) (fct k)) ⟨0,rfl,ω,ω,At4 _⟩ ?_ ?_
 .rintro⟨i,s,b,c⟩ ⟨q,rfl,D,z,o⟩;rcases Cf q k with h|h
  .simp only[Ar (ω:(q:Int)<(k:Int)),Am];by_cases x:n=q
   .subst x;refine .inr ⟨.inl (C6 false 0 1),?_,?_⟩
    .rw[Eh rfl,Am,Abr 0 δ δ];rfl
    .show C6 false 0 1=_;rw[A6g h,Ago,Ago]
   .have u:Ac ((n:Int)-(q:Int))=((n-q:Nat):Int):=ξ;have l:Ac ((q:Int)+1)=((q+1:Nat):Int):=Si h ω;have y:Pz ((n-q:Nat):Int) ((q+1:Nat):Int)=some (C6 false (n-q) (q+1)):=(by rw[At0 _ _ ω ω ω ω ω,A3 (ω:¬((n-q:Nat):Int)<0),A3 (ω:¬((q+1:Nat):Int)<0)];rfl);have g:RB 1 (C6 false (n-q) (q+1)):=Oc _ _ _ _ (At3 ω) (At3 ω) ω;have j:=Agm _ _ _ _ (A6j n q A ω) g ω ω;rw[A6f false false (Hv n q) (fct q) (n-q) (q+1) (Xr q) ω]at j;refine .inl ⟨(((q+1:Nat):Int),(C6 false (Hv n (q+1)) (fct (q+1))).N,(C6 false (Hv n (q+1)) (fct (q+1))).U,(C6 false (Hv n (q+1)) (fct (q+1))).B),?_,⟨q+1,rfl,ω,ω,At4 _⟩,ζ⟩;rw[C8 ω,Ap,u,l,y,Ad,o,j,Ad];rfl
  .have:q=k:=ω;subst this;refine .inr ⟨.inr (s,b,c),ψ,o⟩
 .rintro (e|⟨s,b,c⟩) f
  .simp only at f ⊢;rw[f]
  .simp only at f ⊢;rw[f]
theorem A6k {α:Type} [DecidableEq α] (l m:List α) (b:l.length=m.length):(decide (l=m))=l.zipIdx.all (λq=>decide (m[q.2]? = some q.1)):=by
 rw[Bool.eq_iff_iff,Ds];constructor
 .rintro rfl;exact Ak3 λj x e=>by simpa using e
 .intro h;apply ext_getElem?;intro j;cases e:l[j]? with| none=>rw[List.getElem?_eq_none_iff]at e;rw[Ll ω]| some x=>have:=Je h e;rw[Ds]at this;rw[this]
theorem A6l {R:Type} (l m:List Int) (b:l.length<1099511627776) (h:l.length=m.length) {J:Bool⊕Unit->Option R} {rt rf:R} (s:J (.inl false)=some rf) (A:J (.inr ())=some rt) : (Ak (S:=Int) (E:=(Bool⊕Unit)) (λi=>bif i<(l.length:Int) then ((Ag l i).bind λB=>(Ag m i).bind λC=>bif (B != C) then some (.inr (.inl false)) else some (.inl (Ac (i+1)))) else some (.inr (.inr ()))) 0).bind J=some (bif decide (l=m) then rt else rf):=by
 rw[A6k l m h];refine Abb l (λq=>decide (m[q.2]? = some q.1)) (λj=>(j:Int)) rfl ω (rt:=rt) (rf:=rf) ?_ ?_
 .intro j x D _ F G H;have I:j<m.length:=(by have:=Ec D;omega);have o:m[j]? = some m[j]:=Bp I;generalize m[j]=y at o;simp only[F,G,H,Am,Ad,Bn rfl o,o,Option.some.injEq];by_cases e:x=y
  .rw[G0 e,Ar e.symm];exact⟨λ_=>rfl,λh=>by cases h⟩
  .rw[F4 e,A3 λh=>e h.symm];exact⟨nofun,λ_=>⟨.inl false,rfl,s⟩⟩
 .intro h _;exact⟨.inr (),by simp only[h];rfl,A⟩
theorem At6 (l m:List Int) (b:l.length<1099511627776):Ox l m=some (decide (l=m)):=by
 unfold Ox;by_cases h:l.length=m.length
 .rw[G0 ω];simp only[Ap];refine (A6l l m b h (rt:=true) (rf:=false) ?_ ?_).trans (by rw[Afu]) <;> rfl
 .rw[F4 ω,A3 λe=>h (by rw[e])];rfl
def Xs (a b:Aq):Bool:=a.N==b.N&&decide (a.U=b.U)&&decide (a.B=b.B)
theorem At7 (a b:Aq):Xs a b=true↔a=b:=by
 unfold Xs;simp only[Cz,beq_iff_eq,Ds];constructor
 .rintro⟨⟨e,h⟩,i⟩;cases a;cases b;simp_all
 .rintro rfl;simp
def Abs (c:Aq):Bool:=Xs (C6 (sv c) (nv c) (dv c)) c && !(nv c==0)
structure TSz (t:Aj):Prop where
 co:RB 1048576 t.C
 mo:MSz t.M
def U4 (l:List Aj) (x:Aj) (j:Nat):Bool:=j==0||(match l[j-1]? with|some y=>decide (Fd y.M x.M<0) | none=>false)
def Xt (data:List Ai) (vars:List Af) (res:Af) (l:List Aj) (t:Aj) (j:Nat):Bool:=Abs t.C&&Js data vars res t.M&&U4 l t j
def Jk (data:List Ai) (vars:List Af) (res:Af) (p:List Aj):Bool:=decide (p.length<=1000)&&p.zipIdx.all (λq=>Xt data vars res p q.1 q.2)
theorem A6m {S E:Type} (F:A5->A5->Option Int) (l:List Aj) (g:∀y∈l,∀x,F y.M x=some (Fd y.M x)) {x:Aj} {j:Nat} (B:l[j]? = some x) (i:l.length<4611686018427387904) (c b:Option (S⊕E)) : (bif decide ((j:Int)>0) then ((Ag l (Ac ((j:Int)-1))).bind λf=>(F f.M x.M).bind λo=>bif decide (o>=0) then c else b) else b)=bif U4 l x j then b else c:=by
 have D:=Ec B;unfold U4;by_cases h:j=0
 .subst h;rfl
 .rw[Ar ω];have e:Ac ((j:Int)-1)=((j-1:Nat):Int):=ξ;have s:l[j-1]? = some l[j-1]:=Bp ω;rw[e,Bn rfl s,s];have C:(j==0)=false:=(by simpa using h);simp only[Am,Ad,C,Bool.false_or,g _ (getElem_mem (ω:j-1<l.length))];by_cases A:Fd l[j-1].M x.M<0
  .rw[A3 ω,Ar A];rfl
  .rw[Ar ω,A3 A];rfl
theorem A6n (s:Bool) (n:Nat):(La s n==0)=(n==0):=by
 unfold La;by_cases h:n=0
 .rw[As h];subst h;rfl
 .rw[Ao h];have:(n==0)=false:=(by simpa using h);rw[this];cases s <;> rfl
theorem A6o {data:List Ai} {vars:List Af} {res:Af} (hc:Ob data vars res) {b1:List (ByteArray×Int)} (b2:List (ByteArray×List Au)) (U:Ez data vars res b1) (p:List Aj) (S:∀t∈p,TSz t) :
  ∃A,Zi p b1 b2 data vars res.G res.U res.R=some (Jk data vars res p,A)/\Ez data vars res A:=by
 unfold Zi Jk
 by_cases u:p.length<=1000
 .rw[A3 ω,Ar u,Bool.true_and]
  simp only[Ap]
  obtain⟨r,V,N⟩:=Ak5 (M:=List (ByteArray×Int)) (R:=Bool×List (ByteArray×Int)) p (λq=>Xt data vars res p q.1 q.2) (λj o=>((j:Int),o)) (Ez data vars res)
   (λr=>Ez data vars res r.2/\r.1=true) (λr=>Ez data vars res r.2/\r.1=false) b1
   (s0:=((0:Int),b1))
   (step:=(λ(C,f)=>
    bif C<(p.length:Int) then (
    (Ag p C).bind λF=>
    (Ko F.C).bind λc=>
    (show OB from
    bif (c.N==F.C.N) then (
    (Ox c.U F.C.U).bind λg=>
    bif g then (
    (Ox c.B F.C.B).bind λT=>
    some T)
    else some false)
    else some false).bind λD=>
    bif (!D) then some (.inr (.inl (false,f)))
    else (
    (Is c).bind λB=>
    bif (B==(0:Int)) then some (.inr (.inl (false,f)))
    else (
    (Wl F.M f b2 data vars res.G res.U res.R).bind λH=>
    bif (!H.1) then some (.inr (.inl (false,H.2)))
    else (
    bif C>(0:Int) then (
    (Ag p (Ac (C-1))).bind λa0=>
    (Rt a0.M F.M).bind λa1=>
    bif a1>=(0:Int) then some (.inr (.inl (false,H.2)))
    else some (.inl ((Ac (C+1)),H.2)))
    else some (.inl ((Ac (C+1)),H.2))))))
    else some (.inr (.inr f)):Int×List (ByteArray×Int)->Option ((Int×List (ByteArray×Int))⊕((Bool×List (ByteArray×Int))⊕List (ByteArray×Int)))))
   (J:=(λz=>match z with
    | .inl (G,E)=>some (G,E)
    | .inr I=>some (true,I)))
   rfl U ω (by
    intro j t o s hx _ Q h2 W
    have b:=S t (Bv hx)
    obtain⟨A,d1,d2⟩:=A51 b2 hc s t.M b.mo
    have k:∀l:List Int,l=(C6 (sv t.C) (nv t.C) (dv t.C)).U\/l=(C6 (sv t.C) (nv t.C) (dv t.C)).B->l.length<1099511627776:=by
     intro l u
     have q:=Oc (sv t.C) (nv t.C) (dv t.C) 1048577 b.co.nv b.co.dv ω
     have:=q.nl
     have:=q.dl
     rcases u with rfl|rfl <;> omega
    have i:(bif ((C6 (sv t.C) (nv t.C) (dv t.C)).N==t.C.N) then ((Ox (C6 (sv t.C) (nv t.C) (dv t.C)).U t.C.U).bind λg=>bif g then ((Ox (C6 (sv t.C) (nv t.C) (dv t.C)).B t.C.B).bind λT=>some T) else some false) else some false)=some (Xs (C6 (sv t.C) (nv t.C) (dv t.C)) t.C):=by
     unfold Xs
     rw[At6 _ _ (k _ (.inl rfl)),At6 _ _ (k _ (.inr rfl))]
     cases ((C6 (sv t.C) (nv t.C) (dv t.C)).N==t.C.N) <;> cases decide ((C6 (sv t.C) (nv t.C) (dv t.C)).U=t.C.U) <;> rfl
    simp only[Q,h2,W,Am,Ad,Alt t.C 1048576 b.co ω,i,A6m Rt p (λy hy x=>Ath y.M x (S y hy).mo) hx ω,Xt,Abs]
    cases L:Xs (C6 (sv t.C) (nv t.C) (dv t.C)) t.C with
    | false=>exact⟨nofun,λ_=>⟨_,rfl,_,rfl,s,rfl⟩⟩
    | true=>
     have e:=(At7 _ _).1 L
     simp only[bnt,Ap,Bool.true_and]
     rw[e,Agl t.C 1048576 b.co ω,Ad,A6n]
     cases (nv t.C==0) with
     | true=>exact⟨nofun,λ_=>⟨_,rfl,_,rfl,s,rfl⟩⟩
     | false=>
      simp only[Ap,d1,Ad,Bool.not_false,Bool.true_and]
      cases Js data vars res t.M with
      | false=>exact⟨nofun,λ_=>⟨_,rfl,_,rfl,d2,rfl⟩⟩
      | true=>
       cases U4 p t j with
       | true=>exact⟨λ_=>⟨A,rfl,d2⟩,λh=>by cases h⟩
       | false=>exact⟨nofun,λ_=>⟨_,rfl,_,rfl,d2,rfl⟩⟩) (by
    intro o s Q _
    exact⟨.inr o,by simp only[Q];rfl,_,rfl,s,rfl⟩)
  refine⟨r.2,?_,?_⟩
  .have e:some r=some (p.zipIdx.all λq=>Xt data vars res p q.1 q.2,r.2):=by
    rcases N with⟨Q,h2,W⟩|⟨Q,h2,W⟩
    .rw[Q,<-W]
    .rw[Q,<-W]
   rw[<-e]
   exact V
  .rcases N with⟨Q,h2,W⟩|⟨Q,h2,W⟩ <;> exact h2
 .rw[Ar ω,A3 u]
  exact⟨b1,rfl,U⟩
structure CSz (x:B9):Prop where
 ds:DSz x.D
 nv:x.V.length<=1048576
 vs:∀t∈x.V,Bx t<=1048576
 rs:Bx x.E<=1048576
def Gw (data:List Ai) (t:Af):Bool:=Fb data 0 t&&decide (Bx t<=200)
def Hn (x:B9):Prop:=x.V.length<=3000/\Hu x.D/\Gw x.D x.E=true/\x.V.all (Gw x.D)=true
theorem Hn.ctx {x:B9} (h:Hn x) (b:CSz x):Ob x.D x.V x.E:=by
 refine⟨h.2.1,b.ds.sz.short,λv t e=>?_,h.1⟩;have good:∀t,Gw x.D t=true->Bx t<=200:=λt h=>by simp only[Gw,Cz,Ds]at h;exact h.2
 unfold C9 at e;by_cases hv:v = -1
 .rw[As hv]at e;cases e;exact good _ h.2.2.1
 .rw[Ao hv]at e;exact good t (Gt.1 h.2.2.2 t (G3 e).2.2.2)
mutual
def Co:Ay->Nat
 | ⟨_,_,l⟩=>1+Ed l
def Ed:List Ay->Nat
 | []=>0
 | x::xs=>Co x+Ed xs
end
variable {l:List Ay}
theorem L0 (t:Ay):Co t=1+Ed t.K:=by cases t;simp only[Co]
theorem Xu (t:Ay):1<=Co t:=by rw[L0];omega
theorem Mn {a:Ay} (h:a∈l):Co a<=Ed l:=by
 induction l with
 | nil=>cases h
 | cons x xs ih=>
  simp only[Ed];rcases Gc.1 h with rfl|h
  .omega
  .have:=ih h;omega
theorem U5 (l:List Ay):l.length<=Ed l:=by induction l with| nil=>simp| cons x xs ih=>simp only[Ed,D1];have:=Xu x;omega
theorem At8 (l m:List Ay):Ed (l++m)=Ed l+Ed m:=by induction l with| nil=>simp[Ed]| cons x xs ih=>simp only[D0,Ed,ih];omega
theorem At9 {j:Nat} {x:Ay} (h:l[j]? = some x):Ed (l.take (j+1))=Ed (l.take j)+Co x:=by rw[Cs h,At8];simp[Ed]
theorem Aua (l:List Ay) (j:Nat):Ed (l.take j)<=Ed l:=by have:=At8 (l.take j) (l.drop j);rw[take_append_drop]at this;omega
theorem A6p (k:Nat) (l:List Ay) (c:Nat) (L:l.length<1099511627776) (B:c<=5000) (ih:∀(a:Ay),a∈l->∀f:Nat,f<=c->∃q:Int,Ov k a f=some (decide (Co a<=f),q)/\(Co a<=f->q=(f:Int)-Co a)) : ∃p:Int×Int,Wx (k+2) l c=some p/\(Ed l<=c->p.1 = -1/\p.2=(c:Int)-Ed l)/\(¬Ed l<=c->0<=p.1):=by
 rw[Wx];refine Er (λ(o,e)=>∃j:Nat,o=j/\j<=l.length/\Ed (l.take j)<=c/\e=(c:Int)-Ed (l.take j)) (λ(o,_)=>l.length-o.toNat) (λz=>match z with|.inl (i,_)=>0<=i/\¬Ed l<=c | .inr e=>Ed l<=c/\e=(c:Int)-Ed l) ⟨0,rfl,ω,by simp[Ed],by simp[Ed]⟩ ?_ ?_
 .rintro⟨o,e⟩ ⟨j,rfl,H,y,D⟩;have D:e=_:=D;subst D;rcases Cf j l.length with h|h
  .have C:l[j]? = some l[j]:=Bp h;generalize l[j]=x at C;obtain⟨g,A,s⟩:∃g:Nat,(c:Int)-Ed (l.take j)=g/\g<=c:=⟨c-Ed (l.take j),ω,ω⟩;obtain⟨q,J,I⟩:=ih x (Bv C) g s;have E:=At9 C;have G:=Aua l (j+1);simp only[Ar (ω:(j:Int)<(l.length:Int)),Am,Bn rfl C,Ad,Zx,A,J,C3 h ω];by_cases F:Co x<=g
   .rw[Ar F];have M:=I F;exact .inl ⟨_,rfl,⟨j+1,rfl,ω,ω,by show q=_;omega⟩,ζ⟩
   .rw[A3 F];exact .inr ⟨.inl ((j:Int),q),rfl,ω,ω⟩
  .have:j=l.length:=ω;subst this;rw[C1]at *;exact .inr ⟨.inr ((c:Int)-Ed l),ψ,y,rfl⟩
 .rintro (⟨i,b⟩|e) u
  .exact⟨(i,b),rfl,λh=>absurd h u.2,λ_=>u.1⟩
  .exact⟨(-1,e),rfl,λ_=>⟨rfl,u.2⟩,λh=>absurd u.1 h⟩
theorem A6q:∀(left:Nat) (t:Ay) (k:Nat),left<=5000->4*left+4<=k->Co t<1099511627776->∃c:Int,Ov k t left=some (decide (Co t<=left),c)/\(Co t<=left->c=(left:Int)-Co t):=by
 intro left;induction left using Nat.strongRecOn with
 | _ left l=>
  intro t k y F G;have hp:=Xu t;have s:=L0 t;have q:=U5 t.K;obtain⟨j,rfl⟩:∃j,k=j+1:=⟨k-1,ω⟩;cases left with
  | zero=>refine⟨-1,?_,λh=>ω⟩;rw[Ov,A3 (ω:¬Co t<=0)];rfl
  | succ f=>
   have x:Ac (((f+1:Nat):Int)-1)=(f:Int):=ξ;obtain⟨g,rfl⟩:∃g,j=g+3:=⟨j-3,ω⟩;obtain⟨⟨i,c⟩,A,B,C⟩:=A6p g t.K f ω ω (λa D b u=>by have:=Mn D;exact l b ω a g ω ω ω);rw[Ov,x,A3 ω];simp only[Ap,Zw,A,Ad];by_cases o:Ed t.K<=f
   .obtain⟨e,E⟩:=B o;simp only at e E;refine⟨c,?_,λ_=>ω⟩;rw[A3 ω,Ar ω];rfl
   .have e:=C o;simp only at e;refine⟨c,?_,λh=>ω⟩;rw[Ar ω,A3 ω];rfl
mutual
def G5 (data:List Ai):Ay->Af->Bool
 | ⟨k,n,e⟩,t=>
  if t.G=1 then k==3&&decide (-1099511627776<=n)&&decide (n<=1099511627776)&&e.length==0
  else if t.G=2 then k==2&&(n==0||n==1)&&e.length==0
  else if t.G=3 then k==1&&n==0&&e.length==0
  else if t.G=6 then k==4&&n==0&&Hw data e t.R
  else if t.G=5 then k==5&&decide (0<=n)&&decide (n<8)&&(match Jg data t n with|some l=>Hw data e l|none=>false)
  else if t.G=7 then k==6&&n==0&&decide (e.length<=4096)&&(match t.R with|u::_=>U6 data e u | []=>false)
  else if t.G=8 then k==7&&n==0&&Hw data e t.R
  else k==8&&decide (0<=n)&&decide (n<64)&&e.length==0
def Hw (data:List Ai):List Ay->List Af->Bool
 | [],[]=>true
 | x::xs,t::ts=>G5 data x t&&Hw data xs ts
 | [],_::_=>false
 | _::_,[]=>false
def U6 (data:List Ai):List Ay->Af->Bool
 | [],_=>true
 | x::xs,t=>G5 data x t&&U6 data xs t
end
theorem So (data:List Ai) (v:Ay) (t:Af):G5 data v t = if t.G=1 then v.G==3&&decide (-1099511627776<=v.U)&&decide (v.U<=1099511627776)&&v.K.length==0 else if t.G=2 then v.G==2&&(v.U==0||v.U==1)&&v.K.length==0 else if t.G=3 then v.G==1&&v.U==0&&v.K.length==0 else if t.G=6 then v.G==4&&v.U==0&&Hw data v.K t.R else if t.G=5 then v.G==5&&decide (0<=v.U)&&decide (v.U<8)&&(match Jg data t v.U with|some l=>Hw data v.K l|none=>false) else if t.G=7 then v.G==6&&v.U==0&&decide (v.K.length<=4096)&&(match t.R with|u::_=>U6 data v.K u | []=>false) else if t.G=8 then v.G==7&&v.U==0&&Hw data v.K t.R else v.G==8&&decide (0<=v.U)&&decide (v.U<64)&&v.K.length==0:=by cases v;simp only[G5]
theorem A6r (data:List Ai) (l:List Ay) (t:Af):U6 data l t=l.all (G5 data · t):=by induction l with| nil=>rfl| cons x xs ih=>simp only[U6,ih,all_cons]
theorem Abt (data:List Ai):∀(l:List Ay) (ts:List Af),l.length≠ts.length->Hw data l ts=false
 | [],[],h=>absurd rfl h
 | x::xs,t::ts,h=>by simp only[Hw,Abt data xs ts (by simpa using h),Bool.and_false]
 | [],_::_,_=>by simp only[Hw]
 | _::_,[],_=>by simp only[Hw]
theorem Abu (data:List Ai):∀(l:List Ay) (ts:List Af),l.length=ts.length->Hw data l ts=(l.zip ts).all (λq=>G5 data q.1 q.2)
 | [],[],_=>rfl
 | x::xs,t::ts,h=>by simp only[Hw,zip_cons_cons,all_cons,Abu data xs ts (by simpa using h)]
 | [],_::_,h=>by simp at h
 | _::_,[],h=>by simp at h
mutual
theorem Alv (data:List Ai) (d:Nat) (v:Int):∀t,Fb (data.take d) v t=true->Fb data v t=true
 | ⟨k,n,l⟩,h=>by
  simp only[Fb,Cz]at h ⊢
  refine⟨?_,Aub data d v l h.2⟩
  have e:=h.1
  unfold Lm at e ⊢
  by_cases i:k=5
  .subst i
   simp only[getElem?_take]at e ⊢
   by_cases o:n.toNat<d
   .simpa[o] using e
   .simp[o]at e
  .simp only[i,if_false]at e ⊢
   exact e
theorem Aub (data:List Ai) (d:Nat) (v:Int):∀l,Gi (data.take d) v l=true->Gi data v l=true
 | [],_=>rfl
 | x::xs,h=>by
  simp only[Gi,Cz]at h ⊢
  exact⟨Alv data d v x h.1,Aub data d v xs h.2⟩
end
mutual
theorem Auc (data:List Ai) (v:Int) (σ:List Af) (o:∀s∈σ,Fb data 0 s=true) (B:(σ.length:Int)=v):∀t,Fb data v t=true->Fb data 0 (Ei σ t)=true
 | ⟨k,n,l⟩,h=>by
  simp only[Fb,Cz]at h
  cases i:isV σ k n with
  | true=>
   obtain⟨s,e,_,C⟩:=Afz i
   rw[Abj (t:=⟨k,n,l⟩) i e]
   exact o s C
  | false=>
   rw[Af0 (t:=⟨k,n,l⟩) i,<-Alc]
   simp only[Fb,Cz]
   refine⟨?_,Aud data v σ o B l h.2⟩
   rw[Alc,C2]
   have e:=h.1
   unfold Lm at e ⊢
   by_cases A:k=4
   .exfalso
    subst A
    simp at e
    unfold isV at i
    rw[Ar e.1.1,Ar ω]at i
    cases i
   .simp only[A,if_false]at e ⊢
    exact e
theorem Aud (data:List Ai) (v:Int) (σ:List Af) (e:∀s∈σ,Fb data 0 s=true) (i:(σ.length:Int)=v):∀l,Gi data v l=true->Gi data 0 (N9 σ l)=true
 | [],_=>rfl
 | x::xs,h=>by
  simp only[Gi,Cz]at h
  simp only[N9,Gi,Cz]
  exact⟨Auc data v σ e i x h.1,Aud data v σ e i xs h.2⟩
end
variable {t:Af} {data:List Ai} {α β:Type}
theorem Aue (h:Fb data 0 t=true):∀a∈t.R,Fb data 0 a=true:=by rw[Abd,Cz,Asm,Gt]at h;exact h.2
theorem A6s (B:Hu data) (ht:Fb data 0 t=true) {c:Int} {l:List Af} (h:Jg data t c=some l):∀a∈l,Fb data 0 a=true/\Bx a<=200:=by
 obtain⟨x,y,G,C,g,D,rfl,f⟩:=Pc h;intro a s;refine⟨?_,f a s⟩;obtain⟨b,E,rfl⟩:=mem_map.1 s;obtain⟨H,_,i,_⟩:=G3 C;have A:=B.2.1 t.U.toNat x i;obtain⟨_,_,F⟩:=A.2.2.2.2.2 y (G3 D).2.2.2;have o:=Gt.1 F b E;refine Auc data x.V t.R (Aue ht) g b ?_;unfold Sf at o;rw[Bool.or_eq_true]at o;rcases o with e|e
 .exact Alv data _ _ b (Ak8 i A.2.1 e).1
 .rw[Cz]at e;exact Alv data _ _ b e.1
theorem A6t (h:Fb data 0 t=true):(t.G=1\/t.G=2\/t.G=3\/t.G=5\/t.G=6\/t.G=7\/t.G=8\/t.G=9)/\(t.G=7->t.R.length=1)/\(t.G=8->t.R.length=1):=by
 rw[Abd,Cz]at h;have e:=h.1;unfold Lm at e;by_cases q:t.G=1
 .simp[q]
 by_cases l:t.G=2
 .simp[l]
 by_cases k:t.G=3
 .simp[k]
 by_cases j:t.G=4
 .exfalso;simp[j]at e;omega
 by_cases i:t.G=5
 .simp[i]
 by_cases g:t.G=6
 .simp[g]
 by_cases f:t.G=7
 .simp[f]at e ⊢;exact e.2
 by_cases c:t.G=8
 .simp[c]at e ⊢;exact e.2
 by_cases b:t.G=9
 .simp[b]
 .simp[q,l,k,j,i,g,f,c,b]at e
theorem Agq (l:List α):((l.length:Int)==(0:Int))=(l.length==0):=Asi l 0
def Abv (m:List β) (p:α×β->Bool) (q:α×Nat):Bool:=match m[q.2]? with|some y=>p (q.1,y) | none=>false
theorem A6u (l:List α) (m:List β) (p:α×β->Bool) (h:l.length=m.length):(l.zip m).all p=l.zipIdx.all (Abv m p):=by
 rw[Bool.eq_iff_iff];constructor
 .intro o;refine Ak3 λj x s=>?_;have e:=Ec s;have A:m[j]? = some m[j]:=Bp ω;simp only[Abv,A];refine Gt.1 o _ (Bv (i:=j) ?_);rw[getElem?_zip_eq_some];exact⟨s,A⟩
 .intro o;rw[Gt];rintro⟨x,y⟩ B;obtain⟨j,e⟩:=Hh B;rw[getElem?_zip_eq_some]at e;have:=Je o e.1;simp only[Abv,e.2]at this;exact this
theorem A6v (hv:Hu data):∀(n:Nat) (v:Ay) (t:Af) (k:Nat),Co v<=n->4*n<=k->n<=5000->Fb data 0 t=true->Bx t<=200->Rr k data v t=some (G5 data v t):=by
 intro n;induction n with
 | zero=>intro v t k h;have:=Xu v;omega
 | succ n ih=>
  intro v t k h hk hn Q D;have a1:=L0 v;have a6:=U5 v.K;obtain⟨k,rfl⟩:∃k',k=k' + 4:=⟨k-4,ω⟩;obtain⟨kd,k7,k8⟩:=A6t Q;have f:∀ts:List Af,(∀a∈ts,Fb data 0 a=true/\Bx a<=200)->Rv (k+3) data v.K ts=some (Hw data v.K ts):=by
   intro ts S;rw[Rv,Aac];by_cases V:v.K.length=ts.length
   .rw[G0 ω,Abu data _ _ V,A6u _ _ _ V];simp only[Ap];have e:=Abb v.K (Abv ts λq=>G5 data q.1 q.2) (λj=>(j:Int)) (s0:=(0:Int)) rfl ω (rt:=true) (rf:=false) (J:=λz:Bool⊕Unit=>match z with|.inl R=>some R | .inr _=>some true)
     (step:=λE=>bif E<(v.K.length:Int) then ((Ag v.K E).bind λX=>(Ag ts E).bind λv9=>(Wy (k+1) X v9 data).bind λT=>bif (!T) then some (.inr (.inl false)) else some (.inl (Ac (E+1)))) else some (.inr (.inr ()))) (by intro j x o _ W h2 h3;have C:ts[j]? = some (ts[j]'(by have:=Ec o;omega)):=Bp (by have:=Ec o;omega);generalize ts[j]'(by have:=Ec o;omega)=y at C;have s:=S y (Bv C);have a0:=Mn (Bv o);simp only[W,h2,h3,Am,Ad,Bn rfl C,Abv,C,Wy,ih x y k ω ω ω s.1 s.2];cases G5 data x y with| true=>exact⟨λ_=>rfl,λh=>by cases h⟩| false=>exact⟨nofun,λ_=>⟨.inl false,rfl,rfl⟩⟩) (by intro h _;exact⟨.inr (),by simp only[h];rfl,rfl⟩)
    rw[Afu]at e;exact congrArg (λq=>Option.bind q some) e
   .rw[F4 ω,Abt data _ _ V];rfl
  have b:∀a∈t.R,Fb data 0 a=true/\Bx a<=200:=λa ha=>⟨Aue Q a ha,by have:=Jx ha;have:=Jf t;omega⟩;rw[Rr,So];by_cases N:t.G=1
  .rw[Eh N,As N,Agq];cases (v.G==3) <;> cases decide (-1099511627776<=v.U) <;> cases decide (v.U<=1099511627776) <;> rfl
  rw[C8 N,Ao N];by_cases M:t.G=2
  .rw[Eh M,As M,Agq];cases (v.G==2) <;> cases (v.U==0) <;> cases (v.U==1) <;> rfl
  rw[C8 M,Ao M];by_cases L:t.G=3
  .rw[Eh L,As L,Agq];cases (v.G==1) <;> cases (v.U==0) <;> rfl
  rw[C8 L,Ao L];by_cases G:t.G=6
  .rw[Eh G,As G,f t.R b];cases (v.G==4) <;> cases (v.U==0) <;> rfl
  rw[C8 G,Ao G];by_cases I:t.G=5
  .rw[Eh I,As I,A5g hv.szv t D];simp only[Ap,Am];by_cases F:v.G=5
   .rw[G0 F,Eh F];by_cases g2:v.U<0
    .rw[Ar g2,A3 (ω:¬0<=v.U)];rfl
    .by_cases g3:v.U>=8
     .rw[A3 g2,Ar g3,A3 (ω:¬v.U<8)];simp
     .rw[A3 g2,A3 g3,Ar (ω:0<=v.U),Ar (ω:v.U<8)];simp only[Ap,Ad,Bool.true_and];cases hf:Jg data t v.U with| none=>rfl| some l=>simp only[okL,Am];rw[f l (A6s hv Q hf)];rfl
   .rw[F4 F,C8 F];rfl
  rw[C8 I,Ao I];by_cases c:t.G=7
  .rw[Eh c,As c,show decide ((v.K.length:Int)<=4096)=decide (v.K.length<=4096) by congr 1;simp only[eq_iff_iff];omega];have U:=k7 c
   match A:t.R,U with
   | [u],_=>
    have hu:=b u (by rw[A];simp);have B:Aa5 (k+3) v.K data t=some (!U6 data v.K u):=by
     rw[Aa5,Afk,A6r];have e:=Ak4 v.K (λx=>!G5 data x u) ω (J:=λz=>match z with|.inl Y=>some Y | .inr _=>some (-1)) (step:=λH=>bif H<(v.K.length:Int) then ((Ag v.K H).bind λv4=>(Ws (k+1) v4 data t).bind λv5=>bif v5 then some (.inr (.inl H)) else some (.inl (Ac (H+1)))) else some (.inr (.inr ()))) (by intro j x o W h2 h3;have a0:=Mn o;have hi:Ag t.R 0=some u:=(by rw[A];rfl);simp only[W,h2,h3,Am,Ad,Ws,hi,ih x u k ω ω ω hu.1 hu.2]) (λh=>by simp only[h];rfl) (λ_=>rfl) rfl
     obtain⟨i,i1,i2⟩:=e
     erw[i1];simp only[Ad,i2];rw[any_eq_not_all_not];simp
    simp only[Ap,Am,B,Ad];cases (v.G==6) <;> cases (v.U==0) <;> cases decide (v.K.length<=4096) <;> cases U6 data v.K u <;> rfl
  rw[C8 c,Ao c];by_cases g:t.G=8
  .rw[Eh g,As g,f t.R b];cases (v.G==7) <;> cases (v.U==0) <;> rfl
  rw[C8 g,Ao g];have Z:t.G=9:=ω;rw[Eh Z,Agq];cases (v.G==8) <;> cases decide (0<=v.U) <;> cases decide (v.U<64) <;> rfl
def Mo (data:List Ai) (v:Ay) (t:Af):Bool:=Gw data t&&decide (Co v<=5000)&&G5 data v t
theorem Auf (j:DSz data) (v:Ay) (t:Af) (f:Co v<1099511627776) (ht:Bx t<=1048576):∃b,Rm data v t=some b/\(b=true↔Hu data/\Mo data v t=true):=by
 obtain⟨b,s,e⟩:=Afy j;unfold Rm Aeg Mo;rw[s,Xg data t 0 ω];simp only[Ad];rw[show (Fb data 0 t&&decide (Bx t<=200))=Gw data t from rfl];cases b with
 | false=>exact⟨false,rfl,by simp;intro h;have:=e.2 h;cases this⟩
 | true=>
  have o:=e.1 rfl;cases A:Gw data t with
  | false=>exact⟨false,rfl,ψ⟩
  | true=>
   obtain⟨k,i,_⟩:=A6q 5000 v 4000000 ω ω f;have i:Ov 4000000 v 5000=_:=i;simp only[Am,Ad,i];by_cases g:Co v<=5000
   .have c:=A;simp only[Gw,Cz,Ds]at c;rw[Ar g];simp only[Am,A6v o 5000 v t 4000000 g ω ω c.1 c.2,Ad];exact⟨_,rfl,by simp[o]⟩
   .rw[A3 g];exact⟨false,rfl,ψ⟩
mutual
def Ip (data:List Ai) (d:Int):Ay->List Ay
 | ⟨k,n,e⟩=>⟨k,n,e⟩::Iq data d e (Ea data d n)
def Iq (data:List Ai) (d:Int):List Ay->List Bool->List Ay
 | x::xs,b::bs=>(bif b then Ip data d x else [])++Iq data d xs bs
 | [],_=>[]
 | _::_,[]=>[]
end
theorem Aug (data:List Ai) (d:Int) (v:Ay):Ip data d v=v::Iq data d v.K (Ea data d v.U):=by cases v;simp only[Ip]
mutual
theorem Alw (data:List Ai) (d:Int):∀v,(Ip data d v).length<=Co v
 | ⟨k,n,e⟩=>by
  have:=Alx data d e (Ea data d n)
  simp only[Ip,Co,D1];omega
theorem Alx (data:List Ai) (d:Int):∀l r,(Iq data d l r).length<=Ed l
 | x::xs,b::bs=>by
  have e:=Alw data d x
  have h:=Alx data d xs bs
  cases b <;> simp only[Iq,Ed,Ep,Am,Ap,length_nil] <;> omega
 | [],_=>by simp[Iq]
 | _::_,[]=>by simp[Iq]
end
variable {m:A5} {res:Af} {t u:Aj} {a:Aq} {x:B9} {d v w y:Int} {vars:List Af} {data:List Ai} {p ts:List Aj} {P S X b l:List Int} {K j k n q:Nat} {g:Nat->Nat} {R α β:Type} {r:R}
theorem Auh (data:List Ai) (d:Int):∀(l:List Ay) (r:List Bool) (x:Ay) (b:Bool),l.length=r.length->Iq data d (l++[x]) (r++[b])=Iq data d l r++(bif b then Ip data d x else [])
 | [],[],x,b,_=>by simp[Iq]
 | y::e,c::cs,x,b,h=>by simp only[D0,Iq,Auh data d e cs x b (by simpa using h),append_assoc]
 | [],_::_,_,_,h=>by simp at h
 | _::_,[],_,_,h=>by simp at h
theorem A6w {a:Af} {vars:Int} {σ:List Af} (h:Ks a d vars=true) (g:(σ.length:Int)=vars):Ei σ a=⟨5,d,σ⟩:=by
 unfold Ks at h;simp only[Cz,beq_iff_eq]at h;obtain⟨⟨⟨i,o⟩,B⟩,f⟩:=h;have A:isV σ a.G a.U=false:=by unfold isV;rw[i];rfl
 rw[Af0 A,i,o];congr 1;apply ext_getElem?;intro j;rw[getElem?_map];cases e:a.R[j]? with| none=>rw[List.getElem?_eq_none_iff]at e;rw[Ll ω];rfl| some x=>have C:=Ec e;have:=Je f e;simp only[Se,Cz,beq_iff_eq]at this;have c:σ[j]? = some (σ[j]' ω):=Bp ω;generalize σ[j]' ω=s at c;have b:isV σ x.G x.U=true:=(by unfold isV;rw[this.1.1,this.1.2,Ar ω,Ar ω];rfl);rw[c,Option.map_some,Abj b (by rw[this.1.2];exact c)]
theorem Agr {v:Ay} {t:Af} (C:t.G=5) (h:G5 data v t=true) : ∃x,Ag data t.U=some x/\0<=v.U/\v.U<x.O.length/\(Ea data t.U v.U).length=v.K.length/\∀(j:Nat) (w:Ay),v.K[j]? = some w->(Ea data t.U v.U)[j]? = some true->G5 data w t=true:=by
 rw[So,Ao ω,Ao ω,Ao ω,Ao ω,As C]at h;cases e:Jg data t v.U with
 | none=>rw[e]at h;simp at h
 | some l=>
  rw[e]at h;simp only[Cz]at h;have b:=h.2;have c:v.K.length=l.length:=by
   by_cases q:v.K.length=l.length
   .exact q
   .rw[Abt data _ _ q]at b;cases b
  have D:=Xi e;obtain⟨x,y,_,F,s,G,q,_⟩:=Pc e;obtain⟨B,A,_,_⟩:=G3 G;refine⟨x,F,B,A,ω,λj w H z=>?_⟩;rw[Abu data _ _ c]at b;have I:=Ec H;have g:l[j]? = some (l[j]' ω):=Bp ω;have o:=Gt.1 b (w,l[j]' ω) (Bv (i:=j) (by rw[getElem?_zip_eq_some];exact⟨H,g⟩));simp only at o;have E:y.R[j]? = some (y.R[j]'(by rw[q]at c;simp at c;omega)):=Bp _;generalize y.R[j]'_=a at E;have u:(Ea data t.U v.U)[j]? = some (Ks a t.U x.V):=(by unfold Ea;simp only[F,G,getElem?_map,E,Option.map_some]);rw[u]at z;have f:=Fh z;have k:l[j]? = some (Ei t.R a):=(by rw[q,getElem?_map,E];rfl);rw[k]at g;rw[<-Fh g,A6w f s]at o;have:(Af.mk 5 t.U t.R)=t:=(by cases t;simp only at C;rw[C]);rw[this]at o;exact o
theorem A6x {t:Af} (F:t.G=5) (B:List (List Bool)) (I:∀(x:Ai),Ag data t.U=some x->∀n:Int,0<=n->n<x.O.length->Ag B n=some (Ea data t.U n)):∀(n:Nat) (v:Ay) (k:Nat) (b:List Ay),Co v<=n->n<=k->n<=1048576->b.length+Co v<=1048576->G5 data v t=true->Ug k v b B=some (b++Ip data t.U v):=by
 intro n;induction n with
 | zero=>intro v k b h;have:=Xu v;omega
 | succ n ih=>
  intro v k b h E J Q G;obtain⟨k,rfl⟩:∃s,k=s+1:=⟨k-1,ω⟩;have y:=L0 v;have z:=U5 v.K;obtain⟨x,H,q,l,i,f⟩:=Agr F G;rw[Ug,Dy ζ,Ad,Abg b [] _ _ b.length rfl rfl,Ad,Abf b [] _ _ _ b.length rfl rfl,I x H v.U q l,Ad,Aug];generalize L:Ea data t.U v.U=R at *;have g:∀j,(Iq data t.U (v.K.take j) (R.take j)).length<=Ed (v.K.take j):=λj=>Alx _ _ _ _;refine F5 R (λj=>((j:Int),b++[v]++Iq data t.U (v.K.take j) (R.take j))) (by simp[Iq]) ω ?_ ?_
  .intro j c T C o M N;have e:v.K[j]? = some (v.K[j]' ω):=Bp ω;generalize v.K[j]'_=w at e;have u:=Mn (Bv e);have A:=At9 e;have D:=Aua v.K (j+1);have hp:=g j;simp only[o,M,N,Am,Ad,Bn rfl e,Cs e,Cs C];rw[Auh _ _ _ _ _ _ ζ];cases c with| false=>simp| true=>rw[ih w k _ ω ω ω ζ (f j w e C)];simp
  .intro o;refine⟨b++(v::Iq data t.U v.K R),?_,rfl⟩;simp only[o];rw[Ik (ω:v.K.length<=R.length),C1];simp
theorem A6y (k:Mi data) (l:∀x∈data,x.O.length<=8) {t:Af} (o:t.G=5) (v:Ay) (B:Co v<=5000) (h:G5 data v t=true):Aae data t v=some (Ip data t.U v):=by
 obtain⟨x,e,u,s,g,f⟩:=Agr o h;have i:=l x (G3 e).2.2.2;unfold Aae;rw[e,Ad];refine F5 x.O (λj=>((j:Int),(range j).map λc:Nat=>Ea data t.U (c:Int))) rfl ω ?_ ?_
 .intro j y D E A F C;simp only[A,C,Am,Xh data t.U (j:Int) k,Ad];rw[Dy ζ,Ad,range_succ];simp
 .intro A;refine⟨(range x.O.length).map λc:Nat=>Ea data t.U (c:Int),ψ,?_⟩;rw[A6x o _ (λq b n G H=>?_) 5000 v 4000000 [] B ω ω ζ h]
  .rfl
  .rw[e]at b;cases b;rw[Bn (n:=n.toNat) ω];rw[getElem?_map,getElem?_range ω];simp only[Option.map_some];rw[show ((n.toNat:Nat):Int)=n by omega]
theorem A6z:∀(k:Nat) (t:Af),Bx t<=k->k<1099511627776->∃i,Uk k t=some i/\True:=by
 intro k;induction k with
 | zero=>intro t h;have:=Uu t;omega
 | succ k ih=>
  intro t h B;have g:=Jf t;have c:=K7 t.R;rw[Uk];refine Qh ?_ ⟨_,rfl,trivial⟩;refine Er (λ(i,o)=>∃j:Nat,i=j/\j<=t.R.length/\o.length=j) (λ(i,_)=>t.R.length-i.toNat) (λ_=>True) ⟨0,rfl,ω,rfl⟩ ?_ λe _=>⟨_,rfl,trivial⟩;rintro⟨i,o⟩ ⟨j,rfl,C,b⟩;rcases Cf j t.R.length with s|s
  .have A:t.R[j]? = some t.R[j]:=Bp s;generalize t.R[j]=x at A;have l:=Jx (Bv A);obtain⟨y,f,_⟩:=ih x ω ω;simp only[Ar (ω:(j:Int)<(t.R.length:Int)),Am,Bn rfl A,Ad,f,C3 s ω];have b:o.length=j:=b;rw[Dy ζ,Ad];exact .inl ⟨_,rfl,⟨j+1,rfl,ω,by simp[b]⟩,ζ⟩
  .have:j=t.R.length:=ω;subst this;exact .inr ⟨o,ψ,trivial⟩
theorem Ags (c:DSz data) (s:Hu data) (t:Af) (hg:Gw data t=true) (i:Ah) (A:Bw i<=1048576):Mb data t i=some (Jr (Dj data i t)):=by
 have b:=hg;simp only[Gw,Cz,Ds]at b;obtain⟨q,g,f⟩:=Afy c;have B:q=true:=f.2 s;subst B;unfold Mb T8;rw[g,Xg data t 0 ω];simp only[Ad,Am];rw[show (Fb data 0 t&&decide (Bx t<=200))=Gw data t from rfl,hg];obtain⟨p,j,h⟩:=(A5i s.szv c.sz.short 4000000).1 i t ω A b.2;simp only[bnt,Ap,j,Ad];rcases h with⟨e,d,o,C,D⟩|⟨e,o⟩
 .rw[e,o,Qi C,D];rfl
 .rw[e,As3 o];rfl
theorem Agt (h:Js data vars res m=true):(∀f∈m.F,∃t,C9 vars res f.v=some t)/\m.F.length<=6:=by
 unfold Js at h;simp only[Cz,Ds]at h;obtain⟨⟨s,A⟩,E⟩:=h;have e:∀f∈m.F,1<=D3 data vars res f:=by intro f e;obtain⟨j,i⟩:=Hh e;have:=Je s i;simp only[Pi,Cz,Ds]at this;exact this.1
 have B:0<=El m.A:=(Atm m.A (λa B=>by obtain⟨j,i⟩:=Hh B;have:=Je A i;simp only[Nc,Cz,Ds]at this;omega)).1;refine⟨λf b=>?_,?_⟩
 .have:=e f b;unfold D3 at this;cases C:C9 vars res f.v with
  | none=>rw[C]at this;have:(1:Int)<=-1:=this;omega
  | some t=>exact⟨t,rfl⟩
 .have o:∀l:List Be,(∀f∈l,1<=D3 data vars res f)->(l.length:Int)<=Ct data vars res l:=(by intro l;induction l with| nil=>intro _;simp[Ct]| cons f F ih=>intro c;have s:=c f ψ;have A:=ih λg D=>c g (by simp[D]);unfold Ct at *;simp only[map_cons,sum_cons,D1];omega);have:=o m.F e;omega
theorem A60 (a b:Aq) (j k:Nat) (e:RB j a) (hb:RB k b) (o:j<34359738000) (A:k<34359738000):∃c,Ja a b=some c/\True/\RB (j+k+3) c:=by
 refine⟨_,Agn a b j k e hb ω ω,trivial,?_⟩;have B:=e.nv;have C:=e.dv;have D:=hb.nv;have s:=hb.dv;have q:=Jq (nv a) (dv b);have l:=Jq (nv b) (dv a);have i:=Jq (dv a) (dv b);have f:Mm (sv a) (nv a) (dv a) (sv b) (nv b) (dv b)<=nv a*dv b+nv b*dv a:=by
  unfold Mm;split
  .omega
  .split <;> omega
 have h:=Mh f;have g:=Afs (nv a*dv b) (nv b*dv a);exact Oc _ _ _ _ ω ω ω
theorem A61 (k:Nat):RB k ⟨false,[],[]⟩:=⟨nofun,nofun,ψ,ψ⟩
def sg (s:Bool) (n:Nat):Int:=if s then -(n:Int) else n
def rq (a:Aq):Rat:=mkRat (sg (sv a) (nv a)) (dv a)
def Ho (a:Aq):Prop:=a=C6 (sv a) (nv a) (dv a)
theorem Qo (s:Bool) (n d:Nat) (e:d≠0):rq (C6 s n d)=mkRat (sg s n) d:=by
 obtain⟨g,o,A,B,C,f⟩:=Agp s n d e;unfold rq;rw[Rat.mkRat_eq_iff (Ic _) e];generalize nv (C6 s n d)=b at *;generalize dv (C6 s n d)=i at *;generalize sv (C6 s n d)=D at *;by_cases c:n=0
 .have:b=0:=by
   rcases Nat.eq_zero_or_pos b with h|h
   .exact h
   .have:=Nat.mul_pos (Nat.pos_of_ne_zero o) h;omega
  subst this;subst c;cases s <;> cases D <;> simp[sg]
 .rw[C c,A,B];cases s <;> simp only[sg,if_true,if_false,Bool.false_eq_true,Int.natCast_mul] <;> grind
theorem U7 (s:Bool) (n d:Nat) (C:d≠0):Ho (C6 s n d):=by
 obtain⟨g,i,o,A,B,f⟩:=Agp s n d C;unfold Ho;generalize D:C6 s n d=c at o A B f;have e:=Xq s (nv c) (dv c) g i;rw[<-o,<-A,D]at e;by_cases b:n=0
 .have E:nv c=0:=by
   rcases Nat.eq_zero_or_pos (nv c) with h|h
   .exact h
   .have:=Nat.mul_pos (Nat.pos_of_ne_zero i) h;omega
  rw[E,Ago]at e ⊢;exact e
 .rw[B b];exact e
theorem Aui (n m:Int) {d e:Nat} (o:d≠0) (g:e≠0):mkRat n d<mkRat m e↔n*e<m*d:=by
 have c:(0:Rat)<(d:Rat):=Rat.natCast_pos.2 ω;have b:(0:Rat)<(e:Rat):=Rat.natCast_pos.2 ω;rw[Rat.mkRat_eq_div,Rat.mkRat_eq_div,Rat.div_lt_iff c];rw[<-Rat.mul_lt_mul_right b];have f:(m:Rat) / (e:Rat)*(d:Rat)*(e:Rat)=(m:Rat)*(d:Rat):=by grind
 rw[f];have h:(n:Rat)*(e:Rat)=((n*(e:Int):Int):Rat):=by rw[Rat.intCast_mul];rfl
 have i:(m:Rat)*(d:Rat)=((m*(d:Int):Int):Rat):=by rw[Rat.intCast_mul];rfl
 rw[h,i,Rat.intCast_lt_intCast]
theorem Aly {b:Aq} (A:Ho a) (hb:Ho b) (h:rq a=rq b):a=b:=by
 unfold rq at h;rw[Rat.mkRat_eq_iff (Ic _) (Ic _)]at h;rw[A,hb];have l:=Ic a;have k:=Ic b;generalize nv a=n at *;generalize dv a=d at *;generalize sv a=s at *;generalize nv b=m at *;generalize dv b=e at *;generalize sv b=t at *;have o:n*e=m*d/\(n≠0->s=t):=by
  have c:n≠0->0<n*e:=λh=>Nat.mul_pos ω ω;have f:m≠0->0<m*d:=λh=>Nat.mul_pos ω ω;have C:((n*e:Nat):Int)=(n:Int)*e:=ψ;have D:((m*d:Nat):Int)=(m:Int)*d:=ψ;cases s <;> cases t <;> simp only[sg,if_true,if_false,Bool.false_eq_true,Int.neg_mul]at h
  .exact⟨ω,λ_=>rfl⟩
  .have:n*e=0/\m*d=0:=ω;refine⟨ω,λg=>?_⟩;have:=c g;omega
  .have:n*e=0/\m*d=0:=ω;refine⟨ω,λg=>?_⟩;have:=c g;omega
  .exact⟨ω,λ_=>rfl⟩
 have j:=Xq s n d e k;have i:=Xq t m e d l;rw[<-j,<-i,Nat.mul_comm e n,o.1,Nat.mul_comm e d,Nat.mul_comm m d];refine At2 λB=>o.2 ?_;rintro rfl;rw[Nat.zero_mul]at o;have:=o.1;rw[Nat.mul_comm d m]at B;omega
theorem Auj (j:Bool) (c g:Nat) (i:Bool) (b f:Nat):sg (Pk j c g i b f) (Mm j c g i b f)=sg j c*f+sg i b*g:=by
 unfold Pk Mm sg;have e:((c*f:Nat):Int)=(c:Int)*f:=ψ;have o:((b*g:Nat):Int)=(b:Int)*g:=ψ;cases j <;> cases i <;> simp only[if_true,if_false,Bool.false_eq_true,Bool.true_eq_false,Int.neg_mul]
 .omega
 .by_cases h:b*g<=c*f
  .simp only[As h];simp only[if_false,Bool.false_eq_true];omega
  .simp only[Ao h];simp only[if_true];omega
 .by_cases h:b*g<=c*f
  .simp only[As h];simp only[if_true];omega
  .simp only[Ao h];simp only[if_false,Bool.false_eq_true];omega
 .omega
theorem Agu {b:Aq} (h:RB j a) (hb:RB k b) (s:j<34359738000) (A:k<34359738000):∃c,Ja a b=some c/\True/\RB (j+k+3) c/\Ho c/\rq c=rq a+rq b:=by
 obtain⟨c,i,B,C⟩:=A60 a b j k h hb s A;have e:=Agn a b j k h hb ω ω;rw[i]at e;have e:=Fh e;have o:dv a*dv b≠0:=Nat.mul_ne_zero (Ic a) (Ic b);refine⟨c,i,B,C,?_,?_⟩
 .rw[e];exact U7 _ _ _ o
 .rw[e,Qo _ _ _ o,Auj,rq,rq,Rat.mkRat_add_mkRat _ _ (Ic a) (Ic b)]
theorem A62 (s t:Bool) (n m:Nat):sg (s != t) (n*m)=sg s n*sg t m:=by unfold sg;cases s <;> cases t <;> simp[Int.neg_mul,Int.mul_neg]
theorem Sp {b:Aq} (e:RB j a) (hb:RB k b) (o:j<34359738000) (s:k<34359738000):∃c,Fa a b=some c/\RB (j+k+2) c/\Ho c/\rq c=rq a*rq b:=by have i:dv a*dv b≠0:=Nat.mul_ne_zero (Ic a) (Ic b);have A:=e.nv;have B:=e.dv;have C:=hb.nv;have h:=hb.dv;have g:=Jq (nv a) (nv b);have f:=Jq (dv a) (dv b);refine⟨_,Agm a b j k e hb ω ω,Oc _ _ _ _ ω ω ω,U7 _ _ _ i,?_⟩;rw[Qo _ _ _ i,A62,rq,rq,Rat.mkRat_mul_mkRat]
def Nd (x:Rat):Int:=if x<0 then -1 else if 0<x then 1 else 0
theorem A63 (a:Aq):rq a<0↔La (sv a) (nv a) = -1:=by have e:(0:Rat)=mkRat 0 1:=ψ;rw[rq,e,Aui _ _ (Ic a) δ];unfold sg La;split <;> split <;> simp <;> omega
theorem A64 (a:Aq):0<rq a↔La (sv a) (nv a)=1:=by have e:(0:Rat)=mkRat 0 1:=ψ;rw[rq,e,Aui _ _ δ (Ic a)];unfold sg La;split <;> split <;> simp <;> omega
theorem A65 (a:Aq):La (sv a) (nv a)=Nd (rq a):=by
 have o:=A63 a;have s:=A64 a;have e:La (sv a) (nv a) = -1\/La (sv a) (nv a)=0\/La (sv a) (nv a)=1:=by unfold La;split <;> (try split) <;> simp
 unfold Nd;split
 .rename_i h;exact o.1 h
 .rename_i h;split
  .rename_i i;exact s.1 i
  .rename_i i;rcases e with e|e|e
   .exact (h (o.2 e)).elim
   .exact e
   .exact (i (s.2 e)).elim
theorem Agv (h:RB k a) (e:k<34359738000):Is a=some (Nd (rq a))/\True:=by rw[<-A65];exact⟨Agl a k h ω,trivial⟩
structure F8 {α:Type} (S:α->Prop) (g:α->α->Int):Prop where
 zero:∀a b,S a->S b->(g a b=0↔a=b)
 anti:∀a b,S a->S b->g b a = - g a b
 trans:∀a b c,S a->S b->S c->g a b<0->g b c<0->g a c<0
theorem F8.cmpI:F8 (λ_:Int=>True) F7:=by
 refine⟨λa b _ _=>Kt,λa b _ _=>?_,λa b c _ _ _=>?_⟩
 .unfold Go.Ab.F7;split <;> split <;> (try split) <;> (try split) <;> omega
 .unfold Go.Ab.F7;intro h1 h2;split at h1 <;> (try split at h1) <;> split at h2 <;> (try split at h2) <;> first|omega | (rw[As ω];decide)
theorem Auk {x:Int}:orI x y<0↔x<0\/(x=0/\y<0):=by unfold orI;split <;> omega
theorem Aul {x:Int}:orI x y=0↔x=0/\y=0:=by unfold orI;split <;> omega
theorem F8.or {γ:Type} {S:α->Prop} {s:β->Prop} {l:γ->Prop} {j:β->β->Int} {i:γ->γ->Int} (p:α->β) (q:α->γ) (g:∀a b,p a=p b->q a=q b->a=b) (h1:F8 s j) (h2:F8 l i) (f:∀a,S a->s (p a)/\l (q a)) : F8 S (λa b=>orI (j (p a) (p b)) (i (q a) (q b))):=by
 refine⟨λa b ha hb=>?_,λa b ha hb=>?_,λa b c ha hb hc=>?_⟩
 .rw[Aul,h1.zero _ _ (f a ha).1 (f b hb).1,h2.zero _ _ (f a ha).2 (f b hb).2];exact⟨λh=>g a b h.1 h.2,λh=>by subst h;exact⟨rfl,rfl⟩⟩
 .show orI (j (p b) (p a)) (i (q b) (q a)) = - orI (j (p a) (p b)) (i (q a) (q b));have z:=h1.anti _ _ (f a ha).1 (f b hb).1;have y:=h2.anti _ _ (f a ha).2 (f b hb).2;rw[z,y];unfold orI;split <;> split <;> omega
 .show orI _ _<0->orI _ _<0->orI _ _<0;simp only[Auk];have u:=h1.zero _ _ (f a ha).1 (f b hb).1;have e:=h1.zero _ _ (f b hb).1 (f c hc).1;have t1:=h1.trans _ _ _ (f a ha).1 (f b hb).1 (f c hc).1;have t2:=h2.trans _ _ _ (f a ha).2 (f b hb).2 (f c hc).2;rintro (h|⟨h,h'⟩) (k|⟨k,x⟩)
  .exact .inl (t1 h k)
  .rw[<-e.1 k];exact .inl h
  .rw[u.1 h];exact .inl k
  .rw[<-e.1 k,h];exact .inr ⟨rfl,t2 h' x⟩
theorem F8.mono {S S':α->Prop} {g:α->α->Int} (h:F8 S g) (f:∀a,S' a->S a):F8 S' g := ⟨λa b ha hb=>h.zero a b (f a ha) (f b hb),λa b ha hb=>h.anti a b (f a ha) (f b hb),λa b c ha hb hc=>h.trans a b c (f a ha) (f b hb) (f c hc)⟩
theorem F8.congr {S:α->Prop} {g c:α->α->Int} (h:F8 S g) (e:∀a b,c a b=g a b):F8 S c:=by have:c=g:=funext λa=>funext λb=>e a b;rw[this];exact h
def LL (g:α->α->Int) (l m:List α):Int:=if l.length=m.length then Gv g l m else Go.Ab.F7 l.length m.length
theorem Aum {α:Type} {S:α->Prop} {g:α->α->Int} (h:F8 S g):∀l m:List α,l.length=m.length->(∀x∈l,S x)->(∀x∈m,S x)->(Gv g l m=0↔l=m)
 | [],[],_,_,_=>by simp[Gv]
 | x::xs,y::o,b,e,i=>by simp only[Gv,Aul,h.zero x y (e x ψ) (i y ψ),Aum h xs o (by simpa using b) (λz c=>e z (by simp[c])) λz c=>i z (by simp[c]),List.cons.injEq]
 | [],_::_,b,_,_=>by simp at b
 | _::_,[],b,_,_=>by simp at b
theorem Aun {α:Type} {S:α->Prop} {g:α->α->Int} (h:F8 S g):∀l m:List α,l.length=m.length->(∀x∈l,S x)->(∀x∈m,S x)->Gv g m l = - Gv g l m
 | [],[],_,_,_=>by simp[Gv]
 | x::xs,y::o,b,e,i=>by simp only[Gv,h.anti x y (e x ψ) (i y ψ),Aun h xs o (by simpa using b) (λz c=>e z (by simp[c])) λz c=>i z (by simp[c])];unfold orI;split <;> split <;> omega
 | [],_::_,b,_,_=>by simp at b
 | _::_,[],b,_,_=>by simp at b
theorem Auo {α:Type} {S:α->Prop} {g:α->α->Int} (h:F8 S g):∀l m n:List α,l.length=m.length->m.length=n.length->(∀x∈l,S x)->(∀x∈m,S x)->(∀x∈n,S x)->Gv g l m<0->Gv g m n<0->Gv g l n<0
 | [],[],_,_,_,_,_,_=>by intro h;simp[Gv]at h
 | x::xs,y::C,z::j,f,i,o,e,A=>by
  simp only[Gv,Auk];have k:=h.zero x y (o x ψ) (e y ψ);have B:=h.zero y z (e y ψ) (A z ψ);have t1:=h.trans x y z (o x ψ) (e y ψ) (A z ψ);have t2:=Auo h xs C j (by simpa using f) (by simpa using i) (λz c=>o z (by simp[c])) (λz c=>e z (by simp[c])) λz c=>A z (by simp[c]);rintro (a|⟨a,s⟩) (b|⟨b,q⟩)
  .exact .inl (t1 a b)
  .rw[<-B.1 b];exact .inl a
  .rw[k.1 a];exact .inl b
  .rw[<-B.1 b,a];exact .inr ⟨rfl,t2 s q⟩
 | _::_,_::_,[],_,i,_,_,_=>by simp at i
 | [],_::_,_,f,_,_,_,_=>by simp at f
 | _::_,[],_,f,_,_,_,_=>by simp at f
theorem F8.ll {S:α->Prop} {g:α->α->Int} (h:F8 S g):F8 (λl=>∀x∈l,S x) (LL g):=by
 have c:=F8.cmpI;refine⟨λa b ha hb=>?_,λa b ha hb=>?_,λx y z hx hy q=>?_⟩
 .unfold LL;split
  .rename_i i;exact Aum h a b i ha hb
  .rename_i i;rw[Kt];exact⟨λe=>(i ω).elim,λe=>(i (by rw[e])).elim⟩
 .unfold LL;by_cases i:a.length=b.length
  .rw[As i,As i.symm];exact Aun h a b i ha hb
  .rw[Ao i,Ao λe=>i e.symm];exact c.anti _ _ trivial trivial
 .unfold LL;intro h1 h2;have neg:∀a b:Int,Go.Ab.F7 a b<0->a<b:=(by intro a b h;unfold Go.Ab.F7 at h;split at h <;> (try split at h) <;> omega);have f:∀a b:Int,a<b->Go.Ab.F7 a b<0:=(by intro a b h;unfold Go.Ab.F7;rw[As h];decide);by_cases k:x.length=y.length
  .rw[As k]at h1;by_cases j:y.length=z.length
   .rw[As j]at h2;rw[As ω];exact Auo h x y z k j hx hy q h1 h2
   .rw[Ao j]at h2;rw[Ao ω];have:=neg _ _ h2;exact f _ _ ω
  .rw[Ao k]at h1;have:=neg _ _ h1;by_cases j:y.length=z.length
   .rw[Ao ω];exact f _ _ ω
   .rw[Ao j]at h2;have:=neg _ _ h2;rw[Ao ω];exact f _ _ ω
theorem Aup (g:α->α->Int) (l m:List α) (y:Int):orI (LL g l m) y=if l.length=m.length then orI (Gv g l m) y else Go.Ab.F7 l.length m.length:=by
 unfold LL;by_cases h:l.length=m.length
 .rw[As h,As h]
 .rw[Ao h,Ao h];unfold orI;rw[Ao λe=>h (by have:=Kt.1 e;omega)]
theorem A66:F8 (λ_=>True) Abm := (F8.or (S:=λ_=>True) (λt:Bq=>t.v) (λt=>t.C) (λa b e h=>by cases a;cases b;cases e;cases h;rfl) F8.cmpI F8.cmpI λ_ _=>⟨trivial,trivial⟩).congr λ_ _=>rfl
theorem Mp:F8 (λ_=>True) Ib := (F8.or (S:=λ_=>True) (λt:Bg=>t.T) (λt=>t.Q) (λa b e h=>by cases a;cases b;cases e;cases h;rfl) A66.ll F8.cmpI λ_ _=>⟨λ_ _=>trivial,trivial⟩).congr λa b=>by show Ib a b=orI (LL Abm a.T b.T) (Go.Ab.F7 a.Q b.Q);rw[Aup];rfl
theorem A67 (i j:Ah):G4 i j=orI (Go.Ab.F7 i.U j.U) (LL G4 i.K j.K):=by
 rw[Atf,Aln];unfold orI LL;by_cases h:i.U=j.U
 .rw[As h,As (Kt.2 h)]
 .rw[Ao h,Ao λe=>h (Kt.1 e)]
theorem Alz:∀n:Nat,F8 (λi=>Bw i<=n) G4:=by intro n;induction n with| zero=>exact⟨λa _ e=>by have:=Es a;omega,λa _ e=>by have:=Es a;omega,λa _ _ e=>by have:=Es a;omega⟩| succ n ih=>refine (F8.or (S:=λi=>Bw i<=n+1) (λi:Ah=>i.U) (λi=>i.K) (λa b h o=>by cases a;cases b;cases h;cases o;rfl) F8.cmpI ih.ll ?_).congr A67;intro i A;refine⟨trivial,λx s=>?_⟩;have h:=Kd s;have o:=Es i;show Bw x<=n;omega
theorem Agw:F8 (λ_=>True) G4 := ⟨λa b _ _=>(Alz (max (Bw a) (Bw b))).zero a b (by show Bw a<=_;omega) (by show Bw b<=_;omega),λa b _ _=>(Alz (max (Bw a) (Bw b))).anti a b (by show Bw a<=_;omega) (by show Bw b<=_;omega),
  λa b c _ _ _=>(Alz (max (Bw a) (max (Bw b) (Bw c)))).trans a b c (by show Bw a<=_;omega) (by show Bw b<=_;omega) (by show Bw c<=_;omega)⟩
theorem A68:F8 (λ_=>True) Xn := (F8.or (S:=λ_=>True) (λt:Be=>t.v) (λt=>t.I) (λa b e h=>by cases a;cases b;cases e;cases h;rfl) F8.cmpI Agw λ_ _=>⟨trivial,trivial⟩).congr λ_ _=>rfl
theorem A69:F8 (λ_=>True) Abn := (F8.or (S:=λ_=>True) (λt:Bf=>t.L) (λt=>t.P) (λa b e h=>by cases a;cases b;cases e;cases h;rfl) Mp F8.cmpI λ_ _=>⟨trivial,trivial⟩).congr λ_ _=>rfl
theorem Al0:F8 (λ_=>True) Fd := (F8.or (S:=λ_=>True) (λt:A5=>t.F) (λt=>t.A) (λa b e h=>by cases a;cases b;cases e;cases h;rfl) A68.ll A69.ll λ_ _=>⟨λ_ _=>trivial,λ_ _=>trivial⟩).congr λa b=>by show Fd a b=orI (LL Xn a.F b.F) (LL Abn a.A b.A);rw[Aup];rfl
theorem U8 {a b:A5}:Fd a b=0↔a=b:=Al0.zero a b trivial trivial
theorem Xv (a b:A5):Fd b a = - Fd a b:=Al0.anti a b trivial trivial
theorem Agx {a b c:A5} (h:Fd a b<0) (e:Fd b c<0):Fd a c<0:=Al0.trans a b c trivial trivial trivial h e
theorem Auq (m:A5):Fd m m=0:=U8.2 rfl
theorem Aur {a b:A5}:0<Fd a b↔Fd b a<0:=by rw[Xv a b];omega
def cf:List Aj->A5->Rat
 | [],_=>0
 | t::p,m=>(if Fd t.M m=0 then rq t.C else 0)+cf p m
def ltT (t u:Aj):Prop:=Fd t.M u.M<0
structure CP (p:List Aj):Prop where
 srt:p.Pairwise ltT
 coe:∀t∈p,Ho t.C/\rq t.C≠0
theorem CP.tail (h:CP (t::p)):CP p:=⟨(pairwise_cons.1 h.srt).2,λu e=>h.coe u (by simp[e])⟩
theorem CP.head (h:CP (t::p)):∀u∈p,Fd t.M u.M<0:=(pairwise_cons.1 h.srt).1
theorem CP.nil:CP []:=⟨Pairwise.nil,λ_ h=>by cases h⟩
theorem CP.cons {t:Aj} {p:List Aj} (h:CP p) (h1:∀u∈p,Fd t.M u.M<0) (h2:Ho t.C) (h3:rq t.C≠0):CP (t::p) := ⟨pairwise_cons.2 ⟨h1,h.srt⟩,λu e=>by
  rcases Gc.1 e with rfl|e
  .exact⟨h2,h3⟩
  .exact h.coe u e⟩
theorem A7a (h:∀t∈p,Fd t.M m≠0):cf p m=0:=by induction p with| nil=>rfl| cons t p ih=>simp only[cf];rw[Ao (h t ψ),ih λu e=>h u (by simp[e])];grind
theorem A7b (h:∀t∈p,Fd m t.M<0):cf p m=0 := A7a λt i e=>by have:=h t i;rw[Xv,e]at this;omega
theorem A7c (h:CP (t::p)):cf (t::p) t.M=rq t.C:=by simp only[cf];rw[As (Auq _),A7b h.head];grind
theorem A7d (h:Fd t.M m≠0):cf (t::p) m=cf p m:=by simp only[cf];rw[Ao h];grind
theorem Agy (p q:List Aj) (m:A5):cf (p++q) m=cf p m+cf q m:=by induction p with| nil=>simp only[nil_append,cf];grind| cons t p ih=>simp only[D0,cf,ih];grind
theorem A7e (h:CP p) (ht:t∈p):cf p t.M=rq t.C:=by
 induction p with
 | nil=>cases ht
 | cons u p ih=>
  rcases Gc.1 ht with rfl|ht
  .exact A7c h
  .have:=h.head t ht;rw[A7d ω];exact ih h.tail ht
theorem Aus (c:Aq):Abs c=true↔Ho c/\rq c≠0:=by
 unfold Abs Ho;rw[Cz,At7];have h:(!(nv c==0))=true↔rq c≠0:=by have e:rq c=0↔nv c=0:=(by unfold rq;rw[Rat.mkRat_eq_zero (Ic c)];unfold sg;split <;> omega);rw[Ne,e];simp
 rw[h];exact⟨λ⟨a,b⟩=>⟨a.symm,b⟩,λ⟨a,b⟩=>⟨a.symm,b⟩⟩
theorem A7f {l:List Aj} (h:∀(j:Nat) (x y:Aj),l[j]? = some x->l[j+1]? = some y->Fd x.M y.M<0):l.Pairwise ltT:=by
 induction l with
 | nil=>exact Pairwise.nil
 | cons t l ih=>
  have ih:=ih λj x y o s=>h (j+1) x y (by simpa using o) (by simpa using s);refine pairwise_cons.2 ⟨?_,ih⟩;cases l with
  | nil=>intro u e;cases e
  | cons v l=>
   have i:=h 0 t v rfl rfl;intro u e;rcases Gc.1 e with rfl|e
   .exact i
   .exact Agx i ((pairwise_cons.1 ih).1 u e)
theorem Abw:Jk data vars res p=true↔p.length<=1000/\CP p/\∀t∈p,Js data vars res t.M=true:=by
 unfold Jk;rw[Cz,Ds];constructor
 .rintro⟨s,o⟩;have g:∀(j:Nat) (t:Aj),p[j]? = some t->Abs t.C=true/\Js data vars res t.M=true/\U4 p t j=true:=(by intro j t e;have:=Je o e;simp only[Xt,Cz]at this;exact⟨this.1.1,this.1.2,this.2⟩);refine⟨s,⟨A7f λj x y B C=>?_,λt A=>?_⟩,λt A=>?_⟩
  .have:=(g _ _ C).2.2;unfold U4 at this;rw[show j+1-1=j by omega,B]at this;simpa using this
  .obtain⟨j,e⟩:=Hh A;exact (Aus _).1 (g j t e).1
  .obtain⟨j,e⟩:=Hh A;exact (g j t e).2.1
 .rintro⟨s,o,D⟩;refine⟨s,Gt.2 λq h=>?_⟩;have h:=mem_zipIdx' h;have e:p[q.2]? = some q.1:=(Bp h.1).trans (congrArg some h.2.symm);have b:q.1∈p:=Bv e;simp only[Xt,Cz];refine⟨⟨(Aus _).2 (o.coe _ b),D _ b⟩,?_⟩;unfold U4;by_cases E:q.2=0
  .rw[E];rfl
  .have i:q.2-1<p.length:=ω;rw[Bp i];have:=pairwise_iff_getElem.1 o.srt (q.2-1) q.2 i h.1 ω;rw[<-h.2]at this;simp only[Bool.or_eq_true,Ds];exact .inr this
theorem Aut:∀(k:Nat) (t:Ah),Bw t<=k->k<1099511627776->P8 k t=some t:=by
 intro k;induction k with
 | zero=>intro t h;have:=Es t;omega
 | succ k ih=>
  intro t h A;have c:=Es t;have b:=Pd t.K;rw[P8];refine F5 t.K (λj=>((j:Int),(t.K.take j))) rfl ω ?_ ?_
  .intro j x B e i o s;have:=Kd (Bv e);simp only[i,o,s,Am,Ad,ih x ω ω];rw[Dy ζ,Ad,Cs e]
  .intro i;exact⟨t.K,ψ,by cases t;rfl⟩
theorem A7g (m:A5) (b:MSz m):Aaa m=some m:=by
 have g:=b.nf;have f:=b.na;unfold Aaa;refine F5 m.F (λj=>((j:Int),(m.F.take j))) rfl ω ?_ ?_
 .intro j x s e h i o;have c:=Bv e;have:=b.fi x c;simp only[h,i,o,Am,Ad,Aut 4000000 x.I ω ω];rw[Dy ζ,Ad,Cs e]
 .intro h;refine⟨m.F,ψ,?_⟩;dsimp only;refine F5 m.A (λj=>((j:Int),(m.A.take j))) rfl ω ?_ ?_
  .intro j x s e h i o;have c:=Bv e;have:=b.al x c;simp only[h,i,o,Am,Ad,Aey];rw[Dy ζ,Ad,Dy ζ,Ad,Cs e];rfl
  .intro h;exact⟨m.A,ψ,by cases m;rfl⟩
structure TB (k:Nat) (t:Aj):Prop where
 co:RB k t.C
 mo:MSz t.M
theorem TSz.tb (h:TSz t):TB 1048576 t:=⟨h.co,h.mo⟩
theorem TB.mono (h:TB j t) (hk:j<=k):TB k t:=⟨h.co.mono hk,h.mo⟩
theorem A7h (c:Aq):rq c=0↔nv c=0:=by unfold rq;rw[Rat.mkRat_eq_zero (Ic c)];unfold sg;split <;> omega
def J0 (n:Int) (f:Bool):List Int:=if f then (if n<0 then [45] else []) else (if n<0 then [32,45,32] else [32,43,32])
def Lb (n:Int):List Int:=if n.natAbs=1 then [] else ti n.natAbs++[42]
def Ke (v:Int):List Int:=if v = -1 then [114,101,115] else 118::ti v
def tT (f:Bool) (t:Bq):List Int:=J0 t.C f++(Lb t.C++Ke t.v)
def I2:Bool->List Bq->Int->List Int
 | f,[],c=>if c≠0\/f=true then J0 c f++ti c.natAbs else []
 | f,t::ts,c=>tT f t++I2 false ts c
def Abx (l:Bg):List Int:=I2 true l.T l.Q
def Jt (X:List Int):Prop:=∀c m,X=c::m->c=97
theorem Jt.nil:Jt []:=by intro c m h;cases h
theorem Jt.cons (X:List Int):Jt (97::X):=by intro c m h;cases h;rfl
theorem Jt.nonum (h:Jt X):Mk X:=by intro c m e;rw[h c m e];decide
theorem Al1 (n:Nat):∃c m,ti n=c::m/\48<=c/\c<=57:=by
 have b:=Af6 (n:Int);cases h:ti (n:Int) with
 | nil=>exact (b h).elim
 | cons c m=>refine⟨c,m,rfl,?_⟩;have i:c∈ti (n:Int):=(by rw[h];simp);unfold ti at i;obtain⟨x,o,rfl⟩:=mem_map.1 i;have e:Lib.itoa (n:Int)=Lib.decDigits n:=(by unfold Lib.itoa;first|rfl | (rw[Ao ω];simp) | simp);rw[e]at o;have:=Af4 n n (Nat.le_refl _) x o;omega
theorem Auu (ts:List Bq) (c:Int) (b:Jt X):Mk (I2 false ts c++X):=by
 have k:∀(n:Int) (Y:List Int),Mk (J0 n false++Y):=by intro n Y c m e;unfold J0 at e;simp only[Bool.false_eq_true,if_false]at e;split at e <;> (cases e;decide)
 cases ts with
 | nil=>
  simp only[I2];split
  .rw[append_assoc];exact k _ _
  .exact b.nonum
 | cons t ts=>simp only[I2,tT,append_assoc];exact k _ _
theorem Auv {R:List Int} (c:Mk R) (b:Mk S) (h:Ke v++R=Ke w++S):v=w/\R=S:=by
 unfold Ke at h;split at h <;> split at h
 .simp only[D0,nil_append,List.cons.injEq,true_and]at h;exact⟨ω,h⟩
 .simp at h
 .simp at h
 .simp only[D0,List.cons.injEq,true_and]at h;obtain⟨g,f⟩:=Qk _ _ _ _ (Jh v) (Jh w) c b h;exact⟨Ux g,f⟩
theorem Al2 (v:Int):∃c m,Ke v=c::m/\(c=114\/c=118):=by
 unfold Ke;split
 .exact⟨_,_,rfl,.inl rfl⟩
 .exact⟨_,_,rfl,.inr rfl⟩
theorem Al3 (X:List Int):Mk (42::X):=by intro c m e;cases e;decide
theorem A7i {a b:Int} {R:List Int} (i:Mk R) (g:Mk S) (h:Lb a++(Ke v++R)=Lb b++(Ke w++S)):a.natAbs=b.natAbs/\v=w/\R=S:=by
 unfold Lb at h;have o:∀(n:Nat) (u:Int) (X Y:List Int),Ke u++X=ti n++[42]++Y->False:=by intro n u X Y e;obtain⟨c,m,f,q⟩:=Al2 u;obtain⟨d,k,l,j⟩:=Al1 n;rw[f,l]at e;simp only[D0,List.cons.injEq]at e;omega
 split at h <;> split at h
 .rename_i A B;simp only[nil_append]at h;exact⟨A.trans B.symm,Auv i g h⟩
 .exact (o _ _ _ _ h).elim
 .exact (o _ _ _ _ h.symm).elim
 .simp only[append_assoc,D0,nil_append]at h;obtain⟨f,q⟩:=Qk _ _ _ _ (Jh _) (Jh _) (Al3 _) (Al3 _) h;have l:=Ux f;obtain⟨j,s⟩:=Auv i g (List.cons.inj q).2;exact⟨ω,j,s⟩
def NoM (P:List Int):Prop:=∃c m,P=c::m/\c≠45
theorem NoM.ti (n:Nat) (X:List Int):NoM (Go.Ab.ti n++X):=by obtain⟨c,m,e,h⟩:=Al1 n;exact⟨c,m++X,by rw[e];rfl,ω⟩
theorem NoM.pT (a v:Int) (X:List Int):NoM (Lb a++(Ke v++X)):=by
 unfold Lb;split
 .obtain⟨c,m,e,h⟩:=Al2 v;exact⟨c,m++X,by rw[e];rfl,ω⟩
 .rw[append_assoc];exact NoM.ti _ _
theorem Al4 {a b:Int} {f:Bool} {Q:List Int} (i:NoM P) (g:NoM Q) (h:J0 a f++P=J0 b f++Q):(a<0↔b<0)/\P=Q:=by
 obtain⟨c,m,rfl,s⟩:=i;obtain⟨d,k,rfl,A⟩:=g;unfold J0 at h;cases f with
 | true=>
  simp only[if_true]at h;split at h <;> split at h
  .rename_i e o;exact⟨by simp[e,o],by simpa using h⟩
  .simp at h;exact (A h.1.symm).elim
  .simp at h;exact (s h.1).elim
  .rename_i e o;exact⟨by simp[e,o],by simpa using h⟩
 | false=>
  simp only[Bool.false_eq_true,if_false]at h;split at h <;> split at h
  .rename_i e o;exact⟨by simp[e,o],by simpa using h⟩
  .simp at h
  .simp at h
  .rename_i e o;exact⟨by simp[e,o],by simpa using h⟩
theorem Al5 {n:Int} (b:Jt X) (h:J0 n false++P=X):False:=by
 unfold J0 at h;simp only[Bool.false_eq_true,if_false]at h;split at h
 .have:=b _ _ h.symm;omega
 .have:=b _ _ h.symm;omega
theorem Auw {c:Int} {f:Bool} {u:Bq} {m:List Bq} {Y:List Int} (b:Jt X) (k:Jt Y) (h:I2 f [] c++X=I2 f (u::m) d++Y):False:=by
 simp only[I2,tT]at h;split at h
 .simp only[append_assoc]at h;obtain⟨_,e⟩:=Al4 (NoM.ti _ _) (NoM.pT _ _ _) h;unfold Lb at e;split at e
  .obtain⟨s,A,j,B⟩:=Al2 u.v;obtain⟨C,D,g,E⟩:=Al1 c.natAbs;rw[j,g]at e;simp only[nil_append,D0,List.cons.injEq]at e;omega
  .simp only[append_assoc,D0,nil_append]at e;obtain⟨_,g⟩:=Qk _ _ _ _ (Jh _) (Jh _) b.nonum (Al3 _) e;have:=b _ _ g;omega
 .rename_i i;have o:f=false:=(by cases f with|true=>simp at i|false=>rfl);subst o;simp only[nil_append,append_assoc]at h;exact Al5 b h.symm
theorem Aux:∀(l m:List Bq) (f:Bool) (c d:Int) (X Y:List Int),Jt X->Jt Y->I2 f l c++X=I2 f m d++Y->l=m/\c=d/\X=Y
 | [],[],f,c,d,X,Y,g,b,h=>by
  simp only[I2]at h;split at h <;> split at h
  .simp only[append_assoc]at h;obtain⟨x,q⟩:=Al4 (NoM.ti _ _) (NoM.ti _ _) h;obtain⟨j,i⟩:=Qk _ _ _ _ (Jh _) (Jh _) g.nonum b.nonum q;have s:=Ux j;exact⟨rfl,ω,i⟩
  .rename_i e o;have B:f=false:=(by cases f with|true=>simp at o|false=>rfl);subst B;simp only[append_assoc,nil_append]at h;exact (Al5 b h).elim
  .rename_i e o;have B:f=false:=(by cases f with|true=>simp at e|false=>rfl);subst B;simp only[append_assoc,nil_append]at h;exact (Al5 g h.symm).elim
  .rename_i e o;refine⟨rfl,?_,by simpa using h⟩;have C:c=0:=(by by_cases k:c=0;exact k;exact (e (.inl k)).elim);have D:d=0:=(by by_cases k:d=0;exact k;exact (o (.inl k)).elim);omega
 | [],u::m,f,c,d,X,Y,g,b,h=>(Auw g b h).elim
 | t::l,[],f,c,d,X,Y,g,b,h=>(Auw b g h.symm).elim
 | t::l,u::m,f,c,d,X,Y,g,b,h=>by simp only[I2,tT,append_assoc]at h;obtain⟨x,q⟩:=Al4 (NoM.pT _ _ _) (NoM.pT _ _ _) h;obtain⟨j,i,s⟩:=A7i (Auu _ _ g) (Auu _ _ b) q;obtain⟨A,z,y⟩:=Aux l m false c d X Y g b s;have:t=u:=(by cases t;cases u;simp only at x j i;subst i;congr 1;omega);exact⟨by rw[this,A],z,y⟩
def It (a:Bf):List Int:=97::(ti a.P++58::Abx a.L)
def D8 (f:Be):List Int:=K9 f.v f.I
def Aby (m:A5):List Int:=m.F.flatMap D8++m.A.flatMap It
theorem Agz (l:List Bf):Jt (l.flatMap It):=by cases l with| nil=>exact Jt.nil| cons a l=>simp only[flatMap_cons,It,D0];exact Jt.cons _
theorem Ag0 (X:List Int):Mk (58::X):=by intro c m e;cases e;decide
theorem Auy:∀(l m:List Bf),l.flatMap It=m.flatMap It->l=m
 | [],[],_=>rfl
 | [],b::m,h=>by simp[It]at h
 | a::l,[],h=>by simp[It]at h
 | a::l,b::m,h=>by simp only[flatMap_cons,It,D0,append_assoc,List.cons.injEq,true_and]at h;obtain⟨s,q⟩:=Qk _ _ _ _ (Jh _) (Jh _) (Ag0 _) (Ag0 _) h;have k:=(List.cons.inj q).2;obtain⟨g,f,j⟩:=Aux _ _ true _ _ _ _ (Agz l) (Agz m) k;have i:=Auy l m j;have c:=Ux s;obtain⟨⟨e,t1⟩,d1⟩:=a;obtain⟨⟨o,t2⟩,d2⟩:=b;simp only at g f c;rw[g,f,c,i]
theorem Auz (l:List Be) (b:Jt X):Sg (l.flatMap D8++X):=by cases l with| nil=>intro c m e;rw[b c m e];exact⟨δ,δ⟩| cons a l=>intro c m e;simp only[flatMap_cons,D8,K9,D0]at e;cases e;exact⟨δ,δ⟩
theorem Al6:∀(l m:List Be) (X Y:List Int),Jt X->Jt Y->l.flatMap D8++X=m.flatMap D8++Y->l=m/\X=Y
 | [],[],X,Y,_,_,h=>⟨rfl,by simpa using h⟩
 | [],b::m,X,Y,f,_,h=>by simp only[flatMap_cons,flatMap_nil,D8,K9,D0,nil_append]at h;have:=f _ _ h;omega
 | a::l,[],X,Y,_,c,h=>by simp only[flatMap_cons,flatMap_nil,D8,K9,D0,nil_append]at h;have:=c _ _ h.symm;omega
 | a::l,b::m,X,Y,f,c,h=>by simp only[flatMap_cons,D8,K9,D0,append_assoc,List.cons.injEq,true_and]at h;obtain⟨x,u⟩:=Qk _ _ _ _ (Jh _) (Jh _) (Ag0 _) (Ag0 _) h;have s:=(List.cons.inj u).2;obtain⟨i,q⟩:=Af9 _ _ _ _ (Auz l f) (Auz m c) s;obtain⟨k,j⟩:=Al6 l m X Y f c q;have g:=Ux x;obtain⟨y,e⟩:=a;obtain⟨o,A⟩:=b;simp only at i g;exact⟨by rw[i,g,k],j⟩
theorem A7j {n:A5} (h:Aby m=Aby n):m=n:=by obtain⟨c,f⟩:=Al6 _ _ _ _ (Agz _) (Agz _) h;have b:=Auy _ _ f;cases m;cases n;simp only at c b;rw[c,b]
def By (l:List Int):Prop:=∀c∈l,0<=c/\c<256
theorem By.app {m:List Int} (h:By l) (h':By m):By (l++m):=by
 intro c hc;rcases Ef.1 hc with k|k
 .exact h c k
 .exact h' c k
theorem By.ti (n:Int):By (Go.Ab.ti n):=by intro c h;have:=Jh n c h;simp only[Qj,Bool.or_eq_true,Cz,beq_iff_eq,Ds]at this;omega
theorem By.cons {c:Int} {l:List Int} (hc:0<=c/\c<256) (h:By l):By (c::l):=by
 intro d hd;rcases Gc.1 hd with rfl|k
 .exact hc
 .exact h d k
theorem By.nil:By []:=λc h=>by cases h
theorem By.sgn (n:Int) (f:Bool):By (J0 n f):=by unfold J0;split <;> split <;> intro c hc <;> simp at hc <;> omega
theorem By.mag (n:Int):By (Lb n):=by
 unfold Lb;split
 .exact By.nil
 .exact (By.ti _).app (By.cons ω By.nil)
theorem By.var (n:Int):By (Ke n):=by
 unfold Ke;split
 .intro c hc;simp at hc;omega
 .exact By.cons ω (By.ti _)
theorem By.tT (f:Bool) (t:Bq):By (tT f t):=(By.sgn _ _).app ((By.mag _).app (By.var _))
theorem By.lins:∀(l:List Bq) (f:Bool) (c:Int),By (I2 f l c)
 | [],f,c=>by
  simp only[I2];split
  .exact (By.sgn _ _).app (By.ti _)
  .exact By.nil
 | t::l,f,c=>(By.tT f t).app (By.lins l false c)
theorem By.at (a:Bf):By (It a):=By.cons ω ((By.ti _).app (By.cons ω (By.lins _ _ _)))
theorem By.flat {g:α->List Int} (h:∀a,By (g a)) (l:List α):By (l.flatMap g):=by intro c hc;obtain⟨a,_,k⟩:=mem_flatMap.1 hc;exact h a c k
theorem By.fac (f:Be):By (D8 f):=Agb f.v f.I
theorem By.mono (m:A5):By (Aby m):=(By.flat By.fac _).app (By.flat By.at _)
def bs (l:List Int):ByteArray:=⟨(Fk l).toArray⟩
theorem Al7 {m:List Int} (c:By l) (b:By m) (h:bs l=bs m):l=m:=by
 unfold bs at h;have e:(Fk l).toArray=(Fk m).toArray:=by injection h
 have i:Fk l=Fk m:=by simpa using congrArg Array.toList e
 exact All _ _ c b i
def L2 (m:A5):ByteArray:=bs (Aby m)
theorem Au0 {n:A5} (h:L2 m=L2 n):m=n:=A7j (Al7 (By.mono m) (By.mono n) h)
theorem Xw (l:List Int):(bs l).size=l.length:=by unfold bs Fk;simp[ByteArray.size]
theorem Au1 (h:By l):Ns (bs l)=l:=by
 unfold Ns bs Fk
 simp only[map_map]
 conv=>rhs;rw[<-map_id l]
 refine map_congr_left λc e=>?_
 have:=h c e
 simp only[Function.comp,UInt8.toNat_ofNat',id]
 omega
theorem A7k (l m:List Int):bs l++bs m=bs (l++m):=by apply ByteArray.ext;rw[ByteArray.data_append];unfold bs Fk;simp
theorem U9 {m:List Int} (h:l.length+m.length<=9223372036854775807):Gm (bs l) (bs m)=some (bs (l++m)):=by unfold Gm;rw[As (by rw[Xw,Xw];exact h),A7k]
theorem Ag1 {n:Int} (h:E5 n):Pu n=some (bs (ti n)):=by
 rw[Alj h]
 congr 2
 congr 1
 unfold Fk ti
 rw[map_map]
 conv=>lhs;rw[<-map_id (Lib.itoa n)]
 refine map_congr_left λc _=>?_
 simp[Function.comp]
theorem Abz {S E:Type} {step:S->Option (S⊕E)} {s0:S} {J:E->Option R} (c:α) (xs:List α) (b:Nat->S) (h0:s0=b 0) (h:xs.length<2305843009213693952) (f:∀(j:Nat) (x:α),xs[j]? = some x->decide (((j+1:Nat):Int)<((c::xs).length:Int))=true->Ag (c::xs) ((j+1:Nat):Int)=some x->Ac (((j+1:Nat):Int)+1)=((j+1+1:Nat):Int)->step (b j)=some (.inl (b (j+1)))) (g:decide (((xs.length+1:Nat):Int)<((c::xs).length:Int))=false->∃e,step (b xs.length)=some (.inr e)/\J e=some r):(Ak step s0).bind J=some r:=by refine Kc xs.length b h0 (λj i=>?_) (g ψ);have o:xs[j]? = some xs[j]:=Bp i;exact f j _ o (Ar (by simp only[D1];omega)) (Bn rfl ψ) (C3 (n:=xs.length+1) ω ω)
theorem bnd {X:Option α} {a:α} {K:α->Option β} {r:Option β} (h:X=some a) (k:K a=r):X.bind K=r:=by rw[h];exact k
theorem Nf (c:By l) (h:b.length+l.length<=140737488355328):Hj (bs l) b=some ((l.length:Int),b++l):=by simp only[Hj,Xa,Ad,Au1 c,Xw];rw[Dy ω];rfl
theorem Va (c:By l) (h:b.length+l.length<=140737488355328):Kb (bs l) b=some ((l.length:Int),b++l):=by simp only[Kb,Aag,Ad,Au1 c,Xw];rw[Dy ω];rfl
theorem Pl (hb:By b):Lw b=some (bs b):=by exact As hb
theorem A7l (hb:By b):Aa3 b=some (bs b):=Pl hb
theorem Al8 (n:Int) (h : -1048576<=n/\n<=1048576):(Lb n).length<=22:=by
 unfold Lb;split
 .simp
 .have:=Oa (n:=(n.natAbs:Int)) (by unfold E5;omega);simp;omega
theorem Ag2 (n:Int) (f:Bool):(J0 n f).length<=3:=by unfold J0;split <;> split <;> simp
theorem A7m (h : -1<=v/\v<3000):(Ke v).length<=22:=by
 unfold Ke;split
 .simp
 .have:=Oa (n:=v) (by unfold E5;omega);simp;omega
structure Au2 (a:Bg):Prop where
 c : -1048576<=a.Q/\a.Q<=1048576
 n:a.T.length<=16
 t:∀t∈a.T,(-1<=t.v/\t.v<3000)/\(-1048576<=t.C/\t.C<=1048576)
theorem Al9 {a:Bg} (h:Ek a=true):Au2 a:=by unfold Ek at h;simp only[Cz,Ds]at h;refine⟨⟨h.1.1,h.1.2.1⟩,h.1.2.2,λt e=>?_⟩;obtain⟨j,i⟩:=Hh e;have:=Je h.2 i;simp only[U1,Cz,Ds]at this;omega
theorem Ama {t:Bq} (f:Bool) (h:(-1<=t.v/\t.v<3000)/\(-1048576<=t.C/\t.C<=1048576)):(tT f t).length<=47:=by have:=Ag2 t.C f;have:=Al8 t.C h.2;have:=A7m h.1;unfold tT;simp only[Ep];omega
theorem Au3 {n:Int} (h : -1048576<=n/\n<=1048576):(if Ac (0-n)>n then Ac (0-n) else n)=(n.natAbs:Int):=by rw[Ac,Ci ω ω];split <;> omega
theorem c45:ByteArray.mk #[45]=bs [45]:=rfl
theorem A7n:ByteArray.mk #[32,45,32]=bs [32,45,32]:=rfl
theorem A7o:ByteArray.mk #[32,43,32]=bs [32,43,32]:=rfl
theorem c42:ByteArray.mk #[42]=bs [42]:=rfl
theorem Au4:ByteArray.mk #[118]=bs [118]:=rfl
theorem c97:ByteArray.mk #[97]=bs [97]:=rfl
theorem c58:ByteArray.mk #[58]=bs [58]:=rfl
theorem Au5:ByteArray.mk #[114,101,115]=bs [114,101,115]:=rfl
theorem Au6:By [45]:=By.cons ω By.nil
theorem by3 (a b c:Int) (e:0<=a/\a<256) (hb:0<=b/\b<256) (h:0<=c/\c<256):By [a,b,c]:=By.cons e (By.cons hb (By.cons h By.nil))
theorem Au7 {n:Int} (f:Bool) (c : -1048576<=n/\n<=1048576) (hb:b.length<=1099511627776):Aa4 n f b=some ((n.natAbs:Int),b++J0 n f):=by
 unfold Aa4 J0;rw[Au3 c,c45,A7n,A7o];rw[Nf Au6 ζ,Nf (by3 _ _ _ ω ω ω) ζ,Nf (by3 _ _ _ ω ω ω) ζ];by_cases h:n<0
 .rw[Ar h,As h,As h];cases f <;> rfl
 .rw[A3 h,Ao h,Ao h];cases f <;> simp
theorem A7p {n:Int} (c : -1048576<=n/\n<=1048576) (hb:b.length<=1099511627776):Uf n true b=some (if n<0 then .inl ((n.natAbs:Int),b++[45]) else .inr ((n.natAbs:Int),b)):=by
 unfold Uf;rw[Au3 c,c45,Va Au6 ζ];by_cases h:n<0
 .rw[Ar h,As h];rfl
 .rw[A3 h,Ao h];rfl
theorem Amb (h:n<=1048576):N5 (n:Int) 10=some (bs (ti n)):=by unfold N5 Ad6;exact Ag1 (by unfold E5;omega)
theorem Ag3 (h:n<=1048576):(ti (n:Int)).length<=21:=Oa (by unfold E5;omega)
theorem Au8 {n:Int} (c : -1048576<=n/\n<=1048576) (hb:b.length<=1099511627776) : (bif ((n.natAbs:Int) != (1:Int)) then (N5 (n.natAbs:Int) 10).bind λv=>(Gm v (ByteArray.mk #[42])).bind λu=>(Hj u b).bind λw=>some w.2 else some b)=some (b++Lb n):=by
 have e:=Ag3 (n:=n.natAbs) ω;unfold Lb;by_cases h:n.natAbs=1
 .rw[G0 ω,As h];simp
 .rw[F4 ω,Ao h,Amb ω,c42];simp only[Am,Ad];rw[U9 ζ,Ad,Nf ((By.ti _).app (By.cons ω By.nil)) ζ];rfl
theorem Amc (K:List Int->Option R) (e : -1<=v/\v<3000) (hb:b.length<=1099511627776) : (bif (v==(-1)) then (Hj (ByteArray.mk #[114,101,115]) b).bind λw=>K w.2 else (Jb v).bind λx=>(Gm (ByteArray.mk #[118]) x).bind λy=>(Hj y b).bind λw=>K w.2)=K (b++Ke v):=by
 have i:=Oa (n:=v) (by unfold E5;omega);unfold Ke;by_cases h:v = -1
 .rw[Eh h,As h,Au5,Nf (by3 _ _ _ ω ω ω) ζ];rfl
 .rw[C8 h,Ao h,Au4];simp only[Ap,Jb];rw[Ag1 (by unfold E5;omega),Ad,U9 ζ,Ad];rw[show [118]++ti v=118::ti v from rfl,Nf (By.cons ω (By.ti _)) ζ];rfl
theorem Ag4 {g:α->List Int} {l:List α} {x:α} (h:l[j]? = some x):(l.take (j+1)).flatMap g=(l.take j).flatMap g++g x:=by rw[Cs h];simp
theorem Amd {α:Type} {g:α->List Int} {n:Nat}:∀(l:List α),(∀a∈l,(g a).length<=n)->(l.flatMap g).length<=l.length*n
 | [],_=>ψ
 | a::l,h=>by have i:=h a ψ;have o:=Amd l λb e=>h b (by simp[e]);simp only[flatMap_cons,Ep,D1,Nat.add_mul];omega
theorem Ame {g:α->List Int} (l:List α) (j:Nat) (h:∀a∈l,(g a).length<=n):((l.take j).flatMap g).length<=l.length*n:=by refine Nat.le_trans (Amd _ λa e=>h a (mem_of_mem_take e)) (Nat.mul_le_mul_right _ ?_);rw[length_take];omega
theorem Au9:∀(ts:List Bq) (c:Int),I2 false ts c=ts.flatMap (tT false)++I2 false [] c
 | [],c=>ψ
 | t::ts,c=>by have:=Au9 ts c;simp only[flatMap_cons,append_assoc,<-this];rfl
theorem A7q {a:Bg} (h:Ek a=true) (z:a.T≠[]):P5 a=some (bs (Abx a)):=by
 have x:=Al9 h;unfold P5;rw[Abo,h];obtain⟨c,l⟩:=a;cases l with
 | nil=>exact (z rfl).elim
 | cons t ts=>
  have N : -1048576<=c/\c<=1048576:=x.c;have J:ts.length<=15:=(by have:=x.n;simp at this;omega);have C:(-1<=t.v/\t.v<3000)/\(-1048576<=t.C/\t.C<=1048576):=x.t t ψ;have s:∀u∈ts,(-1<=u.v/\u.v<3000)/\(-1048576<=u.C/\u.C<=1048576):=λu F=>x.t u (by simp[F]);have H:=λj=>Ame (g:=tT false) (n:=47) ts j λu F=>Ama false (s u F);have G:=Ama true C;simp only[Ad,bnt,Ap];rw[Ar (by simp only[D1];omega),Am];refine bnd (a:=((t.C.natAbs:Int),tT true t)) ?_ ?_
  .rw[show Ag (t::ts) 0=some t from rfl,Ad,A7p C.2 ψ,Ad];have D:=Oa (n:=t.v) (by unfold E5;omega);have E:=Ag3 (n:=t.C.natAbs) ω;have A:=Al8 t.C C.2;by_cases q:t.C<0
   .rw[As q];simp only;rw[Au8 C.2 ψ,Ad];refine (Amc (λb=>some ((t.C.natAbs:Int),b)) C.1 ζ).trans ?_;simp[tT,J0,q]
   .rw[Ao q];simp only;by_cases o:t.C.natAbs=1
    .rw[G0 ω];simp only[Ap];by_cases L:t.v = -1
     .rw[Eh L,Au5,Am,Va (by3 _ _ _ ω ω ω) ψ];simp[tT,J0,q,Lb,o,Ke,L]
     .rw[C8 L,Ap,Au4,Jb,Ag1 (by unfold E5;omega),Ad,U9 ζ,Ad,show [118]++ti t.v=118::ti t.v from rfl,
       Va (By.cons ω (By.ti _)) ζ];simp[tT,J0,q,Lb,o,Ke,L]
    .rw[F4 ω];simp only[Am];rw[Amb ω,Ad,c42,U9 ζ,Ad,Va ((By.ti _).app (By.cons ω By.nil)) ζ,Ad];refine (Amc (λb=>some ((t.C.natAbs:Int),b)) C.1 ζ).trans ?_;simp[tT,J0,q,Lb,o]
  .simp only;refine Abz t ts (λj=>(((j+1:Nat):Int),tT true t++(ts.take j).flatMap (tT false))) (by simp[Ac,Ci]) ω ?_ ?_
   .intro j u F o M Q;have f:=s u (Bv F);have:=H j;have A:=Al8 u.C f.2;have y:=Ag2 u.C false;simp only[o,M,Q,Am,Ad];rw[C8 ω,Au7 false f.2 (by simp only[Ep];omega),Ad,Au8 f.2 (by simp only[Ep];omega),Ad];refine (Amc (R:=(Int×List Int)⊕List Int) (λb=>some (.inl (((j+1+1:Nat):Int),b))) f.1 (by simp only[Ep];omega)).trans ?_;rw[Ag4 F];simp[tT]
   .intro o;have M:=H ts.length;rw[C1]at M;refine⟨tT true t++ts.flatMap (tT false),by simp only[o,Ap,C1],?_⟩;have B:By (tT true t++ts.flatMap (tT false)):=(By.tT _ _).app (By.flat (By.tT _) _);have e:Abx ⟨c,t::ts⟩=tT true t++ts.flatMap (tT false)++I2 false [] c:=(by have:=Au9 ts c;rw[append_assoc,<-this];rfl);rw[e];have k:((((t::ts).length:Nat):Int)==(0:Int))=false:=C8 (by simp only[D1];omega);by_cases i:c=0
    .simp only[G0 i,Ap,k,Ad];rw[Pl B];simp[I2,i]
    .have I:=Ag3 (n:=c.natAbs) ω;have y:=Ag2 c false;simp only[F4 i,Am,Ad,k];rw[Au7 false N (by simp only[Ep];omega),Ad,Amb ω,Ad,Nf (By.ti _) (by simp only[Ep];omega),Ad, Pl ((B.app (By.sgn _ _)).app (By.ti _))];simp[I2,i]
theorem Ava {a:Bg} (h:Au2 a):(Abx a).length<=1024:=by
 have e:∀(l:List Bq) (f:Bool),(∀t∈l,(-1<=t.v/\t.v<3000)/\(-1048576<=t.C/\t.C<=1048576))->(I2 f l a.Q).length<=47*l.length+24:=by
  intro l;induction l with
  | nil=>intro f _;have i:=Ag3 (n:=a.Q.natAbs) (by have:=h.c;omega);have o:=Ag2 a.Q f;simp only[I2];split <;> simp <;> omega
  | cons t l ih=>intro f b;have i:=Ama f (b t ψ);have o:=ih false λu s=>b u (by simp[s]);simp only[I2,Ep,D1];omega
 have:=e a.T true h.t;have:=h.n;unfold Abx;omega
structure CMo (m:A5):Prop where
 sz:MSz m
 nf:m.F.length<=6
 na:m.A.length<=6
 al:∀a∈m.A,Ek a.L=true/\a.L.T≠[]/\1<=a.P/\a.P<=6
theorem Ag5 {a:Bf} (K:ByteArray->Option R) (h:Ek a.L=true/\a.L.T≠[]/\1<=a.P/\a.P<=6) : ((Jb a.P).bind λu=>(Gm (ByteArray.mk #[97]) u).bind λv=>(Gm v (ByteArray.mk #[58])).bind λw=>(P5 a.L).bind λx=>(Gm w x).bind λy=>K y)=K (bs (It a)):=by have e:=Oa (n:=a.P) (by unfold E5;omega);have i:=Ava (Al9 h.1);rw[Jb,Ag1 (by unfold E5;omega),Ad,c97,U9 ζ,Ad,c58,U9 ζ,Ad,A7q h.1 h.2.1,Ad,U9 ζ,Ad];simp[It]
theorem Ab0 {a:Bf} (h:Ek a.L=true/\a.L.T≠[]/\1<=a.P/\a.P<=6):(It a).length<=1100:=by have e:=Oa (n:=a.P) (by unfold E5;omega);have i:=Ava (Al9 h.1);simp[It];omega
theorem Ag6 {f:Be} (h:Bw f.I<=1048576) (b:iR f.I/\E5 f.v):(D8 f).length<=33554432:=by have e:=Oa b.2;have i:=Alh f.I b.1;simp[D8,K9];omega
theorem A7r (h:CMo m):Zq m=some (L2 m):=by
 obtain⟨e,c⟩:=m;have k:∀f∈e,Bw f.I<=1048576/\iR f.I/\E5 f.v:=λf C=>⟨h.sz.fi f C,h.sz.fr f C⟩;have s:∀a∈c,Ek a.L=true/\a.L.T≠[]/\1<=a.P/\a.P<=6:=h.al;have T:e.length<=6:=h.nf;have Q:c.length<=6:=h.na;have z:=λ(l:List Be) (u:∀f∈l,f∈e) (j:Nat)=>Ame (g:=D8) (n:=33554432) l j λf C=>Ag6 (k f (u f C)).1 (k f (u f C)).2;have A:=λ(l:List Bf) (u:∀a∈l,a∈c) (j:Nat)=>Ame (g:=It) (n:=1100) l j λa H=>Ab0 (s a (u a H));have J:∀l:List Be,By (l.flatMap D8):=λl=>By.flat By.fac l;have D:∀l:List Bf,By (l.flatMap It):=λl=>By.flat By.at l;have L:∀f:Be,f∈e->Md f.v f.I=some (bs (D8 f)):=λf C=>Agc f.v f.I (k f C).2.2 (k f C).2.1 (k f C).1;unfold Zq L2 Aby;cases e with
 | nil=>
  rw[A3 ψ,Ap];cases c with
  | nil=>rw[A3 ψ,Ap];rw[A7l By.nil];rfl
  | cons a c=>
   have H:=s a ψ;have x:=Ab0 H;rw[Ar (by simp only[D1];omega),Am,show Ag (a::c) 0=some a from rfl,Ad];refine (Ag5 _ H).trans ?_;rw[Va (By.at a) ζ,Ad];refine Abz a c (λj=>(((j+1:Nat):Int),[]++It a++(c.take j).flatMap It)) (by simp[Ac,Ci]) (by simp at Q;omega) ?_ ?_
   .intro j b o F M N;have i:=s b (by simp[Bv o]);have:=Ab0 i;have:=A c (λb o=>by simp[o]) j;simp at Q;simp only[F,M,N,Am,Ad];refine (Ag5 _ i).trans ?_;rw[Nf (By.at b) (by simp only[Ep,length_nil];omega),Ad,Ag4 o];simp
   .intro F;refine⟨[]++It a++c.flatMap It,by simp only[F,Ap,C1],?_⟩;dsimp only;rw[Pl ((By.nil.app (By.at a)).app (D c))];simp
 | cons f e=>
  have C:=k f ψ;have I:=Ag6 C.1 C.2;rw[Ar (by simp only[D1];omega),Am,show Ag (f::e) 0=some f from rfl,Ad,L f ψ,Ad,Va (By.fac f) ζ,Ad];refine Abz f e (λj=>(((j+1:Nat):Int),[]++D8 f++(e.take j).flatMap D8)) (by simp[Ac,Ci]) (by simp at T;omega) ?_ ?_
  .intro j g U F M N;have q:g∈f::e:=(by simp[Bv U]);have:=Ag6 (k g q).1 (k g q).2;have:=z e (λb o=>by simp[o]) j;simp at T;simp only[F,M,N,Am,Ad];rw[L g q,Ad,Nf (By.fac g) (by simp only[Ep,length_nil];omega),Ad,Ag4 U];simp
  .intro F;have E:=z e (λb o=>by simp[o]) e.length;rw[C1]at E;simp at T;refine⟨[]++D8 f++e.flatMap D8,by simp only[F,Ap,C1],?_⟩;have y:By ([]++D8 f++e.flatMap D8):=(By.nil.app (By.fac f)).app (J e);have G:([]++D8 f++e.flatMap D8).length<=234881024:=(by simp only[Ep,length_nil];omega);have eB:(f::e).flatMap D8 = []++D8 f++e.flatMap D8:=ψ;rw[eB];generalize []++D8 f++e.flatMap D8=B at y G;cases c with
   | nil=>rw[A3 ψ,Ap,Pl y];simp
   | cons a c=>
    have H:=s a ψ;have x:=Ab0 H;rw[Ar (by simp only[D1];omega),Am,show Ag (a::c) 0=some a from rfl,Ad];refine (Ag5 _ H).trans ?_;rw[Nf (By.at a) ω,Ad];refine Abz a c (λj=>(((j+1:Nat):Int),B++It a++(c.take j).flatMap It)) (by simp[Ac,Ci]) (by simp at Q;omega) ?_ ?_
    .intro j b o F M N;have i:=s b (by simp[Bv o]);have:=Ab0 i;have:=A c (λb o=>by simp[o]) j;simp at Q;simp only[F,M,N,Am,Ad];refine (Ag5 _ i).trans ?_;rw[Nf (By.at b) (by simp only[Ep];omega),Ad,Ag4 o];simp
    .intro F;refine⟨B++It a++c.flatMap It,by simp only[F,Ap,C1],?_⟩;dsimp only;rw[Pl ((y.app (By.at a)).app (D c))];simp
def plc (ts:List Aj):List (ByteArray×Int):=ts.zipIdx.map λq=>(L2 q.1.M,(q.2:Int))
def Dst (ts:List Aj):Prop:=ts.Pairwise λt u=>t.M≠u.M
theorem A7s (ts:List Aj) (t:Aj):plc (ts++[t])=plc ts++[(L2 t.M,(ts.length:Int))]:=by unfold plc;simp[zipIdx_append]
theorem Ab1 (ts:List Aj) (j:Nat):(plc ts)[j]? = (ts[j]?).map λt=>(L2 t.M,(j:Int)):=by unfold plc;simp[getElem?_map,getElem?_zipIdx];cases ts[j]? <;> rfl
theorem A7t (h:ts[j]? = some t) (b:u.M=t.M):plc (ts.set j u)=plc ts:=by
 apply ext_getElem?;intro i;rw[Ab1,Ab1,getElem?_set];by_cases e:j=i
 .subst e;rw[As rfl,As (Ec h),h];simp[b]
 .rw[Ao e]
theorem Amf {α:Type}:∀(o:List (ByteArray×α)) (s:ByteArray) (v:α),E9 o s=false->Gn o s v=o++[(s,v)]
 | [],_,_,_=>rfl
 | p::o,s,v,h=>by simp only[E9,any_cons,Bool.or_eq_false_iff]at h;simp only[Gn,h.1,Ap,D0,List.cons.injEq,true_and];exact Amf o s v h.2
theorem A7u (h:∀t∈ts,t.M≠m):E9 (plc ts) (L2 m)=false:=by unfold E9;rw[any_eq_false];intro p hp;obtain⟨j,i⟩:=Hh hp;rw[Ab1]at i;cases o:ts[j]? with| none=>rw[o]at i;cases i| some t=>rw[o]at i;simp only[Option.map_some,Option.some.injEq]at i;subst i;intro e;have e:=(Na _ _).1 e;exact h t (Bv o) (Au0 e).symm
theorem A7v (B:Dst ts) (h:ts[j]? = some t):E9 (plc ts) (L2 t.M)=true/\Ig (plc ts) (L2 t.M) 0=(j:Int):=by
 have hp:(plc ts)[j]? = some (L2 t.M,(j:Int)):=by rw[Ab1,h];rfl
 refine⟨any_eq_true.2 ⟨_,Bv hp,(Na _ _).2 rfl⟩,?_⟩;unfold Ig;have A:(plc ts).find? (λp=>L2 t.M==p.1)=some (L2 t.M,(j:Int)):=by
  cases A:(plc ts).find? (λp=>L2 t.M==p.1) with
  | none=>have:=find?_eq_none.1 A _ (Bv hp);exact (this ((Na _ _).2 rfl)).elim
  | some q=>
   have C:=find?_some A;obtain⟨i,o⟩:=Hh (mem_of_find?_eq_some A);rw[Ab1]at o;cases s:ts[i]? with
   | none=>rw[s]at o;cases o
   | some u=>
    rw[s]at o;simp only[Option.map_some,Option.some.injEq]at o;subst o;have e:=Au0 ((Na _ _).1 C);have f:i=j:=by
     have c:=Ec s;have b:=Ec h;rw[Bp c]at s;rw[Bp b]at h;rcases Nat.lt_trichotomy i j with k|k|k
     .have:=pairwise_iff_getElem.1 B i j c b k;rw[Fh s,Fh h]at this;exact (this e.symm).elim
     .exact k
     .have:=pairwise_iff_getElem.1 B j i b c k;rw[Fh s,Fh h]at this;exact (this e).elim
    subst f;rw[e]
 rw[A];rfl
open Classical in
theorem Vb (t:Aj) (p:List Aj) (m:A5):cf (t::p) m=(if t.M=m then rq t.C else 0)+cf p m:=by
 simp only[cf];by_cases e:t.M=m
 .rw[As (U8.2 e),As e]
 .rw[Ao λh=>e (U8.1 h),Ao e]
open Classical in
theorem Avb:∀{ts:List Aj} {j:Nat} {t u:Aj},ts[j]? = some t->u.M=t.M->∀m,cf (ts.set j u) m=cf ts m+(if t.M=m then rq u.C-rq t.C else 0)
 | [],j,t,u,h,_,m=>by simp at h
 | s::ts,0,t,u,h,e,m=>by simp only[getElem?_cons_zero,Option.some.injEq]at h;subst h;rw[set_cons_zero,Vb,Vb,e];split <;> grind
 | s::ts,j+1,t,u,h,e,m=>by simp only[getElem?_cons_succ]at h;rw[set_cons_succ,Vb,Vb,Avb h e m];grind
theorem Dst.set (h:Dst ts) (ht:ts[j]? = some t) (b:u.M=t.M):Dst (ts.set j u):=by
 have e:(ts.set j u).map (·.M)=ts.map (·.M):=by
  apply ext_getElem?;intro i;rw[getElem?_map,getElem?_map,getElem?_set];by_cases e:j=i
  .subst e;rw[As rfl,As (Ec ht),ht];simp[b]
  .rw[Ao e]
 have k:∀l:List Aj,Dst l↔(l.map (·.M)).Pairwise (·≠·):=λl=>by rw[pairwise_map];exact Iff.rfl
 rw[k,e,<-k];exact h
structure Col (k:Nat) (P:A5->Prop) (ts:List Aj):Prop where
 dst:Dst ts
 tb:∀t∈ts,RB k t.C
 mo:∀t∈ts,P t.M
theorem Col.nil (k:Nat) (P:A5->Prop):Col k P []:=⟨Pairwise.nil,λ_ h=>(by cases h),λ_ h=>(by cases h)⟩
theorem Amg (t u:Aj) (h:MSz t.M):P3 t u=some (Fd t.M u.M):=by unfold P3;rw[Ath _ _ h];rfl
theorem A7w (A R:List α) (x y:α):((A++y::x::R).set (A.length+1) y).set A.length x=A++x::y::R:=by induction A with| nil=>rfl| cons a A ih=>simp only[D0,D1,set_cons_succ,ih]
theorem Avc (A R:List α) (x:α):(A++x::R)[A.length]? = some x:=by simp
theorem A7x (A R:List α) (x y:α):(A++y::x::R)[A.length+1]? = some x:=by induction A with| nil=>rfl| cons a A ih=>simp
theorem A7y {step:Int×List Aj->Option ((Int×List Aj)⊕(Int×List Aj))} (N:Nat) (G:N<4611686018427387904) (b:∀(x:Aj) (R:List Aj),step (0,x::R)=some (.inr (0,x::R))) (l:∀(A R:List Aj) (x y:Aj),(∀t∈A++y::x::R,MSz t.M)->(A++y::x::R).length<=N->step (((A.length+1:Nat):Int),A++y::x::R) = if Fd x.M y.M<0 then some (.inl ((A.length:Int),A++x::y::R)) else some (.inr (((A.length+1:Nat):Int),A++y::x::R))) : ∀(n:Nat) (A R:List Aj) (x:Aj),A.length=n->(∀t∈A++x::R,MSz t.M)->(A++x::R).length<=N -> ∃f i,Ak step ((A.length:Int),A++x::R)=some ((f.length:Int),f++x::(i++R))/\A=f++i/\(∀a∈i,ltT x a)/\∀q y,f=q++[y]->¬ltT x y:=by
 intro n;induction n with
 | zero=>intro A R x g _ _;have:A = []:=F3.1 g;subst this;exact⟨[],[],F0 (b x R),rfl,nofun,(λq y h=>by simp at h)⟩
 | succ n ih=>
  intro A R x g k c;obtain⟨B,y,rfl⟩:∃B y,A=B++[y]:=by
   rcases eq_nil_or_concat A with h|⟨B,y,h⟩
   .rw[h]at g;cases g
   .exact⟨B,y,by simpa using h⟩
  have u:B.length=n:=(by simpa using g);have E:(B++[y])++x::R=B++y::x::R:=ψ;have el:(((B++[y]).length:Nat):Int)=((B.length+1:Nat):Int):=ψ;rw[E]at k c ⊢;rw[el];have j:=l B R x y k c;by_cases C:Fd x.M y.M<0
  .rw[As C]at j;obtain⟨f,i,H,I,J,D⟩:=ih B (y::R) x u (by intro t F;refine k t ?_;simp only[Ef,Gc]at F ⊢;rcases F with h|h|h|h <;> simp[h]) (by simpa using c);refine⟨f,i++[y],?_,by rw[I];simp,?_,D⟩
   .rw[Lg j,H];simp
   .intro a o;rcases Ef.1 o with o|o
    .exact J a o
    .simp only[D4]at o;subst o;exact C
  .rw[Ao C]at j;refine⟨B++[y],[],?_,ψ,nofun,?_⟩
   .rw[F0 j];simp
   .intro q z s;have:=append_inj' s rfl;have e:y=z:=(by simpa using this.2);subst e;exact C
theorem A7z {a b c:Aj} (h:ltT a b) (e:ltT b c):ltT a c:=Agx h e
theorem A70 {c j:List Aj} {x:Aj} (u:(c++j).Pairwise ltT) (A:∀a∈j,ltT x a) (B:∀g y,c=g++[y]->¬ltT x y) (C:∀a∈c,a.M≠x.M):(c++x::j).Pairwise ltT:=by
 obtain⟨i,s,l⟩:=pairwise_append.1 u;have D:∀a∈c,ltT a x:=by
  intro a e;rcases eq_nil_or_concat c with h|⟨g,y,h⟩
  .rw[h]at e;cases e
  .have h:c=g++[y]:=(by simpa using h);have f:ltT y x:=by
    have q:=B g y h;have z:=C y (by rw[h];simp);unfold ltT at *;rcases Int.lt_trichotomy (Fd x.M y.M) 0 with k|k|k
    .exact (q k).elim
    .exact (z (U8.1 k).symm).elim
    .exact Aur.1 k
   rw[h]at e i;rcases Ef.1 e with e|e
   .exact A7z ((pairwise_append.1 i).2.2 a e y ψ) f
   .simp only[D4]at e;subst e;exact f
 refine pairwise_append.2 ⟨i,pairwise_cons.2 ⟨A,s⟩,λa e b o=>?_⟩;rcases Gc.1 o with rfl|o
 .exact D a e
 .exact l a e b o
noncomputable def Ab2:Int×List Aj->Option ((Int×List Aj)⊕(Int×List Aj)):=λ(e,b)=> (show OB from bif e>(0:Int) then ((Ag b e).bind λi=> (Ag b (Ac (e-1))).bind λg=> (P3 i g).bind λo=> some (decide (o<(0:Int)))) else some false).bind λf=>
 bif f then ((Ag b (Ac (e-1))).bind λh=> (Ag b e).bind λc=> (Ag b e).bind λs=> (Ag (Cr b e h) (Ac (e-1))).bind λA=> some (.inl ((Ac (e-1)),(Cr (Cr b e h) (Ac (e-1)) c)))) else some (.inr (e,b))
theorem A71 (y:Aj) (R:List Aj):Ab2 (0,y::R)=some (.inr (0,y::R)):=by unfold Ab2;simp only[A3 (ω:¬(0:Int)>0),Ap,Ad]
theorem A72 {N:Nat} (h:N<=1099511627776) (A R:List Aj) (u y:Aj) (b:∀t∈A++y::u::R,MSz t.M) (c:(A++y::u::R).length<=N):Ab2 (((A.length+1:Nat):Int),A++y::u::R) = if Fd u.M y.M<0 then some (.inl ((A.length:Int),A++u::y::R)) else some (.inr (((A.length+1:Nat):Int),A++y::u::R)):=by
 have g:A.length+1<N:=by simp at c;omega
 have f:Ac (((A.length+1:Nat):Int)-1)=(A.length:Int):=by rw[Ac,Ci] <;> omega
 unfold Ab2;simp only[Ar (ω:((A.length+1:Nat):Int)>0),Am,f,Bn (n:=A.length+1) rfl (A7x A R u y),Bn (n:=A.length) rfl (Avc A (u::R) y),Ad,Amg u y (b u ψ)];by_cases e:Fd u.M y.M<0
 .rw[Ar e,As e];simp only[Am];rw[Ht (n:=A.length+1) rfl,Ht (n:=A.length) rfl,A7w];have:Ag ((A++y::u::R).set (A.length+1) y) (A.length:Int)=some y:=(by refine Bn rfl ?_;rw[getElem?_set_ne ω];exact Avc A (u::R) y);rw[this];rfl
 .rw[A3 e,Ao e];rfl
theorem A73 (b:List Aj) (Q:Dst b) (I:∀t∈b,MSz t.M) (M:b.length<=1099511627776) : ∃R,Aai 0 (b.length:Int) b=some R/\R.Perm b/\R.Pairwise ltT:=by
 unfold Aai;cases b with
 | nil=>refine⟨[],?_,Perm.refl _,Pairwise.nil⟩;refine Kc 0 (λ_=>((1:Int),([]:List Aj))) (by simp[Ac,Ci]) (λj V=>ω) ⟨[],?_,rfl⟩;simp
 | cons N A=>
 generalize f:N::A=b at *;have o:1<=b.length:=by rw[<-f];simp
 refine Er (λs=>∃(i:Nat) (S:List Aj),s=((i:Int),S++b.drop i)/\1<=i/\i<=b.length/\S.length=i/\S.Perm (b.take i)/\S.Pairwise ltT) (λs=>b.length-s.1.toNat) (λR=>R.Perm b/\R.Pairwise ltT) ⟨1,[N],by rw[<-f];simp[Ac,Ci],ω,o,rfl,by rw[<-f];simp,pairwise_singleton _ _⟩ ?_ ?_
 .rintro _ ⟨i,S,rfl,J,W,G,c,k⟩;rcases Cf i b.length with h|h
  .have H:b[i]? = some b[i]:=Bp h;generalize b[i]=x at H;have g:b.drop i=x::b.drop (i+1):=Jz H;have z:(S++x::b.drop (i+1)).length=b.length:=ζ;have y:∀t∈S++x::b.drop (i+1),t∈b:=by
    intro t e;rcases Ef.1 e with e|e
    .exact mem_of_mem_take (c.mem_iff.1 e)
    .rw[<-g]at e;exact mem_of_mem_drop e
   simp only[Ar (ω:(i:Int)<(b.length:Int)),Am,C3 h ω];rw[g];left;obtain⟨q,l,F,C,T,L⟩:=A7y (step:=Ab2) b.length ω A71 (A72 ω) S.length S (b.drop (i+1)) x rfl (λt e=>I t (y t e)) (by rw[z];exact Nat.le_refl _);rw[G]at F;have hp:(q++x::l).Perm (b.take (i+1)):=(by rw[Cs H];have:(q++x::l).Perm ((q++l)++[x]):=(by rw[append_assoc];exact Perm.append_left q (perm_append_singleton x l).symm);exact this.trans (by rw[<-C];exact c.append_right [x]));refine⟨(((i+1:Nat):Int),(q++x::l)++b.drop (i+1)),bnd F ψ,⟨i+1,q++x::l,rfl,ω,ω,?_,hp,?_⟩,ζ⟩
   .rw[hp.length_eq,length_take];omega
   .rw[C]at k;refine A70 k T L λa U=>?_;have E:a∈b.take i:=c.mem_iff.1 (by rw[C];simp[U]);have B:x∈b.drop i:=(by rw[g];simp);have D:(b.take i++b.drop i).Pairwise λt u=>t.M≠u.M:=(by rw[take_append_drop];exact Q);exact (pairwise_append.1 D).2.2 a E x B
  .have:i=b.length:=ω;subst this;rw[C1]at c;simp only[A3 (ω:¬(b.length:Int)<(b.length:Int)),Ap,drop_length,append_nil];exact .inr ⟨S,rfl,c,k⟩
 .rintro R ⟨F,C⟩;exact⟨R,rfl,F,C⟩
theorem Ku {l:List α} (h:n=l.length):Ft n l=some ():=by unfold Ft;rw[As h]
theorem A74 {s:ByteArray} {i:Int} (h0:0<=i) (h:i.toNat<s.size):∃c,Km s i=some c:=by unfold Km;rw[As h0];exact⟨_,getElem?_pos s i.toNat h⟩
set_option maxRecDepth 20000 in
theorem Amh {n:Nat} (h:n<256):∃v,Ro (Bh (n:Int))=some v:=by
 unfold Ro Aei;rw[Bh,Fz ω ω,A3 ω];simp only[Ap,Ad];rw[A3 ω];simp only[Ap,Ad];rw[A3 ω];simp only[Ap,Ad];have b:wu8 (n:Int)=(n:Int):=by rw[wu8];unfold IntKind.wrap;simp[IntKind.bits,IntKind.signed];omega
 rw[b];generalize g:ByteArray.mk _=T;have f:T.size=256:=by rw[<-g];rfl
 obtain⟨c,e⟩:=A74 (s:=T) (i:=(n:Int)) ω (by rw[f];simpa using h);rw[e];exact⟨_,rfl⟩
theorem A75 (b:List Aj) (h:Dst b) (f:∀t∈b,MSz t.M) (c:b.length<=12):∃R,P1 b=some R/\R.Perm b/\R.Pairwise ltT:=by
 obtain⟨R,i,e,o⟩:=A73 b h f ω;obtain⟨v,s⟩:=Amh (n:=b.length) ω;refine⟨R,?_,e,o⟩;unfold P1;rw[Nat.ble_eq_true_of_le c,Am];unfold Aks;rw[s,Ad];have hp:Z9 0 (b.length:Int) v b=some R:=by unfold Z9;refine bnd (a:=R) (F0 ?_) rfl;have w:Ac ((b.length:Int)-0)=(b.length:Int):=ξ;simp only[w,Ar (ω:(b.length:Int)<=12),Am,i,Ad,Ku e.length_eq.symm]
 rw[hp,Ad,Ku e.length_eq.symm];rfl
def clT (t:Aj):Aj:=⟨C6 (sv t.C) (nv t.C) (dv t.C),t.M⟩
theorem A76 (p:List Aj) (B:k<34359738000) (hp:∀t∈p,RB k t.C/\MSz t.M) (b:p.length<=1048576):Wp p=some (p.map clT):=by
 unfold Wp;refine F5 p (λj=>((j:Int),(p.take j).map clT)) rfl ω ?_ ?_
 .intro j x C e h i o;obtain⟨s,A⟩:=hp x (Bv e);simp only[h,i,o,Am,Ad,Alt x.C k s ω,A7g x.M A];rw[Dy ζ,Ad,Cs e];simp[clT]
 .intro h;exact⟨p.map clT,ψ,rfl⟩
theorem A77 (p:List Aj) (m:A5):cf (p.map clT) m=cf p m:=by induction p with| nil=>rfl| cons t p ih=>simp only[map_cons,cf,ih,clT];rw[Qo _ _ _ (Ic _)];rfl
theorem A78 {q:List Aj} (h:p.Perm q) (m:A5):cf p m=cf q m:=by induction h with| nil=>rfl| cons x _ ih=>simp only[cf,ih]| swap x y l=>simp only[cf];grind| trans _ _ e i=>rw[e,i]
def nzT (t:Aj):Bool:=decide (rq t.C≠0)
theorem A79 (p:List Aj) (m:A5):cf (p.filter nzT) m=cf p m:=by
 induction p with
 | nil=>rfl
 | cons t p ih=>
  by_cases h:rq t.C=0
  .rw[filter_cons_of_neg (by simp[nzT,h]),ih];simp only[cf,h];grind
  .rw[filter_cons_of_pos (by simp[nzT,h])];simp only[cf,ih]
theorem A8a (x:Rat):(Nd x != (0:Int))=decide (x≠0):=by
 unfold Nd;by_cases h:x<0
 .rw[As h];have:x≠0:=(by intro e;subst e;exact absurd h δ);simp[this]
 .rw[Ao h];by_cases i:0<x
  .rw[As i];have:x≠0:=(by intro e;subst e;exact absurd i δ);simp[this]
  .rw[Ao i];have:x=0:=Rat.le_antisymm (Rat.not_lt.1 i) (Rat.not_lt.1 h);simp[this]
theorem Avd {f:α->Bool} {l:List α} {x:α} (h:l[j]? = some x):(l.take (j+1)).filter f=(l.take j).filter f++(if f x then [x] else []):=by rw[Cs h,filter_append];congr 1;cases k:f x <;> simp[filter,k]
theorem Ave (x:B9) (g:CSz x) (ps:List (List Aj)) (B:∀p∈ps,∀t∈p,TSz t) (J:ps.length<=1048576) : ∃r,Nv x ps=some r/\(((Hn x/\∀p∈ps,Jk x.D x.V x.E p=true)/\∃A,r = .inl (true,x,A,[],x.D,x.V,x.E.G,x.E.U,x.E.R)/\Ez x.D x.V x.E A) \/ ((¬(Hn x/\∀p∈ps,Jk x.D x.V x.E p=true))/\r = .inr false)):=by
 obtain⟨b,Q,L⟩:=Afy g.ds;have I:=g.nv;have G:=g.rs;unfold Nv;rw[Q,Xg x.D x.E 0 ω];by_cases l:x.V.length<=3000
 .rw[A3 ω];simp only[Ap,Ad];cases b with
  | false=>exact⟨_,rfl,.inr ⟨λh=>(by have:=L.2 h.1.2.1;cases this),rfl⟩⟩
  | true=>
   have T:=L.1 rfl;simp only[bnt,Ap];cases D:(Fb x.D 0 x.E&&decide (Bx x.E<=200)) with
   | false=>exact⟨_,rfl,.inr ⟨λh=>(by have:=h.1.2.2.1;rw[show Gw x.D x.E=false from D]at this;cases this),rfl⟩⟩
   | true=>
    simp only[bnt,Ap,Ad];refine Er (λi=>∃j:Nat,i=j/\j<=x.V.length/\(x.V.take j).all (Gw x.D)=true) (λi=>x.V.length-i.toNat) (λz=>match z with|.inl r=>r=false/\¬Hn x | .inr _=>Hn x) ⟨0,rfl,ω,ψ⟩ ?_ ?_
    .rintro i ⟨j,rfl,U,c⟩;rcases Cf j x.V.length with h|h
     .have e:x.V[j]? = some x.V[j]:=Bp h;generalize x.V[j]=t at e;have:=g.vs t (Bv e);simp only[Ar (ω:(j:Int)<(x.V.length:Int)),Am,Bn rfl e,Ad,Xg x.D t 0 ω,C3 h ω];rw[show (Fb x.D 0 t&&decide (Bx t<=200))=Gw x.D t from rfl];cases M:Gw x.D t with| true=>exact .inl ⟨_,rfl,⟨j+1,rfl,ω,by rw[Cs e,all_append,c];simp[M]⟩,ζ⟩| false=>refine .inr ⟨.inl false,rfl,rfl,λH=>?_⟩;have:=Gt.1 H.2.2.2 t (Bv e);rw[M]at this;cases this
     .have:j=x.V.length:=ω;subst this;rw[C1]at c;exact .inr ⟨.inr (),ψ,l,T,D,c⟩
    .rintro (r|u) f
     .obtain⟨rfl,f⟩:=f;exact⟨_,rfl,.inr ⟨λh=>f h.1,rfl⟩⟩
     .have N:Hn x:=f;simp only;refine Er (λs=>∃(j:Nat) (o:List (ByteArray×Int)),s=((j:Int),o)/\j<=ps.length/\Ez x.D x.V x.E o/\∀p∈ps.take j,Jk x.D x.V x.E p=true) (λs=>ps.length-s.1.toNat) (λz=>match z with|.inl r=>r=false/\¬(∀p∈ps,Jk x.D x.V x.E p=true) | .inr o=>Ez x.D x.V x.E o/\∀p∈ps,Jk x.D x.V x.E p=true) ⟨0,[],rfl,ω,(λq h=>by cases h),(λq h=>by simp at h)⟩ ?_ ?_
      .rintro _ ⟨j,o,rfl,U,E,c⟩;rcases Cf j ps.length with h|h
       .have e:ps[j]? = some ps[j]:=Bp h;generalize ps[j]=p at e;have k:=Bv e;obtain⟨A,V,W⟩:=A6o (N.ctx g) [] E p (B p k);simp only[Ar (ω:(j:Int)<(ps.length:Int)),Am,Bn rfl e,Ad,V,C3 h ω];cases y:Jk x.D x.V x.E p with
        | true=>
         refine .inl ⟨_,rfl,⟨j+1,A,rfl,ω,W,λq C=>?_⟩,ζ⟩;rw[Cs e]at C;rcases Ef.1 C with C|C
         .exact c q C
         .simp only[D4]at C;subst C;exact y
        | false=>refine .inr ⟨.inl false,rfl,rfl,λH=>?_⟩;have:=H p k;rw[y]at this;cases this
       .have:j=ps.length:=ω;subst this;rw[C1]at c;exact .inr ⟨.inr o,ψ,E,c⟩
      .rintro (r|o) F
       .obtain⟨rfl,F⟩:=F;exact⟨_,rfl,.inr ⟨λh=>F h.2,rfl⟩⟩
       .exact⟨_,rfl,.inl ⟨⟨N,F.2⟩,o,rfl,F.1⟩⟩
 .rw[Ar ω];exact⟨_,rfl,.inr ⟨λh=>l h.1.1,rfl⟩⟩
theorem Ami (h:Js data vars res m=true) (k:MSz m):CMo m:=by
 have s:=(Agt h).2;unfold Js at h;simp only[Cz,Ds]at h;obtain⟨⟨C,D⟩,G⟩:=h;have b:∀f∈m.F,0<=D3 data vars res f:=by intro f s;obtain⟨j,A⟩:=Hh s;have:=Je C A;simp only[Pi,Cz,Ds]at this;omega
 have o:∀a∈m.A,1<=a.P/\Ek a.L=true/\a.L.T≠[]:=by intro a o;obtain⟨j,A⟩:=Hh o;have:=Je D A;simp only[Nc,Cz,Ds]at this;refine⟨this.1.1.1.1,this.1.1.1.2,λe=>?_⟩;have i:=this.1.1.2;rw[e]at i;simp at i
 obtain⟨H,I,E⟩:=Atm m.A λa h=>by have:=(o a h).1;omega
 have f1:=A52 m.F b;have J:(m.A.length:Int)<=El m.A:=by have B:∀l:List Bf,(∀a∈l,1<=a.P)->(l.length:Int)<=El l:=(by intro l;induction l with| nil=>intro _;simp[El]| cons f L ih=>intro c;have C:=c f ψ;have D:=ih λg F=>c g (by simp[F]);unfold El at *;simp only[map_cons,sum_cons,D1];omega);exact B _ λa h=>(o a h).1
 exact⟨k,s,ω,λa h=>⟨(o a h).2.1,(o a h).2.2,(o a h).1,by have:=E a h;omega⟩⟩
def Ju (x:B9) (m:A5):Prop:=Js x.D x.V x.E m=true/\MSz m
theorem Ju.cmo (h:Ju x m):CMo m:=Ami h.1 h.2
structure Kf (x:B9) (p:List Aj):Prop where
 can:Jk x.D x.V x.E p=true
 sz:∀t∈p,TSz t
theorem Kf.cp (h:Kf x p):CP p:=(Abw.1 h.can).2.1
theorem Kf.mo (h:Kf x p):∀t∈p,Ju x t.M:=λt e=>⟨(Abw.1 h.can).2.2 t e,(h.sz t e).mo⟩
theorem Kf.of (hc:CP p) (b:∀t∈p,Ju x t.M) (c:∀t∈p,RB 1048576 t.C) (f:p.length<=1000):Kf x p := ⟨Abw.2 ⟨f,hc,λt e=>(b t e).1⟩,λt e=>⟨c t e,(b t e).2⟩⟩
theorem Kf.tb (h:Kf x p):∀t∈p,RB 1048576 t.C/\Ju x t.M:=λt e=>⟨(h.sz t e).co,h.mo t e⟩
def bc:Nat->Nat->Nat
 | _,0=>1
 | 0,_+1=>0
 | n+1,k+1=>bc n k+bc n (k+1)
theorem J1 (n:Nat):bc n 0=1:=by cases n <;> rfl
theorem Ab3:∀{n k:Nat},n<k->Hv n k=0
 | n,0,h=>absurd h ω
 | n,k+1,h=>by
  rw[Hv];by_cases e:n<k
  .rw[Ab3 e,Nat.zero_mul]
  .rw[show n-k=0 by omega,Nat.mul_zero]
theorem Avf (n:Nat):∀k,Hv (n+1) (k+1)=(n+1)*Hv n k
 | 0=>by simp[Hv]
 | k+1=>by rw[Hv,Avf n k,Hv,show n+1-(k+1)=n-k by omega,Nat.mul_assoc]
theorem Xx:∀n k,Hv n k=fct k*bc n k
 | n,0=>by rw[J1];rfl
 | 0,k+1=>by rw[Ab3 ω];simp[bc]
 | n+1,k+1=>by
  have h:=Xx n (k+1);have i:=Xx n k;rw[Avf,bc,Nat.mul_add,<-h,fct,Hv,Nat.mul_right_comm,<-i];by_cases e:k<=n
  .rw[<-Nat.mul_add,Nat.mul_comm,show k+1+(n-k)=n+1 by omega]
  .rw[Ab3 ω];simp
theorem Ab4:∀n k,bc n k<=2 ^ n
 | n,0=>by rw[J1];exact Nat.one_le_two_pow
 | 0,k+1=>by simp[bc]
 | n+1,k+1=>by have e:=Ab4 n (k+1);have h:=Ab4 n k;rw[bc,Nat.pow_succ];omega
def cR (n:Nat):Aq:=C6 false n 1
theorem Sq (n:Nat):sv (cR n)=false/\nv (cR n)=n/\dv (cR n)=1:=by
 obtain⟨g,f,c,b⟩:=At1 false n 1 δ;refine⟨?_,?_,?_⟩
 .by_cases h:n=0
  .exact b h
  .exact c h
 .unfold cR;rw[g];simp
 .unfold cR;rw[f];simp
theorem Od (h:Ck n<=k) (e:1<=k):RB k (cR n):=Oc _ _ _ _ h (by rw[Sl];exact e) e
theorem A8b {a b:Nat} (e:Ck a<=K) (hb:Ck b<=K) (c:1<=K) (h:K<60000000000):Ja (cR a) (cR b)=some (cR (a+b)):=by obtain⟨i,o,s⟩:=Sq a;obtain⟨A,B,f⟩:=Sq b;rw[Agn _ _ K K (Od e c) (Od hb c) ω ω,i,o,s,A,B,f];simp[Pk,Mm,cR]
theorem A8c {a:Nat} (e:Ck a<=K) (b:1<=K) (h:K<60000000000):Is (cR a)=some (if a=0 then 0 else 1):=by obtain⟨i,o,s⟩:=Sq a;rw[Agl _ K (Od e b) ω,i,o];simp[La]
theorem Ag7:Ej 0=some (cR 0):=Abr 0 δ δ
theorem L3:Ej 1=some (cR 1):=Abr 1 δ δ
theorem Avg (n k:Nat) (b:n<1000000000) (h:k<=64):Zy (n:Int) (k:Int)=some (cR (bc n k),true):=by
 unfold Zy;have e:(if (n:Int)>0 then (n:Int) else 0)=(n:Int):=by split <;> omega
 simp only[A3 (ω:¬(k:Int)<0),Ap,A3 (ω:¬(k:Int)>64),Ad,e,At5 n k b h];rw[Xx,show C6 false (fct k*bc n k) (fct k)=C6 false (fct k*bc n k) (fct k*1) by rw[Nat.mul_one],Xq _ _ _ _ (Xr k)];rfl
theorem Avh (n k:Nat) (b:n<1000000000) (e:k<=64):Xb (n:Int) (k:Int)=some (cR (bc n k),true):=Avg n k b e
theorem Amj:∀(l:List Af) (r:List Bool) (s:Nat) (n:Nat) (p:Int) (L:Nat->Option Af),l.length=r.length->(∀j,L (s+j)=l[j]?) -> (((r.zipIdx s).filter λq=>!q.1).map λq=>(q.2:Int))[n]? = some p->∃(m:Nat) (a:Af),p=m/\L m=some a/\(F6 l r)[n]? = some a
 | [],[],s,n,p,L,_,_,h=>by simp at h
 | a::l,b::r,s,n,p,L,i,g,h=>by
  have c:l.length=r.length:=(by simpa using i);have f:∀j,L (s+1+j)=l[j]?:=λj=>by rw[show s+1+j=s+(j+1) by omega,g];rfl
  cases b with
  | true=>simp only[zipIdx_cons,filter_cons,bnt]at h;obtain⟨m,x,e,o,A⟩:=Amj l r (s+1) n p L c f (by simpa using h);exact⟨m,x,e,o,by simpa[F6] using A⟩
  | false=>simp only[zipIdx_cons,filter_cons,Bool.not_false,if_true,map_cons]at h;cases n with| zero=>simp only[getElem?_cons_zero,Option.some.injEq]at h;exact⟨s,a,h.symm,by have:=g 0;simpa using this,by simp[F6]⟩| succ n=>simp only[getElem?_cons_succ]at h;obtain⟨m,x,e,o,A⟩:=Amj l r (s+1) n p L c f h;exact⟨m,x,e,o,by simpa[F6] using A⟩
 | [],_::_,_,_,_,_,h,_,_=>by simp at h
 | _::_,[],_,_,_,_,h,_,_=>by simp at h
theorem A8d {l:List Af} {r:List Bool} (b:l.length=r.length) {p:Int} (h:(I1 r)[n]? = some p):∃(m:Nat) (a:Af),p=m/\l[m]? = some a/\(F6 l r)[n]? = some a := Amj l r 0 n p (λj=>l[j]?) b (λj=>ψ) (by unfold I1 at h;exact h)
theorem A8e (l:List Af) (r:List Bool) (c:l.length=r.length):(I1 r).length=(F6 l r).length:=by
 unfold I1 F6;rw[C2,C2];have e:∀(l:List Af) (r:List Bool) (s:Nat),l.length=r.length->((r.zipIdx s).filter λq=>!q.1).length=((l.zip r).filter λp=>!p.2).length:=by
  intro l;induction l with
  | nil=>intro r s h;have:r = []:=F3.1 h.symm;subst this;rfl
  | cons a l ih=>intro r s h;cases r with| nil=>simp at h| cons b r=>have:=ih r (s+1) (by simpa using h);cases b <;> simp[this]
 exact e l r 0 c
theorem Avi {t:Af} (B:t.G=5):∀(n:Nat) (v:Ay),Co v<=n->G5 data v t=true->∀x∈Ip data t.U v,G5 data x t=true/\Co x<=Co v:=by
 intro n;induction n with
 | zero=>intro v h;have:=Xu v;omega
 | succ n ih=>
  intro v h q x e;have s:=L0 v;obtain⟨y,_,_,_,k,f⟩:=Agr B q;rw[Aug]at e;rcases Gc.1 e with rfl|e
  .exact⟨q,Nat.le_refl _⟩
  .have A:∀(l:List Ay) (r:List Bool),(∀(j:Nat) (w:Ay),l[j]? = some w->r[j]? = some true->G5 data w t=true)->Ed l<=n->x∈Iq data t.U l r->G5 data x t=true/\Co x<=Ed l:=by
    intro l;induction l with
    | nil=>intro r _ _ e;simp[Iq]at e
    | cons w l c=>
     intro r i u e;cases r with
     | nil=>simp[Iq]at e
     | cons b r=>
      have E:Ed (w::l)=Co w+Ed l:=(by simp[Ed]);have g:∀(j:Nat) (o:Ay),l[j]? = some o->r[j]? = some true->G5 data o t=true:=λj o C D=>i (j+1) o C D;cases b with
      | true=>
       simp only[Iq,Am,Ef]at e;rcases e with e|e
       .have:=ih w ω (i 0 w rfl rfl) x e;exact⟨this.1,ω⟩
       .have:=c r g ω e;exact⟨this.1,ω⟩
      | false=>simp only[Iq,Ap,nil_append]at e;have:=c r g ω e;exact⟨this.1,ω⟩
   have:=A v.K _ f ω e;exact⟨this.1,ω⟩
theorem Xy (data:List Ai):∀(is:List Ah) (ts:List Af) (d:Nat),Cx data is ts=some d->is.length=ts.length/\∀(j:Nat) (i:Ah) (t:Af),is[j]? = some i->ts[j]? = some t->∃e,Dj data i t=some e/\e<=d
 | [],[],d,_=>⟨rfl,λj i t h=>by simp at h⟩
 | i::is,t::ts,d,h=>by
  rw[Nb]at h;cases o:Dj data i t with
  | none=>rw[o]at h;cases h
  | some a=>
   rw[o,Ad]at h;cases s:Cx data is ts with
   | none=>rw[s]at h;cases h
   | some b=>rw[s]at h;have h:a+b=d:=Fh h;obtain⟨C,D⟩:=Xy data is ts b s;refine⟨by simp[C],λj i' t' A B=>?_⟩;cases j with| zero=>cases A;cases B;exact⟨a,o,ω⟩| succ j=>obtain⟨e,c,f⟩:=D j i' t' A B;exact⟨e,c,ω⟩
 | [],_::_,_,h=>by simp only[Cx]at h;cases h
 | _::_,[],_,h=>by simp only[Cx]at h;cases h
def Mq (data:List Ai) (t:Af) (e:Ah):Aa1:=⟨e.U,e.K,I1 (Ea data t.U e.U),match Jg data t e.U with|some l=>F6 l (Ea data t.U e.U) | none=>[]⟩
def Jl (n:Nat) (f:Nat->Nat):List Aq:=(range (n+1)).map λq=>cR (f q)
theorem Vc (n:Nat) (f:Nat->Nat):(Jl n f).length=n+1:=by simp[Jl]
theorem Sr (f:Nat->Nat) (h:q<=n):(Jl n f)[q]? = some (cR (f q)):=by unfold Jl;rw[getElem?_map,getElem?_range ω];rfl
theorem Avj {x:Nat} {f:Nat->Nat} (h:q<=n) (s:g q=x) (A:∀p,p<=n->p≠q->g p=f p):Cr (Jl n f) (q:Int) (cR x)=Jl n g:=by
 rw[Ht (n:=q) rfl];apply ext_getElem?;intro i;rw[getElem?_set];rcases Cf i (n+1) with o|o
 .rw[Sr f ω,Sr g ω,Vc];by_cases e:q=i
  .subst e;rw[As rfl,As ω,s]
  .rw[Ao e,A i ω (Ne.symm e)]
 .rw[Ll (by rw[Vc];exact o),Ll (by rw[Vc];exact o)];split
  .rw[Ao (by rw[Vc];omega)]
  .rfl
theorem Amk {f:Nat->Nat} (h:∀p,p<=n->f p=g p):Jl n f=Jl n g:=by
 apply ext_getElem?;intro i;rcases Cf i (n+1) with e|e
 .rw[Sr f ω,Sr g ω,h i ω]
 .rw[Ll (by rw[Vc];exact e),Ll (by rw[Vc];exact e)]
theorem A8f (fl:List Af) (Q:List Bool) (x:Q.length=fl.length) (y:fl.length<=6) {J:Int×List Int×List Af->Option R} (u:J ((Q.length:Int),I1 Q,F6 fl Q)=some r) : (Ak (S:=(Int×List Int×List Af)) (E:=(Int×List Int×List Af)) (λ(e,f,c)=> bif e<(Q.length:Int) then ((Ag Q e).bind λh=> bif (!h) then ((B8 8 f [e]).bind λk=> (Ag fl e).bind λg=> (B8 40 c [g]).bind λi=> some (.inl ((Ac (e+1)),k,i))) else some (.inl ((Ac (e+1)),f,c))) else some (.inr (e,f,c))) (0,[],[])).bind J=some r:=by
 have q:∀j,(I1 (Q.take j)).length<=Q.length:=λj=>by unfold I1;rw[C2];refine Nat.le_trans (length_filter_le _ _) ?_;simp;omega
 refine F5 Q (λj=>((j:Int),I1 (Q.take j),F6 (fl.take j) (Q.take j))) (by simp[I1,F6]) ω ?_ ?_
 .intro j b F B o C D;have A:fl[j]? = some fl[j]:=Bp ω;generalize fl[j]=a at A;have s:=Xj (fl.take j) (Q.take j);have:(fl.take j).length<=6:=ζ;have hp:=q j;have l:I1 (Q.take (j+1))=I1 (Q.take j)++bif b then [] else [(j:Int)]:=by unfold I1;rw[A5h B,filter_append,map_append];cases b <;> rfl
  simp only[o,C,D,Am,Ad,l,Af1 A B];cases b with| true=>simp| false=>simp only[Bool.not_false,Am,Ap];rw[Dy ζ,Ad,Bn rfl A,Ad,Dy ζ];rfl
 .intro o;exact⟨_,by simp only[o];rfl,by rw[C1,Ik ω];exact u⟩
theorem A8g (n:Nat) (k:n<=100) {J:List Aq->Option R} (h:J (replicate n (cR 0))=some r) : (Ak (S:=(Int×List Aq)) (E:=(List Aq)) (λ(b,c)=> bif b<(((replicate n (Aq.mk false [] [])).length:Nat):Int) then ((Ej 0).bind λf=> (Ag c b).bind λg=> some (.inl ((Ac (b+1)),(Cr c b f)))) else some (.inr c)) (0,replicate n (Aq.mk false [] []))).bind J=some r:=by
 refine F5 (replicate n (Aq.mk false [] [])) (λj=>((j:Int),replicate j (cR 0)++replicate (n-j) (Aq.mk false [] []))) ψ ζ ?_ ?_
 .intro j x o B e C s;have A:j<n:=(by simpa using o);have i:replicate (n-j) (Aq.mk false [] [])=Aq.mk false [] []::replicate (n-(j+1)) (Aq.mk false [] []):=(by rw[show n-j=(n-(j+1))+1 by omega];rfl);simp only[e,s,Am,Ag7,Ad,i];rw[Abg (replicate j (cR 0)) _ _ _ j rfl ψ,Ad,Abf _ _ _ _ _ j rfl ψ];rw[replicate_succ'];simp
 .intro e;exact⟨replicate n (cR 0),by simp only[e];simp,h⟩
end Go.Ab
