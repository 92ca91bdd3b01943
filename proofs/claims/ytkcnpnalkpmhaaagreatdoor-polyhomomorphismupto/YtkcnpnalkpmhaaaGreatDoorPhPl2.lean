/- Plain laws: what the plain functions answer. -/
import Derived.Test.YtkcnpnalkpmhaaaGreatDoorPhPl1
import Derived.KernelRfl
open List
namespace Go.Ab
open Go
theorem Alk (a:Ao) (k:Nat) (h:RB k a) (hk:k<274877906900):Ko a=some (Cb (sv a) (nv a) (dv a)):=by unfold Ko;have h1:=h.nv;have h2:=h.dv;rw[Ta a k h hk,Ad,P6 _ _ _ ω ω];rfl
def K7 (s:Bool) (n:Nat):Int:=if n=0 then 0 else if s then -1 else 1
theorem A5w (s:Bool) (n:Nat) (d:List Int):Zx ⟨s,Ah n,d⟩=some (K7 s n):=by
 unfold Zx K7;dsimp only;by_cases h:n=0
 .subst h;rw[Hn];rfl
 .have b:(Ah n).length≠0:=λe=>Ka h (Fu.1 e);rw[C7 ω,Aq,Ar h];cases s <;> rfl
theorem Agg (a:Ao) (k:Nat) (h:RB k a) (hk:k<274877906900):Ik a=some (K7 (sv a) (nv a)):=by unfold Ik;rw[Ta a k h hk,Ad,A5w];rfl
theorem All (z:Int) (h1 : -9223372036854775808<=z) (h2:z<=9223372036854775807):Ue z=some (Ah z.natAbs):=by
 unfold Ue;by_cases h:z<0
 .have e:Ba z=z+18446744073709551616:=(by have:IntKind.u64.wrap z=z % 18446744073709551616:=(by simp[IntKind.wrap,IntKind.bits,IntKind.signed]);rw[Ba,this];omega);have b:Ba (0-(z+18446744073709551616))=((z.natAbs:Nat):Int):=(by have:IntKind.u64.wrap (0-(z+18446744073709551616))=(0-(z+18446744073709551616)) % 18446744073709551616:=(by simp[IntKind.wrap,IntKind.bits,IntKind.signed]);rw[Ba,this];omega);rw[As h,Am,e,b,X3 _ ω];rfl
 .have b:Ba z=((z.natAbs:Nat):Int):=(by rw[Ba,Du ω ω];omega);rw[Ay h,Aq,b,X3 _ ω];rfl
theorem Abp (z:Int) (h1 : -9223372036854775808<=z) (h2:z<=9223372036854775807):D0 z=some (Cb (decide (z<0)) z.natAbs 1):=by unfold D0;have:=Rb (n:=z.natAbs) ω;rw[All z h1 h2,Ad,<-Abo,P6 _ _ _ ω (by rw[S9];decide)];rfl
theorem Att (x y:Int) (h1 : -9223372036854775808<=x) (h2:x<=9223372036854775807) (h3 : -9223372036854775808<=y) (b:y<=9223372036854775807) (hy:y≠0):Qq x y=some (Cb (decide (x<0) != decide (y<0)) x.natAbs y.natAbs):=by unfold Qq;have a1:=Rb (n:=x.natAbs) ω;have a2:=Rb (n:=y.natAbs) ω;rw[C7 hy,Aq,All x h1 h2,Ad,All y h3 b,Ad,P6 _ _ _ ω ω];rfl
theorem X4 (a b:Ao) (j k:Nat) (ha:RB j a) (hb:RB k b) (hj:j<68719476736) (hk:k<68719476736):Ec a b=some (Cb (sv a != sv b) (nv a*nv b) (dv a*dv b)):=by unfold Ec;have h1:=ha.nv;have h2:=ha.dv;have h3:=hb.nv;have g:=hb.dv;have f:=Hx (nv a) (nv b);have c:=Hx (dv a) (dv b);rw[Ta a j ha ω,Ad,Ta b k hb ω,Ad];dsimp only;rw[S7 _ _ ω ω,Ad,S7 _ _ ω ω,Ad,P6 _ _ _ ω ω];rfl
def Lv (b:Bool) (g i:Nat) (c:Bool) (f h:Nat):Bool:=if b=c then b else if f*i<=g*h then b else c
def Kd (i:Bool) (c g:Nat) (h:Bool) (b f:Nat):Nat:=if i=h then c*f+b*g else if b*g<=c*f then c*f-b*g else b*g-c*f
theorem Agh (a b:Ao) (j k:Nat) (ha:RB j a) (hb:RB k b) (hj:j<68719476736) (hk:k<68719476736) : Iy a b=some (Cb (Lv (sv a) (nv a) (dv a) (sv b) (nv b) (dv b)) (Kd (sv a) (nv a) (dv a) (sv b) (nv b) (dv b)) (dv a*dv b)):=by
 unfold Iy Wu;have h1:=ha.nv;have h2:=ha.dv;have h3:=hb.nv;have s:=hb.dv;have q:=Hx (nv a) (dv b);have l:=Hx (nv b) (dv a);have i:=Hx (dv a) (dv b);have h:=Aa7 (nv a*dv b) (nv b*dv a);have g:=I4 (Nat.sub_le (nv a*dv b) (nv b*dv a));have f:=I4 (Nat.sub_le (nv b*dv a) (nv a*dv b));rw[Ta a j ha ω,Ad,Ta b k hb ω,Ad];dsimp only;rw[S7 _ _ ω ω,Ad,S7 _ _ ω ω,Ad,S7 _ _ ω ω,Ad];by_cases c:sv a=sv b
 .have e:(sv a==sv b)=true:=(by rw[c];exact beq_self_eq_true _);rw[e,Am,Atn _ _ ω ω,Ad,Ad,P6 _ _ _ ω ω,Lv,Kd,Au c,Au c];rfl
 .have e:(sv a==sv b)=false:=(by simpa using c);rw[e,Aq,Vj _ _ ω ω,Ad,Lv,Kd,Ar c,Ar c];by_cases hc:nv b*dv a<=nv a*dv b
  .rw[As (show F8 (nv a*dv b) (nv b*dv a)>=0 by rw[F8,Ar ω];split <;> decide),Am,Agc _ _ ω hc,Ad,Ad,P6 _ _ _ ω ω,Au hc,Au hc];rfl
  .rw[Ay (show ¬F8 (nv a*dv b) (nv b*dv a)>=0 by rw[F8,Au ω];decide),Aq,Agc _ _ ω ω,Ad,Ad,P6 _ _ _ ω ω,Ar hc,Ar hc];rfl
theorem Abq (s:Bool) (d:Nat):Cb s 0 d=⟨false,[],[1]⟩:=by simp[Cb]
theorem N5 (s:Bool) (n d k:Nat) (b:Bp n<=k) (hd:Bp d<=k) (hk:1<=k):RB k (Cb s n d):=by
 unfold Cb;split
 .refine⟨nofun,(λx h=>?_),ψ,by simpa using hk⟩;simp at h;subst h;decide
 .have h1:=Akt n (Nat.gcd n d);have h2:=Akt d (Nat.gcd n d);unfold Bp at *;exact⟨(F2 _).u32,(F2 _).u32,by simp only;omega,by simp only;omega⟩
theorem Agi (s:Bool) (n d:Nat) (hd:d≠0):nv (Cb s n d)=n / Nat.gcd n d/\dv (Cb s n d)=d / Nat.gcd n d/\(n≠0->sv (Cb s n d)=s)/\(n=0->sv (Cb s n d)=false):=by
 by_cases h0:n=0
 .subst h0;rw[Abq];have c:d / Nat.gcd 0 d=1:=(by rw[Nat.gcd_zero_left];exact Nat.div_self ω);refine⟨by simp[nv,Al],?_,λh=>(h rfl).elim,λ_=>by simp[sv,Al]⟩;rw[c];simp[dv,Al]
 .have hg:0<Nat.gcd n d:=Nat.gcd_pos_of_pos_left d ω;have h1:n / Nat.gcd n d≠0:=(by have:=Nat.div_pos (Nat.gcd_le_left d (ω:0<n)) hg;omega);have h2:d / Nat.gcd n d≠0:=(by have:=Nat.div_pos (Nat.gcd_le_right n (ω:0<d)) hg;omega);have e:Cb s n d=⟨s,Ah (n / Nat.gcd n d),Ah (d / Nat.gcd n d)⟩:=(by simp[Cb,h0]);have b:(Al (Ah (n / Nat.gcd n d))).toNat=n / Nat.gcd n d:=(by rw[Gi];rfl);have v2:(Al (Ah (d / Nat.gcd n d))).toNat=d / Nat.gcd n d:=(by rw[Gi];rfl);rw[e];have hc:¬(n / Nat.gcd n d=0\/d / Nat.gcd n d=0):=ω;refine⟨?_,?_,λ_=>?_,λh=>(h0 h).elim⟩
  .simp only[nv,b,v2,Ar hc]
  .simp only[dv,b,v2,Ar hc]
  .simp only[sv,b,v2,Ar hc]
theorem Tb (s:Bool) (n d k:Nat) (hk:k≠0):Cb s (k*n) (k*d)=Cb s n d:=by
 unfold Cb;by_cases h:n=0
 .subst h;simp
 .have h1:k*n≠0:=Nat.mul_ne_zero hk h;rw[Ar h1,Ar h,Nat.gcd_mul_left,Nat.mul_div_mul_left _ _ ω,Nat.mul_div_mul_left _ _ ω]
theorem Atu {s t:Bool} {n d:Nat} (h:n≠0->s=t):Cb s n d=Cb t n d:=by
 unfold Cb;by_cases h0:n=0
 .simp[h0]
 .rw[h h0]
theorem Atv (l:List Int):L5 l=(L6 l).bind λv=>Cg 4 [] v:=by
 unfold L5 L6;generalize An _ _=x;cases x with
 | none=>rfl
 | some v=>simp only[Ad];cases E2 l 0 v with| none=>rfl| some y=>simp only[Ad];cases Cg 4 [] y <;> rfl
theorem A5x (l:List Int):(Iz l).length<=l.length:=by
 induction l with
 | nil=>simp[Iz]
 | cons d l ih=>simp only[Iz];cases ht:Iz l with| nil=>simp only[];split <;> simp| cons x m=>rw[ht]at ih;simpa using ih
theorem Vk (l:List Int) (b:l.length<2199023255552):L5 l=some (Iz l):=by have:=A5x l;rw[Atv,S6 l ω,Ad,Ds ζ];rfl
theorem Atw (l:List Int) (hd:Ny l) (A:l.length<1099511627776):W2 l=some (Ah (Al l).toNat):=by
 unfold W2;refine J9 (λ(c,i,o)=>∃k:Nat,i=k/\k<=l.length/\o.length=k/\Ci o/\0<=c/\c<5/\Al o+1000000000 ^ k*c=Al (l.take k)) (λ(_,i,_)=>l.length-i.toNat) (λ(c,o)=>o.length=l.length/\Ci o/\0<=c/\c<5/\Al o+1000000000 ^ l.length*c=Al l) ⟨0,rfl,ω,rfl,Ci.nil,ω,ω,by simp[Al]⟩ ?_ ?_
 .rintro⟨c,i,o⟩ ⟨k,rfl,hk,f,b,j,hc,hv⟩;rcases Ch k l.length with h|h
  .have hx:=hd l[k] (getElem_mem h);refine .inl ⟨((c+l[k]) / 1000000000,((k+1:Nat):Int),o++[(c+l[k]) % 1000000000]),?_,⟨k+1,rfl,ω,by simp[f],b.snoc ω ω,ω,ω,?_⟩,ζ⟩
   .have y:Ba l[k]=l[k]:=Du ω ω;have x:Ba (c+l[k])=c+l[k]:=Du ω ω;have q:Cx ((c+l[k]) % 1000000000)=(c+l[k]) % 1000000000:=G7 ω ω;have u:=Mz h ω;have s:decide ((k:Int)<(l.length:Int))=true:=(by simpa using h);simp only[s,Am,Ek rfl h,Ad,y,x,L9 (show 0<=c+l[k] by omega) (show (0:Int)<1000000000 by decide),q,Ds (show (o.length+[(c+l[k]) % 1000000000].length)*4<=_ by simp;omega),Mt (show 0<=c+l[k] by omega) (show c+l[k]<=_ by omega) (show (0:Int)<1000000000 by decide),u]
   .rw[G8 l h,<-hv,Ma,f,Int.pow_succ];have:=Int.mul_ediv_add_emod (c+l[k]) 1000000000;grind
  .have g:k=l.length:=ω;subst g;refine .inr ⟨(c,o),ψ,f,b,j,hc,by simpa using hv⟩
 .rintro⟨c,o⟩ ⟨h2,h3,E,D,B⟩;have z:=Il hd;by_cases hc:c>0
  .have q:Cx c=c:=G7 ω ω;simp only[decide_eq_true hc,Am,q,Ds (show (o.length+[c].length)*4<=_ by simp;omega),Ad,Vk (o++[c]) ζ];rw[Mu (h3.snoc ω ω) (n:=(Al l).toNat) (by rw[Ma,h2];omega)]
  .have:c=0:=ω;subst this;simp only[Int.lt_irrefl,gt_iff_lt,decide_false,Aq,Vk o ω,Ad];rw[Mu h3 (n:=(Al l).toNat) ω]
theorem Atx (n:Int):Qu n=Qv n:=rfl
theorem Agj (a b:List Int):Sa a b=Ul a b:=rfl
theorem A5y (m d:Nat) (c:Bp m<1099511627776) (hd:0<d) (b:d<4294967296):Z6 (Ah m) d=some (Ah (m / d),((m % d:Nat):Int)):=by
 have h:=Alg m d c hd b;unfold U1 at h;unfold Z6;unfold Bp at c;rw[K2 rfl rfl (Nat.le_refl _) ω ω]at h ⊢;simp only[Ad]at h ⊢;revert h;generalize An _ _=x;cases x with
 | none=>intro h;cases h
 | some v=>obtain⟨r,o⟩:=v;simp only[Ad];intro h;rw[Atv];cases ht:L6 o with| none=>rw[ht]at h;cases h| some y=>rw[ht]at h;simp only[Ad]at h ⊢;have hy:y=Ah (m / d):=congrArg Prod.fst (Eo h);have:=Akt m d;unfold Bp at this;rw[Ds (by rw[hy];simp;omega)];exact h
theorem Agk (m n:Nat) (V:Bp m<1099511627776) (E:n<=m):Sb (Ah m) (Ah n)=some (Ah (m-n)):=by
 unfold Sb;have I:(Ah n).length<=(Ah m).length:=I4 E;unfold Bp at V;rw[K2 rfl rfl (Nat.le_refl _) ω ω];simp only[Ad];have ha:=F2 m;have hb:=F2 n;refine J9 (λ(c,i,o)=>∃k:Nat,i=k/\k<=(Ah m).length/\o.length=(Ah m).length/\Ci o/\o.drop k=replicate ((Ah m).length-k) 0/\0<=c/\c<=1/\Al o=Al ((Ah m).take k)-Al ((Ah n).take k)+1000000000 ^ k*c) (λ(_,i,_)=>(Ah m).length-i.toNat) (λo=>∃c:Int,o.length=(Ah m).length/\Ci o/\0<=c/\c<=1/\Al o=(m:Int)-n+1000000000 ^ (Ah m).length*c) ⟨0,rfl,ω,ψ,Ci.replicate _,ψ,ω,ω,by simp[Al,Afk]⟩ ?_ ?_
 .rintro⟨c,i,o⟩ ⟨k,rfl,hk,D,u,y,L,hc,hv⟩;rcases Ch k (Ah m).length with h|h
  .have hx:=ha.get h;have f:k<o.length:=ω;have R:=Mz h ω;have N:decide ((k:Int)<((Ah m).length:Int))=true:=As ω;have b:o[k]=0:=(by have:=congrArg head? y;rw[head?_drop,Bt f]at this;have x:(replicate ((Ah m).length-k) (0:Int)).head? = some 0:=(by cases hh:(Ah m).length-k with| zero=>omega| succ t=>rfl);rw[x]at this;exact Eo this);have key:∀s:Int,0<=s->s<=1000000000->Al ((Ah m).take (k+1))-Al ((Ah n).take (k+1))=Al ((Ah m).take k)-Al ((Ah n).take k)+1000000000 ^ k*((Ah m)[k]-s+c) ->
     ∃(l d:Int),(bif (Ah m)[k]>=s then (some (Sum.inl (0,((k+1:Nat):Int),(C2 o (k:Int) (Cx ((Ah m)[k]-s)))))) else (some (Sum.inl (1,((k+1:Nat):Int),(C2 o (k:Int) (Cx ((Cx ((Ah m)[k]+1000000000))-s)))))):Option ((Int×Int×List Int)⊕List Int))=some (.inl (l,((k+1:Nat):Int),o.set k d)) /\ (∃q:Nat,((k+1:Nat):Int)=q/\q<=(Ah m).length/\(o.set k d).length=(Ah m).length/\Ci (o.set k d)/\(o.set k d).drop q=replicate ((Ah m).length-q) 0/\0<=l/\l<=1/\Al (o.set k d)=Al ((Ah m).take q)-Al ((Ah n).take q)+1000000000 ^ q*l):=by
    intro s h1 h2 g;have j:∀d:Int,(o.set k d).drop (k+1)=replicate ((Ah m).length-(k+1)) 0:=(by intro d;rw[drop_set_of_lt ω,<-drop_drop,y,drop_replicate];congr 1);by_cases M:(Ah m)[k]>=s
    .have z:Cx ((Ah m)[k]-s)=(Ah m)[k]-s:=G7 ω ω;refine⟨0,(Ah m)[k]-s,by rw[As M,Am,z,He rfl],k+1,rfl,ω,by simpa using D,u.set _ ω ω,j _,ω,ω,?_⟩;rw[Nz _ f,b,g,hv];grind
    .have z:Cx ((Ah m)[k]+1000000000)=(Ah m)[k]+1000000000:=G7 ω ω;have U:Cx ((Ah m)[k]+1000000000-s)=(Ah m)[k]+1000000000-s:=G7 ω ω;refine⟨1,(Ah m)[k]+1000000000-s,by rw[Ay M,Aq,z,U,He rfl],k+1,rfl,ω,by simpa using D,u.set _ ω ω,j _,ω,ω,?_⟩;rw[Nz _ f,b,g,hv,Int.pow_succ];grind
   refine .inl ?_;rcases Ch k (Ah n).length with hb'|hb'
   .have hy:=hb.get hb';have S:Cx (c+(Ah n)[k])=c+(Ah n)[k]:=G7 ω ω;obtain⟨l,d,B,A⟩:=key (c+(Ah n)[k]) ω ω (by rw[G8 _ h,G8 _ hb'];grind);refine⟨(l,((k+1:Nat):Int),o.set k d),?_,A,ζ⟩;rw[<-B];simp only[N,Am,Ek rfl h,Ek rfl f,Ad,As (ω:(k:Int)<((Ah n).length:Int)),Ek rfl hb',S,R]
   .obtain⟨l,d,B,A⟩:=key c ω ω (by rw[G8 _ h,Lu (Ah n) hb',Lu (Ah n) ω];grind);refine⟨(l,((k+1:Nat):Int),o.set k d),?_,A,ζ⟩;rw[<-B];simp only[N,Am,Ek rfl h,Ek rfl f,Ad,Ay (ω:¬(k:Int)<((Ah n).length:Int)),Aq,R]
  .have J:k=(Ah m).length:=ω;subst J;refine .inr ⟨o,ψ,c,D,u,L,hc,?_⟩;rw[Db,Lu _ I,Gi,Gi]at hv;exact hv
 .rintro o ⟨c,h2,h3,Z,Y,X⟩;have G:=Lq h3;rw[h2]at G;have hp:=Mb (Ah m).length;have:c=0:=by
   rcases Int.lt_or_le 0 c with hc|hc
   .have:c=1:=ω;subst this;omega
   .omega
  subst this;rw[Vk o ω,Ad,Mu h3 (n:=m-n) ω]
theorem A5z {o:List Int} {k n:Nat} (hk:k<o.length) (h:o.drop k=replicate n 0):o[k]=0:=by have:=congrArg head? h;rw[head?_drop,Bt hk]at this;cases n with| zero=>simp at this| succ t=>exact Eo this
theorem cl1 {o X K c s x y A w:Int} (f:c+x+w=s) (hw:w=y*A) (b:1000000000*(s / 1000000000)+s % 1000000000=s) (z V:Int) (h:o+X*K*c=z+X*(y*V)):o+X*K*(s % 1000000000-x)+X*K*1000000000*(s / 1000000000)=z+X*(y*(V+K*A)):=by grind
set_option maxHeartbeats 1000000 in
theorem X5 (m n:Nat) (hm:Bp m<274877906944) (hn:Bp n<274877906944):Nm (Ah m) (Ah n)=some (Ah (m*n)):=by
  unfold Nm;unfold Bp at hm hn;have hw:Ac (((Ah m).length:Int)+((Ah n).length:Int))=(((Ah m).length+(Ah n).length:Nat):Int):=ξ;have M:Ac ((((Ah m).length+(Ah n).length:Nat):Int)+1)=(((Ah m).length+(Ah n).length+1:Nat):Int):=ξ;rw[hw,M,K2 rfl rfl (Nat.le_refl _) ω ω];simp only[Ad];have ha:=F2 m;have hb:=F2 n;have D:Al (Ah n)=n:=Gi n;generalize Ah n=b at *;generalize hL:b.length=L at *;refine J9 (λ(i,o)=>∃k:Nat,i=k/\k<=(Ah m).length/\o.length=(Ah m).length+L+1/\Ci o/\o.drop (k+L)=replicate ((Ah m).length+1-k) 0/\Al o=Al ((Ah m).take k)*n) (λ(i,_)=>(Ah m).length-i.toNat) (λo=>o.length=(Ah m).length+L+1/\Ci o/\Al o=((m*n:Nat):Int)) ⟨0,rfl,ω,ψ,Ci.replicate _,by rw[drop_replicate];congr 1;omega,by simp[Afk,Al]⟩ ?_ ?_
  . rintro⟨i,o⟩ ⟨k,rfl,hk,ho,G,S,hv⟩;rcases Ch k (Ah m).length with h|h
    . have hx:=ha.get h;have e4:=Mz h ω;have e5:decide ((k:Int)<((Ah m).length:Int))=true:=As ω;simp only[e5,Am];have V:Ag (Ah m) (k:Int)=some (Ah m)[k]:=Ek rfl h;generalize J:(Ah m)[k]=x at *;refine .inl (Xr (Ee (λ(c,j,o')=>∃q:Nat,j=q/\o'.length=(Ah m).length+L+1/\Ci o'/\0<=c/\c<1000000000 /\ ((q<=L/\o'.drop (k+L)=replicate ((Ah m).length+1-k) 0/\Al o' + 1000000000 ^ (k+q)*c=Al o+1000000000 ^ k*(x*Al (b.take q))) \/ (q=L+1/\c=0/\o'.drop (k+1+L)=replicate ((Ah m).length+1-(k+1)) 0/\Al o'=Al o+1000000000 ^ k*(x*n)))) (λ(_,j,_)=>L+1-j.toNat) (λ(c,j,o')=>o'.length=(Ah m).length+L+1/\Ci o'/\o'.drop (k+1+L)=replicate ((Ah m).length+1-(k+1)) 0/\Al o'=Al o+1000000000 ^ k*(x*n)) ⟨0,rfl,ho,G,ω,ω,.inl ⟨ω,S,by simp[Al]⟩⟩ ?_ ?_))
      . rintro⟨c,j,o'⟩ ⟨q,rfl,u,g,A,hc,hq⟩;rcases hq with⟨hq,f,l⟩|⟨rfl,rfl,f,l⟩
        . have e8:Ac ((k:Int)+(q:Int))=((k+q:Nat):Int):=ξ;have e6:Ac ((q:Int)+1)=((q+1:Nat):Int):=Mz (Nat.lt_succ_self q) ω;have y:k+q<o'.length:=ω;have a1:=g.get y;have w4:Ba o'[k+q]=o'[k+q]:=Du ω ω;have w5:Ba (c+o'[k+q])=c+o'[k+q]:=Du ω ω;have p1:(1000000000:Int) ^ (k+(q+1))=1000000000 ^ (k+q)*1000000000:=(by rw[<-Nat.add_assoc,Int.pow_succ]);have Y:(1000000000:Int) ^ (k+q)=1000000000 ^ k*1000000000 ^ q:=Int.pow_add ..;rcases Ch q L with hq'|hq'
          . have B:q<b.length:=ω;have hy:=hb.get B;have a6:=Agd hx.1 hx.2 hy.1 hy.2;have w1:Ba x=x:=Du ω ω;have w2:Ba b[q]=b[q]:=Du ω ω;have w3:Ba (x*b[q])=x*b[q]:=Du ω ω;have X:Ba (c+o'[k+q]+x*b[q])=c+o'[k+q]+x*b[q]:=Du ω ω;generalize Z:c+o'[k+q]+x*b[q]=s at X;have E:0<=s:=ω;have a7:s<1000000000000000000:=ω;have w7:Cx (s % 1000000000)=s % 1000000000:=G7 ω ω;refine .inl ⟨(s / 1000000000,((q+1:Nat):Int),o'.set (k+q) (s % 1000000000)),?_,⟨q+1,rfl,by simpa using u,g.set _ ω ω,ω,ω,.inl ⟨ω,?_,?_⟩⟩,ζ⟩
            . simp only[As (ω:(q:Int)<(L:Int)),Am,Ad,e8,Ek rfl y,V,Ek rfl B,w1,w2,w3,w4,w5,Z,X,L9 E (show (0:Int)<1000000000 by decide),Mt E (show s<=_ by omega) (show (0:Int)<1000000000 by decide),w7,e6,He rfl]
            . rw[drop_set_of_lt ω];exact f
            . rw[Nz _ y,G8 _ B,p1,Y];rw[Y]at l;exact cl1 Z rfl (Int.mul_ediv_add_emod s 1000000000) _ _ l
          . have N:q=L:=ω;subst N;by_cases U:c>0
            . have z:o'[k+q]=0:=A5z y f;refine .inl ⟨(0,((q+1:Nat):Int),o'.set (k+q) c),?_,⟨q+1,rfl,by simpa using u,g.set _ ω ω,ω,ω,.inr ⟨rfl,rfl,?_,?_⟩⟩,ψ⟩
              . have w8:Cx c=c:=G7 ω ω;have w9:Ba c=c:=Du ω ω;simp only[Ay (ω:¬(q:Int)<(q:Int)),Aq,As U,Am,Ad,e8,Ek rfl y,z,show Ba (0:Int)=0 from rfl,Int.add_zero,w9,L9 A (show (0:Int)<1000000000 by decide),Mt A (show c<=_ by omega) (show (0:Int)<1000000000 by decide),Int.emod_eq_of_lt A hc,Int.ediv_eq_zero_of_lt A hc,w8,e6,He rfl]
              . rw[drop_set_of_lt ω,show k+1+q=(k+q)+1 by omega,<-drop_drop,f,drop_replicate];congr 1
              . rw[Nz _ y,z,Int.sub_zero];rw[Ih ω,D]at l;omega
            . have I:c=0:=ω;subst I;refine .inr ⟨(0,(q:Int),o'),?_,u,g,?_,?_⟩
              . simp only[Ay (ω:¬(q:Int)<(q:Int)),Aq,Ad,show decide ((0:Int)>0)=false from rfl]
              . rw[show k+1+q=(k+q)+1 by omega,<-drop_drop,f,drop_replicate];congr 1
              . rw[Ih ω,D]at l;omega
        . refine .inr ⟨(0,((L+1:Nat):Int),o'),?_,u,g,f,l⟩;simp only[Ay (ω:¬((L+1:Nat):Int)<(L:Int)),Aq,Ad,show decide ((0:Int)>0)=false from rfl]
      . rintro⟨c,j,o'⟩ ⟨u,g,f,l⟩;refine⟨_,by simp only[e4],(((k+1:Nat):Int),o'),rfl,⟨k+1,rfl,ω,u,g,f,?_⟩,ζ⟩;rw[l,G8 _ h,Int.add_mul,<-hv,J];grind
    . have R:k=(Ah m).length:=ω;subst R;refine .inr ⟨o,ψ,ho,G,?_⟩;rw[Db,Gi]at hv;rw[hv];simp
  . rintro o ⟨h2,h3,h4⟩;rw[Vk o ω,Ad,Mu h3 h4]
theorem A50 (m n:Nat) (U:Bp m<274877906944) (S:Bp n<274877906944):Zi (Ah m) (Ah n)=some (Ah (m+n)):=by
 unfold Zi;unfold Bp at U S;have ha:=F2 m;have hb:=F2 n;have G:Al (Ah m)=m:=Gi m;have E:Al (Ah n)=n:=Gi n;have J:=Agb (n:=m);have I:=Agb (n:=n);generalize Ah m=a at *;generalize Ah n=b at *;generalize hM:max a.length b.length=M;refine J9 (λ(c,i,o)=>∃k:Nat,i=k/\o.length=k/\Ci o/\0<=c/\c<=1/\((k<=M/\Al o+1000000000 ^ k*c=Al (a.take k)+Al (b.take k))\/(k=M+1/\c=0/\Al o=m+n/\1000000000 ^ M<=Al o))) (λ(_,i,_)=>M+1-i.toNat) (λo=>Ci o/\Al o=m+n/\(o≠[]->1000000000 ^ (o.length-1)<=Al o)) ⟨0,rfl,rfl,Ci.nil,ω,ω,.inl ⟨ω,by simp[Al]⟩⟩ ?_ ?_
 .rintro⟨c,i,o⟩ ⟨k,rfl,l,h,X,hc,hk⟩;rcases hk with⟨hk,hv⟩|⟨rfl,rfl,hv,hp⟩
  .have Z:Ac ((k:Int)+1)=((k+1:Nat):Int):=Mz (Nat.lt_succ_self k) ω;have step:∀s:Int,0<=s->s<2000000000 ->
     ((Hv .u32 s 1000000000).bind λB=>(Iq s 1000000000).bind λA=>(Cg 4 o [A]).bind λD=>some (Sum.inl (B,(Ac ((k:Int)+1)),D)))=some (Sum.inl (s / 1000000000,((k+1:Nat):Int),o++[s % 1000000000]):(Int×Int×List Int)⊕List Int):=by intro s h1 h2;rw[Akr h1 ω δ,Ad,L9 h1 δ,Ad,Ds ζ,Ad,Z]
   have g:∀s:Int,0<=s->s<2000000000->k<M->Al (a.take (k+1))+Al (b.take (k+1))=Al (a.take k)+Al (b.take k)+1000000000 ^ k*(s-c) ->
     (∃q:Nat,((k+1:Nat):Int)=q/\(o++[s % 1000000000]).length=q/\Ci (o++[s % 1000000000])/\0<=s / 1000000000/\s / 1000000000<=1/\((q<=M/\Al (o++[s % 1000000000])+1000000000 ^ q*(s / 1000000000)=Al (a.take q)+Al (b.take q))\/(q=M+1/\s / 1000000000=0/\Al (o++[s % 1000000000])=m+n/\1000000000 ^ M<=Al (o++[s % 1000000000])))):=by intro s h1 h2 x u;refine⟨k+1,rfl,by simp[l],h.snoc ω ω,ω,ω,.inl ⟨ω,?_⟩⟩;rw[u,<-hv,Ma,l,Int.pow_succ];have:=Int.mul_ediv_add_emod s 1000000000;grind
   by_cases j:k<a.length
   .have hx:=ha.get j;have R:Cx (c+a[k])=c+a[k]:=G7 ω ω;by_cases f:k<b.length
    .have hy:=hb.get f;have z:Cx (c+a[k]+b[k])=c+a[k]+b[k]:=G7 ω ω;refine .inl ⟨((c+a[k]+b[k]) / 1000000000,((k+1:Nat):Int),o++[(c+a[k]+b[k]) % 1000000000]),?_,g (c+a[k]+b[k]) ω ω ω (by rw[G8 a j,G8 b f];grind),ζ⟩;rw[<-step (c+a[k]+b[k]) ω ω];simp only[As (ω:(k:Int)<(a.length:Int)),As (ω:(k:Int)<(b.length:Int)),Am,Ad,Ek rfl j,Ek rfl f,R,z]
    .refine .inl ⟨((c+a[k]) / 1000000000,((k+1:Nat):Int),o++[(c+a[k]) % 1000000000]),?_,g (c+a[k]) ω ω ω (by rw[G8 a j,Lu b ω,Lu b ω];grind),ζ⟩;rw[<-step (c+a[k]) ω ω];simp only[As (ω:(k:Int)<(a.length:Int)),Ay (ω:¬(k:Int)<(b.length:Int)),Am,Aq,Ad,Ek rfl j,R]
   .by_cases f:k<b.length
    .have hy:=hb.get f;have z:Cx (c+b[k])=c+b[k]:=G7 ω ω;refine .inl ⟨((c+b[k]) / 1000000000,((k+1:Nat):Int),o++[(c+b[k]) % 1000000000]),?_,g (c+b[k]) ω ω ω (by rw[G8 b f,Lu a ω,Lu a ω];grind),ζ⟩;rw[<-step (c+b[k]) ω ω];simp only[Ay (ω:¬(k:Int)<(a.length:Int)),As (ω:(k:Int)<(b.length:Int)),Am,Aq,Ad,Ek rfl f,z]
    .have x:k=M:=ω;subst x;rw[Lu a ω,Lu b ω,G,E]at hv;by_cases Y:c>0
     .have N:c=1:=ω;subst N;refine .inl ⟨((1:Int) / 1000000000,((k+1:Nat):Int),o++[(1:Int) % 1000000000]),?_,⟨k+1,rfl,by simp[l],h.snoc δ δ,δ,δ,.inr ⟨rfl,rfl,?_,?_⟩⟩,ψ⟩
      .rw[<-step 1 ω ω];simp only[Ay (ω:¬(k:Int)<(a.length:Int)),Ay (ω:¬(k:Int)<(b.length:Int)),Aq,Ad,show decide ((1:Int)>0)=true from rfl,Am]
      .rw[Ma,l];exact hv
      .rw[Ma,l,show (1:Int) % 1000000000=1 from rfl];have:=Il h.u32;omega
     .have y:c=0:=ω;subst y;refine .inr ⟨o,?_,h,ω,λL=>?_⟩
      .simp only[Ay (ω:¬(k:Int)<(a.length:Int)),Ay (ω:¬(k:Int)<(b.length:Int)),Aq,Ad,show decide ((0:Int)>0)=false from rfl]
      .have V:k≠0:=(by intro e;rw[e]at l;exact L (Fu.1 l));rcases Nat.le_total a.length b.length with hab|hab
       .have:k=b.length:=ω;have h1:=I (by intro e;rw[e]at this;simp at this;omega);rw[l,this];omega
       .have:k=a.length:=ω;have h1:=J (by intro e;rw[e]at this;simp at this;omega);rw[l,this];omega
  .refine .inr ⟨o,?_,h,hv,λ_=>by rw[l];simpa using hp⟩;simp only[Ay (ω:¬((M+1:Nat):Int)<(a.length:Int)),Ay (ω:¬((M+1:Nat):Int)<(b.length:Int)),Aq,Ad,show decide ((0:Int)>0)=false from rfl]
 .rintro o ⟨h1,h2,h3⟩;congr 1;exact Afm (Alf h1 h3) (by rw[h2];simp)
end Go.Ab
namespace Go.Ab
open Go Ieee
variable {k n:Nat}
theorem A51 (n d:Nat):∃c,Toward.even.cut false n d=c/\(n / 2 ^ d<=c)/\c<=n / 2 ^ d+1/\(n % 2 ^ d=0->c=n / 2 ^ d):=by
 refine⟨_,rfl,?_⟩;unfold Toward.cut;simp only[Nat.shiftLeft_eq,Nat.one_mul];by_cases hd:d<=n.log2+2
 .rw[Nat.min_eq_left hd];generalize h2:2 ^ d=g;have hg:0<g:=(by rw[<-h2];exact Nat.pow_pos δ);refine⟨ω,?_,λh0=>?_⟩
  .have:=Bool.toNat_le (decide (g<2*(n % g))||(g==2*(n % g)&&n / g % 2==1))
   omega
  .rw[h0];have h1:decide (g<2*0)=false:=ψ;have h3:(g==2*0)=false:=ζ;rw[h1,h3];rfl
 .rw[Nat.min_eq_right ω];have b:n<2 ^ (n.log2+1):=Nat.lt_log2_self;have hg:2 ^ (n.log2+2)=2*2 ^ (n.log2+1):=(by rw[Nat.pow_succ];omega);have f:2 ^ (n.log2+2)<=2 ^ d:=Nat.pow_le_pow_right δ ω;have k:n / 2 ^ (n.log2+2)=0:=Nat.div_eq_of_lt ω;have j:n % 2 ^ (n.log2+2)=n:=Nat.mod_eq_of_lt ω;have i:n / 2 ^ d=0:=Nat.div_eq_of_lt ω;have h:n % 2 ^ d=n:=Nat.mod_eq_of_lt ω;rw[k,j,i,h];have h1:decide (2 ^ (n.log2+2)<2*n)=false:=ζ;have h3:(2 ^ (n.log2+2)==2*n)=false:=ζ;rw[h1,h3];exact⟨ψ,ψ,λ_=>rfl⟩
theorem X6 (f:Nat) (place e:Int) (l:f≠0) (A:place+f.log2=e) (h1 : -1000<=e) (h2:e<=900) : ∃(m:Nat) (p:Int),double.read (double.nearest false f place) = .number false m p/\4503599627370496<=m/\m<9007199254740992/\(p=e-52\/(p=e-51/\m=4503599627370496)):=by
 have g:max (place+f.log2-(double.fractionBits:Int)) double.leastPlace=e-52:=by have a:(double.fractionBits:Int)=52:=rfl;have b:double.leastPlace = -1074:=δ;rw[a,b,A];omega
 have hw:double.nearest false f place=min ((e-52+1074).toNat*4503599627370496+Toward.even.cut false (f <<< (place-(e-52)).toNat) ((e-52)-place).toNat) (2047*4503599627370496):=by unfold Format.nearest;rw[Ar l];simp only[g];have b:double.leastPlace = -1074:=δ;have c:double.binade=4503599627370496:=δ;have d:double.infRung=2047*4503599627370496:=δ;rw[b,c,d];unfold Format.word;simp only[Bool.false_eq_true,if_false];congr 3
 have hk:4503599627370496<=Toward.even.cut false (f <<< (place-(e-52)).toNat) ((e-52)-place).toNat/\Toward.even.cut false (f <<< (place-(e-52)).toNat) ((e-52)-place).toNat<=9007199254740992:=by
  obtain⟨c,hc,c1,c2,c3⟩:=A51 (f <<< (place-(e-52)).toNat) ((e-52)-place).toNat;rw[hc];have y:2 ^ f.log2<=f:=Nat.log2_self_le l;have x:f<2 ^ (f.log2+1):=Nat.lt_log2_self;rw[Nat.shiftLeft_eq]at c1 c2 c3;rcases Int.le_total place (e-52) with h|h
  .have z:(place-(e-52)).toNat=0:=ω;rw[z,Nat.pow_zero,Nat.mul_one]at c1 c2 c3;have hd:f.log2=52+((e-52)-place).toNat:=ω;have hp:2 ^ f.log2=4503599627370496*2 ^ ((e-52)-place).toNat:=(by rw[hd,Nat.pow_add]);have k:2 ^ (f.log2+1)=9007199254740992*2 ^ ((e-52)-place).toNat:=(by rw[Nat.pow_succ,hp];omega);have hpos:0<2 ^ ((e-52)-place).toNat:=Nat.pow_pos δ;have a1:4503599627370496<=f / 2 ^ ((e-52)-place).toNat:=(Nat.le_div_iff_mul_le hpos).2 ω;have a2:f / 2 ^ ((e-52)-place).toNat<9007199254740992:=(Nat.div_lt_iff_lt_mul hpos).2 ω;omega
  .have z:((e-52)-place).toNat=0:=ω;rw[z,Nat.pow_zero,Nat.div_one]at c1 c2 c3;have c4:=c3 (Nat.mod_one _);have hd:52=f.log2+(place-(e-52)).toNat:=ω;have hp:2 ^ f.log2*2 ^ (place-(e-52)).toNat=4503599627370496:=(by rw[<-Nat.pow_add,<-hd]);have k:2 ^ (f.log2+1)*2 ^ (place-(e-52)).toNat=9007199254740992:=(by rw[Nat.pow_succ,Nat.mul_right_comm,hp]);have hpos:0<2 ^ (place-(e-52)).toNat:=Nat.pow_pos δ;have a1:=Nat.mul_le_mul_right (2 ^ (place-(e-52)).toNat) y;have a2:=Nat.mul_lt_mul_of_pos_right x hpos;omega
 generalize Toward.even.cut false (f <<< (place-(e-52)).toNat) ((e-52)-place).toNat=c at *;obtain⟨t,ht⟩:∃t:Nat,(e-52+1074).toNat=t/\t<=1922/\(t:Int)=e+1022:=⟨_,rfl,ω,ω⟩;rw[ht.1]at hw;rw[Nat.min_eq_left ω]at hw;rw[hw];have b:double.leastPlace = -1074:=δ;have B:double.binade=4503599627370496:=δ;have d:double.infRung=2047*4503599627370496:=δ;have q:double.signWeight=9223372036854775808:=δ;unfold Format.read;rw[b,B,d,q];have u:(t*4503599627370496+c) / 9223372036854775808=0:=Nat.div_eq_of_lt ω;have s:(t*4503599627370496+c) % 9223372036854775808=t*4503599627370496+c:=Nat.mod_eq_of_lt ω;simp only[u,s];rw[Ar ω,Au ω];by_cases hc:c<9007199254740992
 .refine⟨c,e-52,?_,hk.1,hc,.inl rfl⟩;have j:(t*4503599627370496+c) % 4503599627370496=c-4503599627370496:=ω;have i:(t*4503599627370496+c) / 4503599627370496=t+1:=ω;rw[j,i,show 4503599627370496+(c-4503599627370496)=c by omega,show (-1074:Int)+((t+1-1:Nat):Int)=e-52 by omega];rfl
 .have hc:c=9007199254740992:=ω;subst hc;refine⟨4503599627370496,e-51,?_,δ,δ,.inr ⟨rfl,rfl⟩⟩;have j:(t*4503599627370496+9007199254740992) % 4503599627370496=0:=ω;have i:(t*4503599627370496+9007199254740992) / 4503599627370496=t+2:=ω;rw[j,i,Nat.add_zero,show (-1074:Int)+((t+2-1:Nat):Int)=e-51 by omega];rfl
theorem Alm (v:Int) (h:0<=v):floatOfInt .f64 v=double.nearest false v.natAbs 0:=by have e:decide (v<0)=false:=Ay ω;show double.nearest (decide (v<0)) v.natAbs 0=_;rw[e]
theorem A52:double.read 4876203697187506176 = .number false 7812500000000000 7:=δ
theorem Agl (h1:2 ^ k<=n) (h2:n<2 ^ (k+1)):n.log2=k:=(Nat.log2_eq_iff (by have:=Nat.pow_pos (n:=k) (show 0<2 by decide);omega)).2 ⟨h1,h2⟩
theorem Abr (h:n<2 ^ (k+1)):n.log2<=k:=by
 by_cases h0:n=0
 .subst h0;simp
 .have:=(Nat.log2_lt h0).2 h;omega
theorem Aln (h:2 ^ k<=n):k<=n.log2:=(Nat.le_log2 (by have:=Nat.pow_pos (n:=k) (show 0<2 by decide);omega)).2 h
theorem A53 (x:Int) (h0:1<=x) (h1:x<1000000000):∃(w:Nat) (m:Nat) (p:Int),floatBits .mul .f64 (floatOfInt .f64 x) 4876203697187506176=some w/\double.read w = .number false m p/\4503599627370496<=m/\m<9007199254740992/\7<=p/\(p<=37\/(p=38/\m=4503599627370496)):=by
 have j:x.natAbs.log2<=29:=Abr ζ;obtain⟨m1,b,g,a1,a2,a3⟩:=X6 x.natAbs 0 (x.natAbs.log2) ω ω ω ω;have c:(m1*7812500000000000).log2=104\/((m1*7812500000000000).log2=105/\m1≠4503599627370496):=by
  have b1:2 ^ 104<=m1*7812500000000000:=ω;have b2:m1*7812500000000000<2 ^ 106:=ω;rcases Ch (m1*7812500000000000) (2 ^ 105) with h|h
  .exact .inl (Agl b1 h)
  .exact .inr ⟨Agl h b2,by rintro rfl;omega⟩
 obtain⟨m2,i,f,c1,c2,c3⟩:=X6 (m1*7812500000000000) (b+7) (b+7+(m1*7812500000000000).log2) ω rfl ω ω;refine⟨double.nearest false (m1*7812500000000000) (b+7),m2,i,?_,f,c1,c2,ω,ω⟩;show ((double.read (floatOfInt .f64 x)).product (double.read 4876203697187506176)).map double.write=_;rw[Alm x ω,g,A52];rfl
theorem A54 (w:Nat) (m:Nat) (p:Int) (hw:double.read w = .number false m p) (M:4503599627370496<=m) (L:m<9007199254740992) (I:7<=p) (j:p<=37\/(p=38/\m=4503599627370496)) (y:Int) (h0:0<=y) (h1:y<1000000000000000000) : ∃(w':Nat) (g:Nat) (f:Int),floatBits .add .f64 w (floatOfInt .f64 y)=some w'/\double.read w' = .number false g f/\4503599627370496<=g/\g<9007199254740992/\7<=f/\f<=39:=by
 obtain⟨c,b,x,S,R⟩:∃(c:Nat) (b:Int),double.read (floatOfInt .f64 y) = .number false c b/\b<=8/\c<9007199254740992/\-1074<=b:=by
  rw[Alm y h0];by_cases hy:y.natAbs=0
  .rw[hy];exact⟨0,-1074,δ,δ,δ,δ⟩
  .have X:y.natAbs.log2<=59:=Abr ζ;obtain⟨m1,D,A,a1,a2,a3⟩:=X6 y.natAbs 0 (y.natAbs.log2) hy ω ω ω;exact⟨m1,D,A,ω,a2,ω⟩
 generalize hb:min p b=base;have ht:∃T:Nat,signed false m (p-base).toNat+signed false c (b-base).toNat=(T:Int)/\T=m*2 ^ (p-base).toNat+c*2 ^ (b-base).toNat:=by refine⟨m <<< (p-base).toNat+c <<< (b-base).toNat,rfl,by rw[Nat.shiftLeft_eq,Nat.shiftLeft_eq]⟩
 obtain⟨T,t1,t2⟩:=ht;have G:0<2 ^ (p-base).toNat:=Nat.pow_pos δ;have i:2 ^ (b-base).toNat<=2 ^ (8-base).toNat:=Nat.pow_le_pow_right δ ω;have J:m*2 ^ (p-base).toNat<=2 ^ (90-base).toNat:=by
  rcases j with h|⟨rfl,rfl⟩
  .have e:2 ^ (90-base).toNat=2 ^ (p-base).toNat*2 ^ (90-p).toNat:=(by rw[<-Nat.pow_add];congr 1;omega);have e2:2 ^ 53<=2 ^ (90-p).toNat:=Nat.pow_le_pow_right δ ω;rw[e,Nat.mul_comm];exact Nat.mul_le_mul_left _ ω
  .have e:2 ^ (90-base).toNat=2 ^ (38-base).toNat*2 ^ 52:=(by rw[<-Nat.pow_add];congr 1;omega);rw[e,Nat.mul_comm];omega
 have E:c*2 ^ (b-base).toNat<2 ^ (90-base).toNat:=by have e:2 ^ (90-base).toNat=2 ^ (8-base).toNat*2 ^ 82:=(by rw[<-Nat.pow_add];congr 1;omega);have Z:c*2 ^ (b-base).toNat<=c*2 ^ (8-base).toNat:=Nat.mul_le_mul_left _ i;have N:0<2 ^ (8-base).toNat:=Nat.pow_pos δ;have Y:c*2 ^ (8-base).toNat<2 ^ 82*2 ^ (8-base).toNat:=Nat.mul_lt_mul_of_pos_right ω N;rw[e,Nat.mul_comm (2 ^ (8-base).toNat)];omega
 have s:T<2 ^ ((90-base).toNat+1):=by rw[Nat.pow_succ];omega
 have q:2 ^ (52+(p-base).toNat)<=T:=by have:2 ^ 52*2 ^ (p-base).toNat<=m*2 ^ (p-base).toNat:=Nat.mul_le_mul_right _ ω;rw[Nat.pow_add];omega
 have V:=Abr s;have U:=Aln q;have u:T≠0:=by have:=Nat.pow_pos (n:=52+(p-base).toNat) (show 0<2 by decide);omega
 obtain⟨m3,B,z,c1,c2,c3⟩:=X6 T base (base+T.log2) u rfl ω ω;refine⟨double.nearest false T base,m3,B,?_,z,c1,c2,ω,ω⟩;show ((double.read w).sum (double.read (floatOfInt .f64 y))).map double.write=_;rw[hw,x];have l:¬((T:Int)=0):=ω;have k:decide ((T:Int)<0)=false:=Ay ω;simp only[Datum.sum,hb,t1,Ar l,k,Option.map_some,Int.natAbs_natCast,Format.write]
theorem A55 {b m N:Nat} {p:Int} (g:double.read b = .number false m p) (i:(Datum.number false m p).toInt .zero=some (N:Int)) (h:N<=9223372036854775808):floatToIntVal .f64 b .u64=some (N:Int):=by have hd:FloatKind.f64.decode b = .number false m p:=g;have f:IntKind.u64.min=0:=δ;have c:IntKind.u64.max=18446744073709551615:=δ;unfold floatToIntVal;rw[hd,i];simp only[f,c];rw[Au ⟨ω,ω⟩]
theorem A56 (w:Nat) (m:Nat) (p:Int) (hw:double.read w = .number false m p) (R:4503599627370496<=m) (M:m<9007199254740992) (L:7<=p) (J:p<=39) (z:Int) (h0:1000000000<=z) (h1:z<1000000000000000000) : ∃(w':Nat) (n:Int),floatBits .quo .f64 w (floatOfInt .f64 z)=some w'/\floatToIntVal .f64 w' .u64=some n/\0<=n/\n<=9223372036854775808:=by
 have U:z.natAbs.log2<=59:=Abr ζ;have S:29<=z.natAbs.log2:=Aln ζ;obtain⟨f,c,u,a1,a2,a3⟩:=X6 z.natAbs 0 (z.natAbs.log2) ω ω ω ω;have D:m.log2=52:=Agl ω ω;have y:f.log2=52:=Agl ω ω;generalize hq:m*2 ^ 54 / f=q;generalize l:((m*2 ^ 54 % f != 0).toNat)=s;have E:s<=1:=by rw[<-l];exact Bool.toNat_le _
 have I:q<2 ^ 55:=by rw[<-hq];exact (Nat.div_lt_iff_lt_mul ω).2 ω
 have G:2 ^ 53<=q:=by rw[<-hq];exact (Nat.le_div_iff_mul_le ω).2 ω
 have B:(2*q+s).log2<=55:=Abr ω;have A:54<=(2*q+s).log2:=Aln ω;obtain⟨m4,b,x,c1,c2,c3⟩:=X6 (2*q+s) (p-c-(54:Nat)-1) (p-c-(54:Nat)-1+(2*q+s).log2) ω rfl ω ω;have j:(Datum.number false m p).quotient (double.fractionBits+2) (Datum.number false f c)=some (.number false (2*q+s) (p-c-(54:Nat)-1)):=by have i:¬f=0:=ω;have fb:double.fractionBits+2=54:=rfl;simp only[Datum.quotient,Ar i,fb,D,y,Nat.shiftLeft_eq,Nat.add_sub_cancel,hq,l,Bool.xor_self]
 have hb:m4*2 ^ b.toNat<=9223372036854775808:=by
  have k:b<=10\/(b=11/\m4=4503599627370496):=ω;rcases k with h|⟨rfl,rfl⟩
  .have:2 ^ b.toNat<=2 ^ 10:=Nat.pow_le_pow_right δ ω;have:=Nat.mul_le_mul (Nat.le_of_lt c2) this;omega
  .decide
 obtain⟨N,V,g⟩:∃N:Nat,(Datum.number false m4 b).toInt .zero=some (N:Int)/\N<=9223372036854775808:=by
  refine⟨(m4 <<< b.toNat) / (1 <<< min (-b).toNat ((m4 <<< b.toNat).log2+2)),?_,?_⟩
  .simp only[Datum.toInt,Datum.integral,Toward.cut,signed,Bool.false_eq_true,if_false,Nat.shiftLeft_zero,Bool.toNat_false,Nat.add_zero]
  .rw[Nat.shiftLeft_eq m4];exact Nat.le_trans (Nat.div_le_self _ _) hb
 refine⟨double.nearest false (2*q+s) (p-c-(54:Nat)-1),(N:Int),?_,?_,ω,ω⟩
 .have e:floatBits .quo .f64 w (floatOfInt .f64 z)=((double.read w).quotient (double.fractionBits+2) (double.read (floatOfInt .f64 z))).map double.write:=rfl;rw[e,hw,Alm z ω,u,j];simp only[Option.map_some,Format.write]
 .exact A55 x V g
theorem A57 (r n:Nat) (h2:2<=Bp n) (E:Bp r<=Bp n+1) (G:Bp n<1099511627776):∃d:Nat,Z7 (Ah r) (Ah n)=some (d:Int)/\d<1000000000:=by
 unfold Z7;unfold Bp at h2 E G;have c:n≠0:=by rintro rfl;rw[Hn]at h2;simp at h2
 by_cases V:(Ah r).length<(Ah n).length
 .exact⟨0,by rw[As ω];rfl,δ⟩
 .rw[Ay ω,Aq];have y:Ac (((Ah n).length:Int)-1)=(((Ah n).length-1:Nat):Int):=ξ;have u:Ac (((Ah n).length:Int)-2)=(((Ah n).length-2:Nat):Int):=ξ;have i1:(Ah n).length-1<(Ah n).length:=ω;have i2:(Ah n).length-2<(Ah n).length:=ω;have h:(Ah n).length-1<(Ah r).length:=ω;have g:(Ah n).length-2<(Ah r).length:=ω;have t1:=(F2 n).get i1;have t2:=(F2 n).get i2;have M:=(F2 r).get h;have L:=(F2 r).get g;have i:(Ah n)[(Ah n).length-1]≠0:=(by have:=(Afl n).2 (Ka c);rwa [getLast_eq_getElem]at this);rw[y,u,Ek rfl i1,Ad,Ek rfl i2,Ad,Ek rfl h,Ad,Ek rfl g,Ad];generalize (Ah n)[(Ah n).length-1]=a1 at *;generalize (Ah n)[(Ah n).length-2]=a2 at *;generalize (Ah r)[(Ah n).length-1]=b1 at *;generalize (Ah r)[(Ah n).length-2]=b2 at *;have l:Ba (Ba (Ba b1*1000000000)+Ba b2)=b1*1000000000+b2:=(by rw[show Ba b1=b1 from Du ω ω,show Ba b2=b2 from Du ω ω,show Ba (b1*1000000000)=b1*1000000000 from Du ω ω];exact Du ω ω);have j:Ba (Ba (Ba a1*1000000000)+Ba a2)=a1*1000000000+a2:=(by rw[show Ba a1=a1 from Du ω ω,show Ba a2=a2 from Du ω ω,show Ba (a1*1000000000)=a1*1000000000 from Du ω ω];exact Du ω ω);rw[l,j];by_cases X:(Ah r).length=(Ah n).length
  .rw[Ew ω,Am,Mt ω ω ω,Ad];have R:0<=(b1*1000000000+b2) / (a1*1000000000+a2):=Int.ediv_nonneg ω ω;have N:(b1*1000000000+b2) / (a1*1000000000+a2)<1000000000:=Int.ediv_lt_of_lt_mul ω ω;exact⟨((b1*1000000000+b2) / (a1*1000000000+a2)).toNat,by congr 1;omega,ω⟩
  .have hk:(Ah n).length<(Ah r).length:=ω;have b:r≠0:=(by rintro rfl;rw[Hn]at hk;simp at hk);have J:=(F2 r).get hk;have f:(Ah r)[(Ah n).length]≠0:=(by have:=(Afl r).2 (Ka b);rw[getLast_eq_getElem]at this;have e:(Ah r).length-1=(Ah n).length:=ω;simpa[e] using this);rw[C7 ω,Aq,Ek rfl hk,Ad];generalize (Ah r)[(Ah n).length]=x at *;obtain⟨s,m3,A,f1,f2,f3,f4,f5,f6⟩:=A53 x ω ω;obtain⟨q,m4,z,g1,g2,g3,g4,g5,g6⟩:=A54 s m3 A f2 f3 f4 f5 f6 (b1*1000000000+b2) ω ω;obtain⟨I,k,D,B,U,S⟩:=A56 q m4 z g2 g3 g4 g5 g6 (a1*1000000000+a2) ω ω;rw[f1,Ad,g1,Ad,D,Ad,B,Ad,show Ba (k+2)=k+2 from Du ω ω];by_cases hc:(999999999:Int)<k+2
   .exact⟨999999999,by rw[Au hc];rfl,δ⟩
   .exact⟨(k+2).toNat,by rw[Ar hc];congr 1;omega,ω⟩
end Go.Ab
namespace Go.Ab
open Go
variable {a:Ao} {k n:Nat}
theorem A58 (x r:Nat):Bp (x % 1000000000+1000000000*r)<=Bp r+1:=by apply Kq;have:=Oy r;rw[Nat.pow_succ];omega
set_option maxHeartbeats 1000000 in
theorem Alo (m n:Nat) (hm:Bp m<137438953472) (hn:Bp n<137438953472) (B:n≠0):Uj (Ah m) (Ah n)=some (Ah (m / n),Ah (m % n)):=by
 unfold Uj;rw[Agj,Vj m n ω ω,Ad];have ae:=hm;have ad:=hn;unfold Bp at hm hn;by_cases l:m<n
 .rw[show F8 m n = -1 by rw[F8,Au l],As (by decide:(-1:Int)<0),Am,Vk _ ω,Ad,A37 (Afl m),Nat.div_eq_of_lt l,Nat.mod_eq_of_lt l,Hn]
 .rw[Ay (show ¬F8 m n<0 by rw[F8,Ar l];split <;> decide),Aq];have a7:(Ah n).length≠0:=λe=>Ka B (Fu.1 e);by_cases h1:(Ah n).length=1
  .rw[Ew (ω:((Ah n).length:Int)=1),Am];have A:n<1000000000:=(by have:=Oy n;rw[show Bp n=1 from h1]at this;simpa using this);have X:Ah n = [(n:Int)]:=(by rw[Ox B,Nat.div_eq_of_lt A,Hn,Nat.mod_eq_of_lt A]);rw[X,show Ag [(n:Int)] 0=some (n:Int) from rfl,Ad,show Ba (n:Int)=n from Du ω ω,A5y m n ω ω ω,Ad];have a6:m % n<n:=Nat.mod_lt _ ω;rw[Atx,X3 (m % n) ω,Ad]
  .rw[C7 (ω:((Ah n).length:Int)≠1),Aq];have hw:Ac (((Ah m).length:Int)-1)=((Ah m).length:Int)-1:=ξ;rw[K2 rfl rfl (Nat.le_refl _) ω ω,hw];simp only[Ad];have ha:=F2 m;refine J9 (λ(r,i,q)=>∃(k R:Nat),r=Ah R/\i=(k:Int)-1/\k<=(Ah m).length/\R<n/\q.length=(Ah m).length/\Ci q/\Al (q.drop k)*n+R=Al ((Ah m).drop k)) (λ(_,i,_)=>(i+1).toNat) (λ(r,q)=>∃R:Nat,r=Ah R/\R<n/\q.length=(Ah m).length/\Ci q/\Al q*n+R=m) ⟨(Ah m).length,0,by rw[Hn],rfl,Nat.le_refl _,ω,ψ,Ci.replicate _,by simp[Al]⟩ ?_ ?_
   .rintro⟨r,i,q⟩ ⟨k,R,rfl,rfl,hk,I,u,g,hv⟩;cases k with
    | zero=>exact .inr ⟨(Ah R,q),ψ,R,rfl,I,u,g,by simpa[Gi] using hv⟩
    | succ j=>
     have hj:j<(Ah m).length:=ω;have D:j<q.length:=ω;have hx:=ha.get hj;obtain⟨x,y⟩:∃x:Nat,(Ah m)[j]=(x:Int):=⟨(Ah m)[j].toNat,ω⟩;have J:x<1000000000:=ω;have e0:((j+1:Nat):Int)-1=(j:Int):=ω;have e1:decide ((j:Int)>=0)=true:=As ω;have Y:Bp R<=Bp n:=I4 ω;have ab:Bp (x+1000000000*R)<=Bp R+1:=(by have:=A58 x R;rwa [Nat.mod_eq_of_lt J]at this);have ag:(Ah R).length<=(Ah n).length:=Y;have E:L5 ((x:Int)::Ah R)=some (Ah (x+1000000000*R)):=by
      rw[Vk _ ζ];congr 1;refine Mu ?_ ?_
      .intro d hd;rcases F1.1 hd with rfl|hd
       .omega
       .exact F2 R d hd
      .simp only[Al,Gi];omega
     obtain⟨d0,S,af⟩:=A57 (x+1000000000*R) n (by unfold Bp;omega) ω ω;generalize a1:x+1000000000*R=f at *;have aa:f<1000000000*n:=ω;have s:∀d:Nat,d<18446744073709551616->Qu (d:Int)=some (Ah d)/\Nm (Ah n) (Ah d)=some (Ah (n*d)):=(by intro d hd;have:=Rb hd;exact⟨by rw[Atx,X3 d hd],X5 n d ω ω⟩);have G:∀d:Nat,d<18446744073709551616->Sa (Ah (n*d)) (Ah f)=some (F8 (n*d) f):=(by intro d hd;have h3:=Rb hd;have h4:=Hx n d;rw[Agj,Vj _ _ ω ω]);simp only[e0,e1,Am,Ek rfl hj,y,Ad,Ds (show ([(x:Int)].length+(Ah R).length)*4<=_ by simp;omega),singleton_append,E,S];refine .inl (Xr (Ee (λd=>∃e:Nat,d=e/\e<=d0) (λd=>d.toNat) (λd=>∃e:Nat,d=e/\e<=d0/\n*e<=f) ⟨d0,rfl,Nat.le_refl _⟩ ?_ ?_))
     .rintro d ⟨e,rfl,he⟩;by_cases V:e=0
      .subst V;exact .inr ⟨0,rfl,0,rfl,ω,ψ⟩
      .obtain⟨m1,m2⟩:=s e ω;simp only[As (ω:(e:Int)>0),Am,m1,m2,G e ω,Ad];by_cases hc:f<n*e
       .refine .inl ⟨((e-1:Nat):Int),?_,⟨e-1,rfl,ω⟩,ζ⟩;rw[show F8 (n*e) f=1 by rw[F8,Ar ω,Au hc],show decide ((1:Int)>0)=true from rfl,Am,show Ba ((e:Int)-1)=((e-1:Nat):Int) by rw[Ba,Du] <;> omega]
       .refine .inr ⟨(e:Int),?_,e,rfl,he,ω⟩;rw[Ay (show ¬F8 (n*e) f>0 by rw[F8,Ar hc];split <;> decide),Aq]
     .rintro d ⟨e,rfl,he,M⟩;obtain⟨m1,m2⟩:=s e ω;simp only[m1,m2,Ad,Agk f (n*e) ω M];refine Ee (λ(r,d)=>∃(c b:Nat),r=Ah c/\d=b/\n*b+c=f) (λ(r,_)=>(Al r).toNat) (λ(r,d)=>∃(c b:Nat),r=Ah c/\d=b/\n*b+c=f/\c<n) ⟨f-n*e,e,rfl,rfl,ω⟩ ?_ ?_
      .rintro⟨r,d⟩ ⟨c,b,rfl,rfl,L⟩;have a8:Bp c<=Bp f:=I4 ω;have U:b<1000000000:=by
        rcases Ch b 1000000000 with h|h
        .exact h
        .exfalso;have:n*1000000000<=n*b:=Nat.mul_le_mul_left n h;omega
       simp only[Agj,Vj c n ω ω,Ad];by_cases hc:c<n
       .refine .inr ⟨(Ah c,(b:Int)),?_,c,b,rfl,rfl,L,hc⟩;rw[Ay (show ¬F8 c n>=0 by rw[F8,Au hc];decide),Aq]
       .refine .inl ⟨(Ah (c-n),((b+1:Nat):Int)),?_,⟨c-n,b+1,rfl,rfl,?_⟩,?_⟩
        .rw[As (show F8 c n>=0 by rw[F8,Ar hc];split <;> decide),Am,Agk c n ω ω,Ad,show Ba ((b:Int)+1)=((b+1:Nat):Int) by rw[Ba,Du] <;> omega]
        .rw[Nat.mul_add];omega
        .simp only[Gi];omega
      .rintro⟨r,d⟩ ⟨c,b,rfl,rfl,L,Z⟩;have U:b<1000000000:=by
        rcases Ch b 1000000000 with h|h
        .exact h
        .exfalso;have:n*1000000000<=n*b:=Nat.mul_le_mul_left n h;omega
       have w1:Cx (b:Int)=b:=G7 ω ω;have w8:Ac ((j:Int)-1)=(j:Int)-1:=ξ;refine⟨_,by simp only[Ek rfl D,Ad,w1,w8,He rfl],(Ah c,(j:Int)-1,q.set j (b:Int)),rfl,⟨j,c,rfl,rfl,ω,Z,by simpa using u,g.set _ ω ω,?_⟩,ψ⟩;have d1:(q.set j (b:Int)).drop j=(b:Int)::q.drop (j+1):=(by rw[drop_eq_getElem_cons (by simpa using D),drop_set_of_lt ω];simp);rw[d1,drop_eq_getElem_cons hj,y];simp only[Al];rw[<-hv];have:((n*b+c:Nat):Int)=((x+1000000000*R:Nat):Int):=(by rw[L,a1]);simp only[Int.natCast_add,Int.natCast_mul]at this;grind
   .rintro⟨r,q⟩ ⟨R,rfl,I,u,g,hv⟩;dsimp only;have ac:=Il g.u32;obtain⟨Q,hQ⟩:∃Q:Nat,Al q=Q:=⟨(Al q).toNat,ω⟩;rw[hQ]at hv;have z:Q*n+R=m:=(by have:((Q*n+R:Nat):Int)=(m:Int):=(by simp only[Int.natCast_add,Int.natCast_mul];exact hv);omega);have hd:m / n=Q:=(by rw[<-z,Nat.mul_comm,Nat.mul_add_div ω,Nat.div_eq_of_lt I];rfl);have N:m % n=R:=(by rw[<-z,Nat.mul_comm,Nat.mul_add_mod,Nat.mod_eq_of_lt I]);rw[Vk q ω,Ad,Mu g hQ,hd,N]
theorem A59 (m n:Nat) (g:Bp m<137438953472) (f:Bp n<137438953472):Zq (Ah m) (Ah n)=some (Ah (Nat.gcd m n)):=by
 unfold Zq;refine J9 (λ(a,b)=>∃x y:Nat,a=Ah x/\b=Ah y/\Bp x<137438953472/\Bp y<137438953472/\Nat.gcd x y=Nat.gcd m n) (λ(_,b)=>(Al b).toNat) (λr=>r=Ah (Nat.gcd m n)) ⟨m,n,rfl,rfl,g,f,rfl⟩ ?_ (by rintro e rfl;rfl);rintro⟨a,b⟩ ⟨x,y,rfl,rfl,hx,hy,hg⟩;by_cases c:y=0
 .subst c;refine .inr ⟨Ah x,by rw[Hn];rfl,?_⟩;rw[<-hg,Nat.gcd_zero_right]
 .have h:(Ah y).length≠0:=λe=>Ka c (Fu.1 e);have i:decide (((Ah y).length:Int)>0)=true:=As ω;refine .inl ⟨(Ah y,Ah (x % y)),?_,⟨y,x % y,rfl,rfl,hy,by have:=I4 (Nat.mod_le x y);omega,?_⟩,?_⟩
  .simp only[i,Am,Alo x y hx hy c,Ad]
  .rw[<-hg,Nat.gcd_comm y,<-Nat.gcd_rec,Nat.gcd_comm]
  .simp only[Gi];have:=Nat.mod_lt x (ω:y>0);omega
def Tc (b:Bool) (n d:Nat):Ao:=if d=0 then ⟨false,[],[1]⟩ else Cb b n d
theorem Aty (h:n≠0):(Ah n).length≠0:=λe=>Ka h (Fu.1 e)
theorem Atz (c:Bool) (a b:List Int) (ha:Ny a) (hb:Ny b) (l:a.length<137438953400) (k:b.length<137438953400):Nn c a b=some (Tc c (Al a).toNat (Al b).toNat):=by
 unfold Nn;have h1:=Agf ha;have h2:=Agf hb;rw[Atw a ha ω,Ad,Atw b hb ω,Ad];generalize (Al a).toNat=n at *;generalize (Al b).toNat=d at *;by_cases g:n=0
 .subst g;have:Tc c 0 d=⟨false,[],[1]⟩:=(by unfold Tc;split <;> simp[Cb]);rw[this,Hn];rfl
 .have i:=Aty g;by_cases hd:d=0
  .subst hd;simp only[C7 (ω:((Ah n).length:Int)≠0),Aq,Hn,Ad];rfl
  .have j:=Aty hd;have f:Nat.gcd n d≠0:=(by have:=Nat.gcd_pos_of_pos_left d (ω:0<n);omega);have s:Bp (Nat.gcd n d)<=Bp n:=I4 (Nat.gcd_le_left d (ω:0<n));simp only[C7 (ω:((Ah n).length:Int)≠0),Aq,C7 (ω:((Ah d).length:Int)≠0),Ad,A59 n d ω ω];rw[Tc,Ar hd,Cb,Ar g];have key:(bif (((Ah (Nat.gcd n d)).length:Int) != (1:Int)) then some true else ((Ag (Ah (Nat.gcd n d)) 0).bind λh=>some (h != (1:Int))))=some (decide (Nat.gcd n d≠1)):=by
    have h3:=Alj (Nat.gcd n d);unfold Up at h3;by_cases q:(Ah (Nat.gcd n d)).length=1
    .rw[Ew (ω:((Ah (Nat.gcd n d)).length:Int)=1),Am]at h3;rw[H9 (ω:((Ah (Nat.gcd n d)).length:Int)=1),Aq];cases hi:Ag (Ah (Nat.gcd n d)) 0 with| none=>rw[hi]at h3;cases h3| some v=>rw[hi]at h3;simp only[Ad]at h3 ⊢;have h3:=Eo h3;congr 1;rw[bne,h3];simp
    .rw[C7 (ω:((Ah (Nat.gcd n d)).length:Int)≠1),Aq]at h3;rw[Gx (ω:((Ah (Nat.gcd n d)).length:Int)≠1),Am];have h3:=Eo h3;have:Nat.gcd n d≠1:=(by simpa using h3.symm);rw[As this]
   rw[key,Ad];by_cases hg:Nat.gcd n d=1
   .rw[Ay (by simpa using hg),Aq,hg];simp
   .rw[As hg,Am,Alo n _ ω ω f,Ad,Alo d _ ω ω f,Ad]
theorem A6a (a:Ao):Tc a.N (Al a.U).toNat (Al a.B).toNat=Cb (sv a) (nv a) (dv a):=by
 unfold Tc sv nv dv;by_cases b:(Al a.U).toNat=0
 .simp[b,Cb]
 .by_cases hd:(Al a.B).toNat=0
  .simp[hd,Cb]
  .simp[b,hd]
theorem Agm (a:Ao) (k:Nat) (h:RB k a) (hk:k<137438953400):R9 a=some (Cb (sv a) (nv a) (dv a)):=by unfold R9;have:=h.nl;have:=h.dl;rw[Atz _ _ _ h.num h.den ω ω,Ad,A6a]
theorem Agn (s:Bool) (n d:Nat) (hd:d≠0):(Cb s n d).U=Ah (nv (Cb s n d))/\(Cb s n d).B=Ah (dv (Cb s n d))/\(Cb s n d).N=sv (Cb s n d):=by
 obtain⟨h1,h2,h3,c⟩:=Agi s n d hd;rw[h1,h2];by_cases h0:n=0
 .subst h0;rw[c rfl,Abq];have b:d / Nat.gcd 0 d=1:=(by rw[Nat.gcd_zero_left];exact Nat.div_self ω);rw[b,Nat.zero_div,Hn,Abo];exact⟨rfl,rfl,rfl⟩
 .rw[h3 h0];simp[Cb,h0]
theorem Abs (a:Ao):∃g:Nat,g≠0/\nv a=g*nv (Cb (sv a) (nv a) (dv a))/\dv a=g*dv (Cb (sv a) (nv a) (dv a))/\sv (Cb (sv a) (nv a) (dv a))=sv a:=by
 obtain⟨h1,h2,h3,b⟩:=Agi (sv a) (nv a) (dv a) (F4 a);have hd:=F4 a;have hg:0<Nat.gcd (nv a) (dv a):=Nat.gcd_pos_of_pos_right _ ω;refine⟨Nat.gcd (nv a) (dv a),ω,?_,?_,?_⟩
 .rw[h1];exact (Nat.mul_div_cancel' (Nat.gcd_dvd_left _ _)).symm
 .rw[h2];exact (Nat.mul_div_cancel' (Nat.gcd_dvd_right _ _)).symm
 .by_cases h0:nv a=0
  .rw[b h0];unfold nv at h0;unfold sv;split at h0
   .rename_i hc;rw[Au hc]
   .omega
  .exact h3 h0
theorem A6b (s:Bool) (n d:Nat) (h:d≠0):Tc s n d=Cb s n d:=by rw[Tc,Ar h]
theorem Ago (b:Bool) (n d:Nat) (f:Bp n<137438953400) (hd:Bp d<137438953400) (c:d≠0):Nn b (Ah n) (Ah d)=some (Cb b n d):=by unfold Bp at f hd;rw[Atz b _ _ (F2 n).u32 (F2 d).u32 f hd,Gi,Gi,Int.toNat_natCast,Int.toNat_natCast,A6b _ _ _ c]
theorem At0 (h:RB k a):RB (k+1) (Cb (sv a) (nv a) (dv a)):=N5 _ _ _ _ h.nv h.dv ω
theorem Agp (h:RB k a):Bp (nv (Cb (sv a) (nv a) (dv a)))<=k+1/\Bp (dv (Cb (sv a) (nv a) (dv a)))<=k+1:=by
 obtain⟨g,hg,h1,h2,_⟩:=Abs a;have a1:=h.nv;have a2:=h.dv;refine⟨Nat.le_trans (I4 ?_) a1,Nat.le_trans (I4 ?_) a2⟩
 .exact Nat.le_trans (Nat.le_mul_of_pos_left _ ω) (Nat.le_of_eq h1.symm)
 .exact Nat.le_trans (Nat.le_mul_of_pos_left _ ω) (Nat.le_of_eq h2.symm)
theorem A6c (a b:Ao) (j k:Nat) (ha:RB j a) (hb:RB k b) (hj:j<34359738368) (hk:k<34359738368):Ua a b=some (Cb (sv a != sv b) (nv a*nv b) (dv a*dv b)):=by unfold Ua;rw[Agm a j ha ω,Ad,Agm b k hb ω,Ad];obtain⟨g,hg,a1,a2,a3⟩:=Abs a;obtain⟨h,hh,b1,b2,q⟩:=Abs b;obtain⟨f1,f2,f3⟩:=Agn (sv a) (nv a) (dv a) (F4 a);obtain⟨l,i,f⟩:=Agn (sv b) (nv b) (dv b) (F4 b);obtain⟨y,x⟩:=Agp ha;obtain⟨u,s⟩:=Agp hb;rw[f1,f2,f3,l,i,f,a3,q];generalize hc:Cb (sv a) (nv a) (dv a)=c at *;generalize hd:Cb (sv b) (nv b) (dv b)=d at *;have m1:=Hx (nv c) (nv d);have m2:=Hx (dv c) (dv d);have z:dv c*dv d≠0:=Nat.mul_ne_zero (F4 c) (F4 d);rw[X5 _ _ ω ω,Ad,X5 _ _ ω ω,Ad,Ago _ _ _ ω ω z,Ad];rw[a1,a2,b1,b2,show g*nv c*(h*nv d)=g*h*(nv c*nv d) by grind,show g*dv c*(h*dv d)=g*h*(dv c*dv d) by grind,Tb _ _ _ _ (Nat.mul_ne_zero hg hh)]
theorem A6d (l:Bool) (c j:Nat) (k:Bool) (b i g h:Nat) (hg:g≠0) (hh:h≠0):Kd l (g*c) (g*j) k (h*b) (h*i)=g*h*Kd l c j k b i/\Lv l (g*c) (g*j) k (h*b) (h*i)=Lv l c j k b i:=by
 have u:g*c*(h*i)=g*h*(c*i):=by grind
 have s:h*b*(g*j)=g*h*(b*j):=by grind
 have hc:(g*h*(b*j)<=g*h*(c*i))↔(b*j<=c*i):=Nat.mul_le_mul_left_iff (Nat.mul_pos ω ω);unfold Kd Lv;rw[u,s];by_cases q:l=k
 .simp only[Au q];exact⟨by rw[Nat.mul_add],trivial⟩
 .simp only[Ar q];by_cases f:b*j<=c*i
  .simp only[Au f,Au (hc.2 f)];exact⟨by rw[Nat.mul_sub],trivial⟩
  .simp only[Ar f,Ar (λh=>f (hc.1 h))];exact⟨by rw[Nat.mul_sub],trivial⟩
theorem A6e (a b:Ao) (j k:Nat) (ha:RB j a) (hb:RB k b) (hj:j<34359738368) (hk:k<34359738368) : R6 a b=some (Cb (Lv (sv a) (nv a) (dv a) (sv b) (nv b) (dv b)) (Kd (sv a) (nv a) (dv a) (sv b) (nv b) (dv b)) (dv a*dv b)):=by
 unfold R6;rw[Agm a j ha ω,Ad,Agm b k hb ω,Ad];obtain⟨g,hg,a1,a2,a3⟩:=Abs a;obtain⟨h,hh,b1,b2,y⟩:=Abs b;obtain⟨f1,f2,f3⟩:=Agn (sv a) (nv a) (dv a) (F4 a);obtain⟨x,u,s⟩:=Agn (sv b) (nv b) (dv b) (F4 b);obtain⟨E,D⟩:=Agp ha;obtain⟨B,A⟩:=Agp hb;rw[f1,f2,f3,x,u,s,a3,y];generalize hc:Cb (sv a) (nv a) (dv a)=c at *;generalize hd:Cb (sv b) (nv b) (dv b)=d at *;have m1:=Hx (nv c) (dv d);have m2:=Hx (nv d) (dv c);have m3:=Hx (dv c) (dv d);have m4:=Aa7 (nv c*dv d) (nv d*dv c);have m5:=I4 (Nat.sub_le (nv c*dv d) (nv d*dv c));have m6:=I4 (Nat.sub_le (nv d*dv c) (nv c*dv d));have z:dv c*dv d≠0:=Nat.mul_ne_zero (F4 c) (F4 d);obtain⟨q,l⟩:=A6d (sv a) (nv c) (dv c) (sv b) (nv d) (dv d) g h hg hh;rw[a1,a2,b1,b2,q,l,show g*dv c*(h*dv d)=g*h*(dv c*dv d) by grind,Tb _ _ _ _ (Nat.mul_ne_zero hg hh)];rw[X5 _ _ ω ω,Ad,X5 _ _ ω ω,Ad,X5 _ _ ω ω,Ad];unfold Lv Kd;by_cases i:sv a=sv b
 .have e:(sv a==sv b)=true:=(by rw[i];exact beq_self_eq_true _);rw[e,Am,A50 _ _ ω ω,Ad,Ago _ _ _ ω ω z,Ad,Au i,Au i]
 .have e:(sv a==sv b)=false:=(by simpa using i);rw[e,Aq,Agj,Vj _ _ ω ω,Ad,Ar i,Ar i];by_cases f:nv d*dv c<=nv c*dv d
  .rw[As (show F8 (nv c*dv d) (nv d*dv c)>=0 by rw[F8,Ar ω];split <;> decide),Am,Agk _ _ ω f,Ad,Ago _ _ _ ω ω z,Ad,Au f,Au f]
  .rw[Ay (show ¬F8 (nv c*dv d) (nv d*dv c)>=0 by rw[F8,Au ω];decide),Aq,Agk _ _ ω ω,Ad,Ago _ _ _ ω ω z,Ad,Ar f,Ar f]
theorem Agq (s:Bool) (n d:Nat) (hd:d≠0):∃g:Nat,g≠0/\n=g*nv (Cb s n d)/\d=g*dv (Cb s n d)/\(n≠0->sv (Cb s n d)=s)/\(n=0->sv (Cb s n d)=false):=by obtain⟨h1,h2,h3,b⟩:=Agi s n d hd;have hg:0<Nat.gcd n d:=Nat.gcd_pos_of_pos_right _ ω;exact⟨Nat.gcd n d,ω,by rw[h1];exact (Nat.mul_div_cancel' (Nat.gcd_dvd_left _ _)).symm,by rw[h2];exact (Nat.mul_div_cancel' (Nat.gcd_dvd_right _ _)).symm,h3,b⟩
theorem A6f (s t:Bool) (n d m e:Nat) (hd:d≠0) (k:e≠0):Cb (sv (Cb s n d) != sv (Cb t m e)) (nv (Cb s n d)*nv (Cb t m e)) (dv (Cb s n d)*dv (Cb t m e))=Cb (s != t) (n*m) (d*e):=by
 obtain⟨g,hg,a1,a2,a3,_⟩:=Agq s n d hd;obtain⟨h,hh,b1,b2,q,_⟩:=Agq t m e k;have l:Cb (s != t) (n*m) (d*e)=Cb (sv (Cb s n d) != sv (Cb t m e)) (n*m) (d*e):=by apply Atu;intro b;have i:n≠0:=λe=>b (by rw[e];simp);have j:m≠0:=λe=>b (by rw[e];simp);rw[a3 i,q j]
 rw[l];generalize Cb s n d=c at *;generalize Cb t m e=f at *;rw[a1,a2,b1,b2,show g*nv c*(h*nv f)=g*h*(nv c*nv f) by grind,show g*dv c*(h*dv f)=g*h*(dv c*dv f) by grind,Tb _ _ _ _ (Nat.mul_ne_zero hg hh)]
def Ib (n:Nat):Nat->Nat
 | 0=>1
 | k+1=>Ib n k*(n-k)
def fct:Nat->Nat
 | 0=>1
 | k+1=>fct k*(k+1)
theorem X7:∀k,fct k≠0
 | 0=>δ
 | k+1=>Nat.mul_ne_zero (X7 k) ω
theorem A6g (h:n<k):Ib n k=0:=by
 induction k with
 | zero=>omega
 | succ k ih=>
  simp only[Ib];rcases Ch n k with h'|h'
  .rw[ih h'];simp
  .have:n-k=0:=ω;rw[this];simp
theorem A6h (n k:Nat) (b:n<1000000000):Bp (Ib n k)<=k+1:=by induction k with| zero=>simp[Ib,S9]| succ k ih=>have h1:=Hx (Ib n k) (n-k);have h2:Bp (n-k)<=1:=Kq ζ;simp only[Ib];omega
theorem A6i (k:Nat) (hk:k<1000000000):Bp (fct k)<=k+1:=by induction k with| zero=>simp[fct,S9]| succ k ih=>have h1:=Hx (fct k) (k+1);have h2:Bp (k+1)<=1:=Kq ζ;simp only[fct];have:=ih ω;omega
theorem At1 (h:n<1000000000):Bp n<=1:=Kq (by simpa using h)
theorem A6j (n k:Nat) (b:n<1000000000) (hk:k<=64):RB (k+1) (Cb false (Ib n k) (fct k)) := N5 _ _ _ _ (A6h n k b) (A6i k ω) ω
theorem At2 (a:Ao):Ao.mk a.N a.U a.B=a:=by cases a;rfl
theorem At3 (n k:Nat) (A:n<1000000000) (hk:k<=64):Us (n:Int) (k:Int)=some (Cb false (Ib n k) (fct k)):=by
 unfold Us;have B:D0 1=some (Cb false (Ib n 0) (fct 0)):=Abp 1 δ δ;rw[B,Ad];refine J9 (λ(i,s,b,c)=>∃q:Nat,i=q/\q<=k/\q<=n/\Ao.mk s b c=Cb false (Ib n q) (fct q)) (λ(i,_,_,_)=>k-i.toNat) (λe=>match e with|.inl r=>r=Cb false (Ib n k) (fct k) | .inr (s,b,c)=>Ao.mk s b c=Cb false (Ib n k) (fct k)) ⟨0,rfl,ω,ω,At2 _⟩ ?_ ?_
 .rintro⟨i,s,b,c⟩ ⟨q,rfl,hq,z,ha⟩;rcases Ch q k with h|h
  .simp only[As (ω:(q:Int)<(k:Int)),Am];by_cases x:n=q
   .subst x;refine .inr ⟨.inl (Cb false 0 1),?_,?_⟩
    .rw[Ew rfl,Am,Abp 0 δ δ];rfl
    .show Cb false 0 1=_;rw[A6g h,Abq,Abq]
   .have u:Ac ((n:Int)-(q:Int))=((n-q:Nat):Int):=ξ;have l:Ac ((q:Int)+1)=((q+1:Nat):Int):=Mz h ω;have y:Qq ((n-q:Nat):Int) ((q+1:Nat):Int)=some (Cb false (n-q) (q+1)):=(by rw[Att _ _ ω ω ω ω ω,Ay (ω:¬((n-q:Nat):Int)<0),Ay (ω:¬((q+1:Nat):Int)<0)];rfl);have g:RB 1 (Cb false (n-q) (q+1)):=N5 _ _ _ _ (At1 ω) (At1 ω) ω;have j:=X4 _ _ _ _ (A6j n q A ω) g ω ω;rw[A6f false false (Ib n q) (fct q) (n-q) (q+1) (X7 q) ω]at j;refine .inl ⟨(((q+1:Nat):Int),(Cb false (Ib n (q+1)) (fct (q+1))).N,(Cb false (Ib n (q+1)) (fct (q+1))).U,(Cb false (Ib n (q+1)) (fct (q+1))).B),?_,⟨q+1,rfl,ω,ω,At2 _⟩,ζ⟩;rw[C7 ω,Aq,u,l,y,Ad,ha,j,Ad];rfl
  .have:q=k:=ω;subst this;refine .inr ⟨.inr (s,b,c),ψ,ha⟩
 .rintro (e|⟨s,b,c⟩) f
  .simp only at f ⊢;rw[f]
  .simp only at f ⊢;rw[f]
theorem A6k {α:Type} [DecidableEq α] (l m:List α) (b:l.length=m.length):(decide (l=m))=l.zipIdx.all (λq=>decide (m[q.2]? = some q.1)):=by
 rw[Bool.eq_iff_iff,Dt];constructor
 .rintro rfl;exact Aku λj x hx=>by simpa using hx
 .intro h;apply ext_getElem?;intro j;cases hx:l[j]? with| none=>rw[List.getElem?_eq_none_iff]at hx;rw[Lp ω]| some x=>have:=Jg h hx;rw[Dt]at this;rw[this]
theorem A6l {R:Type} (l m:List Int) (b:l.length<1099511627776) (h:l.length=m.length) {J:Bool⊕Unit->Option R} {rt rf:R} (h1:J (.inl false)=some rf) (h2:J (.inr ())=some rt) : (An (S:=Int) (E:=(Bool⊕Unit)) (λv3=>bif v3<(l.length:Int) then ((Ag l v3).bind λv4=>(Ag m v3).bind λv5=>bif (v4 != v5) then some (.inr (.inl false)) else some (.inl (Ac (v3+1)))) else some (.inr (.inr ()))) 0).bind J=some (bif decide (l=m) then rt else rf):=by
 rw[A6k l m h];refine Aa8 l (λq=>decide (m[q.2]? = some q.1)) (λj=>(j:Int)) rfl ω (rt:=rt) (rf:=rf) ?_ ?_
 .intro j x hx _ g1 g2 g3;have hj:j<m.length:=(by have:=Eg hx;omega);have hy:m[j]? = some m[j]:=Bt hj;generalize m[j]=y at hy;simp only[g1,g2,g3,Am,Ad,Bu rfl hy,hy,Option.some.injEq];by_cases e:x=y
  .rw[H9 e,As e.symm];exact⟨λ_=>rfl,λh=>by cases h⟩
  .rw[Gx e,Ay (λh=>e h.symm)];exact⟨nofun,λ_=>⟨.inl false,rfl,h1⟩⟩
 .intro h _;exact⟨.inr (),by simp only[h];rfl,h2⟩
theorem At4 (l m:List Int) (b:l.length<1099511627776):Pl l m=some (decide (l=m)):=by
 unfold Pl;by_cases h:l.length=m.length
 .rw[H9 ω];simp only[Aq];refine (A6l l m b h (rt:=true) (rf:=false) ?_ ?_).trans (by rw[Afo]) <;> rfl
 .rw[Gx ω,Ay (λe=>h (by rw[e]))];rfl
def X8 (a b:Ao):Bool:=a.N==b.N&&decide (a.U=b.U)&&decide (a.B=b.B)
theorem At5 (a b:Ao):X8 a b=true↔a=b:=by
 unfold X8;simp only[C3,beq_iff_eq,Dt];constructor
 .rintro⟨⟨h1,h2⟩,h3⟩;cases a;cases b;simp_all
 .rintro rfl;simp
def Abt (c:Ao):Bool:=X8 (Cb (sv c) (nv c) (dv c)) c && !(nv c==0)
structure TSz (t:Aj):Prop where
 co:RB 1048576 t.C
 mo:MSz t.M
def Vl (l:List Aj) (x:Aj) (j:Nat):Bool:=j==0||(match l[j-1]? with|some y=>decide (Ey y.M x.M<0) | none=>false)
def X9 (data:List Ak) (vars:List Af) (res:Af) (l:List Aj) (t:Aj) (j:Nat):Bool:=Abt t.C&&Jp data vars res t.M&&Vl l t j
def Hy (data:List Ak) (vars:List Af) (res:Af) (p:List Aj):Bool:=decide (p.length<=1000)&&p.zipIdx.all (λq=>X9 data vars res p q.1 q.2)
theorem A6m {S E:Type} (F:Bj->Bj->Option Int) (l:List Aj) (g:∀y∈l,∀x,F y.M x=some (Ey y.M x)) {x:Aj} {j:Nat} (hx:l[j]? = some x) (i:l.length<4611686018427387904) (c b:Option (S⊕E)) : (bif decide ((j:Int)>0) then ((Ag l (Ac ((j:Int)-1))).bind λf=>(F f.M x.M).bind λv28=>bif decide (v28>=0) then c else b) else b)=bif Vl l x j then b else c:=by
 have hj:=Eg hx;unfold Vl;by_cases h:j=0
 .subst h;rfl
 .rw[As ω];have e:Ac ((j:Int)-1)=((j-1:Nat):Int):=ξ;have hy:l[j-1]? = some l[j-1]:=Bt ω;rw[e,Bu rfl hy,hy];have h0:(j==0)=false:=(by simpa using h);simp only[Am,Ad,h0,Bool.false_or,g _ (getElem_mem (ω:j-1<l.length))];by_cases hc:Ey l[j-1].M x.M<0
  .rw[Ay ω,As hc];rfl
  .rw[As ω,Ay hc];rfl
theorem A6n (s:Bool) (n:Nat):(K7 s n==0)=(n==0):=by
 unfold K7;by_cases h:n=0
 .rw[Au h];subst h;rfl
 .rw[Ar h];have:(n==0)=false:=(by simpa using h);rw[this];cases s <;> rfl
theorem A6o {data:List Ak} {vars:List Af} {res:Af} (hc:Md data vars res) {b1:List (ByteArray×Int)} (b2:List (ByteArray×List Av)) (V:Dv data vars res b1) (p:List Aj) (U:∀t∈p,TSz t) :
  ∃B,Zn p b1 b2 data vars res.G res.U res.R=some (Hy data vars res p,B)/\Dv data vars res B:=by
 unfold Zn Hy
 by_cases A:p.length<=1000
 .rw[Ay ω,As A,Bool.true_and]
  simp only[Aq]
  obtain⟨r,X,S⟩:=Akw (M:=List (ByteArray×Int)) (R:=Bool×List (ByteArray×Int)) p (λq=>X9 data vars res p q.1 q.2) (λj o=>((j:Int),o)) (Dv data vars res)
   (λr=>Dv data vars res r.2/\r.1=true) (λr=>Dv data vars res r.2/\r.1=false) b1
   (s0:=((0:Int),b1))
   (step:=(λ(b,g)=>
    bif b<(p.length:Int) then (
    (Ag p b).bind λv12=>
    (Ko v12.C).bind λf=>
    (show OB from
    bif (f.N==v12.C.N) then (
    (Pl f.U v12.C.U).bind λi=>
    bif i then (
    (Pl f.B v12.C.B).bind λv17=>
    some v17)
    else some false)
    else some false).bind λE=>
    bif (!E) then some (.inr (.inl (false,g)))
    else (
    (Ik f).bind λD=>
    bif (D==(0:Int)) then some (.inr (.inl (false,g)))
    else (
    (W3 v12.M g b2 data vars res.G res.U res.R).bind λv20=>
    bif (!v20.1) then some (.inr (.inl (false,v20.2)))
    else (
    bif b>(0:Int) then (
    (Ag p (Ac (b-1))).bind λv21=>
    (Se v21.M v12.M).bind λv22=>
    bif v22>=(0:Int) then some (.inr (.inl (false,v20.2)))
    else some (.inl ((Ac (b+1)),v20.2)))
    else some (.inl ((Ac (b+1)),v20.2))))))
    else some (.inr (.inr g)):Int×List (ByteArray×Int)->Option ((Int×List (ByteArray×Int))⊕((Bool×List (ByteArray×Int))⊕List (ByteArray×Int)))))
   (J:=(λz=>match z with
    | .inl (I,G)=>some (I,G)
    | .inr L=>some (true,L)))
   rfl V ω (by
    intro j t o u hx _ h1 h2 h3
    have c:=U t (Bv hx)
    obtain⟨B,d1,d2⟩:=A5k b2 hc u t.M c.mo
    have s:∀l:List Int,l=(Cb (sv t.C) (nv t.C) (dv t.C)).U\/l=(Cb (sv t.C) (nv t.C) (dv t.C)).B->l.length<1099511627776:=by
     intro l A
     have q:=N5 (sv t.C) (nv t.C) (dv t.C) 1048577 c.co.nv c.co.dv ω
     have:=q.nl
     have:=q.dl
     rcases A with rfl|rfl <;> omega
    have k:(bif ((Cb (sv t.C) (nv t.C) (dv t.C)).N==t.C.N) then ((Pl (Cb (sv t.C) (nv t.C) (dv t.C)).U t.C.U).bind λi=>bif i then ((Pl (Cb (sv t.C) (nv t.C) (dv t.C)).B t.C.B).bind λv17=>some v17) else some false) else some false)=some (X8 (Cb (sv t.C) (nv t.C) (dv t.C)) t.C):=by
     unfold X8
     rw[At4 _ _ (s _ (.inl rfl)),At4 _ _ (s _ (.inr rfl))]
     cases ((Cb (sv t.C) (nv t.C) (dv t.C)).N==t.C.N) <;> cases decide ((Cb (sv t.C) (nv t.C) (dv t.C)).U=t.C.U) <;> rfl
    simp only[h1,h2,h3,Am,Ad,Alk t.C 1048576 c.co ω,k,A6m Se p (λy hy x=>Ata y.M x (U y hy).mo) hx ω,X9,Abt]
    cases N:X8 (Cb (sv t.C) (nv t.C) (dv t.C)) t.C with
    | false=>exact⟨nofun,λ_=>⟨_,rfl,_,rfl,u,rfl⟩⟩
    | true=>
     have e:=(At5 _ _).1 N
     simp only[bnt,Aq,Bool.true_and]
     rw[e,Agg t.C 1048576 c.co ω,Ad,A6n]
     cases (nv t.C==0) with
     | true=>exact⟨nofun,λ_=>⟨_,rfl,_,rfl,u,rfl⟩⟩
     | false=>
      simp only[Aq,d1,Ad,Bool.not_false,Bool.true_and]
      cases Jp data vars res t.M with
      | false=>exact⟨nofun,λ_=>⟨_,rfl,_,rfl,d2,rfl⟩⟩
      | true=>
       cases Vl p t j with
       | true=>exact⟨λ_=>⟨B,rfl,d2⟩,λh=>by cases h⟩
       | false=>exact⟨nofun,λ_=>⟨_,rfl,_,rfl,d2,rfl⟩⟩) (by
    intro o u h1 _
    exact⟨.inr o,by simp only[h1];rfl,_,rfl,u,rfl⟩)
  refine⟨r.2,?_,?_⟩
  .have e:some r=some (p.zipIdx.all (λq=>X9 data vars res p q.1 q.2),r.2):=by
    rcases S with⟨h1,h2,h3⟩|⟨h1,h2,h3⟩
    .rw[h1,<-h3]
    .rw[h1,<-h3]
   rw[<-e]
   exact X
  .rcases S with⟨h1,h2,h3⟩|⟨h1,h2,h3⟩ <;> exact h2
 .rw[As ω,Ay A]
  exact⟨b1,rfl,V⟩
structure CSz (x:Cd):Prop where
 ds:DSz x.D
 nv:x.V.length<=1048576
 vs:∀t∈x.V,Bz t<=1048576
 rs:Bz x.E<=1048576
def G1 (data:List Ak) (t:Af):Bool:=E6 data 0 t&&decide (Bz t<=200)
def G6 (x:Cd):Prop:=x.V.length<=3000/\Ia x.D/\G1 x.D x.E=true/\x.V.all (G1 x.D)=true
theorem G6.ctx {x:Cd} (h:G6 x) (b:CSz x):Md x.D x.V x.E:=by
 refine⟨h.2.1,b.ds.sz.short,λv t ht=>?_,h.1⟩;have good:∀t,G1 x.D t=true->Bz t<=200:=λt h=>by simp only[G1,C3,Dt]at h;exact h.2
 unfold D4 at ht;by_cases hv:v = -1
 .rw[Au hv]at ht;cases ht;exact good _ h.2.2.1
 .rw[Ar hv]at ht;exact good t (G5.1 h.2.2.2 t (Hf ht).2.2.2)
mutual
def Di:Az->Nat
 | ⟨_,_,l⟩=>1+E9 l
def E9:List Az->Nat
 | []=>0
 | x::xs=>Di x+E9 xs
end
variable {l:List Az}
theorem Me (t:Az):Di t=1+E9 t.K:=by cases t;simp only[Di]
theorem Ya (t:Az):1<=Di t:=by rw[Me];omega
theorem M0 {a:Az} (h:a∈l):Di a<=E9 l:=by
 induction l with
 | nil=>cases h
 | cons x xs ih=>
  simp only[E9];rcases F1.1 h with rfl|h
  .omega
  .have:=ih h;omega
theorem Vm (l:List Az):l.length<=E9 l:=by induction l with| nil=>simp| cons x xs ih=>simp only[E9,D8];have:=Ya x;omega
theorem At6 (l m:List Az):E9 (l++m)=E9 l+E9 m:=by induction l with| nil=>simp[E9]| cons x xs ih=>simp only[Ed,E9,ih];omega
theorem At7 {j:Nat} {x:Az} (h:l[j]? = some x):E9 (l.take (j+1))=E9 (l.take j)+Di x:=by rw[Da h,At6];simp[E9]
theorem At8 (l:List Az) (j:Nat):E9 (l.take j)<=E9 l:=by have:=At6 (l.take j) (l.drop j);rw[take_append_drop]at this;omega
theorem A6p (k:Nat) (l:List Az) (c:Nat) (L:l.length<1099511627776) (B:c<=5000) (ih:∀(a:Az),a∈l->∀f:Nat,f<=c->∃q:Int,Ph k a f=some (decide (Di a<=f),q)/\(Di a<=f->q=(f:Int)-Di a)) : ∃p:Int×Int,Xa (k+2) l c=some p/\(E9 l<=c->p.1 = -1/\p.2=(c:Int)-E9 l)/\(¬E9 l<=c->0<=p.1):=by
 rw[Xa];refine Ee (λ(v3,v4)=>∃j:Nat,v3=j/\j<=l.length/\E9 (l.take j)<=c/\v4=(c:Int)-E9 (l.take j)) (λ(v3,_)=>l.length-v3.toNat) (λz=>match z with|.inl (i,_)=>0<=i/\¬E9 l<=c | .inr v4=>E9 l<=c/\v4=(c:Int)-E9 l) ⟨0,rfl,ω,by simp[E9],by simp[E9]⟩ ?_ ?_
 .rintro⟨v3,v4⟩ ⟨j,rfl,hj,y,D⟩;have D:v4=_:=D;subst D;rcases Ch j l.length with h|h
  .have hx:l[j]? = some l[j]:=Bt h;generalize l[j]=x at hx;obtain⟨g,A,s⟩:∃g:Nat,(c:Int)-E9 (l.take j)=g/\g<=c:=⟨c-E9 (l.take j),ω,ω⟩;obtain⟨q,J,I⟩:=ih x (Bv hx) g s;have E:=At7 hx;have G:=At8 l (j+1);simp only[As (ω:(j:Int)<(l.length:Int)),Am,Bu rfl hx,Ad,Zu,A,J,C9 h ω];by_cases hb:Di x<=g
   .rw[As hb];have M:=I hb;exact .inl ⟨_,rfl,⟨j+1,rfl,ω,ω,by show q=_;omega⟩,ζ⟩
   .rw[Ay hb];exact .inr ⟨.inl ((j:Int),q),rfl,ω,ω⟩
  .have:j=l.length:=ω;subst this;rw[Db]at *;exact .inr ⟨.inr ((c:Int)-E9 l),ψ,y,rfl⟩
 .rintro (⟨i,b⟩|v4) u
  .exact⟨(i,b),rfl,λh=>absurd h u.2,λ_=>u.1⟩
  .exact⟨(-1,v4),rfl,λ_=>⟨rfl,u.2⟩,λh=>absurd u.1 h⟩
theorem A6q:∀(left:Nat) (t:Az) (k:Nat),left<=5000->4*left+4<=k->Di t<1099511627776->∃c:Int,Ph k t left=some (decide (Di t<=left),c)/\(Di t<=left->c=(left:Int)-Di t):=by
 intro left;induction left using Nat.strongRecOn with
 | _ left l=>
  intro t k y hk ht;have hp:=Ya t;have s:=Me t;have q:=Vm t.K;obtain⟨j,rfl⟩:∃j,k=j+1:=⟨k-1,ω⟩;cases left with
  | zero=>refine⟨-1,?_,λh=>ω⟩;rw[Ph,Ay (ω:¬Di t<=0)];rfl
  | succ f=>
   have x:Ac (((f+1:Nat):Int)-1)=(f:Int):=ξ;obtain⟨g,rfl⟩:∃g,j=g+3:=⟨j-3,ω⟩;obtain⟨⟨i,c⟩,h1,h2,h3⟩:=A6p g t.K f ω ω (λa ha b u=>by have:=M0 ha;exact l b ω a g ω ω ω);rw[Ph,x,Ay ω];simp only[Aq,Zt,h1,Ad];by_cases hb:E9 t.K<=f
   .obtain⟨a1,a2⟩:=h2 hb;simp only at a1 a2;refine⟨c,?_,λ_=>ω⟩;rw[Ay ω,As ω];rfl
   .have a1:=h3 hb;simp only at a1;refine⟨c,?_,λh=>ω⟩;rw[As ω,Ay ω];rfl
mutual
def Ha (data:List Ak):Az->Af->Bool
 | ⟨k,n,kids⟩,t=>
  if t.G=1 then k==3&&decide (-1099511627776<=n)&&decide (n<=1099511627776)&&kids.length==0
  else if t.G=2 then k==2&&(n==0||n==1)&&kids.length==0
  else if t.G=3 then k==1&&n==0&&kids.length==0
  else if t.G=6 then k==4&&n==0&&Ic data kids t.R
  else if t.G=5 then k==5&&decide (0<=n)&&decide (n<8)&&(match Jh data t n with|some l=>Ic data kids l|none=>false)
  else if t.G=7 then k==6&&n==0&&decide (kids.length<=4096)&&(match t.R with|u::_=>Vn data kids u | []=>false)
  else if t.G=8 then k==7&&n==0&&Ic data kids t.R
  else k==8&&decide (0<=n)&&decide (n<64)&&kids.length==0
def Ic (data:List Ak):List Az->List Af->Bool
 | [],[]=>true
 | x::xs,t::ts=>Ha data x t&&Ic data xs ts
 | [],_::_=>false
 | _::_,[]=>false
def Vn (data:List Ak):List Az->Af->Bool
 | [],_=>true
 | x::xs,t=>Ha data x t&&Vn data xs t
end
theorem Td (data:List Ak) (v:Az) (t:Af):Ha data v t = if t.G=1 then v.G==3&&decide (-1099511627776<=v.U)&&decide (v.U<=1099511627776)&&v.K.length==0 else if t.G=2 then v.G==2&&(v.U==0||v.U==1)&&v.K.length==0 else if t.G=3 then v.G==1&&v.U==0&&v.K.length==0 else if t.G=6 then v.G==4&&v.U==0&&Ic data v.K t.R else if t.G=5 then v.G==5&&decide (0<=v.U)&&decide (v.U<8)&&(match Jh data t v.U with|some l=>Ic data v.K l|none=>false) else if t.G=7 then v.G==6&&v.U==0&&decide (v.K.length<=4096)&&(match t.R with|u::_=>Vn data v.K u | []=>false) else if t.G=8 then v.G==7&&v.U==0&&Ic data v.K t.R else v.G==8&&decide (0<=v.U)&&decide (v.U<64)&&v.K.length==0:=by cases v;simp only[Ha]
theorem A6r (data:List Ak) (l:List Az) (t:Af):Vn data l t=l.all (Ha data · t):=by induction l with| nil=>rfl| cons x xs ih=>simp only[Vn,ih,all_cons]
theorem Abu (data:List Ak):∀(l:List Az) (ts:List Af),l.length≠ts.length->Ic data l ts=false
 | [],[],h=>absurd rfl h
 | x::xs,t::ts,h=>by simp only[Ic,Abu data xs ts (by simpa using h),Bool.and_false]
 | [],_::_,_=>by simp only[Ic]
 | _::_,[],_=>by simp only[Ic]
theorem Abv (data:List Ak):∀(l:List Az) (ts:List Af),l.length=ts.length->Ic data l ts=(l.zip ts).all (λq=>Ha data q.1 q.2)
 | [],[],_=>rfl
 | x::xs,t::ts,h=>by simp only[Ic,zip_cons_cons,all_cons,Abv data xs ts (by simpa using h)]
 | [],_::_,h=>by simp at h
 | _::_,[],h=>by simp at h
mutual
theorem Alp (data:List Ak) (d:Nat) (v:Int):∀t,E6 (data.take d) v t=true->E6 data v t=true
 | ⟨k,n,l⟩,h=>by
  simp only[E6,C3]at h ⊢
  refine⟨?_,At9 data d v l h.2⟩
  have h1:=h.1
  unfold Lt at h1 ⊢
  by_cases hk:k=5
  .subst hk
   simp only[getElem?_take]at h1 ⊢
   by_cases hd:n.toNat<d
   .simpa[hd] using h1
   .simp[hd]at h1
  .simp only[hk,if_false]at h1 ⊢
   exact h1
theorem At9 (data:List Ak) (d:Nat) (v:Int):∀l,Gj (data.take d) v l=true->Gj data v l=true
 | [],_=>rfl
 | x::xs,h=>by
  simp only[Gj,C3]at h ⊢
  exact⟨Alp data d v x h.1,At9 data d v xs h.2⟩
end
mutual
theorem Aua (data:List Ak) (v:Int) (σ:List Af) (hσ:∀s∈σ,E6 data 0 s=true) (hv:(σ.length:Int)=v):∀t,E6 data v t=true->E6 data 0 (Eb σ t)=true
 | ⟨k,n,l⟩,h=>by
  simp only[E6,C3]at h
  cases hV:isV σ k n with
  | true=>
   obtain⟨s,h1,_,h3⟩:=Aft hV
   rw[Abg (t:=⟨k,n,l⟩) hV h1]
   exact hσ s h3
  | false=>
   rw[Afu (t:=⟨k,n,l⟩) hV,<-Ak3]
   simp only[E6,C3]
   refine⟨?_,Aub data v σ hσ hv l h.2⟩
   rw[Ak3,C6]
   have h1:=h.1
   unfold Lt at h1 ⊢
   by_cases hk:k=4
   .exfalso
    subst hk
    simp at h1
    unfold isV at hV
    rw[As h1.1.1,As ω]at hV
    cases hV
   .simp only[hk,if_false]at h1 ⊢
    exact h1
theorem Aub (data:List Ak) (v:Int) (σ:List Af) (hσ:∀s∈σ,E6 data 0 s=true) (hv:(σ.length:Int)=v):∀l,Gj data v l=true->Gj data 0 (Oz σ l)=true
 | [],_=>rfl
 | x::xs,h=>by
  simp only[Gj,C3]at h
  simp only[Oz,Gj,C3]
  exact⟨Aua data v σ hσ hv x h.1,Aub data v σ hσ hv xs h.2⟩
end
variable {t:Af} {data:List Ak} {α β:Type}
theorem Auc (h:E6 data 0 t=true):∀a∈t.R,E6 data 0 a=true:=by rw[Aba,C3,Asf,G5]at h;exact h.2
theorem A6s (hv:Ia data) (ht:E6 data 0 t=true) {c:Int} {l:List Af} (h:Jh data t c=some l):∀a∈l,E6 data 0 a=true/\Bz a<=200:=by
 obtain⟨x,y,hk,hx,g,hy,rfl,f⟩:=Pz h;intro a ha;refine⟨?_,f a ha⟩;obtain⟨b,hb,rfl⟩:=mem_map.1 ha;obtain⟨i0,_,i,_⟩:=Hf hx;have h1:=hv.2.1 t.U.toNat x i;obtain⟨_,_,c3⟩:=h1.2.2.2.2.2 y (Hf hy).2.2.2;have c4:=G5.1 c3 b hb;refine Aua data x.V t.R (Auc ht) g b ?_;unfold S3 at c4;rw[Bool.or_eq_true]at c4;rcases c4 with h'|h'
 .exact Alp data _ _ b (Akz i h1.2.1 h').1
 .rw[C3]at h';exact Alp data _ _ b h'.1
theorem A6t (h:E6 data 0 t=true):(t.G=1\/t.G=2\/t.G=3\/t.G=5\/t.G=6\/t.G=7\/t.G=8\/t.G=9)/\(t.G=7->t.R.length=1)/\(t.G=8->t.R.length=1):=by
 rw[Aba,C3]at h;have h1:=h.1;unfold Lt at h1;by_cases q:t.G=1
 .simp[q]
 by_cases l:t.G=2
 .simp[l]
 by_cases k:t.G=3
 .simp[k]
 by_cases j:t.G=4
 .exfalso;simp[j]at h1;omega
 by_cases i:t.G=5
 .simp[i]
 by_cases g:t.G=6
 .simp[g]
 by_cases f:t.G=7
 .simp[f]at h1 ⊢;exact h1.2
 by_cases c:t.G=8
 .simp[c]at h1 ⊢;exact h1.2
 by_cases b:t.G=9
 .simp[b]
 .simp[q,l,k,j,i,g,f,c,b]at h1
theorem Agr (l:List α):((l.length:Int)==(0:Int))=(l.length==0):=Asa l 0
def Abw (m:List β) (p:α×β->Bool) (q:α×Nat):Bool:=match m[q.2]? with|some y=>p (q.1,y) | none=>false
theorem A6u (l:List α) (m:List β) (p:α×β->Bool) (h:l.length=m.length):(l.zip m).all p=l.zipIdx.all (Abw m p):=by
 rw[Bool.eq_iff_iff];constructor
 .intro ha;refine Aku λj x hx=>?_;have hj:=Eg hx;have hy:m[j]? = some m[j]:=Bt ω;simp only[Abw,hy];refine G5.1 ha _ (Bv (i:=j) ?_);rw[getElem?_zip_eq_some];exact⟨hx,hy⟩
 .intro ha;rw[G5];rintro⟨x,y⟩ hq;obtain⟨j,hj⟩:=Ht hq;rw[getElem?_zip_eq_some]at hj;have:=Jg ha hj.1;simp only[Abw,hj.2]at this;exact this
theorem A6v (hv:Ia data):∀(n:Nat) (v:Az) (t:Af) (k:Nat),Di v<=n->4*n<=k->n<=5000->E6 data 0 t=true->Bz t<=200->Sd k data v t=some (Ha data v t):=by
 intro n;induction n with
 | zero=>intro v t k h;have:=Ya v;omega
 | succ n ih=>
  intro v t k h hk hn ht D;have a1:=Me v;have a6:=Vm v.K;obtain⟨k,rfl⟩:∃k',k=k' + 4:=⟨k-4,ω⟩;obtain⟨kd,k7,k8⟩:=A6t ht;have f:∀ts:List Af,(∀a∈ts,E6 data 0 a=true/\Bz a<=200)->Sh (k+3) data v.K ts=some (Ic data v.K ts):=by
   intro ts S;rw[Sh,Aaa];by_cases V:v.K.length=ts.length
   .rw[H9 ω,Abv data _ _ V,A6u _ _ _ V];simp only[Aq];have key:=Aa8 v.K (Abw ts (λq=>Ha data q.1 q.2)) (λj=>(j:Int)) (s0:=(0:Int)) rfl ω (rt:=true) (rf:=false) (J:=λz:Bool⊕Unit=>match z with|.inl R=>some R | .inr _=>some true)
     (step:=λE=>bif E<(v.K.length:Int) then ((Ag v.K E).bind λX=>(Ag ts E).bind λv9=>(Xb (k+1) X v9 data).bind λv11=>bif (!v11) then some (.inr (.inl false)) else some (.inl (Ac (E+1)))) else some (.inr (.inr ()))) (by intro j x hx _ h1 h2 h3;have hy:ts[j]? = some (ts[j]'(by have:=Eg hx;omega)):=Bt (by have:=Eg hx;omega);generalize ts[j]'(by have:=Eg hx;omega)=y at hy;have s:=S y (Bv hy);have hxm:=M0 (Bv hx);simp only[h1,h2,h3,Am,Ad,Bu rfl hy,Abw,hy,Xb,ih x y k ω ω ω s.1 s.2];cases Ha data x y with| true=>exact⟨λ_=>rfl,λh=>by cases h⟩| false=>exact⟨nofun,λ_=>⟨.inl false,rfl,rfl⟩⟩) (by intro h _;exact⟨.inr (),by simp only[h];rfl,rfl⟩)
    rw[Afo]at key;exact congrArg (λq=>Option.bind q some) key
   .rw[Gx ω,Abu data _ _ V];rfl
  have b:∀a∈t.R,E6 data 0 a=true/\Bz a<=200:=λa ha=>⟨Auc ht a ha,by have:=Kb ha;have:=Jx t;omega⟩;rw[Sd,Td];by_cases N:t.G=1
  .rw[Ew N,Au N,Agr];cases (v.G==3) <;> cases decide (-1099511627776<=v.U) <;> cases decide (v.U<=1099511627776) <;> rfl
  rw[C7 N,Ar N];by_cases M:t.G=2
  .rw[Ew M,Au M,Agr];cases (v.G==2) <;> cases (v.U==0) <;> cases (v.U==1) <;> rfl
  rw[C7 M,Ar M];by_cases L:t.G=3
  .rw[Ew L,Au L,Agr];cases (v.G==1) <;> cases (v.U==0) <;> rfl
  rw[C7 L,Ar L];by_cases G:t.G=6
  .rw[Ew G,Au G,f t.R b];cases (v.G==4) <;> cases (v.U==0) <;> rfl
  rw[C7 G,Ar G];by_cases I:t.G=5
  .rw[Ew I,Au I,A41 hv.szv t D];simp only[Aq,Am];by_cases g1:v.G=5
   .rw[H9 g1,Ew g1];by_cases g2:v.U<0
    .rw[As g2,Ay (ω:¬0<=v.U)];rfl
    .by_cases g3:v.U>=8
     .rw[Ay g2,As g3,Ay (ω:¬v.U<8)];simp
     .rw[Ay g2,Ay g3,As (ω:0<=v.U),As (ω:v.U<8)];simp only[Aq,Ad,Bool.true_and];cases hf:Jh data t v.U with| none=>rfl| some l=>simp only[okL,Am];rw[f l (A6s hv ht hf)];rfl
   .rw[Gx g1,C7 g1];rfl
  rw[C7 I,Ar I];by_cases c:t.G=7
  .rw[Ew c,Au c,show decide ((v.K.length:Int)<=4096)=decide (v.K.length<=4096) by congr 1;simp only[eq_iff_iff];omega];have U:=k7 c
   match A:t.R,U with
   | [u],_=>
    have hu:=b u (by rw[A];simp);have B:Aa2 (k+3) v.K data t=some (!Vn data v.K u):=by
     rw[Aa2,Afd,A6r];have key:=Akv v.K (λx=>!Ha data x u) ω (J:=λz=>match z with|.inl Y=>some Y | .inr _=>some (-1)) (step:=λv3=>bif v3<(v.K.length:Int) then ((Ag v.K v3).bind λv4=>(W4 (k+1) v4 data t).bind λv5=>bif v5 then some (.inr (.inl v3)) else some (.inl (Ac (v3+1)))) else some (.inr (.inr ()))) (by intro j x hx h1 h2 h3;have hxm:=M0 hx;have hi:Ag t.R 0=some u:=(by rw[A];rfl);simp only[h1,h2,h3,Am,Ad,W4,hi,ih x u k ω ω ω hu.1 hu.2]) (λh=>by simp only[h];rfl) (λ_=>rfl) rfl
     obtain⟨i,i1,i2⟩:=key
     erw[i1];simp only[Ad,i2];rw[any_eq_not_all_not];simp
    simp only[Aq,Am,B,Ad];cases (v.G==6) <;> cases (v.U==0) <;> cases decide (v.K.length<=4096) <;> cases Vn data v.K u <;> rfl
  rw[C7 c,Ar c];by_cases g:t.G=8
  .rw[Ew g,Au g,f t.R b];cases (v.G==7) <;> cases (v.U==0) <;> rfl
  rw[C7 g,Ar g];have Z:t.G=9:=ω;rw[Ew Z,Agr];cases (v.G==8) <;> cases decide (0<=v.U) <;> cases decide (v.U<64) <;> rfl
def M1 (data:List Ak) (v:Az) (t:Af):Bool:=G1 data t&&decide (Di v<=5000)&&Ha data v t
theorem Aud (j:DSz data) (v:Az) (t:Af) (f:Di v<1099511627776) (ht:Bz t<=1048576):∃b,Ql data v t=some b/\(b=true↔Ia data/\M1 data v t=true):=by
 obtain⟨b,b1,b2⟩:=Afs j;unfold Ql Aee M1;rw[b1,Xu data t 0 ω];simp only[Ad];rw[show (E6 data 0 t&&decide (Bz t<=200))=G1 data t from rfl];cases b with
 | false=>exact⟨false,rfl,by simp;intro h;have:=b2.2 h;cases this⟩
 | true=>
  have hv:=b2.1 rfl;cases hg:G1 data t with
  | false=>exact⟨false,rfl,ψ⟩
  | true=>
   obtain⟨k,i,_⟩:=A6q 5000 v 4000000 ω ω f;have i:Ph 4000000 v 5000=_:=i;simp only[Am,Ad,i];by_cases g:Di v<=5000
   .have c:=hg;simp only[G1,C3,Dt]at c;rw[As g];simp only[Am,A6v hv 5000 v t 4000000 g ω ω c.1 c.2,Ad];exact⟨_,rfl,by simp[hv]⟩
   .rw[Ay g];exact⟨false,rfl,ψ⟩
mutual
def Iu (data:List Ak) (d:Int):Az->List Az
 | ⟨k,n,kids⟩=>⟨k,n,kids⟩::Iv data d kids (D3 data d n)
def Iv (data:List Ak) (d:Int):List Az->List Bool->List Az
 | x::xs,b::bs=>(bif b then Iu data d x else [])++Iv data d xs bs
 | [],_=>[]
 | _::_,[]=>[]
end
theorem Aue (data:List Ak) (d:Int) (v:Az):Iu data d v=v::Iv data d v.K (D3 data d v.U):=by cases v;simp only[Iu]
mutual
theorem Alq (data:List Ak) (d:Int):∀v,(Iu data d v).length<=Di v
 | ⟨k,n,kids⟩=>by
  have:=Alr data d kids (D3 data d n)
  simp only[Iu,Di,D8];omega
theorem Alr (data:List Ak) (d:Int):∀l r,(Iv data d l r).length<=E9 l
 | x::xs,b::bs=>by
  have h1:=Alq data d x
  have h2:=Alr data d xs bs
  cases b <;> simp only[Iv,E9,E5,Am,Aq,length_nil] <;> omega
 | [],_=>by simp[Iv]
 | _::_,[]=>by simp[Iv]
end
variable {res:Af} {t:Aj} {a b:Ao} {m:Bj} {x y:Int} {vars:List Af} {p:List Aj} {data:List Ak} {j k:Nat} {α:Type} {S:α->Prop} {g:α->α->Int}
theorem Auf (data:List Ak) (d:Int):∀(l:List Az) (r:List Bool) (x:Az) (b:Bool),l.length=r.length->Iv data d (l++[x]) (r++[b])=Iv data d l r++(bif b then Iu data d x else [])
 | [],[],x,b,_=>by simp[Iv]
 | y::ys,c::cs,x,b,h=>by simp only[Ed,Iv,Auf data d ys cs x b (by simpa using h),append_assoc]
 | [],_::_,_,_,h=>by simp at h
 | _::_,[],_,_,h=>by simp at h
theorem A6w {a:Af} {d vars:Int} {σ:List Af} (h:Kr a d vars=true) (g:(σ.length:Int)=vars):Eb σ a=⟨5,d,σ⟩:=by
 unfold Kr at h;simp only[C3,beq_iff_eq]at h;obtain⟨⟨⟨h1,h2⟩,h3⟩,f⟩:=h;have hv:isV σ a.G a.U=false:=by unfold isV;rw[h1];rfl
 rw[Afu hv,h1,h2];congr 1;apply ext_getElem?;intro j;rw[getElem?_map];cases hx:a.R[j]? with| none=>rw[List.getElem?_eq_none_iff]at hx;rw[Lp ω];rfl| some x=>have hj:=Eg hx;have:=Jg f hx;simp only[S0,C3,beq_iff_eq]at this;have c:σ[j]? = some (σ[j]' ω):=Bt ω;generalize σ[j]' ω=s at c;have b:isV σ x.G x.U=true:=(by unfold isV;rw[this.1.1,this.1.2,As ω,As ω];rfl);rw[c,Option.map_some,Abg b (by rw[this.1.2];exact c)]
theorem Ags {v:Az} {t:Af} (hk:t.G=5) (h:Ha data v t=true) : ∃x,Ag data t.U=some x/\0<=v.U/\v.U<x.O.length/\(D3 data t.U v.U).length=v.K.length/\∀(j:Nat) (w:Az),v.K[j]? = some w->(D3 data t.U v.U)[j]? = some true->Ha data w t=true:=by
 rw[Td,Ar ω,Ar ω,Ar ω,Ar ω,Au hk]at h;cases hf:Jh data t v.U with
 | none=>rw[hf]at h;simp at h
 | some l=>
  rw[hf]at h;simp only[C3]at h;have b:=h.2;have c:v.K.length=l.length:=by
   by_cases q:v.K.length=l.length
   .exact q
   .rw[Abu data _ _ q]at b;cases b
  have D:=Xw hf;obtain⟨x,y,_,hx,s,hy,q,_⟩:=Pz hf;obtain⟨B,A,_,_⟩:=Hf hy;refine⟨x,hx,B,A,ω,λj w hw z=>?_⟩;rw[Abv data _ _ c]at b;have hj:=Eg hw;have g:l[j]? = some (l[j]' ω):=Bt ω;have hh:=G5.1 b (w,l[j]' ω) (Bv (i:=j) (by rw[getElem?_zip_eq_some];exact⟨hw,g⟩));simp only at hh;have ha:y.R[j]? = some (y.R[j]'(by rw[q]at c;simp at c;omega)):=Bt _;generalize y.R[j]'_=a at ha;have u:(D3 data t.U v.U)[j]? = some (Kr a t.U x.V):=(by unfold D3;simp only[hx,hy,getElem?_map,ha,Option.map_some]);rw[u]at z;have f:=Eo z;have k:l[j]? = some (Eb t.R a):=(by rw[q,getElem?_map,ha];rfl);rw[k]at g;rw[<-Eo g,A6w f s]at hh;have:(Af.mk 5 t.U t.R)=t:=(by cases t;simp only at hk;rw[hk]);rw[this]at hh;exact hh
theorem A6x {t:Af} (hk:t.G=5) (B:List (List Bool)) (I:∀(x:Ak),Ag data t.U=some x->∀n:Int,0<=n->n<x.O.length->Ag B n=some (D3 data t.U n)):∀(n:Nat) (v:Az) (k:Nat) (b:List Az),Di v<=n->n<=k->n<=1048576->b.length+Di v<=1048576->Ha data v t=true->U2 k v b B=some (b++Iu data t.U v):=by
 intro n;induction n with
 | zero=>intro v k b h;have:=Ya v;omega
 | succ n ih=>
  intro v k b h E J hb G;obtain⟨k,rfl⟩:∃s,k=s+1:=⟨k-1,ω⟩;have y:=Me v;have z:=Vm v.K;obtain⟨x,hx,q,l,i,f⟩:=Ags hk G;rw[U2,Ds ζ,Ad,Abd b [] _ _ b.length rfl rfl,Ad,Abc b [] _ _ _ b.length rfl rfl,I x hx v.U q l,Ad,Aue];generalize L:D3 data t.U v.U=R at *;have g:∀j,(Iv data t.U (v.K.take j) (R.take j)).length<=E9 (v.K.take j):=λj=>Alr _ _ _ _;refine F3 R (λj=>((j:Int),b++[v]++Iv data t.U (v.K.take j) (R.take j))) (by simp[Iv]) ω ?_ ?_
  .intro j c hj hc h1 h2 h3;have hw:v.K[j]? = some (v.K[j]' ω):=Bt ω;generalize v.K[j]'_=w at hw;have u:=M0 (Bv hw);have A:=At7 hw;have D:=At8 v.K (j+1);have hp:=g j;simp only[h1,h2,h3,Am,Ad,Bu rfl hw,Da hw,Da hc];rw[Auf _ _ _ _ _ _ ζ];cases c with| false=>simp| true=>rw[ih w k _ ω ω ω ζ (f j w hw hc)];simp
  .intro h1;refine⟨b++(v::Iv data t.U v.K R),?_,rfl⟩;simp only[h1];rw[Ih (ω:v.K.length<=R.length),Db];simp
theorem A6y (k:Mv data) (l:∀x∈data,x.O.length<=8) {t:Af} (hk:t.G=5) (v:Az) (hv:Di v<=5000) (h:Ha data v t=true):Aac data t v=some (Iu data t.U v):=by
 obtain⟨x,hx,u,s,g,f⟩:=Ags hk h;have i:=l x (Hf hx).2.2.2;unfold Aac;rw[hx,Ad];refine F3 x.O (λj=>((j:Int),(range j).map λc:Nat=>D3 data t.U (c:Int))) rfl ω ?_ ?_
 .intro j y hj hy h1 h2 h3;simp only[h1,h3,Am,Xv data t.U (j:Int) k,Ad];rw[Ds ζ,Ad,range_succ];simp
 .intro h1;refine⟨(range x.O.length).map λc:Nat=>D3 data t.U (c:Int),ψ,?_⟩;rw[A6x hk _ (λq b n a1 a2=>?_) 5000 v 4000000 [] hv ω ω ζ h]
  .rfl
  .rw[hx]at b;cases b;rw[Bu (n:=n.toNat) ω];rw[getElem?_map,getElem?_range ω];simp only[Option.map_some];rw[show ((n.toNat:Nat):Int)=n by omega]
theorem A6z:∀(k:Nat) (t:Af),Bz t<=k->k<1099511627776->∃i,U5 k t=some i/\True:=by
 intro k;induction k with
 | zero=>intro t h;have:=Vd t;omega
 | succ k ih=>
  intro t h hk;have g:=Jx t;have c:=Lr t.R;rw[U5];refine Py ?_ ⟨_,rfl,trivial⟩;refine Ee (λ(i,o)=>∃j:Nat,i=j/\j<=t.R.length/\o.length=j) (λ(i,_)=>t.R.length-i.toNat) (λ_=>True) ⟨0,rfl,ω,rfl⟩ ?_ (λe _=>⟨_,rfl,trivial⟩);rintro⟨i,o⟩ ⟨j,rfl,hj,b⟩;rcases Ch j t.R.length with h'|h'
  .have hx:t.R[j]? = some t.R[j]:=Bt h';generalize t.R[j]=x at hx;have l:=Kb (Bv hx);obtain⟨y,f,_⟩:=ih x ω ω;simp only[As (ω:(j:Int)<(t.R.length:Int)),Am,Bu rfl hx,Ad,f,C9 h' ω];have b:o.length=j:=b;rw[Ds ζ,Ad];exact .inl ⟨_,rfl,⟨j+1,rfl,ω,by simp[b]⟩,ζ⟩
  .have:j=t.R.length:=ω;subst this;exact .inr ⟨o,ψ,trivial⟩
theorem Agt (c:DSz data) (hv:Ia data) (t:Af) (hg:G1 data t=true) (i:Ai) (hi:Ca i<=1048576):Mq data t i=some (Jo (Dj data i t)):=by
 have b:=hg;simp only[G1,C3,Dt]at b;obtain⟨q,g,f⟩:=Afs c;have hq:q=true:=f.2 hv;subst hq;unfold Mq Ur;rw[g,Xu data t 0 ω];simp only[Ad,Am];rw[show (E6 data 0 t&&decide (Bz t<=200))=G1 data t from rfl,hg];obtain⟨p,j,h⟩:=(A43 hv.szv c.sz.short 4000000).1 i t ω hi b.2;simp only[bnt,Aq,j,Ad];rcases h with⟨a1,d,a2,a3,a4⟩|⟨a1,a2⟩
 .rw[a1,a2,Q6 a3,a4];rfl
 .rw[a1,Asw a2];rfl
theorem Agu (h:Jp data vars res m=true):(∀f∈m.F,∃t,D4 vars res f.v=some t)/\m.F.length<=6:=by
 unfold Jp at h;simp only[C3,Dt]at h;obtain⟨⟨h1,h2⟩,h3⟩:=h;have hf:∀f∈m.F,1<=Eh data vars res f:=by intro f hf;obtain⟨j,hj⟩:=Ht hf;have:=Jg h1 hj;simp only[P5,C3,Dt]at this;exact this.1
 have ha:0<=Dy m.A:=(Atj m.A (λa ha=>by obtain⟨j,hj⟩:=Ht ha;have:=Jg h2 hj;simp only[N4,C3,Dt]at this;omega)).1;refine⟨λf b=>?_,?_⟩
 .have:=hf f b;unfold Eh at this;cases ht:D4 vars res f.v with
  | none=>rw[ht]at this;have:(1:Int)<=-1:=this;omega
  | some t=>exact⟨t,rfl⟩
 .have key:∀l:List Bh,(∀f∈l,1<=Eh data vars res f)->(l.length:Int)<=Cn data vars res l:=(by intro l;induction l with| nil=>intro _;simp[Cn]| cons f fs ih=>intro c;have h1:=c f ψ;have h2:=ih (λg hg=>c g (by simp[hg]));unfold Cn at *;simp only[map_cons,sum_cons,D8];omega);have:=key m.F hf;omega
theorem A60 (a b:Ao) (j k:Nat) (ha:RB j a) (hb:RB k b) (hj:j<34359738000) (hk:k<34359738000):∃c,Ec a b=some c/\Ua a b=some c/\RB (j+k+2) c:=by refine⟨_,X4 a b j k ha hb ω ω,A6c a b j k ha hb ω ω,?_⟩;have h1:=ha.nv;have h2:=ha.dv;have h3:=hb.nv;have h:=hb.dv;have g:=Hx (nv a) (nv b);have f:=Hx (dv a) (dv b);exact N5 _ _ _ _ ω ω ω
theorem A61 (a b:Ao) (j k:Nat) (ha:RB j a) (hb:RB k b) (hj:j<34359738000) (hk:k<34359738000):∃c,Iy a b=some c/\R6 a b=some c/\RB (j+k+3) c:=by
 refine⟨_,Agh a b j k ha hb ω ω,A6e a b j k ha hb ω ω,?_⟩;have h1:=ha.nv;have h2:=ha.dv;have h3:=hb.nv;have s:=hb.dv;have q:=Hx (nv a) (dv b);have l:=Hx (nv b) (dv a);have i:=Hx (dv a) (dv b);have f:Kd (sv a) (nv a) (dv a) (sv b) (nv b) (dv b)<=nv a*dv b+nv b*dv a:=by
  unfold Kd;split
  .omega
  .split <;> omega
 have h:=I4 f;have g:=Aa7 (nv a*dv b) (nv b*dv a);exact N5 _ _ _ _ ω ω ω
theorem A62 (k:Nat):RB k ⟨false,[],[]⟩:=⟨nofun,nofun,ψ,ψ⟩
def sg (s:Bool) (n:Nat):Int:=if s then -(n:Int) else n
def rq (a:Ao):Rat:=mkRat (sg (sv a) (nv a)) (dv a)
def Hu (a:Ao):Prop:=a=Cb (sv a) (nv a) (dv a)
theorem O1 (s:Bool) (n d:Nat) (hd:d≠0):rq (Cb s n d)=mkRat (sg s n) d:=by
 obtain⟨g,hg,h1,h2,h3,f⟩:=Agq s n d hd;unfold rq;rw[Rat.mkRat_eq_iff (F4 _) hd];generalize nv (Cb s n d)=b at *;generalize dv (Cb s n d)=i at *;generalize sv (Cb s n d)=s' at *;by_cases c:n=0
 .have:b=0:=by
   rcases Nat.eq_zero_or_pos b with h|h
   .exact h
   .have:=Nat.mul_pos (Nat.pos_of_ne_zero hg) h;omega
  subst this;subst c;cases s <;> cases s' <;> simp[sg]
 .rw[h3 c,h1,h2];cases s <;> simp only[sg,if_true,if_false,Bool.false_eq_true,Int.natCast_mul] <;> grind
theorem Re (s:Bool) (n d:Nat) (hd:d≠0):Hu (Cb s n d):=by
 obtain⟨g,hg,h1,h2,h3,f⟩:=Agq s n d hd;unfold Hu;generalize hc:Cb s n d=c at h1 h2 h3 f;have e:=Tb s (nv c) (dv c) g hg;rw[<-h1,<-h2,hc]at e;by_cases b:n=0
 .have h0:nv c=0:=by
   rcases Nat.eq_zero_or_pos (nv c) with h|h
   .exact h
   .have:=Nat.mul_pos (Nat.pos_of_ne_zero hg) h;omega
  rw[h0,Abq]at e ⊢;exact e
 .rw[h3 b];exact e
theorem Aug (n m:Int) {d e:Nat} (hd:d≠0) (g:e≠0):mkRat n d<mkRat m e↔n*e<m*d:=by
 have c:(0:Rat)<(d:Rat):=Rat.natCast_pos.2 ω;have b:(0:Rat)<(e:Rat):=Rat.natCast_pos.2 ω;rw[Rat.mkRat_eq_div,Rat.mkRat_eq_div,Rat.div_lt_iff c];rw[<-Rat.mul_lt_mul_right b];have f:(m:Rat) / (e:Rat)*(d:Rat)*(e:Rat)=(m:Rat)*(d:Rat):=by grind
 rw[f];have a1:(n:Rat)*(e:Rat)=((n*(e:Int):Int):Rat):=by rw[Rat.intCast_mul];rfl
 have a2:(m:Rat)*(d:Rat)=((m*(d:Int):Int):Rat):=by rw[Rat.intCast_mul];rfl
 rw[a1,a2,Rat.intCast_lt_intCast]
theorem Abx (ha:Hu a) (hb:Hu b) (h:rq a=rq b):a=b:=by
 unfold rq at h;rw[Rat.mkRat_eq_iff (F4 _) (F4 _)]at h;rw[ha,hb];have l:=F4 a;have k:=F4 b;generalize nv a=n at *;generalize dv a=d at *;generalize sv a=s at *;generalize nv b=m at *;generalize dv b=e at *;generalize sv b=t at *;have hh:n*e=m*d/\(n≠0->s=t):=by
  have c:n≠0->0<n*e:=λh=>Nat.mul_pos ω ω;have f:m≠0->0<m*d:=λh=>Nat.mul_pos ω ω;have c1:((n*e:Nat):Int)=(n:Int)*e:=ψ;have c2:((m*d:Nat):Int)=(m:Int)*d:=ψ;cases s <;> cases t <;> simp only[sg,if_true,if_false,Bool.false_eq_true,Int.neg_mul]at h
  .exact⟨ω,λ_=>rfl⟩
  .have:n*e=0/\m*d=0:=ω;refine⟨ω,λg=>?_⟩;have:=c g;omega
  .have:n*e=0/\m*d=0:=ω;refine⟨ω,λg=>?_⟩;have:=c g;omega
  .exact⟨ω,λ_=>rfl⟩
 have j:=Tb s n d e k;have i:=Tb t m e d l;rw[<-j,<-i,Nat.mul_comm e n,hh.1,Nat.mul_comm e d,Nat.mul_comm m d];refine Atu λh0=>hh.2 ?_;rintro rfl;rw[Nat.zero_mul]at hh;have:=hh.1;rw[Nat.mul_comm d m]at h0;omega
theorem Auh (j:Bool) (c g:Nat) (i:Bool) (b f:Nat):sg (Lv j c g i b f) (Kd j c g i b f)=sg j c*f+sg i b*g:=by
 unfold Lv Kd sg;have c1:((c*f:Nat):Int)=(c:Int)*f:=ψ;have c2:((b*g:Nat):Int)=(b:Int)*g:=ψ;cases j <;> cases i <;> simp only[if_true,if_false,Bool.false_eq_true,Bool.true_eq_false,Int.neg_mul]
 .omega
 .by_cases h:b*g<=c*f
  .simp only[Au h];simp only[if_false,Bool.false_eq_true];omega
  .simp only[Ar h];simp only[if_true];omega
 .by_cases h:b*g<=c*f
  .simp only[Au h];simp only[if_true];omega
  .simp only[Ar h];simp only[if_false,Bool.false_eq_true];omega
 .omega
theorem Vo (ha:RB j a) (hb:RB k b) (hj:j<34359738000) (hk:k<34359738000):∃c,Iy a b=some c/\R6 a b=some c/\RB (j+k+3) c/\Hu c/\rq c=rq a+rq b:=by
 obtain⟨c,h1,h2,h3⟩:=A61 a b j k ha hb hj hk;have e:=Agh a b j k ha hb ω ω;rw[h1]at e;have e:=Eo e;have hd:dv a*dv b≠0:=Nat.mul_ne_zero (F4 a) (F4 b);refine⟨c,h1,h2,h3,?_,?_⟩
 .rw[e];exact Re _ _ _ hd
 .rw[e,O1 _ _ _ hd,Auh,rq,rq,Rat.mkRat_add_mkRat _ _ (F4 a) (F4 b)]
theorem Aui (s t:Bool) (n m:Nat):sg (s != t) (n*m)=sg s n*sg t m:=by unfold sg;cases s <;> cases t <;> simp[Int.neg_mul,Int.mul_neg]
theorem Rf (ha:RB j a) (hb:RB k b) (hj:j<34359738000) (hk:k<34359738000):∃c,Ec a b=some c/\RB (j+k+2) c/\Hu c/\rq c=rq a*rq b:=by have hd:dv a*dv b≠0:=Nat.mul_ne_zero (F4 a) (F4 b);have h1:=ha.nv;have h2:=ha.dv;have h3:=hb.nv;have h:=hb.dv;have g:=Hx (nv a) (nv b);have f:=Hx (dv a) (dv b);refine⟨_,X4 a b j k ha hb ω ω,N5 _ _ _ _ ω ω ω,Re _ _ _ hd,?_⟩;rw[O1 _ _ _ hd,Aui,rq,rq,Rat.mkRat_mul_mkRat]
theorem A63 (ha:RB j a) (hb:RB k b) (hj:j<34359738000) (hk:k<34359738000):∃c,Ec a b=some c/\Ua a b=some c/\RB (j+k+2) c/\Hu c/\rq c=rq a*rq b:=by
 obtain⟨c,h1,h2,h3⟩:=A60 a b j k ha hb hj hk;have e:=X4 a b j k ha hb ω ω;rw[h1]at e;have e:=Eo e;have hd:dv a*dv b≠0:=Nat.mul_ne_zero (F4 a) (F4 b);refine⟨c,h1,h2,h3,?_,?_⟩
 .rw[e];exact Re _ _ _ hd
 .rw[e,O1 _ _ _ hd,Aui,rq,rq,Rat.mkRat_mul_mkRat]
def N6 (x:Rat):Int:=if x<0 then -1 else if 0<x then 1 else 0
theorem A64 (a:Ao):rq a<0↔K7 (sv a) (nv a) = -1:=by have e:(0:Rat)=mkRat 0 1:=ψ;rw[rq,e,Aug _ _ (F4 a) δ];unfold sg K7;split <;> split <;> simp <;> omega
theorem A65 (a:Ao):0<rq a↔K7 (sv a) (nv a)=1:=by have e:(0:Rat)=mkRat 0 1:=ψ;rw[rq,e,Aug _ _ δ (F4 a)];unfold sg K7;split <;> split <;> simp <;> omega
theorem A66 (a:Ao):K7 (sv a) (nv a)=N6 (rq a):=by
 have h1:=A64 a;have h2:=A65 a;have h3:K7 (sv a) (nv a) = -1\/K7 (sv a) (nv a)=0\/K7 (sv a) (nv a)=1:=by unfold K7;split <;> (try split) <;> simp
 unfold N6;split
 .rename_i h;exact h1.1 h
 .rename_i h;split
  .rename_i h';exact h2.1 h'
  .rename_i h';rcases h3 with h3|h3|h3
   .exact (h (h1.2 h3)).elim
   .exact h3
   .exact (h' (h2.2 h3)).elim
theorem Aby (h:RB k a) (hk:k<34359738000):Ik a=some (N6 (rq a))/\True:=by rw[<-A66];exact⟨Agg a k h ω,trivial⟩
structure F9 {α:Type} (S:α->Prop) (g:α->α->Int):Prop where
 zero:∀a b,S a->S b->(g a b=0↔a=b)
 anti:∀a b,S a->S b->g b a = - g a b
 trans:∀a b c,S a->S b->S c->g a b<0->g b c<0->g a c<0
theorem F9.cmpI:F9 (λ_:Int=>True) Gz:=by
 refine⟨λa b _ _=>Ks,λa b _ _=>?_,λa b c _ _ _=>?_⟩
 .unfold Go.Ab.Gz;split <;> split <;> (try split) <;> (try split) <;> omega
 .unfold Go.Ab.Gz;intro h1 h2;split at h1 <;> (try split at h1) <;> split at h2 <;> (try split at h2) <;> first|omega | (rw[Au ω];decide)
theorem Auj:orI x y<0↔x<0\/(x=0/\y<0):=by unfold orI;split <;> omega
theorem Auk:orI x y=0↔x=0/\y=0:=by unfold orI;split <;> omega
theorem F9.or {β γ:Type} {s:β->Prop} {l:γ->Prop} {j:β->β->Int} {i:γ->γ->Int} (p:α->β) (q:α->γ) (g:∀a b,p a=p b->q a=q b->a=b) (h1:F9 s j) (h2:F9 l i) (f:∀a,S a->s (p a)/\l (q a)) : F9 S (λa b=>orI (j (p a) (p b)) (i (q a) (q b))):=by
 refine⟨λa b ha hb=>?_,λa b ha hb=>?_,λa b c ha hb hc=>?_⟩
 .rw[Auk,h1.zero _ _ (f a ha).1 (f b hb).1,h2.zero _ _ (f a ha).2 (f b hb).2];exact⟨λh=>g a b h.1 h.2,λh=>by subst h;exact⟨rfl,rfl⟩⟩
 .show orI (j (p b) (p a)) (i (q b) (q a)) = - orI (j (p a) (p b)) (i (q a) (q b));have z:=h1.anti _ _ (f a ha).1 (f b hb).1;have y:=h2.anti _ _ (f a ha).2 (f b hb).2;rw[z,y];unfold orI;split <;> split <;> omega
 .show orI _ _<0->orI _ _<0->orI _ _<0;simp only[Auj];have u:=h1.zero _ _ (f a ha).1 (f b hb).1;have z2:=h1.zero _ _ (f b hb).1 (f c hc).1;have t1:=h1.trans _ _ _ (f a ha).1 (f b hb).1 (f c hc).1;have t2:=h2.trans _ _ _ (f a ha).2 (f b hb).2 (f c hc).2;rintro (h|⟨h,h'⟩) (k|⟨k,x⟩)
  .exact .inl (t1 h k)
  .rw[<-z2.1 k];exact .inl h
  .rw[u.1 h];exact .inl k
  .rw[<-z2.1 k,h];exact .inr ⟨rfl,t2 h' x⟩
theorem F9.mono {S':α->Prop} (h:F9 S g) (f:∀a,S' a->S a):F9 S' g := ⟨λa b ha hb=>h.zero a b (f a ha) (f b hb),λa b ha hb=>h.anti a b (f a ha) (f b hb),λa b c ha hb hc=>h.trans a b c (f a ha) (f b hb) (f c hc)⟩
theorem F9.congr {c:α->α->Int} (h:F9 S g) (e:∀a b,c a b=g a b):F9 S c:=by have:c=g:=funext λa=>funext λb=>e a b;rw[this];exact h
def LL (g:α->α->Int) (l m:List α):Int:=if l.length=m.length then G0 g l m else Go.Ab.Gz l.length m.length
theorem Aul {α:Type} {S:α->Prop} {g:α->α->Int} (h:F9 S g):∀l m:List α,l.length=m.length->(∀x∈l,S x)->(∀x∈m,S x)->(G0 g l m=0↔l=m)
 | [],[],_,_,_=>by simp[G0]
 | x::xs,y::ys,b,h1,h2=>by simp only[G0,Auk,h.zero x y (h1 x ψ) (h2 y ψ),Aul h xs ys (by simpa using b) (λz c=>h1 z (by simp[c])) (λz c=>h2 z (by simp[c])),List.cons.injEq]
 | [],_::_,b,_,_=>by simp at b
 | _::_,[],b,_,_=>by simp at b
theorem Aum {α:Type} {S:α->Prop} {g:α->α->Int} (h:F9 S g):∀l m:List α,l.length=m.length->(∀x∈l,S x)->(∀x∈m,S x)->G0 g m l = - G0 g l m
 | [],[],_,_,_=>by simp[G0]
 | x::xs,y::ys,b,h1,h2=>by simp only[G0,h.anti x y (h1 x ψ) (h2 y ψ),Aum h xs ys (by simpa using b) (λz c=>h1 z (by simp[c])) (λz c=>h2 z (by simp[c]))];unfold orI;split <;> split <;> omega
 | [],_::_,b,_,_=>by simp at b
 | _::_,[],b,_,_=>by simp at b
theorem Aun {α:Type} {S:α->Prop} {g:α->α->Int} (h:F9 S g):∀l m n:List α,l.length=m.length->m.length=n.length->(∀x∈l,S x)->(∀x∈m,S x)->(∀x∈n,S x)->G0 g l m<0->G0 g m n<0->G0 g l n<0
 | [],[],_,_,_,_,_,_=>by intro h;simp[G0]at h
 | x::xs,y::ys,z::j,f,i,h1,h2,h3=>by
  simp only[G0,Auj];have k:=h.zero x y (h1 x ψ) (h2 y ψ);have z2:=h.zero y z (h2 y ψ) (h3 z ψ);have t1:=h.trans x y z (h1 x ψ) (h2 y ψ) (h3 z ψ);have t2:=Aun h xs ys j (by simpa using f) (by simpa using i) (λz c=>h1 z (by simp[c])) (λz c=>h2 z (by simp[c])) (λz c=>h3 z (by simp[c]));rintro (a|⟨a,s⟩) (b|⟨b,q⟩)
  .exact .inl (t1 a b)
  .rw[<-z2.1 b];exact .inl a
  .rw[k.1 a];exact .inl b
  .rw[<-z2.1 b,a];exact .inr ⟨rfl,t2 s q⟩
 | _::_,_::_,[],_,i,_,_,_=>by simp at i
 | [],_::_,_,f,_,_,_,_=>by simp at f
 | _::_,[],_,f,_,_,_,_=>by simp at f
theorem F9.ll (h:F9 S g):F9 (λl=>∀x∈l,S x) (LL g):=by
 have c:=F9.cmpI;refine⟨λa b ha hb=>?_,λa b ha hb=>?_,λx y z hx hy q=>?_⟩
 .unfold LL;split
  .rename_i i;exact Aul h a b i ha hb
  .rename_i i;rw[Ks];exact⟨λe=>(i ω).elim,λe=>(i (by rw[e])).elim⟩
 .unfold LL;by_cases i:a.length=b.length
  .rw[Au i,Au i.symm];exact Aum h a b i ha hb
  .rw[Ar i,Ar (λe=>i e.symm)];exact c.anti _ _ trivial trivial
 .unfold LL;intro h1 h2;have neg:∀a b:Int,Go.Ab.Gz a b<0->a<b:=(by intro a b h;unfold Go.Ab.Gz at h;split at h <;> (try split at h) <;> omega);have f:∀a b:Int,a<b->Go.Ab.Gz a b<0:=(by intro a b h;unfold Go.Ab.Gz;rw[Au h];decide);by_cases k:x.length=y.length
  .rw[Au k]at h1;by_cases j:y.length=z.length
   .rw[Au j]at h2;rw[Au ω];exact Aun h x y z k j hx hy q h1 h2
   .rw[Ar j]at h2;rw[Ar ω];have:=neg _ _ h2;exact f _ _ ω
  .rw[Ar k]at h1;have:=neg _ _ h1;by_cases j:y.length=z.length
   .rw[Ar ω];exact f _ _ ω
   .rw[Ar j]at h2;have:=neg _ _ h2;rw[Ar ω];exact f _ _ ω
theorem Auo (g:α->α->Int) (l m:List α) (y:Int):orI (LL g l m) y=if l.length=m.length then orI (G0 g l m) y else Go.Ab.Gz l.length m.length:=by
 unfold LL;by_cases h:l.length=m.length
 .rw[Au h,Au h]
 .rw[Ar h,Ar h];unfold orI;rw[Ar (λe=>h (by have:=Ks.1 e;omega))]
theorem A67:F9 (λ_=>True) Abj := (F9.or (S:=λ_=>True) (λt:En=>t.v) (λt=>t.C) (λa b h1 h2=>by cases a;cases b;cases h1;cases h2;rfl) F9.cmpI F9.cmpI (λ_ _=>⟨trivial,trivial⟩)).congr λ_ _=>rfl
theorem M2:F9 (λ_=>True) Im := (F9.or (S:=λ_=>True) (λt:Co=>t.T) (λt=>t.Q) (λa b h1 h2=>by cases a;cases b;cases h1;cases h2;rfl) A67.ll F9.cmpI (λ_ _=>⟨λ_ _=>trivial,trivial⟩)).congr λa b=>by show Im a b=orI (LL Abj a.T b.T) (Go.Ab.Gz a.Q b.Q);rw[Auo];rfl
theorem A68 (i j:Ai):G9 i j=orI (Go.Ab.Gz i.U j.U) (LL G9 i.K j.K):=by
 rw[As8,Ale];unfold orI LL;by_cases h:i.U=j.U
 .rw[Au h,Au (Ks.2 h)]
 .rw[Ar h,Ar (λe=>h (Ks.1 e))]
theorem Als:∀n:Nat,F9 (λi=>Ca i<=n) G9:=by intro n;induction n with| zero=>exact⟨λa _ ha=>by have:=Ep a;omega,λa _ ha=>by have:=Ep a;omega,λa _ _ ha=>by have:=Ep a;omega⟩| succ n ih=>refine (F9.or (S:=λi=>Ca i<=n+1) (λi:Ai=>i.U) (λi=>i.K) (λa b h1 h2=>by cases a;cases b;cases h1;cases h2;rfl) F9.cmpI ih.ll ?_).congr A68;intro i hi;refine⟨trivial,λx hx=>?_⟩;have h1:=Kc hx;have h2:=Ep i;show Ca x<=n;omega
theorem Agv:F9 (λ_=>True) G9 := ⟨λa b _ _=>(Als (max (Ca a) (Ca b))).zero a b (by show Ca a<=_;omega) (by show Ca b<=_;omega),λa b _ _=>(Als (max (Ca a) (Ca b))).anti a b (by show Ca a<=_;omega) (by show Ca b<=_;omega),
  λa b c _ _ _=>(Als (max (Ca a) (max (Ca b) (Ca c)))).trans a b c (by show Ca a<=_;omega) (by show Ca b<=_;omega) (by show Ca c<=_;omega)⟩
theorem A69:F9 (λ_=>True) X1 := (F9.or (S:=λ_=>True) (λt:Bh=>t.v) (λt=>t.I) (λa b h1 h2=>by cases a;cases b;cases h1;cases h2;rfl) F9.cmpI Agv (λ_ _=>⟨trivial,trivial⟩)).congr λ_ _=>rfl
theorem A7a:F9 (λ_=>True) Abk := (F9.or (S:=λ_=>True) (λt:Bi=>t.L) (λt=>t.P) (λa b h1 h2=>by cases a;cases b;cases h1;cases h2;rfl) M2 F9.cmpI (λ_ _=>⟨trivial,trivial⟩)).congr λ_ _=>rfl
theorem Alt:F9 (λ_=>True) Ey := (F9.or (S:=λ_=>True) (λt:Bj=>t.F) (λt=>t.A) (λa b h1 h2=>by cases a;cases b;cases h1;cases h2;rfl) A69.ll A7a.ll (λ_ _=>⟨λ_ _=>trivial,λ_ _=>trivial⟩)).congr λa b=>by show Ey a b=orI (LL X1 a.F b.F) (LL Abk a.A b.A);rw[Auo];rfl
theorem Rg {a b:Bj}:Ey a b=0↔a=b:=Alt.zero a b trivial trivial
theorem Yb (a b:Bj):Ey b a = - Ey a b:=Alt.anti a b trivial trivial
theorem Agw {a b c:Bj} (h:Ey a b<0) (h':Ey b c<0):Ey a c<0:=Alt.trans a b c trivial trivial trivial h h'
theorem Aup (m:Bj):Ey m m=0:=Rg.2 rfl
theorem Auq {a b:Bj}:0<Ey a b↔Ey b a<0:=by rw[Yb a b];omega
def cf:List Aj->Bj->Rat
 | [],_=>0
 | t::p,m=>(if Ey t.M m=0 then rq t.C else 0)+cf p m
def ltT (t u:Aj):Prop:=Ey t.M u.M<0
structure CP (p:List Aj):Prop where
 srt:p.Pairwise ltT
 coe:∀t∈p,Hu t.C/\rq t.C≠0
theorem CP.tail (h:CP (t::p)):CP p:=⟨(pairwise_cons.1 h.srt).2,λu hu=>h.coe u (by simp[hu])⟩
theorem CP.head (h:CP (t::p)):∀u∈p,Ey t.M u.M<0:=(pairwise_cons.1 h.srt).1
theorem CP.nil:CP []:=⟨Pairwise.nil,λ_ h=>by cases h⟩
theorem CP.cons {t:Aj} {p:List Aj} (h:CP p) (h1:∀u∈p,Ey t.M u.M<0) (h2:Hu t.C) (h3:rq t.C≠0):CP (t::p) := ⟨pairwise_cons.2 ⟨h1,h.srt⟩,λu hu=>by
  rcases F1.1 hu with rfl|hu
  .exact⟨h2,h3⟩
  .exact h.coe u hu⟩
theorem Alu (h:∀t∈p,Ey t.M m≠0):cf p m=0:=by induction p with| nil=>rfl| cons t p ih=>simp only[cf];rw[Ar (h t ψ),ih (λu hu=>h u (by simp[hu]))];grind
theorem A7b (h:∀t∈p,Ey m t.M<0):cf p m=0 := Alu λt ht e=>by have:=h t ht;rw[Yb,e]at this;omega
theorem A7c (h:CP (t::p)):cf (t::p) t.M=rq t.C:=by simp only[cf];rw[Au (Aup _),A7b h.head];grind
theorem A7d (h:Ey t.M m≠0):cf (t::p) m=cf p m:=by simp only[cf];rw[Ar h];grind
theorem Te (p q:List Aj) (m:Bj):cf (p++q) m=cf p m+cf q m:=by induction p with| nil=>simp only[nil_append,cf];grind| cons t p ih=>simp only[Ed,cf,ih];grind
theorem Agx (h:CP p) (ht:t∈p):cf p t.M=rq t.C:=by
 induction p with
 | nil=>cases ht
 | cons u p ih=>
  rcases F1.1 ht with rfl|ht
  .exact A7c h
  .have:=h.head t ht;rw[A7d ω];exact ih h.tail ht
theorem Aur (c:Ao):Abt c=true↔Hu c/\rq c≠0:=by
 unfold Abt Hu;rw[C3,At5];have h:(!(nv c==0))=true↔rq c≠0:=by have e:rq c=0↔nv c=0:=(by unfold rq;rw[Rat.mkRat_eq_zero (F4 c)];unfold sg;split <;> omega);rw[Ne,e];simp
 rw[h];exact⟨λ⟨a,b⟩=>⟨a.symm,b⟩,λ⟨a,b⟩=>⟨a.symm,b⟩⟩
theorem A7e {l:List Aj} (h:∀(j:Nat) (x y:Aj),l[j]? = some x->l[j+1]? = some y->Ey x.M y.M<0):l.Pairwise ltT:=by
 induction l with
 | nil=>exact Pairwise.nil
 | cons t l ih=>
  have ih:=ih λj x y hx hy=>h (j+1) x y (by simpa using hx) (by simpa using hy);refine pairwise_cons.2 ⟨?_,ih⟩;cases l with
  | nil=>intro u hu;cases hu
  | cons v l=>
   have h0:=h 0 t v rfl rfl;intro u hu;rcases F1.1 hu with rfl|hu
   .exact h0
   .exact Agw h0 ((pairwise_cons.1 ih).1 u hu)
theorem Abz:Hy data vars res p=true↔p.length<=1000/\CP p/\∀t∈p,Jp data vars res t.M=true:=by
 unfold Hy;rw[C3,Dt];constructor
 .rintro⟨h1,h2⟩;have g:∀(j:Nat) (t:Aj),p[j]? = some t->Abt t.C=true/\Jp data vars res t.M=true/\Vl p t j=true:=(by intro j t hj;have:=Jg h2 hj;simp only[X9,C3]at this;exact⟨this.1.1,this.1.2,this.2⟩);refine⟨h1,⟨A7e λj x y hx hy=>?_,λt ht=>?_⟩,λt ht=>?_⟩
  .have:=(g _ _ hy).2.2;unfold Vl at this;rw[show j+1-1=j by omega,hx]at this;simpa using this
  .obtain⟨j,hj⟩:=Ht ht;exact (Aur _).1 (g j t hj).1
  .obtain⟨j,hj⟩:=Ht ht;exact (g j t hj).2.1
 .rintro⟨h1,h2,h3⟩;refine⟨h1,G5.2 λq hq=>?_⟩;have hq:=mem_zipIdx' hq;have hj:p[q.2]? = some q.1:=(Bt hq.1).trans (congrArg some hq.2.symm);have c:q.1∈p:=Bv hj;simp only[X9,C3];refine⟨⟨(Aur _).2 (h2.coe _ c),h3 _ c⟩,?_⟩;unfold Vl;by_cases h0:q.2=0
  .rw[h0];rfl
  .have b:q.2-1<p.length:=ω;rw[Bt b];have:=pairwise_iff_getElem.1 h2.srt (q.2-1) q.2 b hq.1 ω;rw[<-hq.2]at this;simp only[Bool.or_eq_true,Dt];exact .inr this
theorem Aus:∀(k:Nat) (t:Ai),Ca t<=k->k<1099511627776->Qz k t=some t:=by
 intro k;induction k with
 | zero=>intro t h;have:=Ep t;omega
 | succ k ih=>
  intro t h hk;have c:=Ep t;have b:=P1 t.K;rw[Qz];refine F3 t.K (λj=>((j:Int),(t.K.take j))) rfl ω ?_ ?_
  .intro j x hj hx h1 h2 h3;have:=Kc (Bv hx);simp only[h1,h2,h3,Am,Ad,ih x ω ω];rw[Ds ζ,Ad,Da hx]
  .intro h1;exact⟨t.K,ψ,by cases t;rfl⟩
theorem A7f (m:Bj) (b:MSz m):Z1 m=some m:=by
 have g:=b.nf;have f:=b.na;unfold Z1;refine F3 m.F (λj=>((j:Int),(m.F.take j))) rfl ω ?_ ?_
 .intro j x hj hx h1 h2 h3;have c:=Bv hx;have:=b.fi x c;simp only[h1,h2,h3,Am,Ad,Aus 4000000 x.I ω ω];rw[Ds ζ,Ad,Da hx]
 .intro h1;refine⟨m.F,ψ,?_⟩;dsimp only;refine F3 m.A (λj=>((j:Int),(m.A.take j))) rfl ω ?_ ?_
  .intro j x hj hx h1 h2 h3;have c:=Bv hx;have:=b.al x c;simp only[h1,h2,h3,Am,Ad,Aet];rw[Ds ζ,Ad,Ds ζ,Ad,Da hx];rfl
  .intro h1;exact⟨m.A,ψ,by cases m;rfl⟩
structure TB (k:Nat) (t:Aj):Prop where
 co:RB k t.C
 mo:MSz t.M
theorem TSz.tb (h:TSz t):TB 1048576 t:=⟨h.co,h.mo⟩
theorem TB.mono (h:TB j t) (hk:j<=k):TB k t:=⟨h.co.mono hk,h.mo⟩
theorem A7g (c:Ao):rq c=0↔nv c=0:=by unfold rq;rw[Rat.mkRat_eq_zero (F4 c)];unfold sg;split <;> omega
end Go.Ab
