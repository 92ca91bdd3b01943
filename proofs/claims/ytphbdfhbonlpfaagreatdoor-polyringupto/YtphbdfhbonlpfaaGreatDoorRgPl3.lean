/- Plain laws: what the plain functions answer. -/
import Derived.Test.YtphbdfhbonlpfaaGreatDoorRgPl2
import Derived.KernelRfl
open List
namespace Go.Ab
open Go Ieee
variable {k n:Nat}
theorem A46 (n d:Nat):∃c,Toward.even.cut false n d=c/\(n / 2 ^ d<=c)/\c<=n / 2 ^ d+1/\(n % 2 ^ d=0->c=n / 2 ^ d):=by
 refine⟨_,rfl,?_⟩;unfold Toward.cut;simp only[Nat.shiftLeft_eq,Nat.one_mul];by_cases hd:d<=n.log2+2
 .rw[Nat.min_eq_left hd];generalize h2:2 ^ d=g;have hg:0<g:=(by rw[<-h2];exact Nat.pow_pos δ);refine⟨ω,?_,λh0=>?_⟩
  .have:=Bool.toNat_le (decide (g<2*(n % g))||(g==2*(n % g)&&n / g % 2==1))
   omega
  .rw[h0];have h1:decide (g<2*0)=false:=ψ;have h3:(g==2*0)=false:=ζ;rw[h1,h3];rfl
 .rw[Nat.min_eq_right ω];have b:n<2 ^ (n.log2+1):=Nat.lt_log2_self;have hg:2 ^ (n.log2+2)=2*2 ^ (n.log2+1):=(by rw[Nat.pow_succ];omega);have f:2 ^ (n.log2+2)<=2 ^ d:=Nat.pow_le_pow_right δ ω;have k:n / 2 ^ (n.log2+2)=0:=Nat.div_eq_of_lt ω;have j:n % 2 ^ (n.log2+2)=n:=Nat.mod_eq_of_lt ω;have i:n / 2 ^ d=0:=Nat.div_eq_of_lt ω;have h:n % 2 ^ d=n:=Nat.mod_eq_of_lt ω;rw[k,j,i,h];have h1:decide (2 ^ (n.log2+2)<2*n)=false:=ζ;have h3:(2 ^ (n.log2+2)==2*n)=false:=ζ;rw[h1,h3];exact⟨ψ,ψ,λ_=>rfl⟩
theorem Xu (f:Nat) (place e:Int) (l:f≠0) (he:place+f.log2=e) (h1 : -1000<=e) (h2:e<=900) : ∃(m:Nat) (p:Int),double.read (double.nearest false f place) = .number false m p/\4503599627370496<=m/\m<9007199254740992/\(p=e-52\/(p=e-51/\m=4503599627370496)):=by
 have g:max (place+f.log2-(double.fractionBits:Int)) double.leastPlace=e-52:=by have a:(double.fractionBits:Int)=52:=rfl;have b:double.leastPlace = -1074:=δ;rw[a,b,he];omega
 have hw:double.nearest false f place=min ((e-52+1074).toNat*4503599627370496+Toward.even.cut false (f <<< (place-(e-52)).toNat) ((e-52)-place).toNat) (2047*4503599627370496):=by unfold Format.nearest;rw[Au l];simp only[g];have b:double.leastPlace = -1074:=δ;have c:double.binade=4503599627370496:=δ;have d:double.infRung=2047*4503599627370496:=δ;rw[b,c,d];unfold Format.word;simp only[Bool.false_eq_true,if_false];congr 3
 have hk:4503599627370496<=Toward.even.cut false (f <<< (place-(e-52)).toNat) ((e-52)-place).toNat/\Toward.even.cut false (f <<< (place-(e-52)).toNat) ((e-52)-place).toNat<=9007199254740992:=by
  obtain⟨c,hc,c1,c2,c3⟩:=A46 (f <<< (place-(e-52)).toNat) ((e-52)-place).toNat;rw[hc];have y:2 ^ f.log2<=f:=Nat.log2_self_le l;have x:f<2 ^ (f.log2+1):=Nat.lt_log2_self;rw[Nat.shiftLeft_eq]at c1 c2 c3;rcases Int.le_total place (e-52) with h|h
  .have z:(place-(e-52)).toNat=0:=ω;rw[z,Nat.pow_zero,Nat.mul_one]at c1 c2 c3;have hd:f.log2=52+((e-52)-place).toNat:=ω;have hp:2 ^ f.log2=4503599627370496*2 ^ ((e-52)-place).toNat:=(by rw[hd,Nat.pow_add]);have k:2 ^ (f.log2+1)=9007199254740992*2 ^ ((e-52)-place).toNat:=(by rw[Nat.pow_succ,hp];omega);have hpos:0<2 ^ ((e-52)-place).toNat:=Nat.pow_pos δ;have a1:4503599627370496<=f / 2 ^ ((e-52)-place).toNat:=(Nat.le_div_iff_mul_le hpos).2 ω;have a2:f / 2 ^ ((e-52)-place).toNat<9007199254740992:=(Nat.div_lt_iff_lt_mul hpos).2 ω;omega
  .have z:((e-52)-place).toNat=0:=ω;rw[z,Nat.pow_zero,Nat.div_one]at c1 c2 c3;have c4:=c3 (Nat.mod_one _);have hd:52=f.log2+(place-(e-52)).toNat:=ω;have hp:2 ^ f.log2*2 ^ (place-(e-52)).toNat=4503599627370496:=(by rw[<-Nat.pow_add,<-hd]);have k:2 ^ (f.log2+1)*2 ^ (place-(e-52)).toNat=9007199254740992:=(by rw[Nat.pow_succ,Nat.mul_right_comm,hp]);have hpos:0<2 ^ (place-(e-52)).toNat:=Nat.pow_pos δ;have a1:=Nat.mul_le_mul_right (2 ^ (place-(e-52)).toNat) y;have a2:=Nat.mul_lt_mul_of_pos_right x hpos;omega
 generalize Toward.even.cut false (f <<< (place-(e-52)).toNat) ((e-52)-place).toNat=c at *;obtain⟨t,ht⟩:∃t:Nat,(e-52+1074).toNat=t/\t<=1922/\(t:Int)=e+1022:=⟨_,rfl,ω,ω⟩;rw[ht.1]at hw;rw[Nat.min_eq_left ω]at hw;rw[hw];have b:double.leastPlace = -1074:=δ;have A:double.binade=4503599627370496:=δ;have d:double.infRung=2047*4503599627370496:=δ;have q:double.signWeight=9223372036854775808:=δ;unfold Format.read;rw[b,A,d,q];have u:(t*4503599627370496+c) / 9223372036854775808=0:=Nat.div_eq_of_lt ω;have s:(t*4503599627370496+c) % 9223372036854775808=t*4503599627370496+c:=Nat.mod_eq_of_lt ω;simp only[u,s];rw[Au ω,Aw ω];by_cases hc:c<9007199254740992
 .refine⟨c,e-52,?_,hk.1,hc,.inl rfl⟩;have j:(t*4503599627370496+c) % 4503599627370496=c-4503599627370496:=ω;have i:(t*4503599627370496+c) / 4503599627370496=t+1:=ω;rw[j,i,show 4503599627370496+(c-4503599627370496)=c by omega,show (-1074:Int)+((t+1-1:Nat):Int)=e-52 by omega];rfl
 .have hc:c=9007199254740992:=ω;subst hc;refine⟨4503599627370496,e-51,?_,δ,δ,.inr ⟨rfl,rfl⟩⟩;have j:(t*4503599627370496+9007199254740992) % 4503599627370496=0:=ω;have i:(t*4503599627370496+9007199254740992) / 4503599627370496=t+2:=ω;rw[j,i,Nat.add_zero,show (-1074:Int)+((t+2-1:Nat):Int)=e-51 by omega];rfl
theorem Alb (v:Int) (h:0<=v):floatOfInt .f64 v=double.nearest false v.natAbs 0:=by have e:decide (v<0)=false:=As ω;show double.nearest (decide (v<0)) v.natAbs 0=_;rw[e]
theorem A47:double.read 4876203697187506176 = .number false 7812500000000000 7:=δ
theorem Af4 (h1:2 ^ k<=n) (h2:n<2 ^ (k+1)):n.log2=k:=(Nat.log2_eq_iff (by have:=Nat.pow_pos (n:=k) (show 0<2 by decide);omega)).2 ⟨h1,h2⟩
theorem Abf (h:n<2 ^ (k+1)):n.log2<=k:=by
 by_cases h0:n=0
 .subst h0;simp
 .have:=(Nat.log2_lt h0).2 h;omega
theorem Alc (h:2 ^ k<=n):k<=n.log2:=(Nat.le_log2 (by have:=Nat.pow_pos (n:=k) (show 0<2 by decide);omega)).2 h
theorem A48 (x:Int) (h0:1<=x) (h1:x<1000000000):∃(w:Nat) (m:Nat) (p:Int),floatBits .mul .f64 (floatOfInt .f64 x) 4876203697187506176=some w/\double.read w = .number false m p/\4503599627370496<=m/\m<9007199254740992/\7<=p/\(p<=37\/(p=38/\m=4503599627370496)):=by
 have j:x.natAbs.log2<=29:=Abf ζ;obtain⟨m1,b,g,a1,a2,a3⟩:=Xu x.natAbs 0 (x.natAbs.log2) ω ω ω ω;have c:(m1*7812500000000000).log2=104\/((m1*7812500000000000).log2=105/\m1≠4503599627370496):=by
  have b1:2 ^ 104<=m1*7812500000000000:=ω;have b2:m1*7812500000000000<2 ^ 106:=ω;rcases Cf (m1*7812500000000000) (2 ^ 105) with h|h
  .exact .inl (Af4 b1 h)
  .exact .inr ⟨Af4 h b2,by rintro rfl;omega⟩
 obtain⟨m2,i,f,c1,c2,c3⟩:=Xu (m1*7812500000000000) (b+7) (b+7+(m1*7812500000000000).log2) ω rfl ω ω;refine⟨double.nearest false (m1*7812500000000000) (b+7),m2,i,?_,f,c1,c2,ω,ω⟩;show ((double.read (floatOfInt .f64 x)).product (double.read 4876203697187506176)).map double.write=_;rw[Alb x ω,g,A47];rfl
theorem A49 (w:Nat) (m:Nat) (p:Int) (hw:double.read w = .number false m p) (M:4503599627370496<=m) (L:m<9007199254740992) (I:7<=p) (j:p<=37\/(p=38/\m=4503599627370496)) (y:Int) (h0:0<=y) (h1:y<1000000000000000000) : ∃(w':Nat) (g:Nat) (f:Int),floatBits .add .f64 w (floatOfInt .f64 y)=some w'/\double.read w' = .number false g f/\4503599627370496<=g/\g<9007199254740992/\7<=f/\f<=39:=by
 obtain⟨c,b,x,S,R⟩:∃(c:Nat) (b:Int),double.read (floatOfInt .f64 y) = .number false c b/\b<=8/\c<9007199254740992/\-1074<=b:=by
  rw[Alb y h0];by_cases hy:y.natAbs=0
  .rw[hy];exact⟨0,-1074,δ,δ,δ,δ⟩
  .have X:y.natAbs.log2<=59:=Abf ζ;obtain⟨m1,D,A,a1,a2,a3⟩:=Xu y.natAbs 0 (y.natAbs.log2) hy ω ω ω;exact⟨m1,D,A,ω,a2,ω⟩
 generalize hb:min p b=base;have ht:∃T:Nat,signed false m (p-base).toNat+signed false c (b-base).toNat=(T:Int)/\T=m*2 ^ (p-base).toNat+c*2 ^ (b-base).toNat:=by refine⟨m <<< (p-base).toNat+c <<< (b-base).toNat,rfl,by rw[Nat.shiftLeft_eq,Nat.shiftLeft_eq]⟩
 obtain⟨T,t1,t2⟩:=ht;have G:0<2 ^ (p-base).toNat:=Nat.pow_pos δ;have i:2 ^ (b-base).toNat<=2 ^ (8-base).toNat:=Nat.pow_le_pow_right δ ω;have J:m*2 ^ (p-base).toNat<=2 ^ (90-base).toNat:=by
  rcases j with h|⟨rfl,rfl⟩
  .have e:2 ^ (90-base).toNat=2 ^ (p-base).toNat*2 ^ (90-p).toNat:=(by rw[<-Nat.pow_add];congr 1;omega);have e2:2 ^ 53<=2 ^ (90-p).toNat:=Nat.pow_le_pow_right δ ω;rw[e,Nat.mul_comm];exact Nat.mul_le_mul_left _ ω
  .have e:2 ^ (90-base).toNat=2 ^ (38-base).toNat*2 ^ 52:=(by rw[<-Nat.pow_add];congr 1;omega);rw[e,Nat.mul_comm];omega
 have E:c*2 ^ (b-base).toNat<2 ^ (90-base).toNat:=by have e:2 ^ (90-base).toNat=2 ^ (8-base).toNat*2 ^ 82:=(by rw[<-Nat.pow_add];congr 1;omega);have Z:c*2 ^ (b-base).toNat<=c*2 ^ (8-base).toNat:=Nat.mul_le_mul_left _ i;have N:0<2 ^ (8-base).toNat:=Nat.pow_pos δ;have Y:c*2 ^ (8-base).toNat<2 ^ 82*2 ^ (8-base).toNat:=Nat.mul_lt_mul_of_pos_right ω N;rw[e,Nat.mul_comm (2 ^ (8-base).toNat)];omega
 have s:T<2 ^ ((90-base).toNat+1):=by rw[Nat.pow_succ];omega
 have q:2 ^ (52+(p-base).toNat)<=T:=by have:2 ^ 52*2 ^ (p-base).toNat<=m*2 ^ (p-base).toNat:=Nat.mul_le_mul_right _ ω;rw[Nat.pow_add];omega
 have V:=Abf s;have U:=Alc q;have u:T≠0:=by have:=Nat.pow_pos (n:=52+(p-base).toNat) (show 0<2 by decide);omega
 obtain⟨m3,B,z,c1,c2,c3⟩:=Xu T base (base+T.log2) u rfl ω ω;refine⟨double.nearest false T base,m3,B,?_,z,c1,c2,ω,ω⟩;show ((double.read w).sum (double.read (floatOfInt .f64 y))).map double.write=_;rw[hw,x];have l:¬((T:Int)=0):=ω;have k:decide ((T:Int)<0)=false:=As ω;simp only[Datum.sum,hb,t1,Au l,k,Option.map_some,Int.natAbs_natCast,Format.write]
theorem A5a {b m N:Nat} {p:Int} (g:double.read b = .number false m p) (i:(Datum.number false m p).toInt .zero=some (N:Int)) (h:N<=9223372036854775808):floatToIntVal .f64 b .u64=some (N:Int):=by have hd:FloatKind.f64.decode b = .number false m p:=g;have f:IntKind.u64.min=0:=δ;have c:IntKind.u64.max=18446744073709551615:=δ;unfold floatToIntVal;rw[hd,i];simp only[f,c];rw[Aw ⟨ω,ω⟩]
theorem A5b (w:Nat) (m:Nat) (p:Int) (hw:double.read w = .number false m p) (R:4503599627370496<=m) (M:m<9007199254740992) (L:7<=p) (J:p<=39) (z:Int) (h0:1000000000<=z) (h1:z<1000000000000000000) : ∃(w':Nat) (n:Int),floatBits .quo .f64 w (floatOfInt .f64 z)=some w'/\floatToIntVal .f64 w' .u64=some n/\0<=n/\n<=9223372036854775808:=by
 have U:z.natAbs.log2<=59:=Abf ζ;have S:29<=z.natAbs.log2:=Alc ζ;obtain⟨f,c,u,a1,a2,a3⟩:=Xu z.natAbs 0 (z.natAbs.log2) ω ω ω ω;have D:m.log2=52:=Af4 ω ω;have y:f.log2=52:=Af4 ω ω;generalize hq:m*2 ^ 54 / f=q;generalize l:((m*2 ^ 54 % f != 0).toNat)=s;have E:s<=1:=by rw[<-l];exact Bool.toNat_le _
 have I:q<2 ^ 55:=by rw[<-hq];exact (Nat.div_lt_iff_lt_mul ω).2 ω
 have G:2 ^ 53<=q:=by rw[<-hq];exact (Nat.le_div_iff_mul_le ω).2 ω
 have B:(2*q+s).log2<=55:=Abf ω;have A:54<=(2*q+s).log2:=Alc ω;obtain⟨m4,b,x,c1,c2,c3⟩:=Xu (2*q+s) (p-c-(54:Nat)-1) (p-c-(54:Nat)-1+(2*q+s).log2) ω rfl ω ω;have j:(Datum.number false m p).quotient (double.fractionBits+2) (Datum.number false f c)=some (.number false (2*q+s) (p-c-(54:Nat)-1)):=by have i:¬f=0:=ω;have fb:double.fractionBits+2=54:=rfl;simp only[Datum.quotient,Au i,fb,D,y,Nat.shiftLeft_eq,Nat.add_sub_cancel,hq,l,Bool.xor_self]
 have hb:m4*2 ^ b.toNat<=9223372036854775808:=by
  have k:b<=10\/(b=11/\m4=4503599627370496):=ω;rcases k with h|⟨rfl,rfl⟩
  .have:2 ^ b.toNat<=2 ^ 10:=Nat.pow_le_pow_right δ ω;have:=Nat.mul_le_mul (Nat.le_of_lt c2) this;omega
  .decide
 obtain⟨N,V,g⟩:∃N:Nat,(Datum.number false m4 b).toInt .zero=some (N:Int)/\N<=9223372036854775808:=by
  refine⟨(m4 <<< b.toNat) / (1 <<< min (-b).toNat ((m4 <<< b.toNat).log2+2)),?_,?_⟩
  .simp only[Datum.toInt,Datum.integral,Toward.cut,signed,Bool.false_eq_true,if_false,Nat.shiftLeft_zero,Bool.toNat_false,Nat.add_zero]
  .rw[Nat.shiftLeft_eq m4];exact Nat.le_trans (Nat.div_le_self _ _) hb
 refine⟨double.nearest false (2*q+s) (p-c-(54:Nat)-1),(N:Int),?_,?_,ω,ω⟩
 .have e:floatBits .quo .f64 w (floatOfInt .f64 z)=((double.read w).quotient (double.fractionBits+2) (double.read (floatOfInt .f64 z))).map double.write:=rfl;rw[e,hw,Alb z ω,u,j];simp only[Option.map_some,Format.write]
 .exact A5a x V g
theorem A5c (r n:Nat) (h2:2<=Bp n) (E:Bp r<=Bp n+1) (G:Bp n<1099511627776):∃d:Nat,Zm (Ah r) (Ah n)=some (d:Int)/\d<1000000000:=by
 unfold Zm;unfold Bp at h2 E G;have c:n≠0:=by rintro rfl;rw[Hc]at h2;simp at h2
 by_cases V:(Ah r).length<(Ah n).length
 .exact⟨0,by rw[Ao ω];rfl,δ⟩
 .rw[As ω,Am];have y:Aa (((Ah n).length:Int)-1)=(((Ah n).length-1:Nat):Int):=ξ;have u:Aa (((Ah n).length:Int)-2)=(((Ah n).length-2:Nat):Int):=ξ;have i1:(Ah n).length-1<(Ah n).length:=ω;have i2:(Ah n).length-2<(Ah n).length:=ω;have h:(Ah n).length-1<(Ah r).length:=ω;have g:(Ah n).length-2<(Ah r).length:=ω;have t1:=(Gl n).get i1;have t2:=(Gl n).get i2;have M:=(Gl r).get h;have L:=(Gl r).get g;have i:(Ah n)[(Ah n).length-1]≠0:=(by have:=(Ae2 n).2 (J5 c);rwa [getLast_eq_getElem]at this);rw[y,u,Ez rfl i1,Ad,Ez rfl i2,Ad,Ez rfl h,Ad,Ez rfl g,Ad];generalize (Ah n)[(Ah n).length-1]=a1 at *;generalize (Ah n)[(Ah n).length-2]=a2 at *;generalize (Ah r)[(Ah n).length-1]=b1 at *;generalize (Ah r)[(Ah n).length-2]=b2 at *;have l:Bb (Bb (Bb b1*1000000000)+Bb b2)=b1*1000000000+b2:=(by rw[show Bb b1=b1 from Dy ω ω,show Bb b2=b2 from Dy ω ω,show Bb (b1*1000000000)=b1*1000000000 from Dy ω ω];exact Dy ω ω);have j:Bb (Bb (Bb a1*1000000000)+Bb a2)=a1*1000000000+a2:=(by rw[show Bb a1=a1 from Dy ω ω,show Bb a2=a2 from Dy ω ω,show Bb (a1*1000000000)=a1*1000000000 from Dy ω ω];exact Dy ω ω);rw[l,j];by_cases he:(Ah r).length=(Ah n).length
  .rw[Fm ω,Ak,Mn ω ω ω,Ad];have R:0<=(b1*1000000000+b2) / (a1*1000000000+a2):=Int.ediv_nonneg ω ω;have N:(b1*1000000000+b2) / (a1*1000000000+a2)<1000000000:=Int.ediv_lt_of_lt_mul ω ω;exact⟨((b1*1000000000+b2) / (a1*1000000000+a2)).toNat,by congr 1;omega,ω⟩
  .have hk:(Ah n).length<(Ah r).length:=ω;have b:r≠0:=(by rintro rfl;rw[Hc]at hk;simp at hk);have J:=(Gl r).get hk;have f:(Ah r)[(Ah n).length]≠0:=(by have:=(Ae2 r).2 (J5 b);rw[getLast_eq_getElem]at this;have e:(Ah r).length-1=(Ah n).length:=ω;simpa[e] using this);rw[Cy ω,Am,Ez rfl hk,Ad];generalize (Ah r)[(Ah n).length]=x at *;obtain⟨s,m3,A,f1,f2,f3,f4,f5,f6⟩:=A48 x ω ω;obtain⟨q,m4,z,g1,g2,g3,g4,g5,g6⟩:=A49 s m3 A f2 f3 f4 f5 f6 (b1*1000000000+b2) ω ω;obtain⟨I,k,D,B,U,S⟩:=A5b q m4 z g2 g3 g4 g5 g6 (a1*1000000000+a2) ω ω;rw[f1,Ad,g1,Ad,D,Ad,B,Ad,show Bb (k+2)=k+2 from Dy ω ω];by_cases hc:(999999999:Int)<k+2
   .exact⟨999999999,by rw[Aw hc];rfl,δ⟩
   .exact⟨(k+2).toNat,by rw[Au hc];congr 1;omega,ω⟩
end Go.Ab
namespace Go.Ab
open Go
variable {a:A7} {res:Af} {t u:Aj} {m:Bd} {x:Bs} {v w y:Int} {vars:List Af} {p q ts:List Aj} {data:List Al} {P S X b l:List Int} {j k n:Nat} {E R α β:Type} {g:α->List Int}
theorem A5d (x r:Nat):Bp (x % 1000000000+1000000000*r)<=Bp r+1:=by apply Ku;have:=Oj r;rw[Nat.pow_succ];omega
set_option maxHeartbeats 1000000 in
theorem Ald (m n:Nat) (hm:Bp m<137438953472) (hn:Bp n<137438953472) (D:n≠0):Tj (Ah m) (Ah n)=some (Ah (m / n),Ah (m % n)):=by
 unfold Tj;rw[Ala,Aba m n ω ω,Ad];have af:=hm;have ae:=hn;unfold Bp at hm hn;by_cases l:m<n
 .rw[show Hi m n = -1 by rw[Hi,Aw l],Ao (by decide:(-1:Int)<0),Ak,U6 _ ω,Ad,A2n (Ae2 m),Nat.div_eq_of_lt l,Nat.mod_eq_of_lt l,Hc]
 .rw[As (show ¬Hi m n<0 by rw[Hi,Au l];split <;> decide),Am];have a8:(Ah n).length≠0:=λe=>J5 D (Fu.1 e);by_cases h1:(Ah n).length=1
  .rw[Fm (ω:((Ah n).length:Int)=1),Ak];have B:n<1000000000:=(by have:=Oj n;rw[show Bp n=1 from h1]at this;simpa using this);have Y:Ah n = [(n:Int)]:=(by rw[Oh D,Nat.div_eq_of_lt B,Hc,Nat.mod_eq_of_lt B]);rw[Y,show Ag [(n:Int)] 0=some (n:Int) from rfl,Ad,show Bb (n:Int)=n from Dy ω ω,A43 m n ω ω ω,Ad];have a7:m % n<n:=Nat.mod_lt _ ω;rw[Ate,Xq (m % n) ω,Ad]
  .rw[Cy (ω:((Ah n).length:Int)≠1),Am];have hw:Aa (((Ah m).length:Int)-1)=((Ah m).length:Int)-1:=ξ;rw[Lm rfl rfl (Nat.le_refl _) ω ω,hw];simp only[Ad];have ha:=Gl m;refine Jp (λ(r,i,q)=>∃(k R:Nat),r=Ah R/\i=(k:Int)-1/\k<=(Ah m).length/\R<n/\q.length=(Ah m).length/\Ck q/\Ap (q.drop k)*n+R=Ap ((Ah m).drop k)) (λ(_,i,_)=>(i+1).toNat) (λ(r,q)=>∃R:Nat,r=Ah R/\R<n/\q.length=(Ah m).length/\Ck q/\Ap q*n+R=m) ⟨(Ah m).length,0,by rw[Hc],rfl,Nat.le_refl _,ω,ψ,Ck.replicate _,by simp[Ap]⟩ ?_ ?_
   .rintro⟨r,i,q⟩ ⟨k,R,rfl,rfl,hk,J,u,g,A⟩;cases k with
    | zero=>exact .inr ⟨(Ah R,q),ψ,R,rfl,J,u,g,by simpa[G7] using A⟩
    | succ j=>
     have hj:j<(Ah m).length:=ω;have E:j<q.length:=ω;have hx:=ha.get hj;obtain⟨x,y⟩:∃x:Nat,(Ah m)[j]=(x:Int):=⟨(Ah m)[j].toNat,ω⟩;have L:x<1000000000:=ω;have e0:((j+1:Nat):Int)-1=(j:Int):=ω;have e1:decide ((j:Int)>=0)=true:=Ao ω;have Z:Bp R<=Bp n:=L7 ω;have ac:Bp (x+1000000000*R)<=Bp R+1:=(by have:=A5d x R;rwa [Nat.mod_eq_of_lt L]at this);have ah:(Ah R).length<=(Ah n).length:=Z;have G:Lz ((x:Int)::Ah R)=some (Ah (x+1000000000*R)):=by
      rw[U6 _ ζ];congr 1;refine Mo ?_ ?_
      .intro d hd;rcases E8.1 hd with rfl|hd
       .omega
       .exact Gl R d hd
      .simp only[Ap,G7];omega
     obtain⟨d0,U,ag⟩:=A5c (x+1000000000*R) n (by unfold Bp;omega) ω ω;generalize a6:x+1000000000*R=f at *;have ab:f<1000000000*n:=ω;have s:∀d:Nat,d<18446744073709551616->P5 (d:Int)=some (Ah d)/\Tw (Ah n) (Ah d)=some (Ah (n*d)):=(by intro d hd;have:=U4 hd;exact⟨by rw[Ate,Xq d hd],A45 n d ω ω⟩);have I:∀d:Nat,d<18446744073709551616->Tv (Ah (n*d)) (Ah f)=some (Hi (n*d) f):=(by intro d hd;have h3:=U4 hd;have h4:=Lo n d;rw[Ala,Aba _ _ ω ω]);simp only[e0,e1,Ak,Ez rfl hj,y,Ad,Dn (show ([(x:Int)].length+(Ah R).length)*4<=_ by simp;omega),singleton_append,G,U];refine .inl (Ae0 (Ey (λd=>∃e:Nat,d=e/\e<=d0) (λd=>d.toNat) (λd=>∃e:Nat,d=e/\e<=d0/\n*e<=f) ⟨d0,rfl,Nat.le_refl _⟩ ?_ ?_))
     .rintro d ⟨e,rfl,he⟩;by_cases X:e=0
      .subst X;exact .inr ⟨0,rfl,0,rfl,ω,ψ⟩
      .obtain⟨m1,m2⟩:=s e ω;simp only[Ao (ω:(e:Int)>0),Ak,m1,m2,I e ω,Ad];by_cases hc:f<n*e
       .refine .inl ⟨((e-1:Nat):Int),?_,⟨e-1,rfl,ω⟩,ζ⟩;rw[show Hi (n*e) f=1 by rw[Hi,Au ω,Aw hc],show decide ((1:Int)>0)=true from rfl,Ak,show Bb ((e:Int)-1)=((e-1:Nat):Int) by rw[Bb,Dy] <;> omega]
       .refine .inr ⟨(e:Int),?_,e,rfl,he,ω⟩;rw[As (show ¬Hi (n*e) f>0 by rw[Hi,Au hc];split <;> decide),Am]
     .rintro d ⟨e,rfl,he,N⟩;obtain⟨m1,m2⟩:=s e ω;simp only[m1,m2,Ad,Atf f (n*e) ω N];refine Ey (λ(r,d)=>∃(c b:Nat),r=Ah c/\d=b/\n*b+c=f) (λ(r,_)=>(Ap r).toNat) (λ(r,d)=>∃(c b:Nat),r=Ah c/\d=b/\n*b+c=f/\c<n) ⟨f-n*e,e,rfl,rfl,ω⟩ ?_ ?_
      .rintro⟨r,d⟩ ⟨c,b,rfl,rfl,M⟩;have aa:Bp c<=Bp f:=L7 ω;have V:b<1000000000:=by
        rcases Cf b 1000000000 with h|h
        .exact h
        .exfalso;have:n*1000000000<=n*b:=Nat.mul_le_mul_left n h;omega
       simp only[Ala,Aba c n ω ω,Ad];by_cases hc:c<n
       .refine .inr ⟨(Ah c,(b:Int)),?_,c,b,rfl,rfl,M,hc⟩;rw[As (show ¬Hi c n>=0 by rw[Hi,Aw hc];decide),Am]
       .refine .inl ⟨(Ah (c-n),((b+1:Nat):Int)),?_,⟨c-n,b+1,rfl,rfl,?_⟩,?_⟩
        .rw[Ao (show Hi c n>=0 by rw[Hi,Au hc];split <;> decide),Ak,Atf c n ω ω,Ad,show Bb ((b:Int)+1)=((b+1:Nat):Int) by rw[Bb,Dy] <;> omega]
        .rw[Nat.mul_add];omega
        .simp only[G7];omega
      .rintro⟨r,d⟩ ⟨c,b,rfl,rfl,M,a1⟩;have V:b<1000000000:=by
        rcases Cf b 1000000000 with h|h
        .exact h
        .exfalso;have:n*1000000000<=n*b:=Nat.mul_le_mul_left n h;omega
       have w1:Cz (b:Int)=b:=Hn ω ω;have w8:Aa ((j:Int)-1)=(j:Int)-1:=ξ;refine⟨_,by simp only[Ez rfl E,Ad,w1,w8,Ho rfl],(Ah c,(j:Int)-1,q.set j (b:Int)),rfl,⟨j,c,rfl,rfl,ω,a1,by simpa using u,g.set _ ω ω,?_⟩,ψ⟩;have d1:(q.set j (b:Int)).drop j=(b:Int)::q.drop (j+1):=(by rw[drop_eq_getElem_cons (by simpa using E),drop_set_of_lt ω];simp);rw[d1,drop_eq_getElem_cons hj,y];simp only[Ap];rw[<-A];have:((n*b+c:Nat):Int)=((x+1000000000*R:Nat):Int):=(by rw[M,a6]);simp only[Int.natCast_add,Int.natCast_mul]at this;grind
   .rintro⟨r,q⟩ ⟨R,rfl,J,u,g,A⟩;dsimp only;have ad:=Ip g.u32;obtain⟨Q,hQ⟩:∃Q:Nat,Ap q=Q:=⟨(Ap q).toNat,ω⟩;rw[hQ]at A;have z:Q*n+R=m:=(by have:((Q*n+R:Nat):Int)=(m:Int):=(by simp only[Int.natCast_add,Int.natCast_mul];exact A);omega);have hd:m / n=Q:=(by rw[<-z,Nat.mul_comm,Nat.mul_add_div ω,Nat.div_eq_of_lt J];rfl);have S:m % n=R:=(by rw[<-z,Nat.mul_comm,Nat.mul_add_mod,Nat.mod_eq_of_lt J]);rw[U6 q ω,Ad,Mo g hQ,hd,S]
theorem A5e (m n:Nat) (g:Bp m<137438953472) (f:Bp n<137438953472):Zg (Ah m) (Ah n)=some (Ah (Nat.gcd m n)):=by
 unfold Zg;refine Jp (λ(a,b)=>∃x y:Nat,a=Ah x/\b=Ah y/\Bp x<137438953472/\Bp y<137438953472/\Nat.gcd x y=Nat.gcd m n) (λ(_,b)=>(Ap b).toNat) (λr=>r=Ah (Nat.gcd m n)) ⟨m,n,rfl,rfl,g,f,rfl⟩ ?_ (by rintro e rfl;rfl);rintro⟨a,b⟩ ⟨x,y,rfl,rfl,hx,hy,hg⟩;by_cases c:y=0
 .subst c;refine .inr ⟨Ah x,by rw[Hc];rfl,?_⟩;rw[<-hg,Nat.gcd_zero_right]
 .have h:(Ah y).length≠0:=λe=>J5 c (Fu.1 e);have i:decide (((Ah y).length:Int)>0)=true:=Ao ω;refine .inl ⟨(Ah y,Ah (x % y)),?_,⟨y,x % y,rfl,rfl,hy,by have:=L7 (Nat.mod_le x y);omega,?_⟩,?_⟩
  .simp only[i,Ak,Ald x y hx hy c,Ad]
  .rw[<-hg,Nat.gcd_comm y,<-Nat.gcd_rec,Nat.gcd_comm]
  .simp only[G7];have:=Nat.mod_lt x (ω:y>0);omega
def Xv (b:Bool) (n d:Nat):A7:=if d=0 then ⟨false,[],[1]⟩ else Ci b n d
theorem Ale (h:n≠0):(Ah n).length≠0:=λe=>J5 h (Fu.1 e)
theorem A5f (c:Bool) (a b:List Int) (ha:Nc a) (hb:Nc b) (l:a.length<137438953400) (k:b.length<137438953400):Ti c a b=some (Xv c (Ap a).toNat (Ap b).toNat):=by
 unfold Ti;have h1:=Af1 ha;have h2:=Af1 hb;rw[Atd a ha ω,Ad,Atd b hb ω,Ad];generalize (Ap a).toNat=n at *;generalize (Ap b).toNat=d at *;by_cases g:n=0
 .subst g;have:Xv c 0 d=⟨false,[],[1]⟩:=(by unfold Xv;split <;> simp[Ci]);rw[this,Hc];rfl
 .have i:=Ale g;by_cases hd:d=0
  .subst hd;simp only[Cy (ω:((Ah n).length:Int)≠0),Am,Hc,Ad];rfl
  .have j:=Ale hd;have f:Nat.gcd n d≠0:=(by have:=Nat.gcd_pos_of_pos_left d (ω:0<n);omega);have s:Bp (Nat.gcd n d)<=Bp n:=L7 (Nat.gcd_le_left d (ω:0<n));simp only[Cy (ω:((Ah n).length:Int)≠0),Am,Cy (ω:((Ah d).length:Int)≠0),Ad,A5e n d ω ω];rw[Xv,Au hd,Ci,Au g];have key:(bif (((Ah (Nat.gcd n d)).length:Int) != (1:Int)) then some true else ((Ag (Ah (Nat.gcd n d)) 0).bind λh=>some (h != (1:Int))))=some (decide (Nat.gcd n d≠1)):=by
    have h3:=Ak5 (Nat.gcd n d);unfold T0 at h3;by_cases q:(Ah (Nat.gcd n d)).length=1
    .rw[Fm (ω:((Ah (Nat.gcd n d)).length:Int)=1),Ak]at h3;rw[Ea (ω:((Ah (Nat.gcd n d)).length:Int)=1),Am];cases hi:Ag (Ah (Nat.gcd n d)) 0 with| none=>rw[hi]at h3;cases h3| some v=>rw[hi]at h3;simp only[Ad]at h3 ⊢;have h3:=Ew h3;congr 1;rw[bne,h3];simp
    .rw[Cy (ω:((Ah (Nat.gcd n d)).length:Int)≠1),Am]at h3;rw[D9 (ω:((Ah (Nat.gcd n d)).length:Int)≠1),Ak];have h3:=Ew h3;have:Nat.gcd n d≠1:=(by simpa using h3.symm);rw[Ao this]
   rw[key,Ad];by_cases hg:Nat.gcd n d=1
   .rw[As (by simpa using hg),Am,hg];simp
   .rw[Ao hg,Ak,Ald n _ ω ω f,Ad,Ald d _ ω ω f,Ad]
theorem A5g (a:A7):Xv a.N (Ap a.U).toNat (Ap a.B).toNat=Ci (sv a) (nv a) (dv a):=by
 unfold Xv sv nv dv;by_cases b:(Ap a.U).toNat=0
 .simp[b,Ci]
 .by_cases hd:(Ap a.B).toNat=0
  .simp[hd,Ci]
  .simp[b,hd]
theorem Atg (a:A7) (k:Nat) (h:RB k a) (hk:k<137438953400):Wc a=some (Ci (sv a) (nv a) (dv a)):=by unfold Wc;have:=h.nl;have:=h.dl;rw[A5f _ _ _ h.num h.den ω ω,Ad,A5g]
theorem A5h (s:Bool) (n d:Nat) (hd:d≠0):(Ci s n d).U=Ah (nv (Ci s n d))/\(Ci s n d).B=Ah (dv (Ci s n d))/\(Ci s n d).N=sv (Ci s n d):=by
 obtain⟨h1,h2,h3,c⟩:=Af3 s n d hd;rw[h1,h2];by_cases h0:n=0
 .subst h0;rw[c rfl,Abe];have b:d / Nat.gcd 0 d=1:=(by rw[Nat.gcd_zero_left];exact Nat.div_self ω);rw[b,Nat.zero_div,Hc,Abc];exact⟨rfl,rfl,rfl⟩
 .rw[h3 h0];simp[Ci,h0]
theorem A5i (a:A7):∃g:Nat,g≠0/\nv a=g*nv (Ci (sv a) (nv a) (dv a))/\dv a=g*dv (Ci (sv a) (nv a) (dv a))/\sv (Ci (sv a) (nv a) (dv a))=sv a:=by
 obtain⟨h1,h2,h3,b⟩:=Af3 (sv a) (nv a) (dv a) (Ie a);have hd:=Ie a;have hg:0<Nat.gcd (nv a) (dv a):=Nat.gcd_pos_of_pos_right _ ω;refine⟨Nat.gcd (nv a) (dv a),ω,?_,?_,?_⟩
 .rw[h1];exact (Nat.mul_div_cancel' (Nat.gcd_dvd_left _ _)).symm
 .rw[h2];exact (Nat.mul_div_cancel' (Nat.gcd_dvd_right _ _)).symm
 .by_cases h0:nv a=0
  .rw[b h0];unfold nv at h0;unfold sv;split at h0
   .rename_i hc;rw[Aw hc]
   .omega
  .exact h3 h0
theorem Ath (h:RB k a):RB (k+1) (Ci (sv a) (nv a) (dv a)):=Qx _ _ _ _ h.nv h.dv ω
theorem Ati (a:A7) (k:Nat) (h:RB k a) (hk:k<137438953400):Wb a=some (Kj (sv a) (nv a)):=by
 unfold Wb;rw[Atg a k h hk,Ad];obtain⟨g,hg,a1,a2,a3⟩:=A5i a;obtain⟨f1,f2,f3⟩:=A5h (sv a) (nv a) (dv a) (Ie a);rw[f1,f3,a3,Kj];by_cases h0:nv a=0
 .have:nv (Ci (sv a) (nv a) (dv a))=0:=by
   rw[h0]at a1;rcases Nat.mul_eq_zero.1 a1.symm with h|h
   .exact (hg h).elim
   .rw[h0];exact h
  rw[this,Hc,Aw h0];rfl
 .have:nv (Ci (sv a) (nv a) (dv a))≠0:=(by intro e;rw[e,Nat.mul_zero]at a1;exact h0 a1);have:=Ale this;rw[Cy ω,Am,Au h0];cases sv a <;> rfl
theorem Af5 (s:Bool) (n d:Nat) (hd:d≠0):∃g:Nat,g≠0/\n=g*nv (Ci s n d)/\d=g*dv (Ci s n d)/\(n≠0->sv (Ci s n d)=s)/\(n=0->sv (Ci s n d)=false):=by obtain⟨h1,h2,h3,b⟩:=Af3 s n d hd;have hg:0<Nat.gcd n d:=Nat.gcd_pos_of_pos_right _ ω;exact⟨Nat.gcd n d,ω,by rw[h1];exact (Nat.mul_div_cancel' (Nat.gcd_dvd_left _ _)).symm,by rw[h2];exact (Nat.mul_div_cancel' (Nat.gcd_dvd_right _ _)).symm,h3,b⟩
theorem A5j (s t:Bool) (n d m e:Nat) (hd:d≠0) (he:e≠0):Ci (sv (Ci s n d) != sv (Ci t m e)) (nv (Ci s n d)*nv (Ci t m e)) (dv (Ci s n d)*dv (Ci t m e))=Ci (s != t) (n*m) (d*e):=by
 obtain⟨g,hg,a1,a2,a3,_⟩:=Af5 s n d hd;obtain⟨h,k,b1,b2,q,_⟩:=Af5 t m e he;have l:Ci (s != t) (n*m) (d*e)=Ci (sv (Ci s n d) != sv (Ci t m e)) (n*m) (d*e):=by apply Atb;intro b;have i:n≠0:=λe=>b (by rw[e];simp);have j:m≠0:=λe=>b (by rw[e];simp);rw[a3 i,q j]
 rw[l];generalize Ci s n d=c at *;generalize Ci t m e=f at *;rw[a1,a2,b1,b2,show g*nv c*(h*nv f)=g*h*(nv c*nv f) by grind,show g*dv c*(h*dv f)=g*h*(dv c*dv f) by grind,Xt _ _ _ _ (Nat.mul_ne_zero hg k)]
def Ig (n:Nat):Nat->Nat
 | 0=>1
 | k+1=>Ig n k*(n-k)
def fct:Nat->Nat
 | 0=>1
 | k+1=>fct k*(k+1)
theorem Af6:∀k,fct k≠0
 | 0=>δ
 | k+1=>Nat.mul_ne_zero (Af6 k) ω
theorem A5k (h:n<k):Ig n k=0:=by
 induction k with
 | zero=>omega
 | succ k ih=>
  simp only[Ig];rcases Cf n k with h'|h'
  .rw[ih h'];simp
  .have:n-k=0:=ω;rw[this];simp
theorem A5l (n k:Nat) (b:n<1000000000):Bp (Ig n k)<=k+1:=by induction k with| zero=>simp[Ig,Sl]| succ k ih=>have h1:=Lo (Ig n k) (n-k);have h2:Bp (n-k)<=1:=Ku ζ;simp only[Ig];omega
theorem A5m (k:Nat) (hk:k<1000000000):Bp (fct k)<=k+1:=by induction k with| zero=>simp[fct,Sl]| succ k ih=>have h1:=Lo (fct k) (k+1);have h2:Bp (k+1)<=1:=Ku ζ;simp only[fct];have:=ih ω;omega
theorem Atj (h:n<1000000000):Bp n<=1:=Ku (by simpa using h)
theorem A5n (n k:Nat) (b:n<1000000000) (hk:k<=64):RB (k+1) (Ci false (Ig n k) (fct k)) := Qx _ _ _ _ (A5l n k b) (A5m k ω) ω
theorem Atl (a:A7):A7.mk a.N a.U a.B=a:=by cases a;rfl
theorem Atm (n k:Nat) (z:n<1000000000) (hk:k<=64):W0 (n:Int) (k:Int)=some (Ci false (Ig n k) (fct k)):=by
 unfold W0;have A:G1 1=some (Ci false (Ig n 0) (fct 0)):=Abd 1 δ δ;rw[A,Ad];refine Jp (λ(i,s,b,c)=>∃q:Nat,i=q/\q<=k/\q<=n/\A7.mk s b c=Ci false (Ig n q) (fct q)) (λ(i,_,_,_)=>k-i.toNat) (λe=>match e with|.inl r=>r=Ci false (Ig n k) (fct k) | .inr (s,b,c)=>A7.mk s b c=Ci false (Ig n k) (fct k)) ⟨0,rfl,ω,ω,Atl _⟩ ?_ ?_
 .rintro⟨i,s,b,c⟩ ⟨q,rfl,hq,y,ha⟩;rcases Cf q k with h|h
  .simp only[Ao (ω:(q:Int)<(k:Int)),Ak];by_cases u:n=q
   .subst u;refine .inr ⟨.inl (Ci false 0 1),?_,?_⟩
    .rw[Fm rfl,Ak,Abd 0 δ δ];rfl
    .show Ci false 0 1=_;rw[A5k h,Abe,Abe]
   .have l:Aa ((n:Int)-(q:Int))=((n-q:Nat):Int):=ξ;have j:Aa ((q:Int)+1)=((q+1:Nat):Int):=Nj h ω;have x:Ug ((n-q:Nat):Int) ((q+1:Nat):Int)=some (Ci false (n-q) (q+1)):=(by rw[A41 _ _ ω ω ω ω ω,As (ω:¬((n-q:Nat):Int)<0),As (ω:¬((q+1:Nat):Int)<0)];rfl);have f:RB 1 (Ci false (n-q) (q+1)):=Qx _ _ _ _ (Atj ω) (Atj ω) ω;have g:=Af2 _ _ _ _ (A5n n q z ω) f ω ω;rw[A5j false false (Ig n q) (fct q) (n-q) (q+1) (Af6 q) ω]at g;refine .inl ⟨(((q+1:Nat):Int),(Ci false (Ig n (q+1)) (fct (q+1))).N,(Ci false (Ig n (q+1)) (fct (q+1))).U,(Ci false (Ig n (q+1)) (fct (q+1))).B),?_,⟨q+1,rfl,ω,ω,Atl _⟩,ζ⟩;rw[Cy ω,Am,l,j,x,Ad,ha,g,Ad];rfl
  .have:q=k:=ω;subst this;refine .inr ⟨.inr (s,b,c),ψ,ha⟩
 .rintro (e|⟨s,b,c⟩) he
  .simp only at he ⊢;rw[he]
  .simp only at he ⊢;rw[he]
theorem A5o [DecidableEq α] (l m:List α) (b:l.length=m.length):(decide (l=m))=l.zipIdx.all (λq=>decide (m[q.2]? = some q.1)):=by
 rw[Bool.eq_iff_iff,D8];constructor
 .rintro rfl;exact Ae3 λj x hx=>by simpa using hx
 .intro h;apply ext_getElem?;intro j;cases hx:l[j]? with| none=>rw[List.getElem?_eq_none_iff]at hx;rw[Us ω]| some x=>have:=Jq h hx;rw[D8]at this;rw[this]
theorem Alf (l m:List Int) (b:l.length<1099511627776) (h:l.length=m.length) {J:Bool⊕Unit->Option R} {rt rf:R} (h1:J (.inl false)=some rf) (h2:J (.inr ())=some rt) : (An (S:=Int) (E:=(Bool⊕Unit)) (λv3=>bif v3<(l.length:Int) then ((Ag l v3).bind λv4=>(Ag m v3).bind λv5=>bif (v4 != v5) then some (.inr (.inl false)) else some (.inl (Aa (v3+1)))) else some (.inr (.inr ()))) 0).bind J=some (bif decide (l=m) then rt else rf):=by
 rw[A5o l m h];refine Uu l (λq=>decide (m[q.2]? = some q.1)) (λj=>(j:Int)) rfl ω (rt:=rt) (rf:=rf) ?_ ?_
 .intro j x hx _ g1 g2 g3;have hj:j<m.length:=(by have:=Eh hx;omega);have hy:m[j]? = some m[j]:=B4 hj;generalize m[j]=y at hy;simp only[g1,g2,g3,Ak,Ad,Br rfl hy,hy,Option.some.injEq];by_cases e:x=y
  .rw[Ea e,Ao e.symm];exact⟨λ_=>rfl,λh=>by cases h⟩
  .rw[D9 e,As (λh=>e h.symm)];exact⟨nofun,λ_=>⟨.inl false,rfl,h1⟩⟩
 .intro h _;exact⟨.inr (),by simp only[h];rfl,h2⟩
theorem Atn (l m:List Int) (b:l.length<1099511627776):O5 l m=some (decide (l=m)):=by
 unfold O5;by_cases h:l.length=m.length
 .rw[Ea ω];simp only[Am];refine (Alf l m b h (rt:=true) (rf:=false) ?_ ?_).trans (by rw[Qm]) <;> rfl
 .rw[D9 ω,As (λe=>h (by rw[e]))];rfl
def Pj (a b:A7):Bool:=a.N==b.N&&decide (a.U=b.U)&&decide (a.B=b.B)
theorem Af7 (a b:A7):Pj a b=true↔a=b:=by
 unfold Pj;simp only[Dz,beq_iff_eq,D8];constructor
 .rintro⟨⟨h1,h2⟩,h3⟩;cases a;cases b;simp_all
 .rintro rfl;simp
theorem A5p (a b:A7) (h1:a.U.length<1099511627776) (h2:a.B.length<1099511627776):Ze a b=some (Pj a b):=by
 unfold Ze Pj;cases g:(a.N==b.N) with
 | false=>rw[show (a.N != b.N)=true by simp[bne,g]];rfl
 | true=>
  rw[show (a.N != b.N)=false by simp[bne,g]];simp only[Am];by_cases f:a.U.length=b.U.length
  .rw[Ea ω];by_cases c:a.B.length=b.B.length
   .rw[Ea ω];simp only[Am,Ad,Bool.true_and];refine (Alf a.U b.U h1 f (rt:=decide (a.B=b.B)) (rf:=false) rfl ?_).trans (by cases decide (a.U=b.U) <;> rfl);refine (Alf a.B b.B h2 c (rt:=true) (rf:=false) ?_ ?_).trans (by rw[Qm]) <;> rfl
   .rw[D9 ω,As (λe:a.B=b.B=>c (by rw[e]))];simp
  .rw[D9 ω,As (λe:a.U=b.U=>f (by rw[e]))];simp
def U7 (c:A7):Bool:=Pj (Ci (sv c) (nv c) (dv c)) c && !(nv c==0)
theorem A5q (c:A7):U7 c=(Pj c (Ci (sv c) (nv c) (dv c)) && !(nv c==0)):=by unfold U7;congr 1;rw[Bool.eq_iff_iff,Af7,Af7];exact eq_comm
structure TSz (t:Aj):Prop where
 co:RB 1048576 t.C
 mo:MSz t.M
def So (l:List Aj) (x:Aj) (j:Nat):Bool:=j==0||(match l[j-1]? with|some y=>decide (Ei y.M x.M<0) | none=>false)
def Sp (data:List Al) (vars:List Af) (res:Af) (l:List Aj) (t:Aj) (j:Nat):Bool:=U7 t.C&&Ix data vars res t.M&&So l t j
def Kz (data:List Al) (vars:List Af) (res:Af) (p:List Aj):Bool:=decide (p.length<=1000)&&p.zipIdx.all (λq=>Sp data vars res p q.1 q.2)
theorem Ato {S:Type} (F:Bd->Bd->Option Int) (l:List Aj) (g:∀y∈l,∀x,F y.M x=some (Ei y.M x)) {x:Aj} (hx:l[j]? = some x) (i:l.length<4611686018427387904) (c b:Option (S⊕E)) : (bif decide ((j:Int)>0) then ((Ag l (Aa ((j:Int)-1))).bind λf=>(F f.M x.M).bind λv28=>bif decide (v28>=0) then c else b) else b)=bif So l x j then b else c:=by
 have hj:=Eh hx;unfold So;by_cases h:j=0
 .subst h;rfl
 .rw[Ao ω];have e:Aa ((j:Int)-1)=((j-1:Nat):Int):=ξ;have hy:l[j-1]? = some l[j-1]:=B4 ω;rw[e,Br rfl hy,hy];have h0:(j==0)=false:=(by simpa using h);simp only[Ak,Ad,h0,Bool.false_or,g _ (getElem_mem (ω:j-1<l.length))];by_cases hc:Ei l[j-1].M x.M<0
  .rw[As ω,Ao hc];rfl
  .rw[Ao ω,As hc];rfl
theorem Atp (s:Bool) (n:Nat):(Kj s n==0)=(n==0):=by
 unfold Kj;by_cases h:n=0
 .rw[Aw h];subst h;rfl
 .rw[Au h];have:(n==0)=false:=(by simpa using h);rw[this];cases s <;> rfl
theorem A5r (hc:Ky data vars res) {b1:List (ByteArray×Int)} (b2:List (ByteArray×List Av)) (V:D0 data vars res b1) (p:List Aj) (U:∀t∈p,TSz t) :
  ∃B,Zh p b1 b2 data vars res.G res.U res.R=some (Kz data vars res p,B)/\D0 data vars res B:=by
 unfold Zh Kz
 by_cases A:p.length<=1000
 .rw[As ω,Ao A,Bool.true_and]
  simp only[Am]
  obtain⟨r,X,S⟩:=Aax (M:=List (ByteArray×Int)) (R:=Bool×List (ByteArray×Int)) p (λq=>Sp data vars res p q.1 q.2) (λj o=>((j:Int),o)) (D0 data vars res)
   (λr=>D0 data vars res r.2/\r.1=true) (λr=>D0 data vars res r.2/\r.1=false) b1
   (s0:=((0:Int),b1))
   (step:=(λ(b,g)=>
    bif b<(p.length:Int) then (
    (Ag p b).bind λv12=>
    (J3 v12.C).bind λf=>
    (show OB from
    bif (f.N==v12.C.N) then (
    (O5 f.U v12.C.U).bind λi=>
    bif i then (
    (O5 f.B v12.C.B).bind λv17=>
    some v17)
    else some false)
    else some false).bind λE=>
    bif (!E) then some (.inr (.inl (false,g)))
    else (
    (I4 f).bind λD=>
    bif (D==(0:Int)) then some (.inr (.inl (false,g)))
    else (
    (Ws v12.M g b2 data vars res.G res.U res.R).bind λv20=>
    bif (!v20.1) then some (.inr (.inl (false,v20.2)))
    else (
    bif b>(0:Int) then (
    (Ag p (Aa (b-1))).bind λv21=>
    (Rm v21.M v12.M).bind λv22=>
    bif v22>=(0:Int) then some (.inr (.inl (false,v20.2)))
    else some (.inl ((Aa (b+1)),v20.2)))
    else some (.inl ((Aa (b+1)),v20.2))))))
    else some (.inr (.inr g)):Int×List (ByteArray×Int)->Option ((Int×List (ByteArray×Int))⊕((Bool×List (ByteArray×Int))⊕List (ByteArray×Int)))))
   (J:=(λz=>match z with
    | .inl (I,G)=>some (I,G)
    | .inr L=>some (true,L)))
   rfl V ω (by
    intro j t o u hx _ h1 h2 h3
    have c:=U t (Bq hx)
    obtain⟨B,d1,d2⟩:=A4n b2 hc u t.M c.mo
    have s:∀l:List Int,l=(Ci (sv t.C) (nv t.C) (dv t.C)).U\/l=(Ci (sv t.C) (nv t.C) (dv t.C)).B->l.length<1099511627776:=by
     intro l A
     have q:=Qx (sv t.C) (nv t.C) (dv t.C) 1048577 c.co.nv c.co.dv ω
     have:=q.nl
     have:=q.dl
     rcases A with rfl|rfl <;> omega
    have k:(bif ((Ci (sv t.C) (nv t.C) (dv t.C)).N==t.C.N) then ((O5 (Ci (sv t.C) (nv t.C) (dv t.C)).U t.C.U).bind λi=>bif i then ((O5 (Ci (sv t.C) (nv t.C) (dv t.C)).B t.C.B).bind λv17=>some v17) else some false) else some false)=some (Pj (Ci (sv t.C) (nv t.C) (dv t.C)) t.C):=by
     unfold Pj
     rw[Atn _ _ (s _ (.inl rfl)),Atn _ _ (s _ (.inr rfl))]
     cases ((Ci (sv t.C) (nv t.C) (dv t.C)).N==t.C.N) <;> cases decide ((Ci (sv t.C) (nv t.C) (dv t.C)).U=t.C.U) <;> rfl
    simp only[h1,h2,h3,Ak,Ad,Ak6 t.C 1048576 c.co ω,k,Ato Rm p (λy hy x=>Asr y.M x (U y hy).mo) hx ω,Sp,U7]
    cases N:Pj (Ci (sv t.C) (nv t.C) (dv t.C)) t.C with
    | false=>exact⟨nofun,λ_=>⟨_,rfl,_,rfl,u,rfl⟩⟩
    | true=>
     have e:=(Af7 _ _).1 N
     simp only[Eg,Am,Bool.true_and]
     rw[e,Ak7 t.C 1048576 c.co ω,Ad,Atp]
     cases (nv t.C==0) with
     | true=>exact⟨nofun,λ_=>⟨_,rfl,_,rfl,u,rfl⟩⟩
     | false=>
      simp only[Am,d1,Ad,Bool.not_false,Bool.true_and]
      cases Ix data vars res t.M with
      | false=>exact⟨nofun,λ_=>⟨_,rfl,_,rfl,d2,rfl⟩⟩
      | true=>
       cases So p t j with
       | true=>exact⟨λ_=>⟨B,rfl,d2⟩,λh=>by cases h⟩
       | false=>exact⟨nofun,λ_=>⟨_,rfl,_,rfl,d2,rfl⟩⟩) (by
    intro o u h1 _
    exact⟨.inr o,by simp only[h1];rfl,_,rfl,u,rfl⟩)
  refine⟨r.2,?_,?_⟩
  .have e:some r=some (p.zipIdx.all (λq=>Sp data vars res p q.1 q.2),r.2):=by
    rcases S with⟨h1,h2,h3⟩|⟨h1,h2,h3⟩
    .rw[h1,<-h3]
    .rw[h1,<-h3]
   rw[<-e]
   exact X
  .rcases S with⟨h1,h2,h3⟩|⟨h1,h2,h3⟩ <;> exact h2
 .rw[Ao ω,As A]
  exact⟨b1,rfl,V⟩
theorem A5s (hc:Ky x.D x.V x.E) (p:List Aj) (c:∀t∈p,TSz t):Y6 x p=some (Kz x.D x.V x.E p):=by
 unfold Y6 Kz;by_cases f:p.length<=1000
 .rw[As ω,Ao f,Bool.true_and];simp only[Am];refine (Uu p (λq=>Sp x.D x.V x.E p q.1 q.2) (λj=>(j:Int)) rfl ω (rt:=true) (rf:=false) ?_ ?_).trans (by rw[Qm])
  .intro j t hx _ h1 h2 h3;have b:=c t (Bq hx);obtain⟨v,g,v2⟩:=A4o hc t.M b.mo;simp only[h1,h2,h3,Ak,Ad,g,v2,Ati t.C 1048576 b.co ω,Atp,Atg t.C 1048576 b.co ω,A5p t.C _ (by have:=b.co.nl;omega) (by have:=b.co.dl;omega),
    Ato Wd p (λy hy x=>A4f y.M x (c y hy).mo) hx ω,Sp,A5q];cases Ix x.D x.V x.E t.M with
   | false=>exact⟨(λh=>by simp at h),λ_=>⟨.inl false,rfl,rfl⟩⟩
   | true=>
    cases (nv t.C==0) with
    | true=>exact⟨(λh=>by simp at h),λ_=>⟨.inl false,rfl,rfl⟩⟩
    | false=>
     cases Pj t.C (Ci (sv t.C) (nv t.C) (dv t.C)) with
     | false=>exact⟨(λh=>by simp at h),λ_=>⟨.inl false,rfl,rfl⟩⟩
     | true=>cases So p t j with| true=>exact⟨λ_=>rfl,λh=>by cases h⟩| false=>exact⟨nofun,λ_=>⟨.inl false,rfl,rfl⟩⟩
  .intro h _;exact⟨.inr (),by simp only[h];rfl,rfl⟩
 .rw[Ao ω,As f];rfl
structure CSz (x:Bs):Prop where
 ds:DSz x.D
 nv:x.V.length<=1048576
 vs:∀t∈x.V,Bl t<=1048576
 rs:Bl x.E<=1048576
def G4 (data:List Al) (t:Af):Bool:=He data 0 t&&decide (Bl t<=200)
def Ih (x:Bs):Prop:=x.V.length<=3000/\Hx x.D/\G4 x.D x.E=true/\x.V.all (G4 x.D)=true
theorem Ih.ctx (h:Ih x) (c:CSz x):Ky x.D x.V x.E:=by
 refine⟨h.2.1,c.ds.sz.short,λv t ht=>?_,h.1⟩;have good:∀t,G4 x.D t=true->Bl t<=200:=λt h=>by simp only[G4,Dz,D8]at h;exact h.2
 unfold Em at ht;by_cases b:v = -1
 .rw[Aw b]at ht;cases ht;exact good _ h.2.2.1
 .rw[Au b]at ht;exact good t (I5.1 h.2.2.2 t (G9 ht).2.2.2)
theorem A5t (x:Bs) (c:CSz x):∃b,Y5 x=some b/\(b=true↔Ih x):=by
 obtain⟨b,b1,b2⟩:=A3q c.ds;have l:=c.nv;have k:=c.rs;unfold Y5 Ih;rw[b1,Ake x.D x.E 0 ω];simp only[Ad];cases b with
 | false=>exact⟨false,rfl,by simp;intro _ h;have:=b2.2 h;cases this⟩
 | true=>
  have i:=b2.1 rfl;simp only[Eg,Am];by_cases g:x.V.length<=3000
  .rw[As ω];simp only[Am,Ad];cases f:(He x.D 0 x.E&&decide (Bl x.E<=200)) with
   | false=>exact⟨false,rfl,by simp[G4,f]⟩
   | true=>
    refine⟨x.V.all (G4 x.D),?_,by rw[show G4 x.D x.E=true from f];simp[g,i]⟩;simp only[Eg,Am];refine (Sc x.V (G4 x.D) (λj=>(j:Int)) rfl ω (rt:=true) (rf:=false) ?_ ?_).trans (by rw[Qm])
    .intro j t ht h1 h2 h3;have:=c.vs t (Bq ht);simp only[h1,h2,h3,Ak,Ad,Ake x.D t 0 ω];rw[show (He x.D 0 t&&decide (Bl t<=200))=G4 x.D t from rfl];cases G4 x.D t with| true=>exact⟨λ_=>rfl,λh=>by cases h⟩| false=>exact⟨nofun,λ_=>⟨.inl false,rfl,rfl⟩⟩
    .intro h;exact⟨.inr (),by simp only[h];rfl,rfl⟩
  .rw[Ao ω];exact⟨false,rfl,by simp[g]⟩
theorem Alg (x:Bs) (c:CSz x) (p:List Aj) (hp:∀t∈p,TSz t):∃b,Mh x p=some b/\(b=true↔Ih x/\Kz x.D x.V x.E p=true):=by obtain⟨b,b1,b2⟩:=A5t x c;unfold Mh;rw[b1,Ad];cases b with| false=>exact⟨false,rfl,by simp;intro h;have:=b2.2 h;cases this⟩| true=>have hf:=b2.1 rfl;rw[A5s (hf.ctx c) p hp];exact⟨_,rfl,by simp[hf]⟩
theorem A5u:∀(k:Nat) (t:Af),Bl t<=k->k<1099511627776->∃i,Uj k t=some i/\True:=by
 intro k;induction k with
 | zero=>intro t h;have:=Ol t;omega
 | succ k ih=>
  intro t h hk;have g:=Iq t;have c:=Jr t.R;rw[Uj];refine Pf ?_ ⟨_,rfl,trivial⟩;refine Ey (λ(i,o)=>∃j:Nat,i=j/\j<=t.R.length/\o.length=j) (λ(i,_)=>t.R.length-i.toNat) (λ_=>True) ⟨0,rfl,ω,rfl⟩ ?_ (λe _=>⟨_,rfl,trivial⟩);rintro⟨i,o⟩ ⟨j,rfl,hj,b⟩;rcases Cf j t.R.length with h'|h'
  .have hx:t.R[j]? = some t.R[j]:=B4 h';generalize t.R[j]=x at hx;have l:=Iw (Bq hx);obtain⟨y,f,_⟩:=ih x ω ω;simp only[Ao (ω:(j:Int)<(t.R.length:Int)),Ak,Br rfl hx,Ad,f,C5 h' ω];have b:o.length=j:=b;rw[Dn ζ,Ad];exact .inl ⟨_,rfl,⟨j+1,rfl,ω,by simp[b]⟩,ζ⟩
  .have:j=t.R.length:=ω;subst this;exact .inr ⟨o,ψ,trivial⟩
theorem Alh (c:DSz data) (f:Hx data) (t:Af) (hg:G4 data t=true) (i:Ai) (hi:Bo i<=1048576):Mk data t i=some (Hy (C3 data i t)):=by
 have b:=hg;simp only[G4,Dz,D8]at b;obtain⟨q,h,g⟩:=Akk c;have hq:q=true:=g.2 f;subst hq;unfold Mk Uf;rw[h,Aa0 data t 0 ω];simp only[Ad,Ak];rw[show (He data 0 t&&decide (Bl t<=200))=G4 data t from rfl,hg];obtain⟨p,k,j⟩:=(A32 f.szv c.sz.short 4000000).1 i t ω hi b.2;simp only[Eg,Am,k,Ad];rcases j with⟨a1,d,a2,a3,a4⟩|⟨a1,a2⟩
 .rw[a1,a2,Qs a3,a4];rfl
 .rw[a1,Uz a2];rfl
theorem A5v (h:Ix data vars res m=true):(∀f∈m.F,∃t,Em vars res f.v=some t)/\m.F.length<=6:=by
 unfold Ix at h;simp only[Dz,D8]at h;obtain⟨⟨h1,h2⟩,h3⟩:=h;have hf:∀f∈m.F,1<=D3 data vars res f:=by intro f hf;obtain⟨j,hj⟩:=Hu hf;have:=Jq h1 hj;simp only[Ma,Dz,D8]at this;exact this.1
 have ha:0<=Dk m.A:=(Aa9 m.A (λa ha=>by obtain⟨j,hj⟩:=Hu ha;have:=Jq h2 hj;simp only[Ki,Dz,D8]at this;omega)).1;refine⟨λf b=>?_,?_⟩
 .have:=hf f b;unfold D3 at this;cases ht:Em vars res f.v with
  | none=>rw[ht]at this;have:(1:Int)<=-1:=this;omega
  | some t=>exact⟨t,rfl⟩
 .have key:∀l:List Bf,(∀f∈l,1<=D3 data vars res f)->(l.length:Int)<=Bw data vars res l:=(by intro l;induction l with| nil=>intro _;simp[Bw]| cons f fs ih=>intro c;have h1:=c f ψ;have h2:=ih (λg hg=>c g (by simp[hg]));unfold Bw at *;simp only[map_cons,sum_cons,Ed];omega);have:=key m.F hf;omega
theorem A5w (a b:A7) (j k:Nat) (ha:RB j a) (hb:RB k b) (hj:j<34359738000) (hk:k<34359738000):∃c,N8 a b=some c/\True/\RB (j+k+3) c:=by
 refine⟨_,Ak9 a b j k ha hb ω ω,trivial,?_⟩;have h1:=ha.nv;have h2:=ha.dv;have h3:=hb.nv;have s:=hb.dv;have q:=Lo (nv a) (dv b);have l:=Lo (nv b) (dv a);have i:=Lo (dv a) (dv b);have f:Sn (sv a) (nv a) (dv a) (sv b) (nv b) (dv b)<=nv a*dv b+nv b*dv a:=by
  unfold Sn;split
  .omega
  .split <;> omega
 have h:=L7 f;have g:=Arn (nv a*dv b) (nv b*dv a);exact Qx _ _ _ _ ω ω ω
theorem A5x (k:Nat):RB k ⟨false,[],[]⟩:=⟨nofun,nofun,ψ,ψ⟩
def sg (s:Bool) (n:Nat):Int:=if s then -(n:Int) else n
def rq (a:A7):Rat:=mkRat (sg (sv a) (nv a)) (dv a)
def K1 (a:A7):Prop:=a=Ci (sv a) (nv a) (dv a)
theorem Sq (s:Bool) (n d:Nat) (hd:d≠0):rq (Ci s n d)=mkRat (sg s n) d:=by
 obtain⟨g,hg,h1,h2,h3,f⟩:=Af5 s n d hd;unfold rq;rw[Rat.mkRat_eq_iff (Ie _) hd];generalize nv (Ci s n d)=b at *;generalize dv (Ci s n d)=i at *;generalize sv (Ci s n d)=s' at *;by_cases c:n=0
 .have:b=0:=by
   rcases Nat.eq_zero_or_pos b with h|h
   .exact h
   .have:=Nat.mul_pos (Nat.pos_of_ne_zero hg) h;omega
  subst this;subst c;cases s <;> cases s' <;> simp[sg]
 .rw[h3 c,h1,h2];cases s <;> simp only[sg,if_true,if_false,Bool.false_eq_true,Int.natCast_mul] <;> grind
theorem U8 (s:Bool) (n d:Nat) (hd:d≠0):K1 (Ci s n d):=by
 obtain⟨g,hg,h1,h2,h3,f⟩:=Af5 s n d hd;unfold K1;generalize hc:Ci s n d=c at h1 h2 h3 f;have e:=Xt s (nv c) (dv c) g hg;rw[<-h1,<-h2,hc]at e;by_cases b:n=0
 .have h0:nv c=0:=by
   rcases Nat.eq_zero_or_pos (nv c) with h|h
   .exact h
   .have:=Nat.mul_pos (Nat.pos_of_ne_zero hg) h;omega
  rw[h0,Abe]at e ⊢;exact e
 .rw[h3 b];exact e
theorem Atq (n m:Int) {d e:Nat} (hd:d≠0) (he:e≠0):mkRat n d<mkRat m e↔n*e<m*d:=by
 have c:(0:Rat)<(d:Rat):=Rat.natCast_pos.2 ω;have b:(0:Rat)<(e:Rat):=Rat.natCast_pos.2 ω;rw[Rat.mkRat_eq_div,Rat.mkRat_eq_div,Rat.div_lt_iff c];rw[<-Rat.mul_lt_mul_right b];have f:(m:Rat) / (e:Rat)*(d:Rat)*(e:Rat)=(m:Rat)*(d:Rat):=by grind
 rw[f];have a1:(n:Rat)*(e:Rat)=((n*(e:Int):Int):Rat):=by rw[Rat.intCast_mul];rfl
 have a2:(m:Rat)*(d:Rat)=((m*(d:Int):Int):Rat):=by rw[Rat.intCast_mul];rfl
 rw[a1,a2,Rat.intCast_lt_intCast]
theorem Af8 {b:A7} (ha:K1 a) (hb:K1 b) (h:rq a=rq b):a=b:=by
 unfold rq at h;rw[Rat.mkRat_eq_iff (Ie _) (Ie _)]at h;rw[ha,hb];have q:=Ie a;have l:=Ie b;generalize nv a=n at *;generalize dv a=d at *;generalize sv a=s at *;generalize nv b=m at *;generalize dv b=e at *;generalize sv b=t at *;have f:n*e=m*d/\(n≠0->s=t):=by
  have c:n≠0->0<n*e:=λh=>Nat.mul_pos ω ω;have g:m≠0->0<m*d:=λh=>Nat.mul_pos ω ω;have c1:((n*e:Nat):Int)=(n:Int)*e:=ψ;have c2:((m*d:Nat):Int)=(m:Int)*d:=ψ;cases s <;> cases t <;> simp only[sg,if_true,if_false,Bool.false_eq_true,Int.neg_mul]at h
  .exact⟨ω,λ_=>rfl⟩
  .have:n*e=0/\m*d=0:=ω;refine⟨ω,λi=>?_⟩;have:=c i;omega
  .have:n*e=0/\m*d=0:=ω;refine⟨ω,λi=>?_⟩;have:=c i;omega
  .exact⟨ω,λ_=>rfl⟩
 have k:=Xt s n d e l;have j:=Xt t m e d q;rw[<-k,<-j,Nat.mul_comm e n,f.1,Nat.mul_comm e d,Nat.mul_comm m d];refine Atb λh0=>f.2 ?_;rintro rfl;rw[Nat.zero_mul]at f;have:=f.1;rw[Nat.mul_comm d m]at h0;omega
theorem A5y (j:Bool) (c g:Nat) (i:Bool) (b f:Nat):sg (Xs j c g i b f) (Sn j c g i b f)=sg j c*f+sg i b*g:=by
 unfold Xs Sn sg;have c1:((c*f:Nat):Int)=(c:Int)*f:=ψ;have c2:((b*g:Nat):Int)=(b:Int)*g:=ψ;cases j <;> cases i <;> simp only[if_true,if_false,Bool.false_eq_true,Bool.true_eq_false,Int.neg_mul]
 .omega
 .by_cases h:b*g<=c*f
  .simp only[Aw h];simp only[if_false,Bool.false_eq_true];omega
  .simp only[Au h];simp only[if_true];omega
 .by_cases h:b*g<=c*f
  .simp only[Aw h];simp only[if_true];omega
  .simp only[Au h];simp only[if_false,Bool.false_eq_true];omega
 .omega
theorem Af9 {b:A7} (ha:RB j a) (hb:RB k b) (hj:j<34359738000) (hk:k<34359738000):∃c,N8 a b=some c/\True/\RB (j+k+3) c/\K1 c/\rq c=rq a+rq b:=by
 obtain⟨c,h1,h2,h3⟩:=A5w a b j k ha hb hj hk;have e:=Ak9 a b j k ha hb ω ω;rw[h1]at e;have e:=Ew e;have hd:dv a*dv b≠0:=Nat.mul_ne_zero (Ie a) (Ie b);refine⟨c,h1,h2,h3,?_,?_⟩
 .rw[e];exact U8 _ _ _ hd
 .rw[e,Sq _ _ _ hd,A5y,rq,rq,Rat.mkRat_add_mkRat _ _ (Ie a) (Ie b)]
theorem A5z (s t:Bool) (n m:Nat):sg (s != t) (n*m)=sg s n*sg t m:=by unfold sg;cases s <;> cases t <;> simp[Int.neg_mul,Int.mul_neg]
theorem Aga {b:A7} (ha:RB j a) (hb:RB k b) (hj:j<34359738000) (hk:k<34359738000):∃c,Hm a b=some c/\RB (j+k+2) c/\K1 c/\rq c=rq a*rq b:=by have hd:dv a*dv b≠0:=Nat.mul_ne_zero (Ie a) (Ie b);have h1:=ha.nv;have h2:=ha.dv;have h3:=hb.nv;have h:=hb.dv;have g:=Lo (nv a) (nv b);have f:=Lo (dv a) (dv b);refine⟨_,Af2 a b j k ha hb ω ω,Qx _ _ _ _ ω ω ω,U8 _ _ _ hd,?_⟩;rw[Sq _ _ _ hd,A5z,rq,rq,Rat.mkRat_mul_mkRat]
def Sr (x:Rat):Int:=if x<0 then -1 else if 0<x then 1 else 0
theorem A50 (a:A7):rq a<0↔Kj (sv a) (nv a) = -1:=by have e:(0:Rat)=mkRat 0 1:=ψ;rw[rq,e,Atq _ _ (Ie a) δ];unfold sg Kj;split <;> split <;> simp <;> omega
theorem A51 (a:A7):0<rq a↔Kj (sv a) (nv a)=1:=by have e:(0:Rat)=mkRat 0 1:=ψ;rw[rq,e,Atq _ _ δ (Ie a)];unfold sg Kj;split <;> split <;> simp <;> omega
theorem A52 (a:A7):Kj (sv a) (nv a)=Sr (rq a):=by
 have h1:=A50 a;have h2:=A51 a;have h3:Kj (sv a) (nv a) = -1\/Kj (sv a) (nv a)=0\/Kj (sv a) (nv a)=1:=by unfold Kj;split <;> (try split) <;> simp
 unfold Sr;split
 .rename_i h;exact h1.1 h
 .rename_i h;split
  .rename_i h';exact h2.1 h'
  .rename_i h';rcases h3 with h3|h3|h3
   .exact (h (h1.2 h3)).elim
   .exact h3
   .exact (h' (h2.2 h3)).elim
theorem Agb (h:RB k a) (hk:k<34359738000):I4 a=some (Sr (rq a))/\Wb a=some (Sr (rq a)):=by rw[<-A52];exact⟨Ak7 a k h ω,Ati a k h ω⟩
structure F6 {α:Type} (S:α->Prop) (g:α->α->Int):Prop where
 zero:∀a b,S a->S b->(g a b=0↔a=b)
 anti:∀a b,S a->S b->g b a = - g a b
 trans:∀a b c,S a->S b->S c->g a b<0->g b c<0->g a c<0
theorem F6.cmpI:F6 (λ_:Int=>True) Fi:=by
 refine⟨λa b _ _=>Hr,λa b _ _=>?_,λa b c _ _ _=>?_⟩
 .unfold Go.Ab.Fi;split <;> split <;> (try split) <;> (try split) <;> omega
 .unfold Go.Ab.Fi;intro h1 h2;split at h1 <;> (try split at h1) <;> split at h2 <;> (try split at h2) <;> first|omega | (rw[Aw ω];decide)
theorem Atr {x:Int}:Ev x y<0↔x<0\/(x=0/\y<0):=by unfold Ev;split <;> omega
theorem Ats {x:Int}:Ev x y=0↔x=0/\y=0:=by unfold Ev;split <;> omega
theorem F6.or {γ:Type} {S:α->Prop} {s:β->Prop} {l:γ->Prop} {j:β->β->Int} {i:γ->γ->Int} (p:α->β) (q:α->γ) (g:∀a b,p a=p b->q a=q b->a=b) (h1:F6 s j) (h2:F6 l i) (f:∀a,S a->s (p a)/\l (q a)) : F6 S (λa b=>Ev (j (p a) (p b)) (i (q a) (q b))):=by
 refine⟨λa b ha hb=>?_,λa b ha hb=>?_,λa b c ha hb hc=>?_⟩
 .rw[Ats,h1.zero _ _ (f a ha).1 (f b hb).1,h2.zero _ _ (f a ha).2 (f b hb).2];exact⟨λh=>g a b h.1 h.2,λh=>by subst h;exact⟨rfl,rfl⟩⟩
 .show Ev (j (p b) (p a)) (i (q b) (q a)) = - Ev (j (p a) (p b)) (i (q a) (q b));have z:=h1.anti _ _ (f a ha).1 (f b hb).1;have y:=h2.anti _ _ (f a ha).2 (f b hb).2;rw[z,y];unfold Ev;split <;> split <;> omega
 .show Ev _ _<0->Ev _ _<0->Ev _ _<0;simp only[Atr];have u:=h1.zero _ _ (f a ha).1 (f b hb).1;have z2:=h1.zero _ _ (f b hb).1 (f c hc).1;have t1:=h1.trans _ _ _ (f a ha).1 (f b hb).1 (f c hc).1;have t2:=h2.trans _ _ _ (f a ha).2 (f b hb).2 (f c hc).2;rintro (h|⟨h,h'⟩) (k|⟨k,x⟩)
  .exact .inl (t1 h k)
  .rw[<-z2.1 k];exact .inl h
  .rw[u.1 h];exact .inl k
  .rw[<-z2.1 k,h];exact .inr ⟨rfl,t2 h' x⟩
theorem F6.mono {S S':α->Prop} {g:α->α->Int} (h:F6 S g) (f:∀a,S' a->S a):F6 S' g := ⟨λa b ha hb=>h.zero a b (f a ha) (f b hb),λa b ha hb=>h.anti a b (f a ha) (f b hb),λa b c ha hb hc=>h.trans a b c (f a ha) (f b hb) (f c hc)⟩
theorem F6.congr {S:α->Prop} {g c:α->α->Int} (h:F6 S g) (e:∀a b,c a b=g a b):F6 S c:=by have:c=g:=funext λa=>funext λb=>e a b;rw[this];exact h
def LL (g:α->α->Int) (l m:List α):Int:=if l.length=m.length then F4 g l m else Go.Ab.Fi l.length m.length
theorem Att {α:Type} {S:α->Prop} {g:α->α->Int} (h:F6 S g):∀l m:List α,l.length=m.length->(∀x∈l,S x)->(∀x∈m,S x)->(F4 g l m=0↔l=m)
 | [],[],_,_,_=>by simp[F4]
 | x::xs,y::ys,b,h1,h2=>by simp only[F4,Ats,h.zero x y (h1 x ψ) (h2 y ψ),Att h xs ys (by simpa using b) (λz c=>h1 z (by simp[c])) (λz c=>h2 z (by simp[c])),List.cons.injEq]
 | [],_::_,b,_,_=>by simp at b
 | _::_,[],b,_,_=>by simp at b
theorem Atu {α:Type} {S:α->Prop} {g:α->α->Int} (h:F6 S g):∀l m:List α,l.length=m.length->(∀x∈l,S x)->(∀x∈m,S x)->F4 g m l = - F4 g l m
 | [],[],_,_,_=>by simp[F4]
 | x::xs,y::ys,b,h1,h2=>by simp only[F4,h.anti x y (h1 x ψ) (h2 y ψ),Atu h xs ys (by simpa using b) (λz c=>h1 z (by simp[c])) (λz c=>h2 z (by simp[c]))];unfold Ev;split <;> split <;> omega
 | [],_::_,b,_,_=>by simp at b
 | _::_,[],b,_,_=>by simp at b
theorem Atv {α:Type} {S:α->Prop} {g:α->α->Int} (h:F6 S g):∀l m n:List α,l.length=m.length->m.length=n.length->(∀x∈l,S x)->(∀x∈m,S x)->(∀x∈n,S x)->F4 g l m<0->F4 g m n<0->F4 g l n<0
 | [],[],_,_,_,_,_,_=>by intro h;simp[F4]at h
 | x::xs,y::ys,z::j,f,i,h1,h2,h3=>by
  simp only[F4,Atr];have k:=h.zero x y (h1 x ψ) (h2 y ψ);have z2:=h.zero y z (h2 y ψ) (h3 z ψ);have t1:=h.trans x y z (h1 x ψ) (h2 y ψ) (h3 z ψ);have t2:=Atv h xs ys j (by simpa using f) (by simpa using i) (λz c=>h1 z (by simp[c])) (λz c=>h2 z (by simp[c])) (λz c=>h3 z (by simp[c]));rintro (a|⟨a,s⟩) (b|⟨b,q⟩)
  .exact .inl (t1 a b)
  .rw[<-z2.1 b];exact .inl a
  .rw[k.1 a];exact .inl b
  .rw[<-z2.1 b,a];exact .inr ⟨rfl,t2 s q⟩
 | _::_,_::_,[],_,i,_,_,_=>by simp at i
 | [],_::_,_,f,_,_,_,_=>by simp at f
 | _::_,[],_,f,_,_,_,_=>by simp at f
theorem F6.ll {S:α->Prop} {g:α->α->Int} (h:F6 S g):F6 (λl=>∀x∈l,S x) (LL g):=by
 have c:=F6.cmpI;refine⟨λa b ha hb=>?_,λa b ha hb=>?_,λx y z hx hy q=>?_⟩
 .unfold LL;split
  .rename_i i;exact Att h a b i ha hb
  .rename_i i;rw[Hr];exact⟨λe=>(i ω).elim,λe=>(i (by rw[e])).elim⟩
 .unfold LL;by_cases i:a.length=b.length
  .rw[Aw i,Aw i.symm];exact Atu h a b i ha hb
  .rw[Au i,Au (λe=>i e.symm)];exact c.anti _ _ trivial trivial
 .unfold LL;intro h1 h2;have neg:∀a b:Int,Go.Ab.Fi a b<0->a<b:=(by intro a b h;unfold Go.Ab.Fi at h;split at h <;> (try split at h) <;> omega);have f:∀a b:Int,a<b->Go.Ab.Fi a b<0:=(by intro a b h;unfold Go.Ab.Fi;rw[Aw h];decide);by_cases k:x.length=y.length
  .rw[Aw k]at h1;by_cases j:y.length=z.length
   .rw[Aw j]at h2;rw[Aw ω];exact Atv h x y z k j hx hy q h1 h2
   .rw[Au j]at h2;rw[Au ω];have:=neg _ _ h2;exact f _ _ ω
  .rw[Au k]at h1;have:=neg _ _ h1;by_cases j:y.length=z.length
   .rw[Au ω];exact f _ _ ω
   .rw[Au j]at h2;have:=neg _ _ h2;rw[Au ω];exact f _ _ ω
theorem Atw (g:α->α->Int) (l m:List α) (y:Int):Ev (LL g l m) y=if l.length=m.length then Ev (F4 g l m) y else Go.Ab.Fi l.length m.length:=by
 unfold LL;by_cases h:l.length=m.length
 .rw[Aw h,Aw h]
 .rw[Au h,Au h];unfold Ev;rw[Au (λe=>h (by have:=Hr.1 e;omega))]
theorem A53:F6 (λ_=>True) Nh := (F6.or (S:=λ_=>True) (λt:Ek=>t.v) (λt=>t.C) (λa b h1 h2=>by cases a;cases b;cases h1;cases h2;rfl) F6.cmpI F6.cmpI (λ_ _=>⟨trivial,trivial⟩)).congr λ_ _=>rfl
theorem Lv:F6 (λ_=>True) G3 := (F6.or (S:=λ_=>True) (λt:Bz=>t.T) (λt=>t.Q) (λa b h1 h2=>by cases a;cases b;cases h1;cases h2;rfl) A53.ll F6.cmpI (λ_ _=>⟨λ_ _=>trivial,trivial⟩)).congr λa b=>by show G3 a b=Ev (LL Nh a.T b.T) (Go.Ab.Fi a.Q b.Q);rw[Atw];rfl
theorem A54 (i j:Ai):F5 i j=Ev (Go.Ab.Fi i.U j.U) (LL F5 i.K j.K):=by
 rw[Aky,Afx];unfold Ev LL;by_cases h:i.U=j.U
 .rw[Aw h,Aw (Hr.2 h)]
 .rw[Au h,Au (λe=>h (Hr.1 e))]
theorem Ali:∀n:Nat,F6 (λi=>Bo i<=n) F5:=by intro n;induction n with| zero=>exact⟨λa _ ha=>by have:=Eb a;omega,λa _ ha=>by have:=Eb a;omega,λa _ _ ha=>by have:=Eb a;omega⟩| succ n ih=>refine (F6.or (S:=λi=>Bo i<=n+1) (λi:Ai=>i.U) (λi=>i.K) (λa b h1 h2=>by cases a;cases b;cases h1;cases h2;rfl) F6.cmpI ih.ll ?_).congr A54;intro i hi;refine⟨trivial,λx hx=>?_⟩;have h1:=Jt hx;have h2:=Eb i;show Bo x<=n;omega
theorem Agc:F6 (λ_=>True) F5 := ⟨λa b _ _=>(Ali (max (Bo a) (Bo b))).zero a b (by show Bo a<=_;omega) (by show Bo b<=_;omega),λa b _ _=>(Ali (max (Bo a) (Bo b))).anti a b (by show Bo a<=_;omega) (by show Bo b<=_;omega),
  λa b c _ _ _=>(Ali (max (Bo a) (max (Bo b) (Bo c)))).trans a b c (by show Bo a<=_;omega) (by show Bo b<=_;omega) (by show Bo c<=_;omega)⟩
theorem A55:F6 (λ_=>True) Ni := (F6.or (S:=λ_=>True) (λt:Bf=>t.v) (λt=>t.I) (λa b h1 h2=>by cases a;cases b;cases h1;cases h2;rfl) F6.cmpI Agc (λ_ _=>⟨trivial,trivial⟩)).congr λ_ _=>rfl
theorem A56:F6 (λ_=>True) On := (F6.or (S:=λ_=>True) (λt:Bi=>t.L) (λt=>t.P) (λa b h1 h2=>by cases a;cases b;cases h1;cases h2;rfl) Lv F6.cmpI (λ_ _=>⟨trivial,trivial⟩)).congr λ_ _=>rfl
theorem Alj:F6 (λ_=>True) Ei := (F6.or (S:=λ_=>True) (λt:Bd=>t.F) (λt=>t.A) (λa b h1 h2=>by cases a;cases b;cases h1;cases h2;rfl) A55.ll A56.ll (λ_ _=>⟨λ_ _=>trivial,λ_ _=>trivial⟩)).congr λa b=>by show Ei a b=Ev (LL Ni a.F b.F) (LL On a.A b.A);rw[Atw];rfl
theorem Nk {a b:Bd}:Ei a b=0↔a=b:=Alj.zero a b trivial trivial
theorem Xw (a b:Bd):Ei b a = - Ei a b:=Alj.anti a b trivial trivial
theorem Xx {a b c:Bd} (h:Ei a b<0) (h':Ei b c<0):Ei a c<0:=Alj.trans a b c trivial trivial trivial h h'
theorem Atx (m:Bd):Ei m m=0:=Nk.2 rfl
theorem Alk {a b:Bd}:0<Ei a b↔Ei b a<0:=by rw[Xw a b];omega
def cf:List Aj->Bd->Rat
 | [],_=>0
 | t::p,m=>(if Ei t.M m=0 then rq t.C else 0)+cf p m
def ltT (t u:Aj):Prop:=Ei t.M u.M<0
structure CP (p:List Aj):Prop where
 srt:p.Pairwise ltT
 coe:∀t∈p,K1 t.C/\rq t.C≠0
theorem CP.tail (h:CP (t::p)):CP p:=⟨(pairwise_cons.1 h.srt).2,λu hu=>h.coe u (by simp[hu])⟩
theorem CP.head (h:CP (t::p)):∀u∈p,Ei t.M u.M<0:=(pairwise_cons.1 h.srt).1
theorem CP.nil:CP []:=⟨Pairwise.nil,λ_ h=>by cases h⟩
theorem CP.cons {t:Aj} {p:List Aj} (h:CP p) (h1:∀u∈p,Ei t.M u.M<0) (h2:K1 t.C) (h3:rq t.C≠0):CP (t::p) := ⟨pairwise_cons.2 ⟨h1,h.srt⟩,λu hu=>by
  rcases E8.1 hu with rfl|hu
  .exact⟨h2,h3⟩
  .exact h.coe u hu⟩
theorem Agd (h:∀t∈p,Ei t.M m≠0):cf p m=0:=by induction p with| nil=>rfl| cons t p ih=>simp only[cf];rw[Au (h t ψ),ih (λu hu=>h u (by simp[hu]))];grind
theorem Abg (h:∀t∈p,Ei m t.M<0):cf p m=0 := Agd λt ht e=>by have:=h t ht;rw[Xw,e]at this;omega
theorem U9 (h:CP (t::p)):cf (t::p) t.M=rq t.C:=by simp only[cf];rw[Aw (Atx _),Abg h.head];grind
theorem All (h:Ei t.M m≠0):cf (t::p) m=cf p m:=by simp only[cf];rw[Au h];grind
theorem Qy (p q:List Aj) (m:Bd):cf (p++q) m=cf p m+cf q m:=by induction p with| nil=>simp only[nil_append,cf];grind| cons t p ih=>simp only[Eu,cf,ih];grind
theorem Age (h:CP p) (ht:t∈p):cf p t.M=rq t.C:=by
 induction p with
 | nil=>cases ht
 | cons u p ih=>
  rcases E8.1 ht with rfl|ht
  .exact U9 h
  .have:=h.head t ht;rw[All ω];exact ih h.tail ht
theorem CP.ext:∀{p q:List Aj},CP p->CP q->(∀m,cf p m=cf q m)->p=q
 | [],[],_,_,_=>rfl
 | [],u::q,_,h2,h=>by have:=h u.M;rw[U9 h2]at this;exact ((h2.coe u ψ).2 this.symm).elim
 | t::p,[],h1,_,h=>by have:=h t.M;rw[U9 h1]at this;exact ((h1.coe t ψ).2 this).elim
 | t::p,u::q,h1,h2,h=>by
  have b:Ei t.M u.M=0:=by
   rcases Int.lt_trichotomy (Ei t.M u.M) 0 with k|k|k
   .have e:=h t.M;rw[U9 h1,Abg (p:=u::q)]at e
    .exact ((h1.coe t ψ).2 e).elim
    .intro w hw;rcases E8.1 hw with rfl|hw
     .exact k
     .exact Xx k (h2.head w hw)
   .exact k
   .have k:=Alk.1 k;have e:=h u.M;rw[U9 h2,Abg (p:=t::p)]at e
    .exact ((h2.coe u ψ).2 e.symm).elim
    .intro w hw;rcases E8.1 hw with rfl|hw
     .exact k
     .exact Xx k (h1.head w hw)
  have c:=Nk.1 b;have hc:t.C=u.C:=(by refine Af8 (h1.coe t ψ).1 (h2.coe u ψ).1 ?_;have e:=h t.M;rw[U9 h1,c,U9 h2]at e;exact e);have ht:t=u:=(by cases t;cases u;simp_all);subst ht;congr 1;refine CP.ext h1.tail h2.tail λm=>?_;by_cases e:Ei t.M m=0
  .rw[<-Nk.1 e,Abg h1.head,Abg h2.head]
  .have:=h m;rwa [All e,All e]at this
theorem Aty (c:A7):U7 c=true↔K1 c/\rq c≠0:=by
 unfold U7 K1;rw[Dz,Af7];have h:(!(nv c==0))=true↔rq c≠0:=by have e:rq c=0↔nv c=0:=(by unfold rq;rw[Rat.mkRat_eq_zero (Ie c)];unfold sg;split <;> omega);rw[Ne,e];simp
 rw[h];exact⟨λ⟨a,b⟩=>⟨a.symm,b⟩,λ⟨a,b⟩=>⟨a.symm,b⟩⟩
theorem A57 {l:List Aj} (h:∀(j:Nat) (x y:Aj),l[j]? = some x->l[j+1]? = some y->Ei x.M y.M<0):l.Pairwise ltT:=by
 induction l with
 | nil=>exact Pairwise.nil
 | cons t l ih=>
  have ih:=ih λj x y hx hy=>h (j+1) x y (by simpa using hx) (by simpa using hy);refine pairwise_cons.2 ⟨?_,ih⟩;cases l with
  | nil=>intro u hu;cases hu
  | cons v l=>
   have h0:=h 0 t v rfl rfl;intro u hu;rcases E8.1 hu with rfl|hu
   .exact h0
   .exact Xx h0 ((pairwise_cons.1 ih).1 u hu)
theorem Agf:Kz data vars res p=true↔p.length<=1000/\CP p/\∀t∈p,Ix data vars res t.M=true:=by
 unfold Kz;rw[Dz,D8];constructor
 .rintro⟨h1,h2⟩;have g:∀(j:Nat) (t:Aj),p[j]? = some t->U7 t.C=true/\Ix data vars res t.M=true/\So p t j=true:=(by intro j t hj;have:=Jq h2 hj;simp only[Sp,Dz]at this;exact⟨this.1.1,this.1.2,this.2⟩);refine⟨h1,⟨A57 λj x y hx hy=>?_,λt ht=>?_⟩,λt ht=>?_⟩
  .have:=(g _ _ hy).2.2;unfold So at this;rw[show j+1-1=j by omega,hx]at this;simpa using this
  .obtain⟨j,hj⟩:=Hu ht;exact (Aty _).1 (g j t hj).1
  .obtain⟨j,hj⟩:=Hu ht;exact (g j t hj).2.1
 .rintro⟨h1,h2,h3⟩;refine⟨h1,I5.2 λq hq=>?_⟩;have hq:=mem_zipIdx' hq;have hj:p[q.2]? = some q.1:=(B4 hq.1).trans (congrArg some hq.2.symm);have c:q.1∈p:=Bq hj;simp only[Sp,Dz];refine⟨⟨(Aty _).2 (h2.coe _ c),h3 _ c⟩,?_⟩;unfold So;by_cases h0:q.2=0
  .rw[h0];rfl
  .have b:q.2-1<p.length:=ω;rw[B4 b];have:=pairwise_iff_getElem.1 h2.srt (q.2-1) q.2 b hq.1 ω;rw[<-hq.2]at this;simp only[Bool.or_eq_true,D8];exact .inr this
theorem Atz:∀(k:Nat) (t:Ai),Bo t<=k->k<1099511627776->Qj k t=some t:=by
 intro k;induction k with
 | zero=>intro t h;have:=Eb t;omega
 | succ k ih=>
  intro t h hk;have c:=Eb t;have b:=L9 t.K;rw[Qj];refine F2 t.K (λj=>((j:Int),(t.K.take j))) rfl ω ?_ ?_
  .intro j x hj hx h1 h2 h3;have:=Jt (Bq hx);simp only[h1,h2,h3,Ak,Ad,ih x ω ω];rw[Dn ζ,Ad,Db hx]
  .intro h1;exact⟨t.K,ψ,by cases t;rfl⟩
theorem A58 (m:Bd) (b:MSz m):Zr m=some m:=by
 have g:=b.nf;have f:=b.na;unfold Zr;refine F2 m.F (λj=>((j:Int),(m.F.take j))) rfl ω ?_ ?_
 .intro j x hj hx h1 h2 h3;have c:=Bq hx;have:=b.fi x c;simp only[h1,h2,h3,Ak,Ad,Atz 4000000 x.I ω ω];rw[Dn ζ,Ad,Db hx]
 .intro h1;refine⟨m.F,ψ,?_⟩;dsimp only;refine F2 m.A (λj=>((j:Int),(m.A.take j))) rfl ω ?_ ?_
  .intro j x hj hx h1 h2 h3;have c:=Bq hx;have:=b.al x c;simp only[h1,h2,h3,Ak,Ad,Ad8];rw[Dn ζ,Ad,Dn ζ,Ad,Db hx];rfl
  .intro h1;exact⟨m.A,ψ,by cases m;rfl⟩
structure TB (k:Nat) (t:Aj):Prop where
 co:RB k t.C
 mo:MSz t.M
theorem TSz.tb (h:TSz t):TB 1048576 t:=⟨h.co,h.mo⟩
theorem TB.mono (h:TB j t) (hk:j<=k):TB k t:=⟨h.co.mono hk,h.mo⟩
theorem A59 (c:A7):rq c=0↔nv c=0:=by unfold rq;rw[Rat.mkRat_eq_zero (Ie c)];unfold sg;split <;> omega
def Jv (n:Int) (f:Bool):List Int:=if f then (if n<0 then [45] else []) else (if n<0 then [32,45,32] else [32,43,32])
def K2 (n:Int):List Int:=if n.natAbs=1 then [] else ti n.natAbs++[42]
def J7 (v:Int):List Int:=if v = -1 then [114,101,115] else 118::ti v
def tT (f:Bool) (t:Ek):List Int:=Jv t.C f++(K2 t.C++J7 t.v)
def I6:Bool->List Ek->Int->List Int
 | f,[],c=>if c≠0\/f=true then Jv c f++ti c.natAbs else []
 | f,t::ts,c=>tT f t++I6 false ts c
def Abh (l:Bz):List Int:=I6 true l.T l.Q
def Ji (X:List Int):Prop:=∀c m,X=c::m->c=97
theorem Ji.nil:Ji []:=by intro c m h;cases h
theorem Ji.cons (X:List Int):Ji (97::X):=by intro c m h;cases h;rfl
theorem Ji.nonum (h:Ji X):Mq X:=by intro c m e;rw[h c m e];decide
theorem Alm (n:Nat):∃c m,ti n=c::m/\48<=c/\c<=57:=by
 have b:=Afk (n:Int);cases h:ti (n:Int) with
 | nil=>exact (b h).elim
 | cons c m=>refine⟨c,m,rfl,?_⟩;have hc:c∈ti (n:Int):=(by rw[h];simp);unfold ti at hc;obtain⟨x,hx,rfl⟩:=mem_map.1 hc;have e:Lib.itoa (n:Int)=Lib.decDigits n:=(by unfold Lib.itoa;first|rfl | (rw[Au ω];simp) | simp);rw[e]at hx;have:=Afi n n (Nat.le_refl _) x hx;omega
theorem At0 (ts:List Ek) (c:Int) (b:Ji X):Mq (I6 false ts c++X):=by
 have k:∀(n:Int) (Y:List Int),Mq (Jv n false++Y):=by intro n Y c m e;unfold Jv at e;simp only[Bool.false_eq_true,if_false]at e;split at e <;> (cases e;decide)
 cases ts with
 | nil=>
  simp only[I6];split
  .rw[append_assoc];exact k _ _
  .exact b.nonum
 | cons t ts=>simp only[I6,tT,append_assoc];exact k _ _
theorem At1 {R:List Int} (c:Mq R) (b:Mq S) (h:J7 v++R=J7 w++S):v=w/\R=S:=by
 unfold J7 at h;split at h <;> split at h
 .simp only[Eu,nil_append,List.cons.injEq,true_and]at h;exact⟨ω,h⟩
 .simp at h
 .simp at h
 .simp only[Eu,List.cons.injEq,true_and]at h;obtain⟨g,f⟩:=Qu _ _ _ _ (Jd v) (Jd w) c b h;exact⟨U1 g,f⟩
theorem Aln (v:Int):∃c m,J7 v=c::m/\(c=114\/c=118):=by
 unfold J7;split
 .exact⟨_,_,rfl,.inl rfl⟩
 .exact⟨_,_,rfl,.inr rfl⟩
theorem Alo (X:List Int):Mq (42::X):=by intro c m e;cases e;decide
theorem A6a {a b:Int} {R:List Int} (i:Mq R) (g:Mq S) (h:K2 a++(J7 v++R)=K2 b++(J7 w++S)):a.natAbs=b.natAbs/\v=w/\R=S:=by
 unfold K2 at h;have bad:∀(n:Nat) (u:Int) (X Y:List Int),J7 u++X=ti n++[42]++Y->False:=by intro n u X Y e;obtain⟨c,m,f,q⟩:=Aln u;obtain⟨d,k,l,j⟩:=Alm n;rw[f,l]at e;simp only[Eu,List.cons.injEq]at e;omega
 split at h <;> split at h
 .rename_i h1 h2;simp only[nil_append]at h;exact⟨h1.trans h2.symm,At1 i g h⟩
 .exact (bad _ _ _ _ h).elim
 .exact (bad _ _ _ _ h.symm).elim
 .simp only[append_assoc,Eu,nil_append]at h;obtain⟨f,q⟩:=Qu _ _ _ _ (Jd _) (Jd _) (Alo _) (Alo _) h;have l:=U1 f;obtain⟨j,s⟩:=At1 i g (List.cons.inj q).2;exact⟨ω,j,s⟩
def NoM (P:List Int):Prop:=∃c m,P=c::m/\c≠45
theorem NoM.ti (n:Nat) (X:List Int):NoM (Go.Ab.ti n++X):=by obtain⟨c,m,e,h⟩:=Alm n;exact⟨c,m++X,by rw[e];rfl,ω⟩
theorem NoM.pT (a v:Int) (X:List Int):NoM (K2 a++(J7 v++X)):=by
 unfold K2;split
 .obtain⟨c,m,e,h⟩:=Aln v;exact⟨c,m++X,by rw[e];rfl,ω⟩
 .rw[append_assoc];exact NoM.ti _ _
theorem Alp {a b:Int} {f:Bool} {Q:List Int} (i:NoM P) (g:NoM Q) (h:Jv a f++P=Jv b f++Q):(a<0↔b<0)/\P=Q:=by
 obtain⟨c,m,rfl,hc⟩:=i;obtain⟨d,k,rfl,hd⟩:=g;unfold Jv at h;cases f with
 | true=>
  simp only[if_true]at h;split at h <;> split at h
  .rename_i h1 h2;exact⟨by simp[h1,h2],by simpa using h⟩
  .simp at h;exact (hd h.1.symm).elim
  .simp at h;exact (hc h.1).elim
  .rename_i h1 h2;exact⟨by simp[h1,h2],by simpa using h⟩
 | false=>
  simp only[Bool.false_eq_true,if_false]at h;split at h <;> split at h
  .rename_i h1 h2;exact⟨by simp[h1,h2],by simpa using h⟩
  .simp at h
  .simp at h
  .rename_i h1 h2;exact⟨by simp[h1,h2],by simpa using h⟩
theorem Alq {n:Int} (b:Ji X) (h:Jv n false++P=X):False:=by
 unfold Jv at h;simp only[Bool.false_eq_true,if_false]at h;split at h
 .have:=b _ _ h.symm;omega
 .have:=b _ _ h.symm;omega
theorem At2 {c d:Int} {f:Bool} {u:Ek} {m:List Ek} {Y:List Int} (b:Ji X) (k:Ji Y) (h:I6 f [] c++X=I6 f (u::m) d++Y):False:=by
 simp only[I6,tT]at h;split at h
 .simp only[append_assoc]at h;obtain⟨_,e⟩:=Alp (NoM.ti _ _) (NoM.pT _ _ _) h;unfold K2 at e;split at e
  .obtain⟨c1,m1,j,h1⟩:=Aln u.v;obtain⟨c2,m2,g,h2⟩:=Alm c.natAbs;rw[j,g]at e;simp only[nil_append,Eu,List.cons.injEq]at e;omega
  .simp only[append_assoc,Eu,nil_append]at e;obtain⟨_,g⟩:=Qu _ _ _ _ (Jd _) (Jd _) b.nonum (Alo _) e;have:=b _ _ g;omega
 .rename_i i;have hf:f=false:=(by cases f with|true=>simp at i|false=>rfl);subst hf;simp only[nil_append,append_assoc]at h;exact Alq b h.symm
theorem At3:∀(l m:List Ek) (f:Bool) (c d:Int) (X Y:List Int),Ji X->Ji Y->I6 f l c++X=I6 f m d++Y->l=m/\c=d/\X=Y
 | [],[],f,c,d,X,Y,g,b,h=>by
  simp only[I6]at h;split at h <;> split at h
  .simp only[append_assoc]at h;obtain⟨x,q⟩:=Alp (NoM.ti _ _) (NoM.ti _ _) h;obtain⟨j,i⟩:=Qu _ _ _ _ (Jd _) (Jd _) g.nonum b.nonum q;have s:=U1 j;exact⟨rfl,ω,i⟩
  .rename_i h1 h2;have hf:f=false:=(by cases f with|true=>simp at h2|false=>rfl);subst hf;simp only[append_assoc,nil_append]at h;exact (Alq b h).elim
  .rename_i h1 h2;have hf:f=false:=(by cases f with|true=>simp at h1|false=>rfl);subst hf;simp only[append_assoc,nil_append]at h;exact (Alq g h.symm).elim
  .rename_i h1 h2;refine⟨rfl,?_,by simpa using h⟩;have a1:c=0:=(by by_cases k:c=0;exact k;exact (h1 (.inl k)).elim);have a2:d=0:=(by by_cases k:d=0;exact k;exact (h2 (.inl k)).elim);omega
 | [],u::m,f,c,d,X,Y,g,b,h=>(At2 g b h).elim
 | t::l,[],f,c,d,X,Y,g,b,h=>(At2 b g h.symm).elim
 | t::l,u::m,f,c,d,X,Y,g,b,h=>by simp only[I6,tT,append_assoc]at h;obtain⟨x,q⟩:=Alp (NoM.pT _ _ _) (NoM.pT _ _ _) h;obtain⟨j,i,s⟩:=A6a (At0 _ _ g) (At0 _ _ b) q;obtain⟨A,z,y⟩:=At3 l m false c d X Y g b s;have:t=u:=(by cases t;cases u;simp only at x j i;subst i;congr 1;omega);exact⟨by rw[this,A],z,y⟩
def Iy (a:Bi):List Int:=97::(ti a.P++58::Abh a.L)
def D5 (f:Bf):List Int:=Kw f.v f.I
def Abi (m:Bd):List Int:=m.F.flatMap D5++m.A.flatMap Iy
theorem Agg (l:List Bi):Ji (l.flatMap Iy):=by cases l with| nil=>exact Ji.nil| cons a l=>simp only[flatMap_cons,Iy,Eu];exact Ji.cons _
theorem Agh (X:List Int):Mq (58::X):=by intro c m e;cases e;decide
theorem At4:∀(l m:List Bi),l.flatMap Iy=m.flatMap Iy->l=m
 | [],[],_=>rfl
 | [],b::m,h=>by simp[Iy]at h
 | a::l,[],h=>by simp[Iy]at h
 | a::l,b::m,h=>by simp only[flatMap_cons,Iy,Eu,append_assoc,List.cons.injEq,true_and]at h;obtain⟨s,q⟩:=Qu _ _ _ _ (Jd _) (Jd _) (Agh _) (Agh _) h;have k:=(List.cons.inj q).2;obtain⟨g,f,j⟩:=At3 _ _ true _ _ _ _ (Agg l) (Agg m) k;have i:=At4 l m j;have c:=U1 s;obtain⟨⟨c1,t1⟩,d1⟩:=a;obtain⟨⟨c2,t2⟩,d2⟩:=b;simp only at g f c;rw[g,f,c,i]
theorem At5 (l:List Bf) (b:Ji X):Sh (l.flatMap D5++X):=by cases l with| nil=>intro c m e;rw[b c m e];exact⟨δ,δ⟩| cons a l=>intro c m e;simp only[flatMap_cons,D5,Kw,Eu]at e;cases e;exact⟨δ,δ⟩
theorem Alr:∀(l m:List Bf) (X Y:List Int),Ji X->Ji Y->l.flatMap D5++X=m.flatMap D5++Y->l=m/\X=Y
 | [],[],X,Y,_,_,h=>⟨rfl,by simpa using h⟩
 | [],b::m,X,Y,f,_,h=>by simp only[flatMap_cons,flatMap_nil,D5,Kw,Eu,nil_append]at h;have:=f _ _ h;omega
 | a::l,[],X,Y,_,c,h=>by simp only[flatMap_cons,flatMap_nil,D5,Kw,Eu,nil_append]at h;have:=c _ _ h.symm;omega
 | a::l,b::m,X,Y,f,c,h=>by simp only[flatMap_cons,D5,Kw,Eu,append_assoc,List.cons.injEq,true_and]at h;obtain⟨x,u⟩:=Qu _ _ _ _ (Jd _) (Jd _) (Agh _) (Agh _) h;have s:=(List.cons.inj u).2;obtain⟨i,q⟩:=Afn _ _ _ _ (At5 l f) (At5 m c) s;obtain⟨k,j⟩:=Alr l m X Y f c q;have g:=U1 x;obtain⟨y,i1⟩:=a;obtain⟨v2,i2⟩:=b;simp only at i g;exact⟨by rw[i,g,k],j⟩
theorem A6b {n:Bd} (h:Abi m=Abi n):m=n:=by obtain⟨c,f⟩:=Alr _ _ _ _ (Agg _) (Agg _) h;have b:=At4 _ _ f;cases m;cases n;simp only at c b;rw[c,b]
def By (l:List Int):Prop:=∀c∈l,0<=c/\c<256
theorem By.app {m:List Int} (h:By l) (h':By m):By (l++m):=by
 intro c hc;rcases Ef.1 hc with k|k
 .exact h c k
 .exact h' c k
theorem By.ti (n:Int):By (Go.Ab.ti n):=by intro c h;have:=Jd n c h;simp only[Qt,Bool.or_eq_true,Dz,beq_iff_eq,D8]at this;omega
theorem By.cons {c:Int} {l:List Int} (hc:0<=c/\c<256) (h:By l):By (c::l):=by
 intro d hd;rcases E8.1 hd with rfl|k
 .exact hc
 .exact h d k
theorem By.nil:By []:=λc h=>by cases h
theorem By.sgn (n:Int) (f:Bool):By (Jv n f):=by unfold Jv;split <;> split <;> intro c hc <;> simp at hc <;> omega
theorem By.mag (n:Int):By (K2 n):=by
 unfold K2;split
 .exact By.nil
 .exact (By.ti _).app (By.cons ω By.nil)
theorem By.var (n:Int):By (J7 n):=by
 unfold J7;split
 .intro c hc;simp at hc;omega
 .exact By.cons ω (By.ti _)
theorem By.tT (f:Bool) (t:Ek):By (tT f t):=(By.sgn _ _).app ((By.mag _).app (By.var _))
theorem By.lins:∀(l:List Ek) (f:Bool) (c:Int),By (I6 f l c)
 | [],f,c=>by
  simp only[I6];split
  .exact (By.sgn _ _).app (By.ti _)
  .exact By.nil
 | t::l,f,c=>(By.tT f t).app (By.lins l false c)
theorem By.at (a:Bi):By (Iy a):=By.cons ω ((By.ti _).app (By.cons ω (By.lins _ _ _)))
theorem By.flat (h:∀a,By (g a)) (l:List α):By (l.flatMap g):=by intro c hc;obtain⟨a,_,k⟩:=mem_flatMap.1 hc;exact h a c k
theorem By.fac (f:Bf):By (D5 f):=Afp f.v f.I
theorem By.mono (m:Bd):By (Abi m):=(By.flat By.fac _).app (By.flat By.at _)
def bs (l:List Int):ByteArray:=⟨(Fk l).toArray⟩
theorem Als {m:List Int} (c:By l) (b:By m) (h:bs l=bs m):l=m:=by
 unfold bs at h;have h1:(Fk l).toArray=(Fk m).toArray:=by injection h
 have h2:Fk l=Fk m:=by simpa using congrArg Array.toList h1
 exact Akw _ _ c b h2
def Mb (m:Bd):ByteArray:=bs (Abi m)
theorem At6 {n:Bd} (h:Mb m=Mb n):m=n:=A6b (Als (By.mono m) (By.mono n) h)
theorem Xy (l:List Int):(bs l).size=l.length:=by unfold bs Fk;simp[ByteArray.size]
theorem At7 (h:By l):N4 (bs l)=l:=by
 unfold N4 bs Fk
 simp only[map_map]
 conv=>rhs;rw[<-map_id l]
 refine map_congr_left λc hc=>?_
 have:=h c hc
 simp only[Function.comp,UInt8.toNat_ofNat',id]
 omega
theorem A6c (l m:List Int):bs l++bs m=bs (l++m):=by apply ByteArray.ext;rw[ByteArray.data_append];unfold bs Fk;simp
theorem Va {m:List Int} (h:l.length+m.length<=9223372036854775807):Gq (bs l) (bs m)=some (bs (l++m)):=by unfold Gq;rw[Aw (by rw[Xy,Xy];exact h),A6c]
theorem Agi {n:Int} (h:Fh n):Py n=some (bs (ti n)):=by
 rw[Aku h]
 congr 2
 congr 1
 unfold Fk ti
 rw[map_map]
 conv=>lhs;rw[<-map_id (Lib.itoa n)]
 refine map_congr_left λc _=>?_
 simp[Function.comp]
theorem Abj {S:Type} {step:S->Option (S⊕E)} {s0:S} {J:E->Option R} {r:R} (x0:α) (xs:List α) (b:Nat->S) (h0:s0=b 0) (f:xs.length<2305843009213693952) (c:∀(j:Nat) (x:α),xs[j]? = some x->decide (((j+1:Nat):Int)<((x0::xs).length:Int))=true->Ag (x0::xs) ((j+1:Nat):Int)=some x->Aa (((j+1:Nat):Int)+1)=((j+1+1:Nat):Int)->step (b j)=some (.inl (b (j+1)))) (he:decide (((xs.length+1:Nat):Int)<((x0::xs).length:Int))=false->∃e,step (b xs.length)=some (.inr e)/\J e=some r):(An step s0).bind J=some r:=by refine Lp xs.length b h0 (λj hj=>?_) (he ψ);have hx:xs[j]? = some xs[j]:=B4 hj;exact c j _ hx (Ao (by simp only[Ed];omega)) (Br rfl ψ) (C5 (n:=xs.length+1) ω ω)
theorem bnd {X:Option α} {a:α} {K:α->Option β} {r:Option β} (h:X=some a) (k:K a=r):X.bind K=r:=by rw[h];exact k
theorem Nl (c:By l) (h:b.length+l.length<=140737488355328):Hg (bs l) b=some ((l.length:Int),b++l):=by simp only[Hg,Xd,Ad,At7 c,Xy];rw[Dn ω];rfl
theorem Vb (c:By l) (h:b.length+l.length<=140737488355328):Jo (bs l) b=some ((l.length:Int),b++l):=by simp only[Jo,Z0,Ad,At7 c,Xy];rw[Dn ω];rfl
theorem Pk (hb:By b):L0 b=some (bs b):=by exact Aw hb
theorem A6d (hb:By b):Aas b=some (bs b):=Pk hb
theorem Alt (n:Int) (h : -1048576<=n/\n<=1048576):(K2 n).length<=22:=by
 unfold K2;split
 .simp
 .have:=Om (n:=(n.natAbs:Int)) (by unfold Fh;omega);simp;omega
theorem Agj (n:Int) (f:Bool):(Jv n f).length<=3:=by unfold Jv;split <;> split <;> simp
theorem A6e (h : -1<=v/\v<3000):(J7 v).length<=22:=by
 unfold J7;split
 .simp
 .have:=Om (n:=v) (by unfold Fh;omega);simp;omega
structure At8 (a:Bz):Prop where
 c : -1048576<=a.Q/\a.Q<=1048576
 n:a.T.length<=16
 t:∀t∈a.T,(-1<=t.v/\t.v<3000)/\(-1048576<=t.C/\t.C<=1048576)
theorem Alu {a:Bz} (h:Ic a=true):At8 a:=by unfold Ic at h;simp only[Dz,D8]at h;refine⟨⟨h.1.1,h.1.2.1⟩,h.1.2.2,λt ht=>?_⟩;obtain⟨j,hj⟩:=Hu ht;have:=Jq h.2 hj;simp only[Xo,Dz,D8]at this;omega
theorem Alv {t:Ek} (f:Bool) (h:(-1<=t.v/\t.v<3000)/\(-1048576<=t.C/\t.C<=1048576)):(tT f t).length<=47:=by have:=Agj t.C f;have:=Alt t.C h.2;have:=A6e h.1;unfold tT;simp only[E4];omega
theorem At9 {n:Int} (h : -1048576<=n/\n<=1048576):(if Aa (0-n)>n then Aa (0-n) else n)=(n.natAbs:Int):=by rw[Aa,B6 ω ω];split <;> omega
theorem c45:ByteArray.mk #[45]=bs [45]:=rfl
theorem A6f:ByteArray.mk #[32,45,32]=bs [32,45,32]:=rfl
theorem A6g:ByteArray.mk #[32,43,32]=bs [32,43,32]:=rfl
theorem c42:ByteArray.mk #[42]=bs [42]:=rfl
theorem Aua:ByteArray.mk #[118]=bs [118]:=rfl
theorem c97:ByteArray.mk #[97]=bs [97]:=rfl
theorem c58:ByteArray.mk #[58]=bs [58]:=rfl
theorem Aub:ByteArray.mk #[114,101,115]=bs [114,101,115]:=rfl
theorem Auc:By [45]:=By.cons ω By.nil
theorem by3 (a b c:Int) (ha:0<=a/\a<256) (hb:0<=b/\b<256) (hc:0<=c/\c<256):By [a,b,c]:=By.cons ha (By.cons hb (By.cons hc By.nil))
theorem Aud {n:Int} (f:Bool) (c : -1048576<=n/\n<=1048576) (hb:b.length<=1099511627776):Aat n f b=some ((n.natAbs:Int),b++Jv n f):=by
 unfold Aat Jv;rw[At9 c,c45,A6f,A6g];rw[Nl Auc ζ,Nl (by3 _ _ _ ω ω ω) ζ,Nl (by3 _ _ _ ω ω ω) ζ];by_cases h:n<0
 .rw[Ao h,Aw h,Aw h];cases f <;> rfl
 .rw[As h,Au h,Au h];cases f <;> simp
theorem A6h {n:Int} (c : -1048576<=n/\n<=1048576) (hb:b.length<=1099511627776):T3 n true b=some (if n<0 then .inl ((n.natAbs:Int),b++[45]) else .inr ((n.natAbs:Int),b)):=by
 unfold T3;rw[At9 c,c45,Vb Auc ζ];by_cases h:n<0
 .rw[Ao h,Aw h];rfl
 .rw[As h,Au h];rfl
theorem Alw (h:n<=1048576):Oc (n:Int) 10=some (bs (ti n)):=by unfold Oc Adn;exact Agi (by unfold Fh;omega)
theorem Agk (h:n<=1048576):(ti (n:Int)).length<=21:=Om (by unfold Fh;omega)
theorem Aue {n:Int} (c : -1048576<=n/\n<=1048576) (hb:b.length<=1099511627776) : (bif ((n.natAbs:Int) != (1:Int)) then (Oc (n.natAbs:Int) 10).bind λv=>(Gq v (ByteArray.mk #[42])).bind λu=>(Hg u b).bind λw=>some w.2 else some b)=some (b++K2 n):=by
 have ht:=Agk (n:=n.natAbs) ω;unfold K2;by_cases h:n.natAbs=1
 .rw[Ea ω,Aw h];simp
 .rw[D9 ω,Au h,Alw ω,c42];simp only[Ak,Ad];rw[Va ζ,Ad,Nl ((By.ti _).app (By.cons ω By.nil)) ζ];rfl
theorem Alx (K:List Int->Option R) (c : -1<=v/\v<3000) (hb:b.length<=1099511627776) : (bif (v==(-1)) then (Hg (ByteArray.mk #[114,101,115]) b).bind λw=>K w.2 else (Jc v).bind λx=>(Gq (ByteArray.mk #[118]) x).bind λy=>(Hg y b).bind λw=>K w.2)=K (b++J7 v):=by
 have ht:=Om (n:=v) (by unfold Fh;omega);unfold J7;by_cases h:v = -1
 .rw[Fm h,Aw h,Aub,Nl (by3 _ _ _ ω ω ω) ζ];rfl
 .rw[Cy h,Au h,Aua];simp only[Am,Jc];rw[Agi (by unfold Fh;omega),Ad,Va ζ,Ad];rw[show [118]++ti v=118::ti v from rfl,Nl (By.cons ω (By.ti _)) ζ];rfl
theorem Agl {l:List α} {x:α} (h:l[j]? = some x):(l.take (j+1)).flatMap g=(l.take j).flatMap g++g x:=by rw[Db h];simp
theorem Aly {α:Type} {g:α->List Int} {n:Nat}:∀(l:List α),(∀a∈l,(g a).length<=n)->(l.flatMap g).length<=l.length*n
 | [],_=>ψ
 | a::l,h=>by have h1:=h a ψ;have h2:=Aly l λb hb=>h b (by simp[hb]);simp only[flatMap_cons,E4,Ed,Nat.add_mul];omega
theorem Alz (l:List α) (j:Nat) (h:∀a∈l,(g a).length<=n):((l.take j).flatMap g).length<=l.length*n:=by refine Nat.le_trans (Aly _ λa ha=>h a (mem_of_mem_take ha)) (Nat.mul_le_mul_right _ ?_);rw[length_take];omega
theorem Auf:∀(ts:List Ek) (c:Int),I6 false ts c=ts.flatMap (tT false)++I6 false [] c
 | [],c=>ψ
 | t::ts,c=>by have:=Auf ts c;simp only[flatMap_cons,append_assoc,<-this];rfl
theorem A6i {a:Bz} (h:Ic a=true) (B:a.T≠[]):Qg a=some (bs (Abh a)):=by
 have z:=Alu h;unfold Qg;rw[Ast,h];obtain⟨c,l⟩:=a;cases l with
 | nil=>exact (B rfl).elim
 | cons t ts=>
  have hc : -1048576<=c/\c<=1048576:=z.c;have M:ts.length<=15:=(by have:=z.n;simp at this;omega);have ht:(-1<=t.v/\t.v<3000)/\(-1048576<=t.C/\t.C<=1048576):=z.t t ψ;have s:∀u∈ts,(-1<=u.v/\u.v<3000)/\(-1048576<=u.C/\u.C<=1048576):=λu hu=>z.t u (by simp[hu]);have x:=λj=>Alz (g:=tT false) (n:=47) ts j (λu hu=>Alv false (s u hu));have J:=Alv true ht;simp only[Ad,Eg,Am];rw[Ao (by simp only[Ed];omega),Ak];refine bnd (a:=((t.C.natAbs:Int),tT true t)) ?_ ?_
  .rw[show Ag (t::ts) 0=some t from rfl,Ad,A6h ht.2 ψ,Ad];have G:=Om (n:=t.v) (by unfold Fh;omega);have I:=Agk (n:=t.C.natAbs) ω;have D:=Alt t.C ht.2;by_cases q:t.C<0
   .rw[Aw q];simp only;rw[Aue ht.2 ψ,Ad];refine (Alx (λb=>some ((t.C.natAbs:Int),b)) ht.1 ζ).trans ?_;simp[tT,Jv,q]
   .rw[Au q];simp only;by_cases h1:t.C.natAbs=1
    .rw[Ea ω];simp only[Am];by_cases y:t.v = -1
     .rw[Fm y,Aub,Ak,Vb (by3 _ _ _ ω ω ω) ψ];simp[tT,Jv,q,K2,h1,J7,y]
     .rw[Cy y,Am,Aua,Jc,Agi (by unfold Fh;omega),Ad,Va ζ,Ad,show [118]++ti t.v=118::ti t.v from rfl,
       Vb (By.cons ω (By.ti _)) ζ];simp[tT,Jv,q,K2,h1,J7,y]
    .rw[D9 ω];simp only[Ak];rw[Alw ω,Ad,c42,Va ζ,Ad,Vb ((By.ti _).app (By.cons ω By.nil)) ζ,Ad];refine (Alx (λb=>some ((t.C.natAbs:Int),b)) ht.1 ζ).trans ?_;simp[tT,Jv,q,K2,h1]
  .simp only;refine Abj t ts (λj=>(((j+1:Nat):Int),tT true t++(ts.take j).flatMap (tT false))) (by simp[Aa,B6]) ω ?_ ?_
   .intro j u hu h1 h2 h3;have f:=s u (Bq hu);have:=x j;have D:=Alt u.C f.2;have A:=Agj u.C false;simp only[h1,h2,h3,Ak,Ad];rw[Cy ω,Aud false f.2 (by simp only[E4];omega),Ad,Aue f.2 (by simp only[E4];omega),Ad];refine (Alx (R:=(Int×List Int)⊕List Int) (λb=>some (.inl (((j+1+1:Nat):Int),b))) f.1 (by simp only[E4];omega)).trans ?_;rw[Agl hu];simp[tT]
   .intro h1;have h2:=x ts.length;rw[Dq]at h2;refine⟨tT true t++ts.flatMap (tT false),by simp only[h1,Am,Dq],?_⟩;have E:By (tT true t++ts.flatMap (tT false)):=(By.tT _ _).app (By.flat (By.tT _) _);have e:Abh ⟨c,t::ts⟩=tT true t++ts.flatMap (tT false)++I6 false [] c:=(by have:=Auf ts c;rw[append_assoc,<-this];rfl);rw[e];have k:((((t::ts).length:Nat):Int)==(0:Int))=false:=Cy (by simp only[Ed];omega);by_cases i:c=0
    .simp only[Ea i,Am,k,Ad];rw[Pk E];simp[I6,i]
    .have L:=Agk (n:=c.natAbs) ω;have A:=Agj c false;simp only[D9 i,Ak,Ad,k];rw[Aud false hc (by simp only[E4];omega),Ad,Alw ω,Ad,Nl (By.ti _) (by simp only[E4];omega),Ad, Pk ((E.app (By.sgn _ _)).app (By.ti _))];simp[I6,i]
theorem Aug {a:Bz} (h:At8 a):(Abh a).length<=1024:=by
 have key:∀(l:List Ek) (f:Bool),(∀t∈l,(-1<=t.v/\t.v<3000)/\(-1048576<=t.C/\t.C<=1048576))->(I6 f l a.Q).length<=47*l.length+24:=by
  intro l;induction l with
  | nil=>intro f _;have h1:=Agk (n:=a.Q.natAbs) (by have:=h.c;omega);have h2:=Agj a.Q f;simp only[I6];split <;> simp <;> omega
  | cons t l ih=>intro f b;have h1:=Alv f (b t ψ);have h2:=ih false λu hu=>b u (by simp[hu]);simp only[I6,E4,Ed];omega
 have:=key a.T true h.t;have:=h.n;unfold Abh;omega
structure CMo (m:Bd):Prop where
 sz:MSz m
 nf:m.F.length<=6
 na:m.A.length<=6
 al:∀a∈m.A,Ic a.L=true/\a.L.T≠[]/\1<=a.P/\a.P<=6
theorem Agm {a:Bi} (K:ByteArray->Option R) (h:Ic a.L=true/\a.L.T≠[]/\1<=a.P/\a.P<=6) : ((Jc a.P).bind λu=>(Gq (ByteArray.mk #[97]) u).bind λv=>(Gq v (ByteArray.mk #[58])).bind λw=>(Qg a.L).bind λx=>(Gq w x).bind λy=>K y)=K (bs (Iy a)):=by have h1:=Om (n:=a.P) (by unfold Fh;omega);have h2:=Aug (Alu h.1);rw[Jc,Agi (by unfold Fh;omega),Ad,c97,Va ζ,Ad,c58,Va ζ,Ad,A6i h.1 h.2.1,Ad,Va ζ,Ad];simp[Iy]
theorem Abk {a:Bi} (h:Ic a.L=true/\a.L.T≠[]/\1<=a.P/\a.P<=6):(Iy a).length<=1100:=by have h1:=Om (n:=a.P) (by unfold Fh;omega);have h2:=Aug (Alu h.1);simp[Iy];omega
theorem Agn {f:Bf} (h:Bo f.I<=1048576) (b:iR f.I/\Fh f.v):(D5 f).length<=33554432:=by have h1:=Om b.2;have h2:=Aks f.I b.1;simp[D5,Kw];omega
theorem Auh (h:CMo m):Zi m=some (Mb m):=by
 obtain⟨fs,c⟩:=m;have k:∀f∈fs,Bo f.I<=1048576/\iR f.I/\Fh f.v:=λf hf=>⟨h.sz.fi f hf,h.sz.fr f hf⟩;have s:∀a∈c,Ic a.L=true/\a.L.T≠[]/\1<=a.P/\a.P<=6:=h.al;have nf:fs.length<=6:=h.nf;have na:c.length<=6:=h.na;have z:=λ(l:List Bf) (u:∀f∈l,f∈fs) (j:Nat)=>Alz (g:=D5) (n:=33554432) l j (λf hf=>Agn (k f (u f hf)).1 (k f (u f hf)).2);have A:=λ(l:List Bi) (u:∀a∈l,a∈c) (j:Nat)=>Alz (g:=Iy) (n:=1100) l j (λa ha=>Abk (s a (u a ha)));have J:∀l:List Bf,By (l.flatMap D5):=λl=>By.flat By.fac l;have D:∀l:List Bi,By (l.flatMap Iy):=λl=>By.flat By.at l;have key:∀f:Bf,f∈fs->Kt f.v f.I=some (bs (D5 f)):=λf hf=>Afq f.v f.I (k f hf).2.2 (k f hf).2.1 (k f hf).1;unfold Zi Mb Abi;cases fs with
 | nil=>
  rw[As ψ,Am];cases c with
  | nil=>rw[As ψ,Am];rw[A6d By.nil];rfl
  | cons a c=>
   have ha:=s a ψ;have x:=Abk ha;rw[Ao (by simp only[Ed];omega),Ak,show Ag (a::c) 0=some a from rfl,Ad];refine (Agm _ ha).trans ?_;rw[Vb (By.at a) ζ,Ad];refine Abj a c (λj=>(((j+1:Nat):Int),[]++Iy a++(c.take j).flatMap Iy)) (by simp[Aa,B6]) (by simp at na;omega) ?_ ?_
   .intro j b hb h1 h2 h3;have i:=s b (by simp[Bq hb]);have:=Abk i;have:=A c (λb hb=>by simp[hb]) j;simp at na;simp only[h1,h2,h3,Ak,Ad];refine (Agm _ i).trans ?_;rw[Nl (By.at b) (by simp only[E4,length_nil];omega),Ad,Agl hb];simp
   .intro h1;refine⟨[]++Iy a++c.flatMap Iy,by simp only[h1,Am,Dq],?_⟩;dsimp only;rw[Pk ((By.nil.app (By.at a)).app (D c))];simp
 | cons f fs=>
  have hf:=k f ψ;have I:=Agn hf.1 hf.2;rw[Ao (by simp only[Ed];omega),Ak,show Ag (f::fs) 0=some f from rfl,Ad,key f ψ,Ad,Vb (By.fac f) ζ,Ad];refine Abj f fs (λj=>(((j+1:Nat):Int),[]++D5 f++(fs.take j).flatMap D5)) (by simp[Aa,B6]) (by simp at nf;omega) ?_ ?_
  .intro j g hg h1 h2 h3;have q:g∈f::fs:=(by simp[Bq hg]);have:=Agn (k g q).1 (k g q).2;have:=z fs (λb hb=>by simp[hb]) j;simp at nf;simp only[h1,h2,h3,Ak,Ad];rw[key g q,Ad,Nl (By.fac g) (by simp only[E4,length_nil];omega),Ad,Agl hg];simp
  .intro h1;have E:=z fs (λb hb=>by simp[hb]) fs.length;rw[Dq]at E;simp at nf;refine⟨[]++D5 f++fs.flatMap D5,by simp only[h1,Am,Dq],?_⟩;have y:By ([]++D5 f++fs.flatMap D5):=(By.nil.app (By.fac f)).app (J fs);have G:([]++D5 f++fs.flatMap D5).length<=234881024:=(by simp only[E4,length_nil];omega);have eB:(f::fs).flatMap D5 = []++D5 f++fs.flatMap D5:=ψ;rw[eB];generalize []++D5 f++fs.flatMap D5=B at y G;cases c with
   | nil=>rw[As ψ,Am,Pk y];simp
   | cons a c=>
    have ha:=s a ψ;have x:=Abk ha;rw[Ao (by simp only[Ed];omega),Ak,show Ag (a::c) 0=some a from rfl,Ad];refine (Agm _ ha).trans ?_;rw[Nl (By.at a) ω,Ad];refine Abj a c (λj=>(((j+1:Nat):Int),B++Iy a++(c.take j).flatMap Iy)) (by simp[Aa,B6]) (by simp at na;omega) ?_ ?_
    .intro j b hb h1 h2 h3;have i:=s b (by simp[Bq hb]);have:=Abk i;have:=A c (λb hb=>by simp[hb]) j;simp at na;simp only[h1,h2,h3,Ak,Ad];refine (Agm _ i).trans ?_;rw[Nl (By.at b) (by simp only[E4];omega),Ad,Agl hb];simp
    .intro h1;refine⟨B++Iy a++c.flatMap Iy,by simp only[h1,Am,Dq],?_⟩;dsimp only;rw[Pk ((y.app (By.at a)).app (D c))];simp
def Fb (ts:List Aj):List (ByteArray×Int):=ts.zipIdx.map λq=>(Mb q.1.M,(q.2:Int))
def Dst (ts:List Aj):Prop:=ts.Pairwise λt u=>t.M≠u.M
theorem Aui (ts:List Aj) (t:Aj):Fb (ts++[t])=Fb ts++[(Mb t.M,(ts.length:Int))]:=by unfold Fb;simp[zipIdx_append]
theorem Abl (ts:List Aj) (j:Nat):(Fb ts)[j]? = (ts[j]?).map λt=>(Mb t.M,(j:Int)):=by unfold Fb;simp[getElem?_map,getElem?_zipIdx];cases ts[j]? <;> rfl
theorem Auj (h:ts[j]? = some t) (b:u.M=t.M):Fb (ts.set j u)=Fb ts:=by
 apply ext_getElem?;intro i;rw[Abl,Abl,getElem?_set];by_cases e:j=i
 .subst e;rw[Aw rfl,Aw (Eh h),h];simp[b]
 .rw[Au e]
theorem Ago {α:Type}:∀(o:List (ByteArray×α)) (s:ByteArray) (v:α),E7 o s=false->Gt o s v=o++[(s,v)]
 | [],_,_,_=>rfl
 | p::o,s,v,h=>by simp only[E7,any_cons,Bool.or_eq_false_iff]at h;simp only[Gt,h.1,Am,Eu,List.cons.injEq,true_and];exact Ago o s v h.2
theorem Auk (h:∀t∈ts,t.M≠m):E7 (Fb ts) (Mb m)=false:=by unfold E7;rw[any_eq_false];intro p hp;obtain⟨j,hj⟩:=Hu hp;rw[Abl]at hj;cases ht:ts[j]? with| none=>rw[ht]at hj;cases hj| some t=>rw[ht]at hj;simp only[Option.map_some,Option.some.injEq]at hj;subst hj;intro e;have e:=(Nf _ _).1 e;exact h t (Bq ht) (At6 e).symm
theorem Aul (hd:Dst ts) (h:ts[j]? = some t):E7 (Fb ts) (Mb t.M)=true/\Ik (Fb ts) (Mb t.M) 0=(j:Int):=by
 have hp:(Fb ts)[j]? = some (Mb t.M,(j:Int)):=by rw[Abl,h];rfl
 refine⟨any_eq_true.2 ⟨_,Bq hp,(Nf _ _).2 rfl⟩,?_⟩;unfold Ik;have hf:(Fb ts).find? (λp=>Mb t.M==p.1)=some (Mb t.M,(j:Int)):=by
  cases hf:(Fb ts).find? (λp=>Mb t.M==p.1) with
  | none=>have:=find?_eq_none.1 hf _ (Bq hp);exact (this ((Nf _ _).2 rfl)).elim
  | some q=>
   have h1:=find?_some hf;obtain⟨i,hi⟩:=Hu (mem_of_find?_eq_some hf);rw[Abl]at hi;cases hu:ts[i]? with
   | none=>rw[hu]at hi;cases hi
   | some u=>
    rw[hu]at hi;simp only[Option.map_some,Option.some.injEq]at hi;subst hi;have e:=At6 ((Nf _ _).1 h1);have f:i=j:=by
     have c:=Eh hu;have b:=Eh h;rw[B4 c]at hu;rw[B4 b]at h;rcases Nat.lt_trichotomy i j with k|k|k
     .have:=pairwise_iff_getElem.1 hd i j c b k;rw[Ew hu,Ew h]at this;exact (this e.symm).elim
     .exact k
     .have:=pairwise_iff_getElem.1 hd j i b c k;rw[Ew hu,Ew h]at this;exact (this e).elim
    subst f;rw[e]
 rw[hf];rfl
open Classical in
theorem Qz (t:Aj) (p:List Aj) (m:Bd):cf (t::p) m=(if t.M=m then rq t.C else 0)+cf p m:=by
 simp only[cf];by_cases e:t.M=m
 .rw[Aw (Nk.2 e),Aw e]
 .rw[Au (λh=>e (Nk.1 h)),Au e]
open Classical in
theorem Al0:∀{ts:List Aj} {j:Nat} {t u:Aj},ts[j]? = some t->u.M=t.M->∀m,cf (ts.set j u) m=cf ts m+(if t.M=m then rq u.C-rq t.C else 0)
 | [],j,t,u,h,_,m=>by simp at h
 | s::ts,0,t,u,h,hm,m=>by simp only[getElem?_cons_zero,Option.some.injEq]at h;subst h;rw[set_cons_zero,Qz,Qz,hm];split <;> grind
 | s::ts,j+1,t,u,h,hm,m=>by simp only[getElem?_cons_succ]at h;rw[set_cons_succ,Qz,Qz,Al0 h hm m];grind
theorem Dst.set (h:Dst ts) (ht:ts[j]? = some t) (b:u.M=t.M):Dst (ts.set j u):=by
 have e:(ts.set j u).map (·.M)=ts.map (·.M):=by
  apply ext_getElem?;intro i;rw[getElem?_map,getElem?_map,getElem?_set];by_cases e:j=i
  .subst e;rw[Aw rfl,Aw (Eh ht),ht];simp[b]
  .rw[Au e]
 have k:∀l:List Aj,Dst l↔(l.map (·.M)).Pairwise (·≠·):=λl=>by rw[pairwise_map];exact Iff.rfl
 rw[k,e,<-k];exact h
structure Col (k:Nat) (P:Bd->Prop) (ts:List Aj):Prop where
 dst:Dst ts
 tb:∀t∈ts,RB k t.C
 mo:∀t∈ts,P t.M
theorem Col.nil (k:Nat) (P:Bd->Prop):Col k P []:=⟨Pairwise.nil,λ_ h=>(by cases h),λ_ h=>(by cases h)⟩
theorem Agp {k0:Nat} {P:Bd->Prop} (J:∀m,P m->CMo m) (l ts:List Aj) (B:Col k0 P ts) (I:∀t∈l,RB k t.C/\P t.M) (hk:k<=k0) (M:k0+l.length*(k+3)<34359738000) (L:ts.length+l.length<=1099511627776) : ∃f,Lg l (Fb ts) ts=some (Fb f,f)/\Col (k0+l.length*(k+3)) P f/\f.length<=ts.length+l.length/\∀m,cf f m=cf ts m+cf l m:=by
 unfold Lg;refine Xj (A:=List Aj) (λf=>(Fb f,f)) ?_;refine Ey (λs=>∃(j:Nat) (u:List Aj),s=((j:Int),Fb u,u)/\j<=l.length/\Col (k0+j*(k+3)) P u/\u.length<=ts.length+j/\∀m,cf u m=cf ts m+cf (l.take j) m) (λs=>l.length-s.1.toNat) (λz=>∃u,z=(Fb u,u)/\Col (k0+l.length*(k+3)) P u/\u.length<=ts.length+l.length/\∀m,cf u m=cf ts m+cf l m) ⟨0,ts,rfl,ω,by simpa using B,ω,λm=>by simp only[take_zero,cf];grind⟩ ?_ ?_
 .rintro _ ⟨j,u,rfl,hj,hu,y,q⟩;rcases Cf j l.length with h|h
  .have hx:l[j]? = some l[j]:=B4 h;generalize l[j]=x at hx;obtain⟨hb,G⟩:=I x (Bq hx);have E:j*(k+3)+(k+3)<=l.length*(k+3):=(by rw[<-Nat.succ_mul];exact Nat.mul_le_mul_right _ h);have D:(j+1)*(k+3)=j*(k+3)+(k+3):=(by rw[Nat.succ_mul]);simp only[Ao (ω:(j:Int)<(l.length:Int)),Ak,Br rfl hx,Ad,Auh (J _ G),C5 h ω];left;by_cases hex:∃t∈u,t.M=x.M
   .obtain⟨t,ht,he⟩:=hex;obtain⟨i,hi⟩:=Hu ht;obtain⟨g1,g2⟩:=Aul hu.dst hi;rw[he]at g1 g2;obtain⟨c,c1,_,c3,c4,c5⟩:=Af9 (hu.tb t ht) hb ω ω;refine⟨((j+1:Nat),Fb (u.set i ⟨c,t.M⟩),u.set i ⟨c,t.M⟩),?_,⟨j+1,u.set i ⟨c,t.M⟩,rfl,ω,⟨hu.dst.set hi rfl,?_,?_⟩,by rw[length_set];omega,λm=>?_⟩,ζ⟩
    .simp only[g1,g2,Ak,Ad,Br rfl hi,c1,Ho rfl,Auj (u:=⟨c,t.M⟩) hi rfl]
    .intro w hw;rcases mem_or_eq_of_mem_set hw with hw|rfl
     .exact (hu.tb w hw).mono ω
     .exact c3.mono ω
    .intro w hw;rcases mem_or_eq_of_mem_set hw with hw|rfl
     .exact hu.mo w hw
     .exact hu.mo t ht
    .rw[Al0 (u:=⟨c,t.M⟩) hi rfl m,q m,Db hx,Qy,Qz];simp only[c5,he,cf];split <;> grind
   .have g:=Auk (m:=x.M) (ts:=u) λt ht e=>hex ⟨t,ht,e⟩;refine⟨((j+1:Nat),Fb (u++[x]),u++[x]),?_,⟨j+1,u++[x],rfl,ω,⟨?_,?_,?_⟩,ζ,λm=>?_⟩,ζ⟩
    .simp only[g,Am,Ad];rw[Dn ζ,Ad,Ago _ _ _ g,Aui]
    .refine pairwise_append.2 ⟨hu.dst,pairwise_singleton _ _,λa ha b hb=>?_⟩;simp only[E3]at hb;subst hb;exact λe=>hex ⟨a,ha,e⟩
    .intro w hw;rcases Ef.1 hw with hw|hw
     .exact (hu.tb w hw).mono ω
     .simp only[E3]at hw;subst hw;exact hb.mono ω
    .intro w hw;rcases Ef.1 hw with hw|hw
     .exact hu.mo w hw
     .simp only[E3]at hw;subst hw;exact G
    .rw[Qy,q m,Db hx,Qy];grind
  .have:j=l.length:=ω;subst this;rw[Dq]at q;simp only[As (ω:¬(l.length:Int)<(l.length:Int)),Am];exact .inr ⟨_,rfl,u,rfl,hu,y,q⟩
 .rintro _ ⟨u,rfl,h1,h2,h3⟩;exact⟨_,rfl,u,rfl,h1,h2,h3⟩
theorem Al1 (t u:Aj) (h:MSz t.M):Qa t u=some (Ei t.M u.M):=by unfold Qa;rw[Asr _ _ h];rfl
theorem A6j (A R:List α) (x y:α):((A++y::x::R).set (A.length+1) y).set A.length x=A++x::y::R:=by induction A with| nil=>rfl| cons a A ih=>simp only[Eu,Ed,set_cons_succ,ih]
theorem Aum (A R:List α) (x:α):(A++x::R)[A.length]? = some x:=ψ
theorem A6k (A R:List α) (x y:α):(A++y::x::R)[A.length+1]? = some x:=by induction A with| nil=>rfl| cons a A ih=>simp
theorem A6l {step:Int×List Aj->Option ((Int×List Aj)⊕(Int×List Aj))} (N:Nat) (G:N<4611686018427387904) (b:∀(x:Aj) (R:List Aj),step (0,x::R)=some (.inr (0,x::R))) (l:∀(A R:List Aj) (x y:Aj),(∀t∈A++y::x::R,MSz t.M)->(A++y::x::R).length<=N->step (((A.length+1:Nat):Int),A++y::x::R) = if Ei x.M y.M<0 then some (.inl ((A.length:Int),A++x::y::R)) else some (.inr (((A.length+1:Nat):Int),A++y::x::R))) : ∀(n:Nat) (A R:List Aj) (x:Aj),A.length=n->(∀t∈A++x::R,MSz t.M)->(A++x::R).length<=N -> ∃f i,An step ((A.length:Int),A++x::R)=some ((f.length:Int),f++x::(i++R))/\A=f++i/\(∀a∈i,ltT x a)/\∀q y,f=q++[y]->¬ltT x y:=by
 intro n;induction n with
 | zero=>intro A R x g _ _;have:A = []:=Fu.1 g;subst this;exact⟨[],[],Fg (b x R),rfl,nofun,(λq y h=>by simp at h)⟩
 | succ n ih=>
  intro A R x g k c;obtain⟨B,y,rfl⟩:∃B y,A=B++[y]:=by
   rcases eq_nil_or_concat A with h|⟨B,y,h⟩
   .rw[h]at g;cases g
   .exact⟨B,y,by simpa using h⟩
  have u:B.length=n:=(by simpa using g);have E:(B++[y])++x::R=B++y::x::R:=ψ;have el:(((B++[y]).length:Nat):Int)=((B.length+1:Nat):Int):=ψ;rw[E]at k c ⊢;rw[el];have j:=l B R x y k c;by_cases hc:Ei x.M y.M<0
  .rw[Aw hc]at j;obtain⟨f,i,h1,h2,h3,D⟩:=ih B (y::R) x u (by intro t ht;refine k t ?_;simp only[Ef,E8]at ht ⊢;rcases ht with h|h|h|h <;> simp[h]) (by simpa using c);refine⟨f,i++[y],?_,by rw[h2];simp,?_,D⟩
   .rw[Ks j,h1];simp
   .intro a ha;rcases Ef.1 ha with ha|ha
    .exact h3 a ha
    .simp only[E3]at ha;subst ha;exact hc
  .rw[Au hc]at j;refine⟨B++[y],[],?_,ψ,nofun,?_⟩
   .rw[Fg j];simp
   .intro q z s;have:=append_inj' s rfl;have e:y=z:=(by simpa using this.2);subst e;exact hc
theorem A6m {a b c:Aj} (h:ltT a b) (h':ltT b c):ltT a c:=Xx h h'
theorem A6n {c j:List Aj} {x:Aj} (u:(c++j).Pairwise ltT) (h2:∀a∈j,ltT x a) (h1:∀g y,c=g++[y]->¬ltT x y) (hd:∀a∈c,a.M≠x.M):(c++x::j).Pairwise ltT:=by
 obtain⟨i,s,l⟩:=pairwise_append.1 u;have hx:∀a∈c,ltT a x:=by
  intro a ha;rcases eq_nil_or_concat c with h|⟨g,y,h⟩
  .rw[h]at ha;cases ha
  .have h:c=g++[y]:=(by simpa using h);have f:ltT y x:=by
    have q:=h1 g y h;have z:=hd y (by rw[h];simp);unfold ltT at *;rcases Int.lt_trichotomy (Ei x.M y.M) 0 with k|k|k
    .exact (q k).elim
    .exact (z (Nk.1 k).symm).elim
    .exact Alk.1 k
   rw[h]at ha i;rcases Ef.1 ha with ha|ha
   .exact A6m ((pairwise_append.1 i).2.2 a ha y ψ) f
   .simp only[E3]at ha;subst ha;exact f
 refine pairwise_append.2 ⟨i,pairwise_cons.2 ⟨h2,s⟩,λa ha b hb=>?_⟩;rcases E8.1 hb with rfl|hb
 .exact hx a ha
 .exact l a ha b hb
noncomputable def Abm:Int×List Aj->Option ((Int×List Aj)⊕(Int×List Aj)):=λ(v31,b)=> (show OB from bif v31>(0:Int) then ((Ag b v31).bind λv33=> (Ag b (Aa (v31-1))).bind λg=> (Qa v33 g).bind λv35=> some (decide (v35<(0:Int)))) else some false).bind λf=>
 bif f then ((Ag b (Aa (v31-1))).bind λv37=> (Ag b v31).bind λc=> (Ag b v31).bind λv39=> (Ag (Di b v31 v37) (Aa (v31-1))).bind λv40=> some (.inl ((Aa (v31-1)),(Di (Di b v31 v37) (Aa (v31-1)) c)))) else some (.inr (v31,b))
theorem A6o (y:Aj) (R:List Aj):Abm (0,y::R)=some (.inr (0,y::R)):=by unfold Abm;simp only[As (ω:¬(0:Int)>0),Am,Ad]
theorem A6p {N:Nat} (h:N<=1099511627776) (A R:List Aj) (u y:Aj) (b:∀t∈A++y::u::R,MSz t.M) (c:(A++y::u::R).length<=N):Abm (((A.length+1:Nat):Int),A++y::u::R) = if Ei u.M y.M<0 then some (.inl ((A.length:Int),A++u::y::R)) else some (.inr (((A.length+1:Nat):Int),A++y::u::R)):=by
 have g:A.length+1<N:=by simp at c;omega
 have f:Aa (((A.length+1:Nat):Int)-1)=(A.length:Int):=by rw[Aa,B6] <;> omega
 unfold Abm;simp only[Ao (ω:((A.length+1:Nat):Int)>0),Ak,f,Br (n:=A.length+1) rfl (A6k A R u y),Br (n:=A.length) rfl (Aum A (u::R) y),Ad,Al1 u y (b u ψ)];by_cases hc:Ei u.M y.M<0
 .rw[Ao hc,Aw hc];simp only[Ak];rw[Ho (n:=A.length+1) rfl,Ho (n:=A.length) rfl,A6j];have:Ag ((A++y::u::R).set (A.length+1) y) (A.length:Int)=some y:=(by refine Br rfl ?_;rw[getElem?_set_ne ω];exact Aum A (u::R) y);rw[this];rfl
 .rw[As hc,Au hc];rfl
theorem A6q (b:List Aj) (hd:Dst b) (I:∀t∈b,MSz t.M) (M:b.length<=1099511627776) : ∃R,Z2 0 (b.length:Int) b=some R/\R.Perm b/\R.Pairwise ltT:=by
 unfold Z2;cases b with
 | nil=>refine⟨[],?_,Perm.refl _,Pairwise.nil⟩;refine Lp 0 (λ_=>((1:Int),([]:List Aj))) (by simp[Aa,B6]) (λj hj=>ω) ⟨[],?_,rfl⟩;simp
 | cons z0 A=>
 generalize f:z0::A=b at *;have hpos:1<=b.length:=by rw[<-f];simp
 refine Ey (λs=>∃(i:Nat) (S:List Aj),s=((i:Int),S++b.drop i)/\1<=i/\i<=b.length/\S.length=i/\S.Perm (b.take i)/\S.Pairwise ltT) (λs=>b.length-s.1.toNat) (λR=>R.Perm b/\R.Pairwise ltT) ⟨1,[z0],by rw[<-f];simp[Aa,B6],ω,hpos,rfl,by rw[<-f];simp,pairwise_singleton _ _⟩ ?_ ?_
 .rintro _ ⟨i,S,rfl,J,hi,G,c,k⟩;rcases Cf i b.length with h|h
  .have hx:b[i]? = some b[i]:=B4 h;generalize b[i]=x at hx;have g:b.drop i=x::b.drop (i+1):=Lu hx;have z:(S++x::b.drop (i+1)).length=b.length:=ζ;have y:∀t∈S++x::b.drop (i+1),t∈b:=by
    intro t ht;rcases Ef.1 ht with ht|ht
    .exact mem_of_mem_take (c.mem_iff.1 ht)
    .rw[<-g]at ht;exact mem_of_mem_drop ht
   simp only[Ao (ω:(i:Int)<(b.length:Int)),Ak,C5 h ω];rw[g];left;obtain⟨q,l,h1,h2,h3,L⟩:=A6l (step:=Abm) b.length ω A6o (A6p ω) S.length S (b.drop (i+1)) x rfl (λt ht=>I t (y t ht)) (by rw[z];exact Nat.le_refl _);rw[G]at h1;have hp:(q++x::l).Perm (b.take (i+1)):=(by rw[Db hx];have:(q++x::l).Perm ((q++l)++[x]):=(by rw[append_assoc];exact Perm.append_left q (perm_append_singleton x l).symm);exact this.trans (by rw[<-h2];exact c.append_right [x]));refine⟨(((i+1:Nat):Int),(q++x::l)++b.drop (i+1)),bnd h1 ψ,⟨i+1,q++x::l,rfl,ω,ω,?_,hp,?_⟩,ζ⟩
   .rw[hp.length_eq,length_take];omega
   .rw[h2]at k;refine A6n k h3 L λa ha=>?_;have E:a∈b.take i:=c.mem_iff.1 (by rw[h2];simp[ha]);have B:x∈b.drop i:=(by rw[g];simp);have D:(b.take i++b.drop i).Pairwise λt u=>t.M≠u.M:=(by rw[take_append_drop];exact hd);exact (pairwise_append.1 D).2.2 a E x B
  .have:i=b.length:=ω;subst this;rw[Dq]at c;simp only[As (ω:¬(b.length:Int)<(b.length:Int)),Am,drop_length,append_nil];exact .inr ⟨S,rfl,c,k⟩
 .rintro R ⟨h1,h2⟩;exact⟨R,rfl,h1,h2⟩
theorem Ms {l:List α} (h:n=l.length):G0 n l=some ():=by unfold G0;rw[Aw h]
theorem A6r {s:ByteArray} {i:Int} (h0:0<=i) (h:i.toNat<s.size):∃c,Gj s i=some c:=by unfold Gj;rw[Aw h0];exact⟨_,getElem?_pos s i.toNat h⟩
set_option maxRecDepth 20000 in
theorem Aun {n:Nat} (h:n<256):∃v,Wt (Bb (n:Int))=some v:=by
 unfold Wt Ad7;rw[Bb,Dy ω ω,As ω];simp only[Am,Ad];rw[As ω];simp only[Am,Ad];rw[As ω];simp only[Am,Ad];have b:wu8 (n:Int)=(n:Int):=by rw[wu8];unfold IntKind.wrap;simp[IntKind.bits,IntKind.signed];omega
 rw[b];generalize g:ByteArray.mk _=T;have f:T.size=256:=by rw[<-g];rfl
 obtain⟨c,hc⟩:=A6r (s:=T) (i:=(n:Int)) ω (by rw[f];simpa using h);rw[hc];exact⟨_,rfl⟩
theorem A6s (b:List Aj) (hd:Dst b) (g:∀t∈b,MSz t.M) (f:b.length<=12):∃R,O3 b=some R/\R.Perm b/\R.Pairwise ltT:=by
 obtain⟨R,h1,h2,h3⟩:=A6q b hd g ω;obtain⟨v,c⟩:=Aun (n:=b.length) ω;refine⟨R,?_,h2,h3⟩;unfold O3;rw[Nat.ble_eq_true_of_le f,Ak];unfold Aj1;rw[c,Ad];have hp:Zo 0 (b.length:Int) v b=some R:=by unfold Zo;refine bnd (a:=R) (Fg ?_) rfl;have w:Aa ((b.length:Int)-0)=(b.length:Int):=ξ;simp only[w,Ao (ω:(b.length:Int)<=12),Ak,h1,Ad,Ms h2.length_eq.symm]
 rw[hp,Ad,Ms h2.length_eq.symm];rfl
def clT (t:Aj):Aj:=⟨Ci (sv t.C) (nv t.C) (dv t.C),t.M⟩
theorem Auo (p:List Aj) (hk:k<34359738000) (hp:∀t∈p,RB k t.C/\MSz t.M) (b:p.length<=1048576):Wg p=some (p.map clT):=by
 unfold Wg;refine F2 p (λj=>((j:Int),(p.take j).map clT)) rfl ω ?_ ?_
 .intro j x hj hx h1 h2 h3;obtain⟨a1,a2⟩:=hp x (Bq hx);simp only[h1,h2,h3,Ak,Ad,Ak6 x.C k a1 ω,A58 x.M a2];rw[Dn ζ,Ad,Db hx];simp[clT]
 .intro h1;exact⟨p.map clT,ψ,rfl⟩
theorem Aup (p:List Aj) (m:Bd):cf (p.map clT) m=cf p m:=by induction p with| nil=>rfl| cons t p ih=>simp only[map_cons,cf,ih,clT];rw[Sq _ _ _ (Ie _)];rfl
theorem Auq (h:p.Perm q) (m:Bd):cf p m=cf q m:=by induction h with| nil=>rfl| cons x _ ih=>simp only[cf,ih]| swap x y l=>simp only[cf];grind| trans _ _ h1 h2=>rw[h1,h2]
def nzT (t:Aj):Bool:=decide (rq t.C≠0)
theorem Aur (p:List Aj) (m:Bd):cf (p.filter nzT) m=cf p m:=by
 induction p with
 | nil=>rfl
 | cons t p ih=>
  by_cases h:rq t.C=0
  .rw[filter_cons_of_neg (by simp[nzT,h]),ih];simp only[cf,h];grind
  .rw[filter_cons_of_pos (by simp[nzT,h])];simp only[cf,ih]
theorem Aus (x:Rat):(Sr x != (0:Int))=decide (x≠0):=by
 unfold Sr;by_cases h1:x<0
 .rw[Aw h1];have:x≠0:=(by intro e;subst e;exact absurd h1 δ);simp[this]
 .rw[Au h1];by_cases h2:0<x
  .rw[Aw h2];have:x≠0:=(by intro e;subst e;exact absurd h2 δ);simp[this]
  .rw[Au h2];have:x=0:=Rat.le_antisymm (Rat.not_lt.1 h2) (Rat.not_lt.1 h1);simp[this]
theorem Al2 {f:α->Bool} {l:List α} {x:α} (h:l[j]? = some x):(l.take (j+1)).filter f=(l.take j).filter f++(if f x then [x] else []):=by rw[Db h,filter_append];congr 1;cases k:f x <;> simp[filter,k]
theorem A6t {P:Bd->Prop} (q:∀m,P m->CMo m) (o:List (ByteArray×Int)) (ts:List Aj) (h:Col k P ts) (hk:k<34359738000) (A:ts.length<=1000) (z:∀c:List Aj,c.length<=ts.length->Dst c->(∀t∈c,MSz t.M)->∃R,O3 c=some R/\R.Perm c/\R.Pairwise ltT) : ∃R,Ly o ts=some (R,0)/\CP R/\(∀m,cf R m=cf ts m)/\(∀t∈R,P t.M/\RB (k+1) t.C)/\R.length<=ts.length:=by
 unfold Ly;have g:(ts.filter nzT).length<=ts.length:=length_filter_le _ _;obtain⟨S,y,f,s⟩:=z (ts.filter nzT) g (Pairwise.filter _ h.dst) (λt ht=>(q _ (h.mo t (mem_filter.1 ht).1)).sz);have b:∀t∈S,t∈ts/\rq t.C≠0:=by intro t ht;have:=mem_filter.1 (f.mem_iff.1 ht);exact⟨this.1,by simpa[nzT] using this.2⟩
 refine⟨S.map clT,?_,⟨?_,?_⟩,?_,?_,?_⟩
 .refine F2 ts (λj=>((j:Int),(ts.take j).filter nzT)) rfl ω ?_ ?_
  .intro j x hj hx h1 h2 h3;have hb:=h.tb x (Bq hx);have l:((ts.take j).filter nzT).length<=ts.length:=Nat.le_trans (length_filter_le _ _) (by rw[length_take];omega);simp only[h1,h2,h3,Ak,Ad,(Agb hb hk).1,Aus];rw[Al2 hx];by_cases i:rq x.C=0
   .have:nzT x=false:=(by simp[nzT,i]);rw[As (by simpa using i),this];simp
   .have:nzT x=true:=(by simp[nzT,i]);rw[Ao i,this];simp only[Ak];rw[Dn ζ];simp
  .intro h1;refine⟨ts.filter nzT,by simp only[h1,Am,Dq],?_⟩;rw[As ω];simp only[Am];rw[y,Ad,Ms f.length_eq.symm,Ad, Auo (k:=k) S hk (λt ht=>⟨h.tb t (b t ht).1,(q _ (h.mo t (b t ht).1)).sz⟩) (by rw[f.length_eq];omega)];rfl
 .rw[pairwise_map];exact s
 .intro t ht;obtain⟨u,hu,rfl⟩:=mem_map.1 ht;refine⟨U8 _ _ _ (Ie _),?_⟩;show rq (Ci _ _ _)≠0;rw[Sq _ _ _ (Ie _)];exact (b u hu).2
 .intro m;rw[Aup,Auq f,Aur]
 .intro t ht;obtain⟨u,hu,rfl⟩:=mem_map.1 ht;exact⟨h.mo u (b u hu).1,Ath (h.tb u (b u hu).1)⟩
 .rw[Dc,f.length_eq];exact g
theorem Aut (x:Bs) (g:CSz x) (ps:List (List Aj)) (B:∀p∈ps,∀t∈p,TSz t) (M:ps.length<=1048576) : ∃r,N7 x ps=some r/\(((Ih x/\∀p∈ps,Kz x.D x.V x.E p=true)/\∃A,r = .inl (true,x,A,[],x.D,x.V,x.E.G,x.E.U,x.E.R)/\D0 x.D x.V x.E A) \/ ((¬(Ih x/\∀p∈ps,Kz x.D x.V x.E p=true))/\r = .inr false)):=by
 obtain⟨b,b1,b2⟩:=Akk g.ds;have L:=g.nv;have J:=g.rs;unfold N7;rw[b1,Aa0 x.D x.E 0 ω];by_cases l:x.V.length<=3000
 .rw[As ω];simp only[Am,Ad];cases b with
  | false=>exact⟨_,rfl,.inr ⟨λh=>(by have:=b2.2 h.1.2.1;cases this),rfl⟩⟩
  | true=>
   have I:=b2.1 rfl;simp only[Eg,Am];cases E:(He x.D 0 x.E&&decide (Bl x.E<=200)) with
   | false=>exact⟨_,rfl,.inr ⟨λh=>(by have:=h.1.2.2.1;rw[show G4 x.D x.E=false from E]at this;cases this),rfl⟩⟩
   | true=>
    simp only[Eg,Am,Ad];refine Ey (λi=>∃j:Nat,i=j/\j<=x.V.length/\(x.V.take j).all (G4 x.D)=true) (λi=>x.V.length-i.toNat) (λz=>match z with|.inl r=>r=false/\¬Ih x | .inr _=>Ih x) ⟨0,rfl,ω,ψ⟩ ?_ ?_
    .rintro i ⟨j,rfl,hj,c⟩;rcases Cf j x.V.length with h|h
     .have ht:x.V[j]? = some x.V[j]:=B4 h;generalize x.V[j]=t at ht;have:=g.vs t (Bq ht);simp only[Ao (ω:(j:Int)<(x.V.length:Int)),Ak,Br rfl ht,Ad,Aa0 x.D t 0 ω,C5 h ω];rw[show (He x.D 0 t&&decide (Bl t<=200))=G4 x.D t from rfl];cases hg:G4 x.D t with| true=>exact .inl ⟨_,rfl,⟨j+1,rfl,ω,by rw[Db ht,all_append,c];simp[hg]⟩,ζ⟩| false=>refine .inr ⟨.inl false,rfl,rfl,λD=>?_⟩;have:=I5.1 D.2.2.2 t (Bq ht);rw[hg]at this;cases this
     .have:j=x.V.length:=ω;subst this;rw[Dq]at c;exact .inr ⟨.inr (),ψ,l,I,E,c⟩
    .rintro (r|u) f
     .obtain⟨rfl,f⟩:=f;exact⟨_,rfl,.inr ⟨λh=>f h.1,rfl⟩⟩
     .have hf:Ih x:=f;simp only;refine Ey (λs=>∃(j:Nat) (o:List (ByteArray×Int)),s=((j:Int),o)/\j<=ps.length/\D0 x.D x.V x.E o/\∀p∈ps.take j,Kz x.D x.V x.E p=true) (λs=>ps.length-s.1.toNat) (λz=>match z with|.inl r=>r=false/\¬(∀p∈ps,Kz x.D x.V x.E p=true) | .inr o=>D0 x.D x.V x.E o/\∀p∈ps,Kz x.D x.V x.E p=true) ⟨0,[],rfl,ω,(λq h=>by cases h),(λq h=>by simp at h)⟩ ?_ ?_
      .rintro _ ⟨j,o,rfl,hj,G,c⟩;rcases Cf j ps.length with h|h
       .have ht:ps[j]? = some ps[j]:=B4 h;generalize ps[j]=p at ht;have k:=Bq ht;obtain⟨A,c1,c2⟩:=A5r (hf.ctx g) [] G p (B p k);simp only[Ao (ω:(j:Int)<(ps.length:Int)),Ak,Br rfl ht,Ad,c1,C5 h ω];cases y:Kz x.D x.V x.E p with
        | true=>
         refine .inl ⟨_,rfl,⟨j+1,A,rfl,ω,c2,λq hq=>?_⟩,ζ⟩;rw[Db ht]at hq;rcases Ef.1 hq with hq|hq
         .exact c q hq
         .simp only[E3]at hq;subst hq;exact y
        | false=>refine .inr ⟨.inl false,rfl,rfl,λD=>?_⟩;have:=D p k;rw[y]at this;cases this
       .have:j=ps.length:=ω;subst this;rw[Dq]at c;exact .inr ⟨.inr o,ψ,G,c⟩
      .rintro (r|o) hw
       .obtain⟨rfl,hw⟩:=hw;exact⟨_,rfl,.inr ⟨λh=>hw h.2,rfl⟩⟩
       .exact⟨_,rfl,.inl ⟨⟨hf,hw.2⟩,o,rfl,hw.1⟩⟩
 .rw[Ao ω];exact⟨_,rfl,.inr ⟨λh=>l h.1.1,rfl⟩⟩
theorem A6u (h:Ix data vars res m=true) (k:MSz m):CMo m:=by
 have hf:=(A5v h).2;unfold Ix at h;simp only[Dz,D8]at h;obtain⟨⟨h1,h2⟩,h3⟩:=h;have b:∀f∈m.F,0<=D3 data vars res f:=by intro f hf;obtain⟨j,hj⟩:=Hu hf;have:=Jq h1 hj;simp only[Ma,Dz,D8]at this;omega
 have ha:∀a∈m.A,1<=a.P/\Ic a.L=true/\a.L.T≠[]:=by intro a ha;obtain⟨j,hj⟩:=Hu ha;have:=Jq h2 hj;simp only[Ki,Dz,D8]at this;refine⟨this.1.1.1.1,this.1.1.1.2,λe=>?_⟩;have i:=this.1.1.2;rw[e]at i;simp at i
 obtain⟨a1,a2,a3⟩:=Aa9 m.A λa h=>by have:=(ha a h).1;omega
 have f1:=As0 m.F b;have al:(m.A.length:Int)<=Dk m.A:=by have key:∀l:List Bi,(∀a∈l,1<=a.P)->(l.length:Int)<=Dk l:=(by intro l;induction l with| nil=>intro _;simp[Dk]| cons f fs ih=>intro c;have h1:=c f ψ;have h2:=ih (λg hg=>c g (by simp[hg]));unfold Dk at *;simp only[map_cons,sum_cons,Ed];omega);exact key _ λa h=>(ha a h).1
 exact⟨k,hf,ω,λa h=>⟨(ha a h).2.1,(ha a h).2.2,(ha a h).1,by have:=a3 a h;omega⟩⟩
def Gf (x:Bs) (m:Bd):Prop:=Ix x.D x.V x.E m=true/\MSz m
theorem Gf.cmo (h:Gf x m):CMo m:=A6u h.1 h.2
structure Ir (x:Bs) (p:List Aj):Prop where
 can:Kz x.D x.V x.E p=true
 sz:∀t∈p,TSz t
theorem Ir.cp (h:Ir x p):CP p:=(Agf.1 h.can).2.1
theorem Ir.mo (h:Ir x p):∀t∈p,Gf x t.M:=λt ht=>⟨(Agf.1 h.can).2.2 t ht,(h.sz t ht).mo⟩
theorem Ir.of (hc:CP p) (b:∀t∈p,Gf x t.M) (c:∀t∈p,RB 1048576 t.C) (f:p.length<=1000):Ir x p := ⟨Agf.2 ⟨f,hc,λt ht=>(b t ht).1⟩,λt ht=>⟨c t ht,(b t ht).2⟩⟩
theorem Ir.tb (h:Ir x p):∀t∈p,RB 1048576 t.C/\Gf x t.M:=λt ht=>⟨(h.sz t ht).co,h.mo t ht⟩
theorem Auu (i:CSz x) (hf:Ih x) (hp:Ir x p) (hq:Ir x q):∃f,N7 x [p,q]=some (.inl (true,x,f,[],x.D,x.V,x.E.G,x.E.U,x.E.R)):=by
 have b:∀r∈[p,q],Ir x r:=by intro r c;simp only[E8,not_mem_nil,or_false]at c;rcases c with rfl|rfl <;> assumption
 obtain⟨r,h,g⟩:=Aut x i [p,q] (λr c=>(b r c).sz) ψ;rcases g with⟨_,f,e,_⟩|⟨j,_⟩
 .exact⟨f,by rw[h,e]⟩
 .exact (j ⟨hf,λr c=>(b r c).can⟩).elim
end Go.Ab
