/- Plain laws: what the plain functions answer. -/
import Derived.Test.YtkafffjlpedijaaGreatDoorWtPl0
namespace Go.Ab
open Go Ieee
theorem A3h (n d:Nat):∃c,Toward.even.cut false n d=c/\(n / 2 ^ d<=c)/\c<=n / 2 ^ d+1/\(n % 2 ^ d=0->c=n / 2 ^ d):=by
 refine⟨_,rfl,?_⟩;unfold Toward.cut;simp only[Nat.shiftLeft_eq,Nat.one_mul];by_cases hd:d<=n.log2+2
 .rw[Nat.min_eq_left hd];generalize h2:2 ^ d=g;have hg:0<g:=(by rw[<-h2];exact Nat.pow_pos δ);refine⟨ω,?_,λh0=>?_⟩
  .have:=Bool.toNat_le (decide (g<2*(n % g))||(g==2*(n % g)&&n / g % 2==1))
   omega
  .rw[h0];have h1:decide (g<2*0)=false:=ψ;have h3:(g==2*0)=false:=ζ;rw[h1,h3];rfl
 .rw[Nat.min_eq_right ω];have b:n<2 ^ (n.log2+1):=Nat.lt_log2_self;have hg:2 ^ (n.log2+2)=2*2 ^ (n.log2+1):=(by rw[Nat.pow_succ];omega);have f:2 ^ (n.log2+2)<=2 ^ d:=Nat.pow_le_pow_right δ ω;have j:n / 2 ^ (n.log2+2)=0:=Nat.div_eq_of_lt ω;have i:n % 2 ^ (n.log2+2)=n:=Nat.mod_eq_of_lt ω;have h:n / 2 ^ d=0:=Nat.div_eq_of_lt ω;have e4:n % 2 ^ d=n:=Nat.mod_eq_of_lt ω;rw[j,i,h,e4];have h1:decide (2 ^ (n.log2+2)<2*n)=false:=ζ;have h3:(2 ^ (n.log2+2)==2*n)=false:=ζ;rw[h1,h3];exact⟨ψ,ψ,λ_=>rfl⟩
theorem W3 (f:Nat) (place e:Int) (hm:f≠0) (D:place+f.log2=e) (h1 : -1000<=e) (h2:e<=900) : ∃(m:Nat) (p:Int),double.read (double.nearest false f place) = .number false m p/\4503599627370496<=m/\m<9007199254740992/\(p=e-52\/(p=e-51/\m=4503599627370496)):=by
 have g:max (place+f.log2-(double.fractionBits:Int)) double.leastPlace=e-52:=by have a:(double.fractionBits:Int)=52:=rfl;have b:double.leastPlace = -1074:=δ;rw[a,b,D];omega
 have hw:double.nearest false f place=min ((e-52+1074).toNat*4503599627370496+Toward.even.cut false (f <<< (place-(e-52)).toNat) ((e-52)-place).toNat) (2047*4503599627370496):=by unfold Format.nearest;rw[Av hm];simp only[g];have b:double.leastPlace = -1074:=δ;have c:double.binade=4503599627370496:=δ;have d:double.infRung=2047*4503599627370496:=δ;rw[b,c,d];unfold Format.word;simp only[Bool.false_eq_true,if_false];congr 3
 have hk:4503599627370496<=Toward.even.cut false (f <<< (place-(e-52)).toNat) ((e-52)-place).toNat/\Toward.even.cut false (f <<< (place-(e-52)).toNat) ((e-52)-place).toNat<=9007199254740992:=by
  obtain⟨c,hc,s,q,i⟩:=A3h (f <<< (place-(e-52)).toNat) ((e-52)-place).toNat;rw[hc];have B:2 ^ f.log2<=f:=Nat.log2_self_le hm;have A:f<2 ^ (f.log2+1):=Nat.lt_log2_self;rw[Nat.shiftLeft_eq]at s q i;rcases Int.le_total place (e-52) with h|h
  .have z:(place-(e-52)).toNat=0:=ω;rw[z,Nat.pow_zero,Nat.mul_one]at s q i;have hd:f.log2=52+((e-52)-place).toNat:=ω;have hp:2 ^ f.log2=4503599627370496*2 ^ ((e-52)-place).toNat:=(by rw[hd,Nat.pow_add]);have l:2 ^ (f.log2+1)=9007199254740992*2 ^ ((e-52)-place).toNat:=(by rw[Nat.pow_succ,hp];omega);have hpos:0<2 ^ ((e-52)-place).toNat:=Nat.pow_pos δ;have a1:4503599627370496<=f / 2 ^ ((e-52)-place).toNat:=(Nat.le_div_iff_mul_le hpos).2 ω;have a2:f / 2 ^ ((e-52)-place).toNat<9007199254740992:=(Nat.div_lt_iff_lt_mul hpos).2 ω;omega
  .have z:((e-52)-place).toNat=0:=ω;rw[z,Nat.pow_zero,Nat.div_one]at s q i;have G:=i (Nat.mod_one _);have hd:52=f.log2+(place-(e-52)).toNat:=ω;have hp:2 ^ f.log2*2 ^ (place-(e-52)).toNat=4503599627370496:=(by rw[<-Nat.pow_add,<-hd]);have l:2 ^ (f.log2+1)*2 ^ (place-(e-52)).toNat=9007199254740992:=(by rw[Nat.pow_succ,Nat.mul_right_comm,hp]);have hpos:0<2 ^ (place-(e-52)).toNat:=Nat.pow_pos δ;have a1:=Nat.mul_le_mul_right (2 ^ (place-(e-52)).toNat) B;have a2:=Nat.mul_lt_mul_of_pos_right A hpos;omega
 generalize Toward.even.cut false (f <<< (place-(e-52)).toNat) ((e-52)-place).toNat=c at *;obtain⟨t,ht⟩:∃t:Nat,(e-52+1074).toNat=t/\t<=1922/\(t:Int)=e+1022:=⟨_,rfl,ω,ω⟩;rw[ht.1]at hw;rw[Nat.min_eq_left ω]at hw;rw[hw];have b:double.leastPlace = -1074:=δ;have E:double.binade=4503599627370496:=δ;have d:double.infRung=2047*4503599627370496:=δ;have u:double.signWeight=9223372036854775808:=δ;unfold Format.read;rw[b,E,d,u];have y:(t*4503599627370496+c) / 9223372036854775808=0:=Nat.div_eq_of_lt ω;have x:(t*4503599627370496+c) % 9223372036854775808=t*4503599627370496+c:=Nat.mod_eq_of_lt ω;simp only[y,x];rw[Av ω,Ay ω];by_cases hc:c<9007199254740992
 .refine⟨c,e-52,?_,hk.1,hc,.inl rfl⟩;have k:(t*4503599627370496+c) % 4503599627370496=c-4503599627370496:=ω;have j:(t*4503599627370496+c) / 4503599627370496=t+1:=ω;rw[k,j,show 4503599627370496+(c-4503599627370496)=c by omega,show (-1074:Int)+((t+1-1:Nat):Int)=e-52 by omega];rfl
 .have hc:c=9007199254740992:=ω;subst hc;refine⟨4503599627370496,e-51,?_,δ,δ,.inr ⟨rfl,rfl⟩⟩;have k:(t*4503599627370496+9007199254740992) % 4503599627370496=0:=ω;have j:(t*4503599627370496+9007199254740992) / 4503599627370496=t+2:=ω;rw[k,j,Nat.add_zero,show (-1074:Int)+((t+2-1:Nat):Int)=e-51 by omega];rfl
theorem Ajm (v:Int) (h:0<=v):floatOfInt .f64 v=double.nearest false v.natAbs 0:=by have e:decide (v<0)=false:=Ax ω;show double.nearest (decide (v<0)) v.natAbs 0=_;rw[e]
theorem A3i:double.read 4876203697187506176 = .number false 7812500000000000 7:=δ
theorem Ae1 {n k:Nat} (h1:2 ^ k<=n) (h2:n<2 ^ (k+1)):n.log2=k:=(Nat.log2_eq_iff (by have:=Nat.pow_pos (n:=k) (show 0<2 by decide);omega)).2 ⟨h1,h2⟩
theorem Aak {n k:Nat} (h:n<2 ^ (k+1)):n.log2<=k:=by
 by_cases h0:n=0
 .subst h0;simp
 .have:=(Nat.log2_lt h0).2 h;omega
theorem Ajn {n k:Nat} (h:2 ^ k<=n):k<=n.log2:=(Nat.le_log2 (by have:=Nat.pow_pos (n:=k) (show 0<2 by decide);omega)).2 h
theorem A3j (x:Int) (h0:1<=x) (h1:x<1000000000):∃(w:Nat) (m:Nat) (p:Int),floatBits .mul .f64 (floatOfInt .f64 x) 4876203697187506176=some w/\double.read w = .number false m p/\4503599627370496<=m/\m<9007199254740992/\7<=p/\(p<=37\/(p=38/\m=4503599627370496)):=by
 have l:x.natAbs.log2<=29:=Aak ζ;obtain⟨m1,b,g,a1,a2,a3⟩:=W3 x.natAbs 0 (x.natAbs.log2) ω ω ω ω;have c:(m1*7812500000000000).log2=104\/((m1*7812500000000000).log2=105/\m1≠4503599627370496):=by
  have b1:2 ^ 104<=m1*7812500000000000:=ω;have b2:m1*7812500000000000<2 ^ 106:=ω;rcases Cg (m1*7812500000000000) (2 ^ 105) with h|h
  .exact .inl (Ae1 b1 h)
  .exact .inr ⟨Ae1 h b2,by rintro rfl;omega⟩
 obtain⟨m2,i,f,k,j,q⟩:=W3 (m1*7812500000000000) (b+7) (b+7+(m1*7812500000000000).log2) ω rfl ω ω;refine⟨double.nearest false (m1*7812500000000000) (b+7),m2,i,?_,f,k,j,ω,ω⟩;show ((double.read (floatOfInt .f64 x)).product (double.read 4876203697187506176)).map double.write=_;rw[Ajm x ω,g,A3i];rfl
theorem A3k (w:Nat) (m:Nat) (p:Int) (hw:double.read w = .number false m p) (M:4503599627370496<=m) (L:m<9007199254740992) (I:7<=p) (j:p<=37\/(p=38/\m=4503599627370496)) (y:Int) (h0:0<=y) (h1:y<1000000000000000000) : ∃(w':Nat) (g:Nat) (f:Int),floatBits .add .f64 w (floatOfInt .f64 y)=some w'/\double.read w' = .number false g f/\4503599627370496<=g/\g<9007199254740992/\7<=f/\f<=39:=by
 obtain⟨c,b,x,U,S⟩:∃(c:Nat) (b:Int),double.read (floatOfInt .f64 y) = .number false c b/\b<=8/\c<9007199254740992/\-1074<=b:=by
  rw[Ajm y h0];by_cases hy:y.natAbs=0
  .rw[hy];exact⟨0,-1074,δ,δ,δ,δ⟩
  .have Y:y.natAbs.log2<=59:=Aak ζ;obtain⟨m1,D,A,a1,a2,a3⟩:=W3 y.natAbs 0 (y.natAbs.log2) hy ω ω ω;exact⟨m1,D,A,ω,a2,ω⟩
 generalize hb:min p b=base;have ht:∃T:Nat,signed false m (p-base).toNat+signed false c (b-base).toNat=(T:Int)/\T=m*2 ^ (p-base).toNat+c*2 ^ (b-base).toNat:=by refine⟨m <<< (p-base).toNat+c <<< (b-base).toNat,rfl,by rw[Nat.shiftLeft_eq,Nat.shiftLeft_eq]⟩
 obtain⟨T,t1,t2⟩:=ht;have G:0<2 ^ (p-base).toNat:=Nat.pow_pos δ;have i:2 ^ (b-base).toNat<=2 ^ (8-base).toNat:=Nat.pow_le_pow_right δ ω;have J:m*2 ^ (p-base).toNat<=2 ^ (90-base).toNat:=by
  rcases j with h|⟨rfl,rfl⟩
  .have e:2 ^ (90-base).toNat=2 ^ (p-base).toNat*2 ^ (90-p).toNat:=(by rw[<-Nat.pow_add];congr 1;omega);have e2:2 ^ 53<=2 ^ (90-p).toNat:=Nat.pow_le_pow_right δ ω;rw[e,Nat.mul_comm];exact Nat.mul_le_mul_left _ ω
  .have e:2 ^ (90-base).toNat=2 ^ (38-base).toNat*2 ^ 52:=(by rw[<-Nat.pow_add];congr 1;omega);rw[e,Nat.mul_comm];omega
 have E:c*2 ^ (b-base).toNat<2 ^ (90-base).toNat:=by have e:2 ^ (90-base).toNat=2 ^ (8-base).toNat*2 ^ 82:=(by rw[<-Nat.pow_add];congr 1;omega);have e3:c*2 ^ (b-base).toNat<=c*2 ^ (8-base).toNat:=Nat.mul_le_mul_left _ i;have e4:0<2 ^ (8-base).toNat:=Nat.pow_pos δ;have Z:c*2 ^ (8-base).toNat<2 ^ 82*2 ^ (8-base).toNat:=Nat.mul_lt_mul_of_pos_right ω e4;rw[e,Nat.mul_comm (2 ^ (8-base).toNat)];omega
 have s:T<2 ^ ((90-base).toNat+1):=by rw[Nat.pow_succ];omega
 have q:2 ^ (52+(p-base).toNat)<=T:=by have:2 ^ 52*2 ^ (p-base).toNat<=m*2 ^ (p-base).toNat:=Nat.mul_le_mul_right _ ω;rw[Nat.pow_add];omega
 have X:=Aak s;have V:=Ajn q;have u:T≠0:=by have:=Nat.pow_pos (n:=52+(p-base).toNat) (show 0<2 by decide);omega
 obtain⟨m3,B,z,R,N,c3⟩:=W3 T base (base+T.log2) u rfl ω ω;refine⟨double.nearest false T base,m3,B,?_,z,R,N,ω,ω⟩;show ((double.read w).sum (double.read (floatOfInt .f64 y))).map double.write=_;rw[hw,x];have l:¬((T:Int)=0):=ω;have k:decide ((T:Int)<0)=false:=Ax ω;simp only[Datum.sum,hb,t1,Av l,k,Option.map_some,Int.natAbs_natCast,Format.write]
theorem A3l {b m N:Nat} {p:Int} (g:double.read b = .number false m p) (i:(Datum.number false m p).toInt .zero=some (N:Int)) (h:N<=9223372036854775808):floatToIntVal .f64 b .u64=some (N:Int):=by have hd:FloatKind.f64.decode b = .number false m p:=g;have f:IntKind.u64.min=0:=δ;have c:IntKind.u64.max=18446744073709551615:=δ;unfold floatToIntVal;rw[hd,i];simp only[f,c];rw[Ay ⟨ω,ω⟩]
theorem A3m (w:Nat) (m:Nat) (p:Int) (hw:double.read w = .number false m p) (R:4503599627370496<=m) (M:m<9007199254740992) (L:7<=p) (J:p<=39) (z:Int) (h0:1000000000<=z) (h1:z<1000000000000000000) : ∃(w':Nat) (n:Int),floatBits .quo .f64 w (floatOfInt .f64 z)=some w'/\floatToIntVal .f64 w' .u64=some n/\0<=n/\n<=9223372036854775808:=by
 have U:z.natAbs.log2<=59:=Aak ζ;have S:29<=z.natAbs.log2:=Ajn ζ;obtain⟨f,c,u,a1,a2,a3⟩:=W3 z.natAbs 0 (z.natAbs.log2) ω ω ω ω;have D:m.log2=52:=Ae1 ω ω;have y:f.log2=52:=Ae1 ω ω;generalize hq:m*2 ^ 54 / f=q;generalize l:((m*2 ^ 54 % f != 0).toNat)=s;have E:s<=1:=by rw[<-l];exact Bool.toNat_le _
 have I:q<2 ^ 55:=by rw[<-hq];exact (Nat.div_lt_iff_lt_mul ω).2 ω
 have G:2 ^ 53<=q:=by rw[<-hq];exact (Nat.le_div_iff_mul_le ω).2 ω
 have B:(2*q+s).log2<=55:=Aak ω;have A:54<=(2*q+s).log2:=Ajn ω;obtain⟨m4,b,x,Z,X,Y⟩:=W3 (2*q+s) (p-c-(54:Nat)-1) (p-c-(54:Nat)-1+(2*q+s).log2) ω rfl ω ω;have j:(Datum.number false m p).quotient (double.fractionBits+2) (Datum.number false f c)=some (.number false (2*q+s) (p-c-(54:Nat)-1)):=by have i:¬f=0:=ω;have fb:double.fractionBits+2=54:=rfl;simp only[Datum.quotient,Av i,fb,D,y,Nat.shiftLeft_eq,Nat.add_sub_cancel,hq,l,Bool.xor_self]
 have hb:m4*2 ^ b.toNat<=9223372036854775808:=by
  have k:b<=10\/(b=11/\m4=4503599627370496):=ω;rcases k with h|⟨rfl,rfl⟩
  .have:2 ^ b.toNat<=2 ^ 10:=Nat.pow_le_pow_right δ ω;have:=Nat.mul_le_mul (Nat.le_of_lt X) this;omega
  .decide
 obtain⟨N,V,g⟩:∃N:Nat,(Datum.number false m4 b).toInt .zero=some (N:Int)/\N<=9223372036854775808:=by
  refine⟨(m4 <<< b.toNat) / (1 <<< min (-b).toNat ((m4 <<< b.toNat).log2+2)),?_,?_⟩
  .simp only[Datum.toInt,Datum.integral,Toward.cut,signed,Bool.false_eq_true,if_false,Nat.shiftLeft_zero,Bool.toNat_false,Nat.add_zero]
  .rw[Nat.shiftLeft_eq m4];exact Nat.le_trans (Nat.div_le_self _ _) hb
 refine⟨double.nearest false (2*q+s) (p-c-(54:Nat)-1),(N:Int),?_,?_,ω,ω⟩
 .have e:floatBits .quo .f64 w (floatOfInt .f64 z)=((double.read w).quotient (double.fractionBits+2) (double.read (floatOfInt .f64 z))).map double.write:=rfl;rw[e,hw,Ajm z ω,u,j];simp only[Option.map_some,Format.write]
 .exact A3l x V g
theorem A3n (r n:Nat) (h2:2<=Bl n) (D:Bl r<=Bl n+1) (E:Bl n<1099511627776):∃d:Nat,Y8 (Ag r) (Ag n)=some (d:Int)/\d<1000000000:=by
 unfold Y8;unfold Bl at h2 D E;have c:n≠0:=by rintro rfl;rw[Gq]at h2;simp at h2
 by_cases U:(Ag r).length<(Ag n).length
 .exact⟨0,by rw[Ap ω];rfl,δ⟩
 .rw[Ax ω,Am];have u:Ac (((Ag n).length:Int)-1)=(((Ag n).length-1:Nat):Int):=ξ;have s:Ac (((Ag n).length:Int)-2)=(((Ag n).length-2:Nat):Int):=ξ;have i1:(Ag n).length-1<(Ag n).length:=ω;have i2:(Ag n).length-2<(Ag n).length:=ω;have g:(Ag n).length-1<(Ag r).length:=ω;have j2:(Ag n).length-2<(Ag r).length:=ω;have t1:=(Fh n).get i1;have t2:=(Fh n).get i2;have L:=(Fh r).get g;have J:=(Fh r).get j2;have h:(Ag n)[(Ag n).length-1]≠0:=(by have:=(Aen n).2 (Jo c);rwa [List.getLast_eq_getElem]at this);rw[u,s,D3 rfl i1,Ad,D3 rfl i2,Ad,D3 rfl g,Ad,D3 rfl j2,Ad];generalize (Ag n)[(Ag n).length-1]=a1 at *;generalize (Ag n)[(Ag n).length-2]=a2 at *;generalize (Ag r)[(Ag n).length-1]=b1 at *;generalize (Ag r)[(Ag n).length-2]=b2 at *;have j:Ba (Ba (Ba b1*1000000000)+Ba b2)=b1*1000000000+b2:=(by rw[show Ba b1=b1 from Df ω ω,show Ba b2=b2 from Df ω ω,show Ba (b1*1000000000)=b1*1000000000 from Df ω ω];exact Df ω ω);have i:Ba (Ba (Ba a1*1000000000)+Ba a2)=a1*1000000000+a2:=(by rw[show Ba a1=a1 from Df ω ω,show Ba a2=a2 from Df ω ω,show Ba (a1*1000000000)=a1*1000000000 from Df ω ω];exact Df ω ω);rw[j,i];by_cases V:(Ag r).length=(Ag n).length
  .rw[Dk ω,Ak,L9 ω ω ω,Ad];have N:0<=(b1*1000000000+b2) / (a1*1000000000+a2):=Int.ediv_nonneg ω ω;have M:(b1*1000000000+b2) / (a1*1000000000+a2)<1000000000:=Int.ediv_lt_of_lt_mul ω ω;exact⟨((b1*1000000000+b2) / (a1*1000000000+a2)).toNat,by congr 1;omega,ω⟩
  .have hk:(Ag n).length<(Ag r).length:=ω;have b:r≠0:=(by rintro rfl;rw[Gq]at hk;simp at hk);have I:=(Fh r).get hk;have f:(Ag r)[(Ag n).length]≠0:=(by have:=(Aen r).2 (Jo b);rw[List.getLast_eq_getElem]at this;have e:(Ag r).length-1=(Ag n).length:=ω;simpa[e] using this);rw[Cn ω,Am,D3 rfl hk,Ad];generalize (Ag r)[(Ag n).length]=x at *;obtain⟨q,m3,z,f1,f2,f3,f4,f5,f6⟩:=A3j x ω ω;obtain⟨l,m4,y,g1,g2,g3,g4,g5,g6⟩:=A3k q m3 z f2 f3 f4 f5 f6 (b1*1000000000+b2) ω ω;obtain⟨G,k,B,A,S,R⟩:=A3m l m4 y g2 g3 g4 g5 g6 (a1*1000000000+a2) ω ω;rw[f1,Ad,g1,Ad,B,Ad,A,Ad,show Ba (k+2)=k+2 from Df ω ω];by_cases hc:(999999999:Int)<k+2
   .exact⟨999999999,by rw[Ay hc];rfl,δ⟩
   .exact⟨(k+2).toNat,by rw[Av hc];congr 1;omega,ω⟩
end Go.Ab
namespace Go.Ab
open Go
theorem A3o (x r:Nat):Bl (x % 1000000000+1000000000*r)<=Bl r+1:=by apply Kx;have:=Oy r;rw[Nat.pow_succ];omega
set_option maxHeartbeats 1000000 in
theorem Ajo (m n:Nat) (hm:Bl m<137438953472) (hn:Bl n<137438953472) (B:n≠0):Tl (Ag m) (Ag n)=some (Ag (m / n),Ag (m % n)):=by
 unfold Tl;rw[Aez,Uj m n ω ω,Ad];have ae:=hm;have ad:=hn;unfold Bl at hm hn;by_cases l:m<n
 .rw[show Fk m n = -1 by rw[Fk,Ay l],Ap (by decide:(-1:Int)<0),Ak,Ul _ ω,Ad,A20 (Aen m),Nat.div_eq_of_lt l,Nat.mod_eq_of_lt l,Gq]
 .rw[Ax (show ¬Fk m n<0 by rw[Fk,Av l];split <;> decide),Am];have a7:(Ag n).length≠0:=λe=>Jo B (Fa.1 e);by_cases h1:(Ag n).length=1
  .rw[Dk (ω:((Ag n).length:Int)=1),Ak];have A:n<1000000000:=(by have:=Oy n;rw[show Bl n=1 from h1]at this;simpa using this);have X:Ag n = [(n:Int)]:=(by rw[N0 B,Nat.div_eq_of_lt A,Gq,Nat.mod_eq_of_lt A]);rw[X,show Af [(n:Int)] 0=some (n:Int) from rfl,Ad,show Ba (n:Int)=n from Df ω ω,A3e m n ω ω ω,Ad];have a6:m % n<n:=Nat.mod_lt _ ω;rw[Aey,Rz (m % n) ω,Ad]
  .rw[Cn (ω:((Ag n).length:Int)≠1),Am];have hw:Ac (((Ag m).length:Int)-1)=((Ag m).length:Int)-1:=ξ;rw[Ka rfl rfl (Nat.le_refl _) ω ω,hw];simp only[Ad];have ha:=Fh m;refine Jn (λ(r,i,q)=>∃(k R:Nat),r=Ag R/\i=(k:Int)-1/\k<=(Ag m).length/\R<n/\q.length=(Ag m).length/\Cb q/\Al (q.drop k)*n+R=Al ((Ag m).drop k)) (λ(_,i,_)=>(i+1).toNat) (λ(r,q)=>∃R:Nat,r=Ag R/\R<n/\q.length=(Ag m).length/\Cb q/\Al q*n+R=m) ⟨(Ag m).length,0,by rw[Gq],rfl,Nat.le_refl _,ω,ψ,Cb.replicate _,by simp[Al]⟩ ?_ ?_
   .rintro⟨r,i,q⟩ ⟨k,R,rfl,rfl,hk,I,u,g,hv⟩;cases k with
    | zero=>exact .inr ⟨(Ag R,q),ψ,R,rfl,I,u,g,by simpa[Fy] using hv⟩
    | succ j=>
     have hj:j<(Ag m).length:=ω;have D:j<q.length:=ω;have hx:=ha.get hj;obtain⟨x,y⟩:∃x:Nat,(Ag m)[j]=(x:Int):=⟨(Ag m)[j].toNat,ω⟩;have J:x<1000000000:=ω;have e0:((j+1:Nat):Int)-1=(j:Int):=ω;have e1:decide ((j:Int)>=0)=true:=Ap ω;have Y:Bl R<=Bl n:=Ia ω;have ab:Bl (x+1000000000*R)<=Bl R+1:=(by have:=A3o x R;rwa [Nat.mod_eq_of_lt J]at this);have ag:(Ag R).length<=(Ag n).length:=Y;have E:Lh ((x:Int)::Ag R)=some (Ag (x+1000000000*R)):=by
      rw[Ul _ ζ];congr 1;refine Mb ?_ ?_
      .intro d hd;rcases Fx.1 hd with rfl|hd
       .omega
       .exact Fh R d hd
      .simp only[Al,Fy];omega
     obtain⟨d0,S,af⟩:=A3n (x+1000000000*R) n (by unfold Bl;omega) ω ω;generalize a1:x+1000000000*R=f at *;have aa:f<1000000000*n:=ω;have s:∀d:Nat,d<18446744073709551616->Ph (d:Int)=some (Ag d)/\My (Ag n) (Ag d)=some (Ag (n*d)):=(by intro d hd;have:=N2 hd;exact⟨by rw[Aey,Rz d hd],W2 n d ω ω⟩);have G:∀d:Nat,d<18446744073709551616->Re (Ag (n*d)) (Ag f)=some (Fk (n*d) f):=(by intro d hd;have h3:=N2 hd;have h4:=Hi n d;rw[Aez,Uj _ _ ω ω]);simp only[e0,e1,Ak,D3 rfl hj,y,Ad,Dm (show ([(x:Int)].length+(Ag R).length)*4<=_ by simp;omega),List.singleton_append,E,S];refine .inl (Ww (Ej (λd=>∃e:Nat,d=e/\e<=d0) (λd=>d.toNat) (λd=>∃e:Nat,d=e/\e<=d0/\n*e<=f) ⟨d0,rfl,Nat.le_refl _⟩ ?_ ?_))
     .rintro d ⟨e,rfl,he⟩;by_cases V:e=0
      .subst V;exact .inr ⟨0,rfl,0,rfl,ω,ψ⟩
      .obtain⟨m1,m2⟩:=s e ω;simp only[Ap (ω:(e:Int)>0),Ak,m1,m2,G e ω,Ad];by_cases hc:f<n*e
       .refine .inl ⟨((e-1:Nat):Int),?_,⟨e-1,rfl,ω⟩,ζ⟩;rw[show Fk (n*e) f=1 by rw[Fk,Av ω,Ay hc],show decide ((1:Int)>0)=true from rfl,Ak,show Ba ((e:Int)-1)=((e-1:Nat):Int) by rw[Ba,Df] <;> omega]
       .refine .inr ⟨(e:Int),?_,e,rfl,he,ω⟩;rw[Ax (show ¬Fk (n*e) f>0 by rw[Fk,Av hc];split <;> decide),Am]
     .rintro d ⟨e,rfl,he,M⟩;obtain⟨m1,m2⟩:=s e ω;simp only[m1,m2,Ad,Ae0 f (n*e) ω M];refine Ej (λ(r,d)=>∃(c b:Nat),r=Ag c/\d=b/\n*b+c=f) (λ(r,_)=>(Al r).toNat) (λ(r,d)=>∃(c b:Nat),r=Ag c/\d=b/\n*b+c=f/\c<n) ⟨f-n*e,e,rfl,rfl,ω⟩ ?_ ?_
      .rintro⟨r,d⟩ ⟨c,b,rfl,rfl,L⟩;have a8:Bl c<=Bl f:=Ia ω;have U:b<1000000000:=by
        rcases Cg b 1000000000 with h|h
        .exact h
        .exfalso;have:n*1000000000<=n*b:=Nat.mul_le_mul_left n h;omega
       simp only[Aez,Uj c n ω ω,Ad];by_cases hc:c<n
       .refine .inr ⟨(Ag c,(b:Int)),?_,c,b,rfl,rfl,L,hc⟩;rw[Ax (show ¬Fk c n>=0 by rw[Fk,Ay hc];decide),Am]
       .refine .inl ⟨(Ag (c-n),((b+1:Nat):Int)),?_,⟨c-n,b+1,rfl,rfl,?_⟩,?_⟩
        .rw[Ap (show Fk c n>=0 by rw[Fk,Av hc];split <;> decide),Ak,Ae0 c n ω ω,Ad,show Ba ((b:Int)+1)=((b+1:Nat):Int) by rw[Ba,Df] <;> omega]
        .rw[Nat.mul_add];omega
        .simp only[Fy];omega
      .rintro⟨r,d⟩ ⟨c,b,rfl,rfl,L,Z⟩;have U:b<1000000000:=by
        rcases Cg b 1000000000 with h|h
        .exact h
        .exfalso;have:n*1000000000<=n*b:=Nat.mul_le_mul_left n h;omega
       have w1:Cs (b:Int)=b:=Gg ω ω;have w8:Ac ((j:Int)-1)=(j:Int)-1:=ξ;refine⟨_,by simp only[D3 rfl D,Ad,w1,w8,G0 rfl],(Ag c,(j:Int)-1,q.set j (b:Int)),rfl,⟨j,c,rfl,rfl,ω,Z,by simpa using u,g.set _ ω ω,?_⟩,ψ⟩;have d1:(q.set j (b:Int)).drop j=(b:Int)::q.drop (j+1):=(by rw[List.drop_eq_getElem_cons (by simpa using D),List.drop_set_of_lt ω];simp);rw[d1,List.drop_eq_getElem_cons hj,y];simp only[Al];rw[<-hv];have:((n*b+c:Nat):Int)=((x+1000000000*R:Nat):Int):=(by rw[L,a1]);simp only[Int.natCast_add,Int.natCast_mul]at this;grind
   .rintro⟨r,q⟩ ⟨R,rfl,I,u,g,hv⟩;dsimp only;have ac:=Hs g.u32;obtain⟨Q,hQ⟩:∃Q:Nat,Al q=Q:=⟨(Al q).toNat,ω⟩;rw[hQ]at hv;have z:Q*n+R=m:=(by have:((Q*n+R:Nat):Int)=(m:Int):=(by simp only[Int.natCast_add,Int.natCast_mul];exact hv);omega);have hd:m / n=Q:=(by rw[<-z,Nat.mul_comm,Nat.mul_add_div ω,Nat.div_eq_of_lt I];rfl);have N:m % n=R:=(by rw[<-z,Nat.mul_comm,Nat.mul_add_mod,Nat.mod_eq_of_lt I]);rw[Ul q ω,Ad,Mb g hQ,hd,N]
theorem A3p (m n:Nat) (hm:Bl m<137438953472) (f:Bl n<137438953472):Yy (Ag m) (Ag n)=some (Ag (Nat.gcd m n)):=by
 unfold Yy;refine Jn (λ(a,b)=>∃x y:Nat,a=Ag x/\b=Ag y/\Bl x<137438953472/\Bl y<137438953472/\Nat.gcd x y=Nat.gcd m n) (λ(_,b)=>(Al b).toNat) (λr=>r=Ag (Nat.gcd m n)) ⟨m,n,rfl,rfl,hm,f,rfl⟩ ?_ (by rintro e rfl;rfl);rintro⟨a,b⟩ ⟨x,y,rfl,rfl,hx,hy,hg⟩;by_cases c:y=0
 .subst c;refine .inr ⟨Ag x,by rw[Gq];rfl,?_⟩;rw[<-hg,Nat.gcd_zero_right]
 .have g:(Ag y).length≠0:=λe=>Jo c (Fa.1 e);have h:decide (((Ag y).length:Int)>0)=true:=Ap ω;refine .inl ⟨(Ag y,Ag (x % y)),?_,⟨y,x % y,rfl,rfl,hy,by have:=Ia (Nat.mod_le x y);omega,?_⟩,?_⟩
  .simp only[h,Ak,Ajo x y hx hy c,Ad]
  .rw[<-hg,Nat.gcd_comm y,<-Nat.gcd_rec,Nat.gcd_comm]
  .simp only[Fy];have:=Nat.mod_lt x (ω:y>0);omega
def P0 (b:Bool) (n d:Nat):Aj:=if d=0 then ⟨false,[],[1]⟩ else B1 b n d
theorem Ajp {n:Nat} (h:n≠0):(Ag n).length≠0:=λe=>Jo h (Fa.1 e)
theorem Ajq (c:Bool) (a b:List Int) (ha:Ma a) (hb:Ma b) (l:a.length<137438953400) (k:b.length<137438953400):L5 c a b=some (P0 c (Al a).toNat (Al b).toNat):=by
 unfold L5;have h1:=Aev ha;have h2:=Aev hb;rw[Aq7 a ha ω,Ad,Aq7 b hb ω,Ad];generalize (Al a).toNat=n at *;generalize (Al b).toNat=d at *;by_cases g:n=0
 .subst g;have:P0 c 0 d=⟨false,[],[1]⟩:=(by unfold P0;split <;> simp[B1]);rw[this,Gq];rfl
 .have i:=Ajp g;by_cases hd:d=0
  .subst hd;simp only[Cn (ω:((Ag n).length:Int)≠0),Am,Gq,Ad];rfl
  .have j:=Ajp hd;have f:Nat.gcd n d≠0:=(by have:=Nat.gcd_pos_of_pos_left d (ω:0<n);omega);have s:Bl (Nat.gcd n d)<=Bl n:=Ia (Nat.gcd_le_left d (ω:0<n));simp only[Cn (ω:((Ag n).length:Int)≠0),Am,Cn (ω:((Ag d).length:Int)≠0),Ad,A3p n d ω ω];rw[P0,Av hd,B1,Av g];have key:(bif (((Ag (Nat.gcd n d)).length:Int) != (1:Int)) then some true else ((Af (Ag (Nat.gcd n d)) 0).bind λh=>some (h != (1:Int))))=some (decide (Nat.gcd n d≠1)):=by
    have h3:=Ajj (Nat.gcd n d);unfold Ts at h3;by_cases q:(Ag (Nat.gcd n d)).length=1
    .rw[Dk (ω:((Ag (Nat.gcd n d)).length:Int)=1),Ak]at h3;rw[Fc (ω:((Ag (Nat.gcd n d)).length:Int)=1),Am];cases hi:Af (Ag (Nat.gcd n d)) 0 with| none=>rw[hi]at h3;cases h3| some v=>rw[hi]at h3;simp only[Ad]at h3 ⊢;have h3:=Fj h3;congr 1;rw[bne,h3];simp
    .rw[Cn (ω:((Ag (Nat.gcd n d)).length:Int)≠1),Am]at h3;rw[Ek (ω:((Ag (Nat.gcd n d)).length:Int)≠1),Ak];have h3:=Fj h3;have:Nat.gcd n d≠1:=(by simpa using h3.symm);rw[Ap this]
   rw[key,Ad];by_cases hg:Nat.gcd n d=1
   .rw[Ax (by simpa using hg),Am,hg];simp
   .rw[Ap hg,Ak,Ajo n _ ω ω f,Ad,Ajo d _ ω ω f,Ad]
theorem A3q (a:Aj):P0 a.N (Al a.U).toNat (Al a.B).toNat=B1 (sv a) (nv a) (dv a):=by
 unfold P0 sv nv dv;by_cases b:(Al a.U).toNat=0
 .simp[b,B1]
 .by_cases hd:(Al a.B).toNat=0
  .simp[hd,B1]
  .simp[b,hd]
theorem Aal (a:Aj) (k:Nat) (h:RB k a) (hk:k<137438953400):Pl a=some (B1 (sv a) (nv a) (dv a)):=by unfold Pl;have:=h.nl;have:=h.dl;rw[Ajq _ _ _ h.num h.den ω ω,Ad,A3q]
theorem Aam (s:Bool) (n d:Nat) (hd:d≠0):(B1 s n d).U=Ag (nv (B1 s n d))/\(B1 s n d).B=Ag (dv (B1 s n d))/\(B1 s n d).N=sv (B1 s n d):=by
 obtain⟨h1,h2,h3,c⟩:=Aaj s n d hd;rw[h1,h2];by_cases h0:n=0
 .subst h0;rw[c rfl,Aai];have b:d / Nat.gcd 0 d=1:=(by rw[Nat.gcd_zero_left];exact Nat.div_self ω);rw[b,Nat.zero_div,Gq,Wz];exact⟨rfl,rfl,rfl⟩
 .rw[h3 h0];simp[B1,h0]
theorem W4 (a:Aj):∃g:Nat,g≠0/\nv a=g*nv (B1 (sv a) (nv a) (dv a))/\dv a=g*dv (B1 (sv a) (nv a) (dv a))/\sv (B1 (sv a) (nv a) (dv a))=sv a:=by
 obtain⟨h1,h2,h3,b⟩:=Aaj (sv a) (nv a) (dv a) (Ft a);have hd:=Ft a;have hg:0<Nat.gcd (nv a) (dv a):=Nat.gcd_pos_of_pos_right _ ω;refine⟨Nat.gcd (nv a) (dv a),ω,?_,?_,?_⟩
 .rw[h1];exact (Nat.mul_div_cancel' (Nat.gcd_dvd_left _ _)).symm
 .rw[h2];exact (Nat.mul_div_cancel' (Nat.gcd_dvd_right _ _)).symm
 .by_cases h0:nv a=0
  .rw[b h0];unfold nv at h0;unfold sv;split at h0
   .rename_i hc;rw[Ay hc]
   .omega
  .exact h3 h0
theorem A3r (s:Bool) (n d:Nat) (h:d≠0):P0 s n d=B1 s n d:=by rw[P0,Av h]
theorem W5 (b:Bool) (n d:Nat) (f:Bl n<137438953400) (hd:Bl d<137438953400) (c:d≠0):L5 b (Ag n) (Ag d)=some (B1 b n d):=by unfold Bl at f hd;rw[Ajq b _ _ (Fh n).u32 (Fh d).u32 f hd,Fy,Fy,Int.toNat_natCast,Int.toNat_natCast,A3r _ _ _ c]
theorem A3s {k:Nat} {a:Aj} (h:RB k a):RB (k+1) (B1 (sv a) (nv a) (dv a)):=K2 _ _ _ _ h.nv h.dv ω
theorem Ae2 {k:Nat} {a:Aj} (h:RB k a):Bl (nv (B1 (sv a) (nv a) (dv a)))<=k+1/\Bl (dv (B1 (sv a) (nv a) (dv a)))<=k+1:=by
 obtain⟨g,hg,h1,h2,_⟩:=W4 a;have a1:=h.nv;have a2:=h.dv;refine⟨Nat.le_trans (Ia ?_) a1,Nat.le_trans (Ia ?_) a2⟩
 .exact Nat.le_trans (Nat.le_mul_of_pos_left _ ω) (Nat.le_of_eq h1.symm)
 .exact Nat.le_trans (Nat.le_mul_of_pos_left _ ω) (Nat.le_of_eq h2.symm)
theorem A3t (a b:Aj) (j k:Nat) (ha:RB j a) (hb:RB k b) (hj:j<34359738368) (hk:k<34359738368):Tn a b=some (B1 (sv a != sv b) (nv a*nv b) (dv a*dv b)):=by unfold Tn;rw[Aal a j ha ω,Ad,Aal b k hb ω,Ad];obtain⟨g,hg,a1,a2,a3⟩:=W4 a;obtain⟨h,hh,b1,b2,q⟩:=W4 b;obtain⟨f1,f2,f3⟩:=Aam (sv a) (nv a) (dv a) (Ft a);obtain⟨l,i,f⟩:=Aam (sv b) (nv b) (dv b) (Ft b);obtain⟨y,x⟩:=Ae2 ha;obtain⟨u,s⟩:=Ae2 hb;rw[f1,f2,f3,l,i,f,a3,q];generalize hc:B1 (sv a) (nv a) (dv a)=c at *;generalize hd:B1 (sv b) (nv b) (dv b)=d at *;have m1:=Hi (nv c) (nv d);have m2:=Hi (dv c) (dv d);have z:dv c*dv d≠0:=Nat.mul_ne_zero (Ft c) (Ft d);rw[W2 _ _ ω ω,Ad,W2 _ _ ω ω,Ad,W5 _ _ _ ω ω z,Ad];rw[a1,a2,b1,b2,show g*nv c*(h*nv d)=g*h*(nv c*nv d) by grind,show g*dv c*(h*dv d)=g*h*(dv c*dv d) by grind,R5 _ _ _ _ (Nat.mul_ne_zero hg hh)]
theorem A3u (l:Bool) (c j:Nat) (k:Bool) (b i g h:Nat) (hg:g≠0) (hh:h≠0):Jq l (g*c) (g*j) k (h*b) (h*i)=g*h*Jq l c j k b i/\K1 l (g*c) (g*j) k (h*b) (h*i)=K1 l c j k b i:=by
 have u:g*c*(h*i)=g*h*(c*i):=by grind
 have s:h*b*(g*j)=g*h*(b*j):=by grind
 have hc:(g*h*(b*j)<=g*h*(c*i))↔(b*j<=c*i):=Nat.mul_le_mul_left_iff (Nat.mul_pos ω ω);unfold Jq K1;rw[u,s];by_cases q:l=k
 .simp only[Ay q];exact⟨by rw[Nat.mul_add],trivial⟩
 .simp only[Av q];by_cases f:b*j<=c*i
  .simp only[Ay f,Ay (hc.2 f)];exact⟨by rw[Nat.mul_sub],trivial⟩
  .simp only[Av f,Av (λh=>f (hc.1 h))];exact⟨by rw[Nat.mul_sub],trivial⟩
theorem A3v (a b:Aj) (j k:Nat) (ha:RB j a) (hb:RB k b) (hj:j<34359738368) (hk:k<34359738368) : Pm a b=some (B1 (K1 (sv a) (nv a) (dv a) (sv b) (nv b) (dv b)) (Jq (sv a) (nv a) (dv a) (sv b) (nv b) (dv b)) (dv a*dv b)):=by
 unfold Pm;rw[Aal a j ha ω,Ad,Aal b k hb ω,Ad];obtain⟨g,hg,a1,a2,a3⟩:=W4 a;obtain⟨h,hh,b1,b2,y⟩:=W4 b;obtain⟨f1,f2,f3⟩:=Aam (sv a) (nv a) (dv a) (Ft a);obtain⟨x,u,s⟩:=Aam (sv b) (nv b) (dv b) (Ft b);obtain⟨E,D⟩:=Ae2 ha;obtain⟨B,A⟩:=Ae2 hb;rw[f1,f2,f3,x,u,s,a3,y];generalize hc:B1 (sv a) (nv a) (dv a)=c at *;generalize hd:B1 (sv b) (nv b) (dv b)=d at *;have m1:=Hi (nv c) (dv d);have m2:=Hi (nv d) (dv c);have m3:=Hi (dv c) (dv d);have m4:=Wx (nv c*dv d) (nv d*dv c);have m5:=Ia (Nat.sub_le (nv c*dv d) (nv d*dv c));have m6:=Ia (Nat.sub_le (nv d*dv c) (nv c*dv d));have z:dv c*dv d≠0:=Nat.mul_ne_zero (Ft c) (Ft d);obtain⟨q,l⟩:=A3u (sv a) (nv c) (dv c) (sv b) (nv d) (dv d) g h hg hh;rw[a1,a2,b1,b2,q,l,show g*dv c*(h*dv d)=g*h*(dv c*dv d) by grind,R5 _ _ _ _ (Nat.mul_ne_zero hg hh)];rw[W2 _ _ ω ω,Ad,W2 _ _ ω ω,Ad,W2 _ _ ω ω,Ad];unfold K1 Jq;by_cases i:sv a=sv b
 .have e:(sv a==sv b)=true:=(by rw[i];exact beq_self_eq_true _);rw[e,Ak,A3g _ _ ω ω,Ad,W5 _ _ _ ω ω z,Ad,Ay i,Ay i]
 .have e:(sv a==sv b)=false:=(by simpa using i);rw[e,Am,Aez,Uj _ _ ω ω,Ad,Av i,Av i];by_cases f:nv d*dv c<=nv c*dv d
  .rw[Ap (show Fk (nv c*dv d) (nv d*dv c)>=0 by rw[Fk,Av ω];split <;> decide),Ak,Ae0 _ _ ω f,Ad,W5 _ _ _ ω ω z,Ad,Ay f,Ay f]
  .rw[Ax (show ¬Fk (nv c*dv d) (nv d*dv c)>=0 by rw[Fk,Ay ω];decide),Am,Ae0 _ _ ω ω,Ad,W5 _ _ _ ω ω z,Ad,Av f,Av f]
theorem A3w (a:Aj) (k:Nat) (h:RB k a) (hk:k<137438953400):Th a=some (Jp (sv a) (nv a)):=by
 unfold Th;rw[Aal a k h hk,Ad];obtain⟨g,hg,a1,a2,a3⟩:=W4 a;obtain⟨f1,f2,f3⟩:=Aam (sv a) (nv a) (dv a) (Ft a);rw[f1,f3,a3,Jp];by_cases h0:nv a=0
 .have:nv (B1 (sv a) (nv a) (dv a))=0:=by
   rw[h0]at a1;rcases Nat.mul_eq_zero.1 a1.symm with h|h
   .exact (hg h).elim
   .rw[h0];exact h
  rw[this,Gq,Ay h0];rfl
 .have:nv (B1 (sv a) (nv a) (dv a))≠0:=(by intro e;rw[e,Nat.mul_zero]at a1;exact h0 a1);have:=Ajp this;rw[Cn ω,Am,Av h0];cases sv a <;> rfl
theorem A3x (a:Aj) (k:Nat) (h:RB k a) (hk:k<137438953400):Yx a=some (B1 (!sv a) (nv a) (dv a)):=by
 unfold Yx;have:=h.nl;have:=h.dl;rw[Ajq _ _ _ h.num h.den ω ω,Ad];congr 1;unfold P0 sv nv dv;by_cases b:(Al a.U).toNat=0
 .simp[b,B1]
 .by_cases hd:(Al a.B).toNat=0
  .simp[hd,B1]
  .simp[b,hd]
theorem A3y (z:Int) (h1 : -9223372036854775808<=z) (h2:z<=9223372036854775807):Mt z=some (B1 (decide (z<0)) z.natAbs 1):=by
 unfold Mt;have j:=N2 (n:=z.natAbs) ω;have c:([1]:List Int)=Ag 1:=Wz.symm;by_cases h:z<0
 .have i:Ac (z+1)=z+1:=B3 ω ω;have g:Ac (0-(z+1))=0-(z+1):=B3 ω ω;have f:Ba (0-(z+1))=0-(z+1):=Df ω ω;have b:Ba (0-(z+1)+1)=((z.natAbs:Nat):Int):=(by rw[Ba,Df ω ω];omega);rw[Ap h,Ak,i,g,f,b,Aey,Rz _ ω,Ad,c,W5 _ _ _ ω (by rw[K0];decide) δ,Ad]
 .have b:Ba z=((z.natAbs:Nat):Int):=(by rw[Ba,Df ω ω];omega);rw[Ax h,Am,b,Aey,Rz _ ω,Ad,c,W5 _ _ _ ω (by rw[K0];decide) δ,Ad]
theorem Ae3 (s:Bool) (n d:Nat) (hd:d≠0):∃g:Nat,g≠0/\n=g*nv (B1 s n d)/\d=g*dv (B1 s n d)/\(n≠0->sv (B1 s n d)=s)/\(n=0->sv (B1 s n d)=false):=by obtain⟨h1,h2,h3,b⟩:=Aaj s n d hd;have hg:0<Nat.gcd n d:=Nat.gcd_pos_of_pos_right _ ω;exact⟨Nat.gcd n d,ω,by rw[h1];exact (Nat.mul_div_cancel' (Nat.gcd_dvd_left _ _)).symm,by rw[h2];exact (Nat.mul_div_cancel' (Nat.gcd_dvd_right _ _)).symm,h3,b⟩
theorem A3z (s t:Bool) (n d m e:Nat) (hd:d≠0) (j:e≠0):B1 (sv (B1 s n d) != sv (B1 t m e)) (nv (B1 s n d)*nv (B1 t m e)) (dv (B1 s n d)*dv (B1 t m e))=B1 (s != t) (n*m) (d*e):=by
 obtain⟨g,hg,a1,a2,a3,_⟩:=Ae3 s n d hd;obtain⟨h,hh,b1,b2,l,_⟩:=Ae3 t m e j;have k:B1 (s != t) (n*m) (d*e)=B1 (sv (B1 s n d) != sv (B1 t m e)) (n*m) (d*e):=by apply Aq5;intro b;have i:n≠0:=λe=>b (by rw[e];simp);have hm:m≠0:=λe=>b (by rw[e];simp);rw[a3 i,l hm]
 rw[k];generalize B1 s n d=c at *;generalize B1 t m e=f at *;rw[a1,a2,b1,b2,show g*nv c*(h*nv f)=g*h*(nv c*nv f) by grind,show g*dv c*(h*dv f)=g*h*(dv c*dv f) by grind,R5 _ _ _ _ (Nat.mul_ne_zero hg hh)]
def Hj (n:Nat):Nat->Nat
 | 0=>1
 | k+1=>Hj n k*(n-k)
def fct:Nat->Nat
 | 0=>1
 | k+1=>fct k*(k+1)
theorem W6:∀k,fct k≠0
 | 0=>δ
 | k+1=>Nat.mul_ne_zero (W6 k) ω
theorem A30 {n k:Nat} (h:n<k):Hj n k=0:=by
 induction k with
 | zero=>omega
 | succ k ih=>
  simp only[Hj];rcases Cg n k with h'|h'
  .rw[ih h'];simp
  .have:n-k=0:=ω;rw[this];simp
theorem A31 (n k:Nat) (b:n<1000000000):Bl (Hj n k)<=k+1:=by induction k with| zero=>simp[Hj,K0]| succ k ih=>have h1:=Hi (Hj n k) (n-k);have h2:Bl (n-k)<=1:=Kx ζ;simp only[Hj];omega
theorem A32 (k:Nat) (hk:k<1000000000):Bl (fct k)<=k+1:=by induction k with| zero=>simp[fct,K0]| succ k ih=>have h1:=Hi (fct k) (k+1);have h2:Bl (k+1)<=1:=Kx ζ;simp only[fct];have:=ih ω;omega
theorem Aq8 {n:Nat} (h:n<1000000000):Bl n<=1:=Kx (by simpa using h)
theorem A33 (n k:Nat) (b:n<1000000000) (hk:k<=64):RB (k+1) (B1 false (Hj n k) (fct k)) := K2 _ _ _ _ (A31 n k b) (A32 k ω) ω
theorem Aq9 (a:Aj):Aj.mk a.N a.U a.B=a:=by cases a;rfl
theorem Ara (n k:Nat) (z:n<1000000000) (hk:k<=64):Tu (n:Int) (k:Int)=some (B1 false (Hj n k) (fct k)):=by
 unfold Tu;have A:Dj 1=some (B1 false (Hj n 0) (fct 0)):=Uk 1 δ δ;rw[A,Ad];refine Jn (λ(i,s,b,c)=>∃q:Nat,i=q/\q<=k/\q<=n/\Aj.mk s b c=B1 false (Hj n q) (fct q)) (λ(i,_,_,_)=>k-i.toNat) (λe=>match e with|.inl r=>r=B1 false (Hj n k) (fct k) | .inr (s,b,c)=>Aj.mk s b c=B1 false (Hj n k) (fct k)) ⟨0,rfl,ω,ω,Aq9 _⟩ ?_ ?_
 .rintro⟨i,s,b,c⟩ ⟨q,rfl,hq,y,ha⟩;rcases Cg q k with h|h
  .simp only[Ap (ω:(q:Int)<(k:Int)),Ak];by_cases u:n=q
   .subst u;refine .inr ⟨.inl (B1 false 0 1),?_,?_⟩
    .rw[Dk rfl,Ak,Uk 0 δ δ];rfl
    .show B1 false 0 1=_;rw[A30 h,Aai,Aai]
   .have l:Ac ((n:Int)-(q:Int))=((n-q:Nat):Int):=ξ;have j:Ac ((q:Int)+1)=((q+1:Nat):Int):=Mc h ω;have x:Pk ((n-q:Nat):Int) ((q+1:Nat):Int)=some (B1 false (n-q) (q+1)):=(by rw[Aq4 _ _ ω ω ω ω ω,Ax (ω:¬((n-q:Nat):Int)<0),Ax (ω:¬((q+1:Nat):Int)<0)];rfl);have g:RB 1 (B1 false (n-q) (q+1)):=K2 _ _ _ _ (Aq8 ω) (Aq8 ω) ω;have hm:=W1 _ _ _ _ (A33 n q z ω) g ω ω;rw[A3z false false (Hj n q) (fct q) (n-q) (q+1) (W6 q) ω]at hm;refine .inl ⟨(((q+1:Nat):Int),(B1 false (Hj n (q+1)) (fct (q+1))).N,(B1 false (Hj n (q+1)) (fct (q+1))).U,(B1 false (Hj n (q+1)) (fct (q+1))).B),?_,⟨q+1,rfl,ω,ω,Aq9 _⟩,ζ⟩;rw[Cn ω,Am,l,j,x,Ad,ha,hm,Ad];rfl
  .have:q=k:=ω;subst this;refine .inr ⟨.inr (s,b,c),ψ,ha⟩
 .rintro (e|⟨s,b,c⟩) f
  .simp only at f ⊢;rw[f]
  .simp only at f ⊢;rw[f]
mutual
def B5:Ah->Nat
 | ⟨_,_,l⟩=>1+Dd l
def Dd:List Ah->Nat
 | []=>0
 | x::xs=>B5 x+Dd xs
end
theorem K4 (t:Ah):B5 t=1+Dd t.R:=by cases t;simp only[B5]
theorem W7 (t:Ah):1<=B5 t:=by rw[K4];omega
theorem Ln {l:List Ah} {a:Ah} (h:a∈l):B5 a<=Dd l:=by
 induction l with
 | nil=>cases h
 | cons x xs ih=>
  simp only[Dd];rcases Fx.1 h with rfl|h
  .omega
  .have:=ih h;omega
theorem N3 (l:List Ah):l.length<=Dd l:=by induction l with| nil=>simp| cons x xs ih=>simp only[Dd,Ei];have:=W7 x;omega
theorem Ae4 (l m:List Ah):Dd (l++m)=Dd l+Dd m:=by induction l with| nil=>simp[Dd]| cons x xs ih=>simp only[Du,Dd,ih];omega
def K5 (data:List Aw) (vars k n:Int) (len:Nat):Bool := if k=1\/k=2\/k=3 then n==0&&len==0 else if k=4 then decide (0<=n)&&decide (n<vars)&&len==0 else if k=5 then decide (0<=n)&&(match data[n.toNat]? with|some d=>(len:Int)==d.V|none=>false) else if k=6 then n==0&&decide (2<=len)&&decide (len<=6) else if k=7\/k=8 then n==0&&len==1 else if k=9 then n==0&&decide (1<=len)&&decide (len<=7) else false
mutual
def El (data:List Aw) (vars:Int):Ah->Bool
 | ⟨k,n,l⟩=>K5 data vars k n l.length&&Fz data vars l
def Fz (data:List Aw) (vars:Int):List Ah->Bool
 | []=>true
 | x::xs=>El data vars x&&Fz data vars xs
end
theorem Aan (data:List Aw) (vars:Int) (t:Ah):El data vars t=(K5 data vars t.G t.U t.R.length&&Fz data vars t.R):=by cases t;simp only[El]
theorem Arb {α:Type} (l:List α) (n:Nat):((l.length:Int)==(n:Int))=(l.length==n):=by
 by_cases h:l.length=n
 .subst h;simp
 .rw[Cn ω];simp[h]
theorem A34 (k:Nat) (t:Ah) (data:List Aw) (vars left:Int) (h1:1<=left) (h2:left<=1000) : Nt (k+1) t ⟨data,vars,left⟩=bif K5 data vars t.G t.U t.R.length then ((Wq k t.R ⟨data,vars,left-1⟩).bind λv12=>some ((!v12.1),v12.2)) else some (false,⟨data,vars,left-1⟩):=by have hw:Ac (left-1)=left-1:=B3 ω ω;have b:¬left-1<0:=ω;rw[Nt];simp only[hw,Ax b,Am];generalize g:(Wq k t.R ⟨data,vars,left-1⟩).bind (λv12=>some ((!v12.1),v12.2))=X;generalize f:(some (false,⟨data,vars,left-1⟩):Option (Bool×Hg))=Y;unfold K5 Af;generalize t.R.length=len;generalize t.G=c;generalize t.U=n;cases hd:data[n.toNat]? <;> simp only[Bool.cond_eq_ite,A2x,Ad,Option.bind_none,hd] <;> grind
theorem Ajr {l:List Ah} {j:Nat} (h:j<l.length):Dd (l.take (j+1))=Dd (l.take j)+B5 l[j]:=by rw[List.take_succ_eq_append_getElem h,Ae4];simp[Dd]
theorem Arc (data:List Aw) (vars:Int) (l m:List Ah):Fz data vars (l++m)=(Fz data vars l&&Fz data vars m):=by induction l with| nil=>simp[Fz]| cons x xs ih=>simp only[Du,Fz,ih,Bool.and_assoc]
theorem Ard (data:List Aw) (vars:Int) {l:List Ah} {j:Nat} (h:j<l.length):Fz data vars (l.take (j+1))=(Fz data vars (l.take j)&&El data vars l[j]):=by rw[List.take_succ_eq_append_getElem h,Arc];simp[Fz]
theorem Ajs (l:List Ah) (j:Nat):Dd (l.take j)<=Dd l:=by have:=Ae4 (l.take j) (l.drop j);rw[List.take_append_drop]at this;omega
theorem A35 (data:List Aw) (vars:Int) (l:List Ah) (j:Nat) (h:Fz data vars l=true):Fz data vars (l.take j)=true:=by have:=Arc data vars (l.take j) (l.drop j);rw[List.take_append_drop,h]at this;have:=this.symm;simp only[Ck]at this;exact this.1
theorem A36 (data:List Aw) (vars:Int) (k:Nat) (l:List Ah) (c:Nat) (G:l.length<1099511627776) (ih:∀(a:Ah),a∈l->∀f:Nat,f<=c->∃g:Int,Nt k a ⟨data,vars,f⟩=some (El data vars a&&decide (B5 a<=f),⟨data,vars,g⟩)/\((El data vars a&&decide (B5 a<=f))=true->g=(f:Int)-B5 a)) : ∃p:Int×Int,Aad (k+2) l ⟨data,vars,c⟩=some (p.1,⟨data,vars,p.2⟩)/\((Fz data vars l&&decide (Dd l<=c))=true->p.1 = -1/\p.2=(c:Int)-Dd l)/\((Fz data vars l&&decide (Dd l<=c))=false->0<=p.1):=by
 rw[Aad];refine Aej (λp:Int×Int=>(p.1,Hg.mk data vars p.2)) (Ej (λ(v3,v4,v5,s)=>∃j:Nat,v3=j/\j<=l.length/\v4=data/\v5=vars/\Fz data vars (l.take j)=true/\Dd (l.take j)<=c/\s=(c:Int)-Dd (l.take j)) (λ(v3,_,_,_)=>l.length-v3.toNat) (λz=>match z with|.inl (i,b)=>0<=i/\(∃g,b=⟨data,vars,g⟩)/\(Fz data vars l&&decide (Dd l<=c))=false | .inr (v4,v5,s)=>v4=data/\v5=vars/\(Fz data vars l&&decide (Dd l<=c))=true/\s=(c:Int)-Dd l) ⟨0,rfl,ω,rfl,rfl,rfl,by simp[Dd],by simp[Dd]⟩ ?_ ?_)
 .rintro⟨v3,v4,v5,s⟩ ⟨j,rfl,hj,rfl,rfl,x,A,rfl⟩;rcases Cg j l.length with h|h
  .obtain⟨u,y⟩:∃u:Nat,(c:Int)-Dd (l.take j)=u/\u<=c:=⟨c-Dd (l.take j),ω,ω⟩;obtain⟨g,E,D⟩:=ih l[j] (List.getElem_mem h) u y.2;simp only[Ap (ω:(j:Int)<(l.length:Int)),Ak,D3 rfl h,Ad,Zd,y.1,E];cases hb:(El v4 v5 l[j]&&decide (B5 l[j]<=u)) with
   | true=>
    have I:=D hb;simp only[Ck,C8]at hb;refine .inl ⟨(((j+1:Nat):Int),v4,v5,g),?_,⟨j+1,rfl,ω,rfl,rfl,?_,?_,?_⟩,ζ⟩
    .simp only[Dz,Am];rw[show Ac ((j:Int)+1)=((j+1:Nat):Int) by rw[Ac,B3] <;> omega]
    .rw[Ard _ _ h,x,hb.1];rfl
    .rw[Ajr h];omega
    .show g=_;rw[Ajr h];omega
   | false=>refine .inr ⟨.inl ((j:Int),⟨v4,v5,g⟩),ψ,ω,⟨g,rfl⟩,?_⟩;cases q:(Fz v4 v5 l&&decide (Dd l<=c)) with| false=>rfl| true=>exfalso;simp only[Ck,C8]at q;have a1:=A35 v4 v5 l (j+1) q.1;rw[Ard _ _ h]at a1;simp only[Ck]at a1;have a2:=Ajs l (j+1);rw[Ajr h]at a2;rw[a1.2,Bool.true_and,decide_eq_false_iff_not]at hb;omega
  .have:j=l.length:=ω;subst this;rw[Dh]at *;refine .inr ⟨.inr (v4,v5,(c:Int)-Dd l),ψ,rfl,rfl,by simp[x,A],rfl⟩
 .rintro (⟨i,b⟩|⟨v4,v5,s⟩) B
  .obtain⟨a1,⟨g,rfl⟩,a3⟩:=B;exact⟨_,rfl,(i,g),rfl,(λh=>by rw[a3]at h;cases h),λ_=>a1⟩
  .obtain⟨rfl,rfl,a3,rfl⟩:=B;exact⟨_,rfl,(-1,_),rfl,λ_=>⟨rfl,rfl⟩,λh=>by rw[a3]at h;cases h⟩
theorem A37 (data:List Aw) (vars:Int):∀(left:Nat) (t:Ah) (k:Nat),left<=200->4*left+4<=k->B5 t<1099511627776 -> ∃f:Int,Nt k t ⟨data,vars,left⟩=some (El data vars t&&decide (B5 t<=left),⟨data,vars,f⟩)/\((El data vars t&&decide (B5 t<=left))=true->f=(left:Int)-B5 t):=by
 intro left;induction left using Nat.strongRecOn with
 | _ left s=>
  intro t k B hk ht;have hp:=W7 t;obtain⟨g,rfl⟩:∃g,k=g+1:=⟨k-1,ω⟩;cases left with
  | zero=>refine⟨-1,?_,λh=>by simp at h;omega⟩;rw[Nt];have hd:decide (B5 t<=0)=false:=Ax ω;rw[hd,Bool.and_false];rfl
  | succ b=>
   rw[A34 g t data vars ((b+1:Nat):Int) ω ω];have z:((b+1:Nat):Int)-1=(b:Int):=ω;rw[z,Aan];cases A:K5 data vars t.G t.U t.R.length with
   | false=>exact⟨b,ψ,λh=>by simp at h⟩
   | true=>
    obtain⟨q,rfl⟩:∃q,g=q+3:=⟨g-3,ω⟩;have j:=K4 t;have x:=N3 t.R;obtain⟨⟨i,f⟩,h1,h2,h3⟩:=A36 data vars q t.R b ω (λa ha c y=>by have:=Ln ha;exact s c ω a q ω ω ω);have l:decide (B5 t<=b+1)=decide (Dd t.R<=b):=(by rw[j];congr 1;simp only[eq_iff_iff];omega);simp only[Ak,Wq,h1,Ad,Bool.true_and,l];refine⟨f,?_,λh=>?_⟩
    .cases hb:(Fz data vars t.R&&decide (Dd t.R<=b)) with| true=>have u:i = -1:=(h2 hb).1;rw[Ax (ω:¬i>=0)];rfl| false=>have u:0<=i:=h3 hb;rw[Ap (ω:i>=0)];rfl
    .have u:f=(b:Int)-Dd t.R:=(h2 h).2;rw[u,j];omega
theorem Um (data:List Aw) (t:Ah) (vars:Int) (ht:B5 t<1099511627776):Oi data t vars=some (El data vars t&&decide (B5 t<=200)):=by unfold Oi;obtain⟨b,h1,_⟩:=A37 data vars 200 t 4000000 δ δ ht;have h1:Nt 4000000 t ⟨data,vars,200⟩=_:=h1;rw[h1];rfl
def R6 (a:Ah) (i:Int):Bool:=a.G==4&&a.U==i&&a.R.length==0
def Are (l:List Ah):Bool:=l.zipIdx.all λq=>R6 q.1 q.2
def J3 (t:Ah) (d vars:Int):Bool:=t.G==5&&t.U==d&&(t.R.length:Int)==vars&&Are t.R
def Eb (data:List Aw) (d c:Int):List Bool := match Af data d with
 | none=>[]
 | some x=>match Af x.O c with
  | none=>[]
  | some y=>y.R.map λt=>J3 t d x.V
theorem Hq {α:Type} {l:List α} {i:Int} {x:α} (h:Af l i=some x):0<=i/\i<l.length/\l[i.toNat]? = some x/\x∈l:=by
 unfold Af at h;split at h
 .have h1:i.toNat<l.length:=E4 h;exact⟨by assumption,ω,h,Cf h⟩
 .cases h
theorem Aao {α:Type} {l:List α} {i:Int} (h:Af l i=none):i<0\/(l.length:Int)<=i:=by
 unfold Af at h;split at h
 .rw[List.getElem?_eq_none_iff]at h;right;omega
 .left;omega
theorem A38 {R:Type} (data:List Aw) (d c:Int) (F:Aw->Pz->Option R) (z:R) (X:Option R) (f:X=((bif d<(0:Int) then some true else bif d>=(data.length:Int) then some true else bif c<(0:Int) then some true else (Af data d).bind λb=>some (decide (c>=(b.O.length:Int))):OB).bind λv2=>bif v2 then some z else (Af data d).bind λv3=>(Af v3.O c).bind λv4=>F v3 v4)) : X=match Af data d with
   | none=>some z
   | some x=>match Af x.O c with
    | none=>some z
    | some y=>F x y:=by
 subst f;cases hx:Af data d with
 | none=>
  rcases Aao hx with h|h
  .simp only[Ap h,Ak,Ad]
  .by_cases h':d<0
   .simp only[Ap h',Ak,Ad]
   .simp only[Ax h',Ap (show d>=(data.length:Int) from h),Ak,Am,Ad]
 | some x=>
  obtain⟨a1,a2,_,_⟩:=Hq hx;simp only[Ax (ω:¬d<0),Ax (ω:¬d>=(data.length:Int)),Am,Ad];cases hy:Af x.O c with
  | none=>
   rcases Aao hy with h|h
   .simp only[Ap h,Ak,Ad]
   .by_cases h':c<0
    .simp only[Ap h',Ak,Ad]
    .simp only[Ax h',Ap (show c>=(x.O.length:Int) from h),Ak,Am,Ad]
  | some y=>obtain⟨b1,b2,_,_⟩:=Hq hy;simp only[Ax (ω:¬c<0),Ax (ω:¬c>=(x.O.length:Int)),Am,Ad]
def A39 (l:List Ah):Prop:=l.length<=4194304/\∀a∈l,a.R.length<=4194304
def O0 (data:List Aw):Prop:=∀x∈data,∀y∈x.O,A39 y.R
theorem Aap {α:Type} (l m:List α) (y x:α) (i:Int) (n:Nat) (h:i=n) (b:n=l.length):Cu (l++y::m) i x=l++x::m:=by rw[G0 h];subst b;simp
theorem Aaq {α:Type} (l m:List α) (y:α) (i:Int) (n:Nat) (h:i=n) (b:n=l.length):Af (l++y::m) i=some y:=by rw[Bv h];subst b;simp
theorem A4a (l:List Ah) (k f:List Bool) (i:Int) (n:Nat) (b:Bool) (h:i=n) (s:n=k.length) (A:l.length<1099511627776) {R:Type} {J:Int×List Bool->Option R} {r:R} (z:J ((l.length:Int),k++(b&&Are l)::f)=some r) : (An (S:=(Int×(List Bool))) (E:=(Int×(List Bool))) (λ(c,g)=> bif c<(l.length:Int) then ((Af l c).bind λv44=> bif (v44.G != (4:Int)) then ((Af g i).bind λv46=> some (.inl ((Ac (c+1)),(Cu g i false)))) else (bif (v44.U != c) then ((Af g i).bind λy=> some (.inl ((Ac (c+1)),(Cu g i false)))) else (bif (v44.R.length:Int)>(0:Int) then ((Af g i).bind λu=> some (.inl ((Ac (c+1)),(Cu g i false)))) else (some (.inl ((Ac (c+1)),g)))))) else (some (.inr (c,g)))) (0,k++b::f)).bind J=some r:=by
 refine Ho l (λj=>((j:Int),k++(b&&(l.take j).zipIdx.all (λq=>R6 q.1 q.2))::f)) ψ ω ?_ ?_
 .intro j x hj hx h1 h2 h3;have e:(l.take (j+1)).zipIdx.all (λq=>R6 q.1 q.2)=((l.take j).zipIdx.all (λq=>R6 q.1 q.2)&&R6 x j):=(by rw[Dc hx,List.zipIdx_append,List.all_append];simp[Nat.min_eq_left (Nat.le_of_lt hj)]);simp only[h1,h2,h3,Ak,Ad,Aaq k f _ i n h s,Aap k f _ _ i n h s,e];unfold R6;by_cases g1:x.G=4
  .by_cases g2:x.U=j
   .by_cases g3:x.R.length=0
    .rw[Ax ω];simp[g1,g2,g3]
    .rw[Ap ω];have:(x.R.length==0)=false:=(by simpa using g3);simp[g1,g2,this]
   .simp[g1,g2,Ek g2]
  .simp[g1,Ek g1]
 .intro h1;refine⟨_,by simp only[h1];rfl,?_⟩;rw[Dh];exact z
theorem Aar (data:List Aw) (d c:Int) (hd:O0 data):Pv data d c=some (Eb data d c):=by
 unfold Pv;rw[A38 data d c (λv3 v4=>_) [] _ rfl];unfold Eb;cases hx:Af data d with
 | none=>rfl
 | some x=>
  cases hy:Af x.O c with
  | none=>simp only[hy]
  | some y=>
   simp only[hy];have f:=hd x (Hq hx).2.2.2 y (Hq hy).2.2.2;have g:=f.1;rw[Ka (n:=y.R.length) (c:=y.R.length) rfl rfl ω ω ω,Ad];refine Ho y.R (λj=>((j:Int),((y.R.take j).map λt=>J3 t d x.V)++List.replicate (y.R.length-j) false)) rfl ω ?_ ?_
   .intro j t hj ht h1 h2 h3;obtain⟨m,hm⟩:∃m,y.R.length-j=m+1:=⟨y.R.length-j-1,ω⟩;have h:y.R.length-(j+1)=m:=ω;have b:j=((y.R.take j).map λt=>J3 t d x.V).length:=ζ;simp only[h1,h2,Ak,Ad,hm,h,List.replicate_succ,Dc ht,List.map_append,List.map_cons,List.map_nil,List.append_assoc,Du,List.nil_append, Aaq _ _ _ (j:Int) j rfl b,Aap _ _ _ _ (j:Int) j rfl b];have hb:(bif t.G==5 then bif t.U==d then some (List.map (λt=>J3 t d x.V) (List.take j y.R)++((t.R.length:Int)==x.V)::List.replicate m false)
       else some (List.map (λt=>J3 t d x.V) (List.take j y.R)++false::List.replicate m false) else some (List.map (λt=>J3 t d x.V) (List.take j y.R)++false::List.replicate m false))=some (List.map (λt=>J3 t d x.V) (List.take j y.R)++(t.G==5&&t.U==d&&((t.R.length:Int)==x.V))::List.replicate m false):=by cases t.G==5 <;> cases t.U==d <;> simp
    rw[hb,Ad];refine A4a t.R _ _ (j:Int) j _ rfl b (by have:=f.2 t (Cf ht);omega) ?_;rw[h3];rfl
   .intro h1;exact⟨_,by simp only[h1];rfl,ψ⟩
mutual
def mnt (d:Int):Ah->Bool
 | ⟨k,n,l⟩=>(k==5&&n==d)||P1 d l
def P1 (d:Int):List Ah->Bool
 | []=>false
 | x::xs=>mnt d x||P1 d xs
end
theorem A4b (d:Int) (t:Ah):mnt d t=((t.G==5&&t.U==d)||P1 d t.R):=by cases t;simp only[mnt]
theorem A4c (d:Int) (l:List Ah):P1 d l=l.any (mnt d):=by induction l with| nil=>rfl| cons x xs ih=>simp only[P1,ih,List.any_cons]
theorem A4d (d:Int):∀(n:Nat) (t:Ah) (k:Nat),B5 t<=n->4*n+4<=k->n<1099511627776->Ty k t d=some (mnt d t):=by
 intro n;induction n with
 | zero=>intro t k h;have:=W7 t;omega
 | succ n ih=>intro t k h hk g;obtain⟨k,rfl⟩:∃c,k=c+4:=⟨k-4,ω⟩;have f:=K4 t;have b:=N3 t.R;have key:Wp (k+3) t.R d=some (P1 d t.R):=(by rw[Wp,Ad7];rw[A4c];refine Aqv (Aeq t.R (mnt d) ω ?_ (λh=>by simp only[h];rfl) (λ_=>rfl) rfl) (λi hi=>by rw[hi]);intro j x hx h1 h2 h3;have hm:=Ln hx;simp only[h1,h2,h3,Ak,Ad,Z4,ih x k ω ω ω]);rw[Ty,key,A4b];cases t.G==5 <;> cases t.U==d <;> simp
theorem Arf (data:List Aw) (v:Int) (l:List Ah):Fz data v l=l.all (El data v):=by induction l with| nil=>rfl| cons x xs ih=>simp only[Fz,ih,List.all_cons]
theorem A4e (data:List Aw) (d:Nat) (v k n:Int) (len:Nat):(K5 (data.take (d+1)) v k n len && !(k==5&&n==(d:Int)))=K5 (data.take d) v k n len:=by
 by_cases hk:k=5
 .subst hk;unfold K5;simp only[beq_self_eq_true,Bool.true_and,List.getElem?_take];by_cases b:n=d
  .subst b;simp
  .by_cases h0:0<=n
   .have e:(n==(d:Int))=false:=Cn b;rcases Cg n.toNat d with h|h
    .simp[h,e,show n.toNat<d+1 by omega]
    .simp[e,show ¬n.toNat<d by omega,show ¬n.toNat<d+1 by omega]
   .simp[h0]
 .have e:(k==(5:Int))=false:=Cn hk;simp only[e,Bool.false_and,Bool.not_false,Bool.and_true,K5,hk,if_false]
mutual
theorem Arg (data:List Aw) (d:Nat) (v:Int):∀t:Ah,(El (data.take (d+1)) v t && !mnt d t)=El (data.take d) v t
 | ⟨k,n,l⟩=>by
  have h1:=Arh data d v l
  have h2:=A4e data d v k n l.length
  simp only[El,mnt]
  rw[<-h1,<-h2]
  cases K5 (data.take (d+1)) v k n l.length <;> cases (k==5&&n==(d:Int)) <;> cases Fz (data.take (d+1)) v l <;> simp
theorem Arh (data:List Aw) (d:Nat) (v:Int):∀l:List Ah,(Fz (data.take (d+1)) v l && !P1 d l)=Fz (data.take d) v l
 | []=>by simp[Fz,P1]
 | x::xs=>by
  have h1:=Arg data d v x
  have h2:=Arh data d v xs
  simp only[Fz,P1]
  rw[<-h1,<-h2]
  cases El (data.take (d+1)) v x <;> cases mnt d x <;> cases Fz (data.take (d+1)) v xs <;> simp
end
theorem Ari:∀l:List Ah,(∀a∈l,a.R.length=0)->Dd l=l.length
 | [],_=>rfl
 | x::xs,h=>by have h1:=h x ψ;simp only[Dd,Ei];rw[Ari xs (λa ha=>h a (by simp[ha])),K4,Fa.1 h1];simp only[Dd];omega
theorem Ajt {data:List Aw} {d:Nat} {x:Aw} (hx:data[d]? = some x) (hv:x.V<=6) {t:Ah} (h:J3 t d x.V=true):El (data.take (d+1)) x.V t=true/\B5 t<=200:=by
 unfold J3 at h;simp only[Ck,beq_iff_eq]at h;obtain⟨⟨⟨h1,h2⟩,h3⟩,c⟩:=h;have ha:∀a∈t.R,∃i:Nat,i<t.R.length/\a.G=4/\a.U=i/\a.R.length=0:=by intro a ha;obtain⟨i,hi⟩:=Gz ha;have:=Iz c hi;simp only[R6,Ck,beq_iff_eq]at this;exact⟨i,E4 hi,this.1.1,this.1.2,this.2⟩
 refine⟨?_,?_⟩
 .rw[Aan,Arf,Ck];constructor
  .rw[h1,h2];unfold K5;simp[hx,h3]
  .rw[D2];intro a b;obtain⟨i,i1,i2,i3,i4⟩:=ha a b;rw[Aan,i2,i3,i4,Fa.1 i4];unfold K5;simp[Fz];omega
 .rw[K4,Ari _ (λa h=>(ha a h).choose_spec.2.2.2)];omega
def R7 (data:List Aw) (d:Nat) (v:Int) (t:Ah):Bool:=J3 t d v||(El (data.take d) v t&&decide (B5 t<=200))
theorem A4f {data:List Aw} {d:Nat} {x:Aw} (hx:data[d]? = some x) (hv:x.V<=6) (t:Ah):((El (data.take (d+1)) x.V t&&decide (B5 t<=200))&&(J3 t d x.V || !mnt d t))=R7 data d x.V t:=by unfold R7;cases h:J3 t d x.V with| true=>obtain⟨h1,h2⟩:=Ajt hx hv h;rw[h1,Ap h2];rfl| false=>rw[<-Arg data d x.V t];cases El (data.take (d+1)) x.V t <;> cases decide (B5 t<=200) <;> simp
def SzD (data:List Aw):Prop:=∀x∈data,x.O.length<=1048576/\∀y∈x.O,Dd y.R<=1048576
theorem SzD.short {data:List Aw} (h:SzD data):O0 data:=λx hx y hy=>by have h1:=(h x hx).2 y hy;have h2:=N3 y.R;refine⟨ω,λa ha=>?_⟩;have h3:=Ln ha;have c:=K4 a;have b:=N3 a.R;omega
theorem A4g {data:List Aw} (g:SzD data) (d c:Nat) {x:Aw} {y:Pz} (hx:data[d]? = some x) (hy:x.O[c]? = some y) (hv:x.V<=6) (hd:data.length<=1048576) : Rh data d c=some (decide (y.R.length<=6)&&y.R.all (R7 data d x.V)):=by
 have b:=E4 hx;have l:=(g x (Cf hx)).2 y (Cf hy);unfold Rh;rw[Bv rfl hx,Ad,Bv rfl hy,Ad,Aar data d c g.short];by_cases k:y.R.length<=6
 .rw[Ax (ω:¬(y.R.length:Int)>6),Ap k];simp only[Am,Bool.true_and,Ad];refine (Ky y.R (R7 data d x.V) (λj=>(j:Int)) rfl ω (rt:=true) (rf:=false) ?_ ?_).trans (by rw[N1])
  .intro j t ht h1 h2 h3;have q:=Ln (Cf ht);have s:Af (Eb data d c) (j:Int)=some (J3 t d x.V):=(by unfold Eb;simp only[Bv rfl hx,Bv rfl hy];rw[Bv rfl];simp[ht]);simp only[h1,h2,h3,Ak,Ad,show Ac ((d:Int)+1)=((d+1:Nat):Int) from C9 b ω,Ael rfl (show d+1<=data.length from b),Bv rfl hx,
    Um (data.take (d+1)) t x.V ω,s];rw[<-A4f hx hv t];cases i:(El (data.take (d+1)) x.V t&&decide (B5 t<=200)) with
   | false=>exact⟨nofun,λ_=>⟨.inl false,rfl,rfl⟩⟩
   | true=>
    have f:B5 t<=200:=(by simp only[Ck,C8]at i;exact i.2);simp only[Dz,Am,Bool.true_and];cases u:J3 t d x.V with
    | true=>exact⟨λ_=>rfl,λh=>by cases h⟩
    | false=>simp only[Bool.not_false,Ak,A4d d 200 t 4000000 f ω ω,Ad,Bool.false_or];cases mnt d t with| true=>exact⟨nofun,λ_=>⟨.inl false,rfl,rfl⟩⟩| false=>exact⟨λ_=>rfl,λh=>by cases h⟩
  .intro h;exact⟨.inr (),by simp only[h];rfl,rfl⟩
 .rw[Ap (ω:(y.R.length:Int)>6),Ax k];rfl
def bI (s:ByteArray) (i:Nat):Int:=if h:i<s.size then (s[i].toNat:Int) else 0
def loI (c:Int):Bool:=decide (97<=c)&&decide (c<=122)
def upI (c:Int):Bool:=decide (65<=c)&&decide (c<=90)
def diI (c:Int):Bool:=decide (48<=c)&&decide (c<=57)
def wiI (c:Int):Bool:=loI c||upI c||diI c||c==95
def Jf (s:ByteArray):Prop:=1<=s.size/\s.size<=24/\upI (bI s 0)=true/\∀i,i<s.size->wiI (bI s i)=true
theorem P3 {s:ByteArray} {i:Int} {n:Nat} (hi:i=n) (h:n<s.size):∃c:UInt8,J0 s i=some c/\(c.toNat:Int)=bI s n:=by
 subst hi;refine⟨s[n],?_,?_⟩
 .unfold J0;rw[Ay ω,show ((n:Int)).toNat=n from rfl];simp[h]
 .unfold bI;simp[h]
theorem Aas {s:ByteArray} {a b j:Nat} (hb:b<=s.size) (h:a+j<b):bI (s.extract a b) j=bI s (a+j):=by
 unfold bI;have h1:j<(s.extract a b).size:=by rw[ByteArray.size_extract];omega
 rw[dif_pos h1,dif_pos ω,ByteArray.getElem_extract]
theorem Aat {s:ByteArray} {lo hi:Int} {a b:Nat} (h1:lo=a) (h2:hi=b) (h3:a<=b) (c:b<=s.size):Gx s lo hi=some (s.extract a b):=by subst h1;subst h2;unfold Gx;rw[Ay ω];rfl
theorem Arj {a b:ByteArray} (h:a.toList=b.toList):a=b:=by rw[ByteArray.toList_eq,ByteArray.toList_eq]at h;have:a.data=b.data:=Array.toList_inj.1 h;cases a;cases b;simp at this;subst this;rfl
theorem Ark (a b:ByteArray):(a.toList==b.toList)=decide (a=b):=by
 by_cases h:a=b
 .subst h;simp
 .rw[Ax h];cases hb:(a.toList==b.toList) with| false=>rfl| true=>exact absurd (Arj (by simpa using hb)) h
theorem Arl (c:Int):Wn c=some (loI c):=by unfold Wn loI;by_cases h:(97:Int)<=c <;> simp[h]
theorem Arm (c:Int):Ub c=some (upI c):=by unfold Ub upI;by_cases h:(65:Int)<=c <;> simp[h]
theorem Ae5 (c:Int):Rs c=some (diI c):=by unfold Rs diI;by_cases h:(48:Int)<=c <;> simp[h]
theorem Arn (c:Int):Wo c=some (wiI c):=by unfold Wo wiI;rw[Arl,Arm,Ae5];simp only[Ad];cases loI c <;> cases upI c <;> cases diI c <;> rfl
theorem Aju {S E:Type} {step:S->Option (S⊕E)} (s:ByteArray) (p:Int->Bool) (b:Nat->S) (f:Nat->E) (lo:Nat) (h1:∀j,lo<=j->j<s.size->p (bI s j)=true->step (b j)=some (.inl (b (j+1)))) (h2:∀j,lo<=j->j<s.size->p (bI s j)=false->step (b j)=some (.inr (f j))) (h3:step (b s.size)=some (.inr (f s.size))) : ∀(m i:Nat),lo<=i->i+m=s.size->∃n,i<=n/\n<=s.size/\(∀j,i<=j->j<n->p (bI s j)=true)/\(n<s.size->p (bI s n)=false)/\An step (b i)=some (f n):=by
 intro m;induction m with
 | zero=>intro i _ hi;have:i=s.size:=ω;subst this;exact⟨s.size,ω,ω,λj _ _=>ω,λh=>ω,D5 h3⟩
 | succ m ih=>
  intro i c hi;cases hp:p (bI s i) with
  | true=>
   obtain⟨n,a1,a2,a3,a4,a5⟩:=ih (i+1) ω ω;refine⟨n,ω,a2,λj b1 b2=>?_,a4,by rw[Ir (h1 i c ω hp)];exact a5⟩;rcases Cg i j with h|h
   .exact a3 j h b2
   .have:j=i:=ω;subst this;exact hp
  | false=>exact⟨i,ω,ω,λj _ _=>ω,λ_=>hp,D5 (h2 i c ω hp)⟩
theorem A4h (s:ByteArray) (k:s.size<1099511627776):∃n,n<=s.size/\(∀j,j<n->wiI (bI s j)=true)/\(n<s.size->wiI (bI s n)=false)/\Z7 s=some (s.extract 0 n):=by
 have H:=Aju (step:=λv3:Int=>bif v3<(s.size:Int) then ((J0 s v3).bind λh=>(Wo (h.toNat:Int)).bind λv5=>bif v5 then some (.inl (Ac (v3+1))) else some (.inr v3)) else some (.inr v3))
  s wiI (λj=>(j:Int)) (λj=>(j:Int)) 0 (λj _ hj hp=>by
   obtain⟨c,g,f⟩:=P3 (s:=s) (i:=(j:Int)) rfl hj
   simp only[Ap (ω:(j:Int)<(s.size:Int)),Ak,g,Ad,f,Arn,hp,C9 hj ω]) (λj _ hj hp=>by
   obtain⟨c,g,f⟩:=P3 (s:=s) (i:=(j:Int)) rfl hj
   simp only[Ap (ω:(j:Int)<(s.size:Int)),Ak,g,Ad,f,Arn,hp,Am]) ψ s.size 0 ω ω
 obtain⟨n,_,a2,a3,a4,a5⟩:=H
 refine⟨n,a2,λj hj=>a3 j ω hj,a4,?_⟩
 unfold Z7
 have a5:An _ (0:Int)=some (n:Int):=a5
 rw[a5,Ad,Aat (lo:=0) (a:=0) (b:=n) rfl rfl ω a2];rfl
theorem A4i (s:ByteArray) (k:s.size<1099511627776):∃n,n<=s.size/\(∀j,j<n->diI (bI s j)=true)/\(n<s.size->diI (bI s n)=false)/\Ad6 s=some (s.extract 0 n):=by
 have H:=Aju (step:=λv3:Int=>bif v3<(s.size:Int) then ((J0 s v3).bind λh=>(Rs (h.toNat:Int)).bind λv5=>bif v5 then some (.inl (Ac (v3+1))) else some (.inr v3)) else some (.inr v3))
  s diI (λj=>(j:Int)) (λj=>(j:Int)) 0 (λj _ hj hp=>by
   obtain⟨c,g,f⟩:=P3 (s:=s) (i:=(j:Int)) rfl hj
   simp only[Ap (ω:(j:Int)<(s.size:Int)),Ak,g,Ad,f,Ae5,hp,C9 hj ω]) (λj _ hj hp=>by
   obtain⟨c,g,f⟩:=P3 (s:=s) (i:=(j:Int)) rfl hj
   simp only[Ap (ω:(j:Int)<(s.size:Int)),Ak,g,Ad,f,Ae5,hp,Am]) ψ s.size 0 ω ω
 obtain⟨n,_,a2,a3,a4,a5⟩:=H
 refine⟨n,a2,λj hj=>a3 j ω hj,a4,?_⟩
 unfold Ad6
 have a5:An _ (0:Int)=some (n:Int):=a5
 rw[a5,Ad,Aat (lo:=0) (a:=0) (b:=n) rfl rfl ω a2];rfl
theorem W8 {R:Type} {c:Bool} {X Y:Option R} {Q:R->Prop} (h1:∃r,X=some r/\Q r) (h2:∃r,Y=some r/\Q r):∃r,(bif c then X else Y)=some r/\Q r:=by cases c <;> assumption
theorem Ajv {A R:Type} {X:Option A} {f:A->Option R} {Q:R->Prop} (P:A->Prop) (h1:∃a,X=some a/\P a) (h2:∀a,P a->∃r,f a=some r/\Q r):∃r,X.bind f=some r/\Q r:=by obtain⟨a,e,h⟩:=h1;rw[e];exact h2 a h
theorem A4j (s:ByteArray):∃b,Z8 s=some b/\True:=by unfold Z8;repeat' first|refine W8 ?_ ?_|exact⟨_,rfl,trivial⟩
theorem A4k (s:ByteArray) (h1:1<=s.size):∃r,Aaa s=some r/\(r.size<=s.size):=by
 have g:Gx s 0 1=some (s.extract 0 1):=Aat rfl rfl ω h1;have c:(s.extract 0 1).size<=s.size:=by rw[ByteArray.size_extract];omega
 unfold Aaa;refine Ajv (λz=>∀r,z = .inl r->r.size<=s.size) ?_ ?_
 .by_cases h2:2<=s.size
  .have f:Gx s 0 2=some (s.extract 0 2):=Aat rfl rfl ω h2;have b:∀r,(Sum.inl (s.extract 0 2):ByteArray⊕Unit) = .inl r->r.size<=s.size:=(by rintro r ⟨⟩;rw[ByteArray.size_extract];omega);simp only[f,Ad];repeat' first|refine W8 ?_ ?_|with_reducible exact⟨_,rfl,b⟩|exact⟨_,rfl,λr h=>by cases h⟩
  .rw[Ax ω];exact⟨_,rfl,λr h=>by cases h⟩
 .rintro (r|u) i
  .exact⟨_,rfl,i r rfl⟩
  .simp only[g,Ad];have h0:(ByteArray.mk #[]).size<=s.size:=Nat.zero_le _;repeat' first|refine W8 ?_ ?_|with_reducible exact⟨_,rfl,c⟩|with_reducible exact⟨_,rfl,h0⟩
theorem A4l (s:ByteArray) (g:s.size<1099511627776):∃b,Z9 s=some b/\True:=by
 unfold Z9;refine Ej (λ(_,i)=>∃j:Nat,i=j/\j<=s.size) (λ(_,i)=>s.size-i.toNat) (λ_=>True) ⟨0,rfl,ω⟩ ?_ ?_
 .rintro⟨v,i⟩ ⟨j,rfl,hj⟩;rcases Cg j s.size with h|h
  .obtain⟨c,f,_⟩:=P3 (s:=s) (i:=(j:Int)) rfl h;simp only[Ap (ω:(j:Int)<(s.size:Int)),Ak,f,Ad,C9 h ω];cases decide (Ac (Ac (v*10)+Ac (wu8 ((c.toNat:Int)-48)))>1000000) with| true=>exact .inr ⟨_,rfl,trivial⟩| false=>exact .inl ⟨_,rfl,⟨j+1,rfl,ω⟩,ζ⟩
  .have:j=s.size:=ω;subst this;exact .inr ⟨.inr (),ψ,trivial⟩
 .rintro (r|u) _ <;> exact⟨_,rfl,trivial⟩
theorem A4m (s:ByteArray) (i:Nat) (hi:i<s.size) (R:s.size<1099511627776) : ∃r,Z3 s i=some r/\(r.2=0->1<=r.1.Text.size/\i+r.1.Text.size<=s.size/\(r.1.G=2->Jf r.1.Text))/\(Jf s->i=0->r=(⟨2,s,0⟩,0)):=by
 obtain⟨c,M,L⟩:=P3 (s:=s) (i:=(i:Int)) rfl hi;have u:Gx s (i:Int) (s.size:Int)=some (s.extract i s.size):=Aat rfl rfl ω ω;have I:(s.extract i s.size).size=s.size-i:=by rw[ByteArray.size_extract];omega
 have x:bI (s.extract i s.size) 0=bI s i:=Aas ω ω;unfold Z3;simp only[M,Ad,L,Arl,Arm,Ae5,u];have hw:(bif loI (bI s i) then some true else some (upI (bI s i)))=some (loI (bI s i)||upI (bI s i)):=by cases loI (bI s i) <;> rfl
 rw[hw];simp only[Ad];cases l:(loI (bI s i)||upI (bI s i)) with
 | true=>
  obtain⟨n,G,D,y,n4⟩:=A4h (s.extract i s.size) ω;have A:1<=n:=by
   rcases Nat.eq_zero_or_pos n with h|h
   .subst h;have:=y ω;rw[x]at this;unfold wiI at this;rw[l]at this;cases this
   .exact h
  have hx:(s.extract i s.size).extract 0 n=s.extract i (i+n):=(by rw[ByteArray.extract_extract];congr 1;omega);have q:(s.extract i (i+n)).size=n:=(by rw[ByteArray.size_extract];omega);rw[hx]at n4;simp only[Ak,n4,Ad,q];have g:Jf s->i=0->n=s.size:=by
   intro hu h0;rcases Cg n s.size with h|h
   .have:=y ω;rw[Aas ω ω,hu.2.2.2 _ ω]at this;cases this
   .omega
  by_cases J:n<=24
  .rw[Ax ω];cases k:upI (bI s i) with
   | true=>
    refine⟨_,rfl,λ_=>⟨?_,?_,λ_=>⟨?_,?_,?_,?_⟩⟩,?_⟩
    .show 1<=(s.extract i (i+n)).size;omega
    .show i+(s.extract i (i+n)).size<=s.size;omega
    .show 1<=(s.extract i (i+n)).size;omega
    .show (s.extract i (i+n)).size<=24;omega
    .show upI (bI (s.extract i (i+n)) 0)=true;rw[Aas ω ω];exact k
    .show ∀j,j<(s.extract i (i+n)).size->wiI (bI (s.extract i (i+n)) j)=true;intro j hj;rw[Aas ω ω];have:=D j ω;rw[Aas ω ω]at this;exact this
    .intro hu h0;have:=g hu h0;subst h0;subst this;rw[Nat.zero_add,ByteArray.extract_zero_size];rfl
   | false=>obtain⟨b,hb,_⟩:=A4j (s.extract i (i+n));simp only[Am,hb,Ad];have f:Jf s->i=0->False:=(by intro hu h0;subst h0;rw[hu.2.2.1]at k;cases k);cases b with| true=>exact⟨_,rfl,λ_=>⟨by show 1<=(s.extract i (i+n)).size;omega,by show i+(s.extract i (i+n)).size<=s.size;omega,λh=>by cases h⟩,λhu h0=>(f hu h0).elim⟩| false=>exact⟨_,rfl,λ_=>⟨by show 1<=(s.extract i (i+n)).size;omega,by show i+(s.extract i (i+n)).size<=s.size;omega,λh=>by cases h⟩,λhu h0=>(f hu h0).elim⟩
  .rw[Ap ω];refine⟨_,rfl,nofun,λhu h0=>?_⟩;have:=g hu h0;have:=hu.2.1;omega
 | false=>
  have f:Jf s->i=0->False:=(by intro hu h0;subst h0;rw[hu.2.2.1,Bool.or_true]at l;cases l);simp only[Am];cases hd:diI (bI s i) with
  | true=>
   obtain⟨n,G,D,y,n4⟩:=A4i (s.extract i s.size) ω;have A:1<=n:=by
    rcases Nat.eq_zero_or_pos n with h|h
    .subst h;have:=y ω;rw[x,hd]at this;cases this
    .exact h
   have hx:(s.extract i s.size).extract 0 n=s.extract i (i+n):=(by rw[ByteArray.extract_extract];congr 1;omega);have q:(s.extract i (i+n)).size=n:=(by rw[ByteArray.size_extract];omega);rw[hx]at n4;obtain⟨b,hb,_⟩:=A4l (s.extract i (i+n)) ω;simp only[Ak,n4,Ad,hb];refine Ajv (λ_=>True) ?_ ?_
   .exact W8 ⟨_,rfl,trivial⟩ ⟨_,rfl,trivial⟩
   .intro v _;refine W8 ⟨_,rfl,nofun,λhu h0=>(f hu h0).elim⟩ (W8 ⟨_,rfl,nofun,λhu h0=>(f hu h0).elim⟩ ⟨_,rfl,λ_=>⟨?_,?_,λh=>by cases h⟩,λhu h0=>(f hu h0).elim⟩)
    .show 1<=(s.extract i (i+n)).size;omega
    .show i+(s.extract i (i+n)).size<=s.size;omega
  | false=>
   obtain⟨r,E,N⟩:=A4k (s.extract i s.size) ω;simp only[Am,E,Ad];rw[Ark];by_cases z:r=ByteArray.mk #[]
   .rw[Ap z];exact⟨_,rfl,nofun,λhu h0=>(f hu h0).elim⟩
   .rw[Ax z];refine⟨_,rfl,λ_=>⟨?_,?_,λh=>by cases h⟩,λhu h0=>(f hu h0).elim⟩
    .show 1<=r.size;rcases Nat.eq_zero_or_pos r.size with h|h
     .have B:r.data.toList.length=0:=(by simpa using h);exact absurd (Arj (by rw[ByteArray.toList_eq,Fa.1 B,ByteArray.toList_eq])) z
     .exact h
    .show i+r.size<=s.size;omega
theorem A4n (c:Int):Z2 c=some (c==9||c==10||c==13||c==32):=by unfold Z2;cases c==9 <;> cases c==10 <;> cases c==13 <;> rfl
theorem Aro (s:ByteArray) (U:s.size<1099511627776):∃b,Tq s=some b/\(b=true↔Jf s):=by
 unfold Tq Ads
 by_cases q:(s.size:Int)>16384
 .rw[Ap q]
  refine⟨false,rfl,by simp;rintro⟨_,h,_⟩;omega⟩
 rw[Ax q]
 simp only[Am]
 refine Ajv (λr:List J2×Int×Int=>(r.2.2≠0/\¬Jf s)\/(r.2.2=0/\∃o e,r.1=o++[e]/\(∀t∈o,t.G=2->Jf t.Text)/\(Jf s->o = [⟨2,s,0⟩]))) ?_ ?_
 .refine Ej (λ(v26,f)=>∃i:Nat,v26=i/\i<=s.size/\f.length<=i/\(∀t∈f,t.G=2->Jf t.Text)/\(Jf s->(i=0/\f = [])\/(i=s.size/\f = [⟨2,s,0⟩])))
   (λ(v26,_)=>s.size-v26.toNat)
   (λz=>match z with|.inl o=>o.length<=16384/\(∀t∈o,t.G=2->Jf t.Text)/\(Jf s->o = [⟨2,s,0⟩]) | .inr (_,_,e)=>e≠0/\¬Jf s)
   ⟨0,rfl,ω,ψ,ψ,λ_=>.inl ⟨rfl,rfl⟩⟩ ?_ ?_
  .rintro⟨v,o⟩ ⟨i,rfl,hi,ho,hk,hu⟩
   rcases Cg i s.size with h|h
   .obtain⟨c,G,E⟩:=P3 (s:=s) (i:=(i:Int)) rfl h
    have g:Jf s->i=0/\o = []:=λu=>by
     rcases hu u with h'|h'
     .exact h'
     .omega
    simp only[Ap (ω:(i:Int)<(s.size:Int)),Ak,G,Ad,E,A4n]
    cases J:(bI s i==9||bI s i==10||bI s i==13||bI s i==32) with
    | true=>
     have k:¬Jf s:=by
      intro u
      have h0:=(g u).1
      subst h0
      have:=u.2.2.1
      simp only[upI,Ck,C8]at this
      simp only[Bool.or_eq_true,beq_iff_eq]at J
      omega
     exact .inl ⟨(((i+1:Nat):Int),o),by simp only[Ak];rw[C9 h ω],⟨i+1,rfl,ω,(by show o.length<=i+1;omega),hk,λu=>(k u).elim⟩,ζ⟩
    | false=>
     simp only[Am]
     cases B:(bI s i==35) with
     | true=>
      have k:¬Jf s:=by
       intro u
       have h0:=(g u).1
       subst h0
       have:=u.2.2.1
       simp only[upI,Ck,C8]at this
       simp only[beq_iff_eq]at B
       omega
      simp only[Ak]
      obtain⟨n,n1,n2,n3,n4,I⟩:=Aju (step:=λv32:Int=>bif v32<(s.size:Int) then ((J0 s v32).bind λL=>bif ((L.toNat:Int)==(10:Int)) then some (.inr (.inl v32)) else some (.inl (Ac (v32+1)))) else some (.inr (.inr v32)))
       s (λc=>!(c==10)) (λj=>(j:Int)) (λj=>if j<s.size then Sum.inl (j:Int) else Sum.inr (j:Int)) 0 (λj _ hj hp=>by
        obtain⟨c,G,E⟩:=P3 (s:=s) (i:=(j:Int)) rfl hj
        simp only[Bool.not_eq_true']at hp
        simp only[Ap (ω:(j:Int)<(s.size:Int)),Ak,G,Ad,E,hp,C9 hj ω,Am]) (λj _ hj hp=>by
        obtain⟨c,G,E⟩:=P3 (s:=s) (i:=(j:Int)) rfl hj
        simp only[Bool.not_eq_false']at hp
        simp only[Ap (ω:(j:Int)<(s.size:Int)),Ak,G,Ad,E,hp,Ay hj]) ψ (s.size-i) i ω ω
      have V:i<n:=by
       rcases Cg i n with h'|h'
       .exact h'
       .have:n=i:=ω
        subst this
        have:=n4 h
        simp only[beq_iff_eq]at B
        rw[B]at this;cases this
      have I:An _ (i:Int)=_:=I
      rw[I,Ad]
      rcases Cg n s.size with h'|h'
      .rw[Ay h']
       exact .inl ⟨((n:Int),o),rfl,⟨n,rfl,ω,(by show o.length<=n;omega),hk,λu=>(k u).elim⟩,ζ⟩
      .rw[Av ω]
       exact .inr ⟨.inl o,rfl,ω,hk,λu=>(k u).elim⟩
     | false=>
      obtain⟨r,S,R,M⟩:=A4m s i h U
      simp only[Am,S,Ad]
      by_cases D:r.2=0
      .obtain⟨a1,a2,a3⟩:=R D
       simp only[Fc D,Am]
       rw[Dm ζ,Ad]
       refine .inl ⟨(((i+r.1.Text.size:Nat):Int),o++[r.1]),?_,⟨i+r.1.Text.size,rfl,a2,ζ,?_,?_⟩,ζ⟩
       .rw[show Ac ((i:Int)+(r.1.Text.size:Int))=((i+r.1.Text.size:Nat):Int) by rw[Ac,B3] <;> omega]
       .intro t ht
        rcases D7.1 ht with h'|h'
        .exact hk t h'
        .simp at h';subst h';exact a3
       .intro u
        obtain⟨b1,b2⟩:=g u
        have:=M u b1
        subst b1;subst b2;subst this
        exact .inr ⟨ψ,rfl⟩
      .simp only[Ek D,Ak]
       refine .inr ⟨_,rfl,D,λu=>?_⟩
       rw[M u (g u).1]at D
       exact D rfl
   .have:i=s.size:=ω
    subst this
    refine .inr ⟨.inl o,ψ,ω,hk,λu=>?_⟩
    rcases hu u with⟨h',_⟩|⟨_,h'⟩
    .have:=u.1;omega
    .exact h'
  .rintro (o|⟨l,p,e⟩) N
   .obtain⟨Z,z2,z3⟩:=N
    simp only
    rw[Dm ζ,Ad]
    exact⟨_,rfl,.inr ⟨rfl,o,_,rfl,z2,z3⟩⟩
   .exact⟨_,rfl,.inl N⟩
 .rintro⟨l,p,e⟩ (⟨h1,h2⟩|⟨h1,o,t,h2,h3,A⟩)
  .simp only at h1
   simp only[Cn h1,Am]
   exact⟨_,rfl,by simp[h2]⟩
  .simp only at h1 h2
   subst h1;subst h2
   simp only[beq_self_eq_true,Ak]
   match o,h3,A with
   | [],_,A=>exact⟨false,ψ,by simp;intro u;cases A u⟩
   | [x],h3,A=>
    have Y:Af ([x]++[t]) 0=some x:=rfl
    simp only[Y,Ad,Ark]
    have X:((([x]++[t]).length:Int)==2)=true:=rfl
    simp only[X,Ak]
    by_cases hx:x.G=2
    .simp only[Dk hx,Ak]
     refine⟨_,rfl,?_⟩
     rw[decide_eq_true_iff]
     constructor
     .intro h;rw[<-h];exact h3 x ψ hx
     .intro u;have:=A u;simp at this;rw[this]
    .simp only[Cn hx,Am]
     refine⟨_,rfl,?_⟩
     simp only[Bool.false_eq_true,false_iff]
     intro u;have:=A u;simp at this;rw[this]at hx;exact hx rfl
   | x::y::ys,_,A=>
    refine⟨false,?_,by simp;intro u;have:=A u;simp at this⟩
    rw[Cn]
    .rfl
    .simp;omega
def Ae6 (data:List Aw) (d:Nat) (v:Int) (y:Pz):Prop:=Jf y.S/\y.R.length<=6/\y.R.all (R7 data d v)=true
def Ajw (data:List Aw) (d:Nat) (x:Aw):Prop:=0<=x.V/\x.V<=6/\1<=x.O.length/\x.O.length<=8/\Jf x.S/\∀y∈x.O,Ae6 data d x.V y
def Kb (x:Aw):List ByteArray:=x.O.map (·.S)
def Kc (data:List Aw):Prop:=data.length<=12/\(∀d x,data[d]? = some x->Ajw data d x)/\(data.map (·.S)).Nodup/\(data.flatMap Kb).Nodup
structure DSz (data:List Aw):Prop where
 len:data.length<=1048576
 sz:SzD data
 nm:∀x∈data,x.S.size<=1048576
 cn:∀x∈data,∀y∈x.O,y.S.size<=1048576
theorem R8 (a b:ByteArray):(a==b)=true↔a=b:=by
 constructor
 .intro h;cases a with|mk a=>cases b with|mk b=>
  have:a=b:=(by exact eq_of_beq h);rw[this]
 .rintro rfl;cases a with|mk a=>exact beq_self_eq_true a
def Lo (o:List (ByteArray×Bool)) (L:List ByteArray):Prop:=(∀p∈o,p.2=true)/\∀s,Fs o s=true↔s∈L
theorem Lo.nil:Lo [] []:=⟨ψ,by simp[Fs]⟩
theorem Lo.get {o:List (ByteArray×Bool)} {L:List ByteArray} (h:Lo o L) {s:ByteArray} (b:Fs o s=true):Is o s false=true:=by unfold Is;unfold Fs at b;rw[List.any_eq_true]at b;obtain⟨p,g,f⟩:=b;cases c:o.find? (λp=>s==p.1) with| none=>exact absurd f (by have:=List.find?_eq_none.1 c p g;simpa using this)| some q=>exact h.1 q (List.mem_of_find?_eq_some c)
theorem A4o (o:List (ByteArray×Bool)) (s t:ByteArray) (v:Bool):Fs (Gc o s v) t=(Fs o t||t==s):=by
 induction o with
 | nil=>simp[Gc,Fs]
 | cons p o ih=>unfold Gc;cases hp:(s==p.1) with| true=>have:s=p.1:=(R8 _ _).1 hp;subst this;simp only[Ak,Fs,List.any_cons];cases t==p.1 <;> simp| false=>simp only[Fs,List.any_cons]at ih ⊢;simp only[Am,List.any_cons,ih,Bool.or_assoc]
theorem Lo.put {o:List (ByteArray×Bool)} {L:List ByteArray} (h:Lo o L) (s:ByteArray):Lo (Gc o s true) (L++[s]):=by
 refine⟨?_,λt=>?_⟩
 .have:∀o:List (ByteArray×Bool),(∀p∈o,p.2=true)->∀p∈Gc o s true,p.2=true:=by
   intro o;induction o with
   | nil=>intro _ p hp;simp[Gc]at hp;rw[hp]
   | cons q o ih=>
    intro b p hp;unfold Gc at hp;cases hq:(s==q.1) with
    | true=>
     rw[hq]at hp;simp only[Ak,Fx]at hp;rcases hp with rfl|hp
     .rfl
     .exact b p (by simp[hp])
    | false=>
     rw[hq]at hp;simp only[Am,Fx]at hp;rcases hp with rfl|hp
     .exact b _ ψ
     .exact ih (λp hp=>b p (by simp[hp])) p hp
  exact this o h.1
 .rw[A4o,Bool.or_eq_true,h.2 t,R8];simp
theorem A4p (x:Aw) {c:Nat} {y:Pz} (hy:x.O[c]? = some y):Kb x=(x.O.take c).map (·.S)++y.S::(x.O.drop (c+1)).map (·.S):=by
 have h:=List.take_append_drop c x.O
 have hc:=E4 hy
 have e:x.O.drop c=y::x.O.drop (c+1):=by
  rw[List.drop_eq_getElem_cons hc]
  rw[Bx hc]at hy
  rw[Fj hy]
 unfold Kb
 conv=>lhs;rw[<-h,e]
 simp
theorem Arp {L m:List ByteArray} {s:ByteArray} (h:(L++s::m).Nodup):s ∉ L:=by rw[List.nodup_append]at h;intro b;exact h.2.2 s b s ψ rfl
theorem Arq {L:List ByteArray} {s:ByteArray} (h:L.Nodup) (c:s ∉ L):(L++[s]).Nodup:=by rw[List.nodup_append];refine⟨h,ψ,?_⟩;intro a ha b hb;simp at hb;subst hb;intro e;subst e;exact c ha
theorem A4q {data:List Aw} (q:DSz data) {d:Nat} {x:Aw} (hx:data[d]? = some x) (hv:x.V<=6) (o:List (ByteArray×Bool)) (L:List ByteArray) (hm:Lo o L) (I:L.Nodup) : ∃z,An (S:=(Int×(List (ByteArray×Bool)))) (E:=(Bool⊕(Int×(List (ByteArray×Bool))))) (λ(f,g)=> bif f<(x.O.length:Int) then ((Af x.O f).bind λv54=> (Tq v54.S).bind λu=> bif (!u) then some (.inr (.inl false)) else (bif (Fs g v54.S) then (bif (Is g v54.S (false:Bool)) then some (.inr (.inl false)) else ((Rh data d f).bind λs=> bif (!s) then some (.inr (.inl false)) else some (.inl ((Ac (f+1)),(Gc g v54.S true))))) else ((Rh data d f).bind λv58=> bif (!v58) then some (.inr (.inl false)) else some (.inl ((Ac (f+1)),(Gc g v54.S true)))))) else some (.inr (.inr (f,g)))) (0,o)=some z /\ match z with
   | .inl r=>r=false/\¬((∀y∈x.O,Ae6 data d x.V y)/\(L++Kb x).Nodup)
   | .inr (_,o')=>(∀y∈x.O,Ae6 data d x.V y)/\(L++Kb x).Nodup/\Lo o' (L++Kb x):=by
 have hxm:=Cf hx;have G:=(q.sz x hxm).1;refine Lb (λ(f,g)=>∃c:Nat,f=c/\c<=x.O.length/\(∀y∈x.O.take c,Ae6 data d x.V y)/\(L++(x.O.take c).map (·.S)).Nodup/\Lo g (L++(x.O.take c).map (·.S))) (λ(f,_)=>x.O.length-f.toNat) _ ?_ _ ⟨0,rfl,ω,ψ,by simpa using I,by simpa using hm⟩;rintro⟨v,g⟩ ⟨c,rfl,hc,h1,h2,h3⟩;rcases Cg c x.O.length with h|h
 .have hy:x.O[c]? = some x.O[c]:=Bx h;generalize x.O[c]=y at hy;have k:=Cf hy;obtain⟨b,b1,b2⟩:=Aro y.S (by have:=q.cn x hxm y k;omega);have ht:=Dc hy;have B:L++Kb x=(L++(x.O.take c).map (·.S))++y.S::(x.O.drop (c+1)).map (·.S):=(by rw[A4p x hy];simp);simp only[Ap (ω:(c:Int)<(x.O.length:Int)),Ak,Bv rfl hy,Ad,b1,A4g q.sz d c hx hy hv q.len,C9 h ω];cases b with
  | false=>refine .inr ⟨.inl false,rfl,rfl,λhh=>?_⟩;have:=b2.2 (hh.1 y k).1;cases this
  | true=>
   simp only[Dz,Am];cases j:Fs g y.S with
   | true=>simp only[Ak,h3.get j];refine .inr ⟨.inl false,rfl,rfl,λhh=>?_⟩;rw[B]at hh;exact Arp hh.2 ((h3.2 _).1 j)
   | false=>
    simp only[Am];cases i:(decide (y.R.length<=6)&&y.R.all (R7 data d x.V)) with
    | false=>refine .inr ⟨.inl false,rfl,rfl,λhh=>?_⟩;have:=hh.1 y k;rw[this.2.2,Ap this.2.1]at i;cases i
    | true=>
     simp only[Ck,C8]at i;have A:y.S ∉ L++(x.O.take c).map (·.S):=λhh=>by rw[(h3.2 _).2 hh]at j;cases j
     have e:L++(x.O.take (c+1)).map (·.S)=(L++(x.O.take c).map (·.S))++[y.S]:=(by rw[ht];simp);refine .inl ⟨_,rfl,⟨c+1,rfl,ω,?_,?_,?_⟩,ζ⟩
     .intro D l;rw[ht]at l;rcases D7.1 l with h'|h'
      .exact h1 D h'
      .simp at h';subst h';exact⟨b2.1 rfl,i.1,i.2⟩
     .rw[e];exact Arq h2 A
     .rw[e];exact h3.put _
 .have:c=x.O.length:=ω;subst this;rw[Dh]at h1 h2 h3;exact .inr ⟨.inr ((x.O.length:Int),g),ψ,h1,h2,h3⟩
theorem A4r {data:List Aw} {d:Nat} {x:Aw} (hx:data[d]? = some x):data.flatMap Kb=((data.take d).flatMap Kb++Kb x)++(data.drop (d+1)).flatMap Kb/\data.map (·.S)=(data.take d).map (·.S)++x.S::(data.drop (d+1)).map (·.S):=by
 have h:=List.take_append_drop d data
 have hc:=E4 hx
 have e:data.drop d=x::data.drop (d+1):=by
  rw[List.drop_eq_getElem_cons hc]
  rw[Bx hc]at hx
  rw[Fj hx]
 constructor
 .conv=>lhs;rw[<-h,e]
  simp[List.flatMap_append]
 .conv=>lhs;rw[<-h,e]
  simp
theorem A4s {data:List Aw} (i:DSz data):∃b,Y0 data=some b/\(b=true↔Kc data):=by
 have E:=i.len;unfold Y0;rcases Cg 12 data.length with h12|h12
 .rw[Ap ω];exact⟨false,rfl,by simp;intro h;have:=h.1;omega⟩
 rw[Ax ω];simp only[Am];refine Ej (λ(v31,c,f)=>∃d:Nat,v31=d/\d<=data.length/\(∀j x,j<d->data[j]? = some x->Ajw data j x)/\((data.take d).map (·.S)).Nodup/\((data.take d).flatMap Kb).Nodup/\Lo c ((data.take d).map (·.S))/\Lo f ((data.take d).flatMap Kb)) (λ(v31,_,_)=>data.length-v31.toNat) (λz=>match z with|.inl r=>r=false/\¬Kc data | .inr _=>Kc data) ⟨0,rfl,ω,by intro j x h;omega,ψ,ψ,by simpa using Lo.nil,by simpa using Lo.nil⟩ ?_ ?_
 .rintro⟨v,c,f⟩ ⟨d,rfl,hd,h1,h2,h3,A,U⟩;rcases Cg d data.length with h|h
  .have hx:data[d]? = some data[d]:=Bx h;generalize data[d]=x at hx;have hxm:=Cf hx;obtain⟨b,b1,b2⟩:=Aro x.S (by have:=i.nm x hxm;omega);obtain⟨f1,f2⟩:=A4r hx;simp only[Ap (ω:(d:Int)<(data.length:Int)),Ak,Bv rfl hx,Ad,b1];have bad:∀(u:¬Ajw data d x),∃e:Bool⊕((List (ByteArray×Bool))×(List (ByteArray×Bool))),(some (Sum.inr (Sum.inl false)):Option ((Int×(List (ByteArray×Bool))×(List (ByteArray×Bool)))⊕(Bool⊕((List (ByteArray×Bool))×(List (ByteArray×Bool))))))=some (.inr e)/\(match e with|.inl r=>r=false/\¬Kc data | .inr _=>Kc data) :=
    λu=>⟨.inl false,rfl,rfl,λhh=>u (hh.2.1 d x hx)⟩
   cases b with
   | false=>exact .inr (bad λhh=>by have:=b2.2 hh.2.2.2.2.1;cases this)
   | true=>
    simp only[Dz,Am];cases g:Fs c x.S with
    | true=>simp only[Ak,A.get g,Ad];refine .inr ⟨.inl false,rfl,rfl,λhh=>?_⟩;have:=hh.2.2.1;rw[f2]at this;exact Arp this ((A.2 _).1 g)
    | false=>
     simp only[Am];by_cases l:x.V<0
     .simp only[Ap l,Ak,Ad];exact .inr (bad λhh=>by have:=hh.1;omega)
     by_cases s:x.V>6
     .simp only[Ax l,Ap s,Ak,Am,Ad];exact .inr (bad λhh=>by have:=hh.2.1;omega)
     simp only[Ax l,Ax s,Am,Ad];by_cases q:(x.O.length:Int)<1
     .simp only[Ap q,Ak,Ad];exact .inr (bad λhh=>by have:=hh.2.2.1;omega)
     by_cases y:(x.O.length:Int)>8
     .simp only[Ax q,Ap y,Ak,Am,Ad];exact .inr (bad λhh=>by have:=hh.2.2.2.1;omega)
     simp only[Ax q,Ax y,Am,Ad];obtain⟨z,J,z2⟩:=A4q i hx ω f _ U h3;rw[J,Ad]
     match z,z2 with
     | .inl r,z2=>obtain⟨rfl,z2⟩:=z2;refine .inr ⟨.inl false,rfl,rfl,λhh=>z2 ⟨(hh.2.1 d x hx).2.2.2.2.2,?_⟩⟩;have:=hh.2.2.2;rw[f1]at this;exact (List.nodup_append.1 this).1
     | .inr (v60,B),z2=>
      obtain⟨N,M,L⟩:=z2;have ht:=Dc hx;have D:x.S ∉ (data.take d).map (·.S):=λhh=>by rw[(A.2 _).2 hh]at g;cases g
      have I:(data.take (d+1)).map (·.S)=(data.take d).map (·.S)++[x.S]:=(by rw[ht];simp);have G:(data.take (d+1)).flatMap Kb=(data.take d).flatMap Kb++Kb x:=(by rw[ht];simp[List.flatMap_append]);refine .inl ⟨(((d+1:Nat):Int),Gc c x.S true,B),by simp only[C9 h ω],⟨d+1,rfl,ω,?_,?_,?_,?_,?_⟩,ζ⟩
      .intro j R S k;rcases Cg j d with h'|h'
       .exact h1 j R h' k
       .have:j=d:=ω;subst this;rw[hx]at k;cases k;exact⟨ω,ω,ω,ω,b2.1 rfl,N⟩
      .rw[I];exact Arq h2 D
      .rw[G];exact M
      .rw[I];exact A.put _
      .rw[G];exact L
  .have:d=data.length:=ω;subst this;rw[Dh]at h2 h3;exact .inr ⟨.inr (c,f),ψ,h12,λd x hx=>h1 d x (E4 hx) hx,h2,h3⟩
 .rintro (r|⟨o,o'⟩) i
  .obtain⟨rfl,i⟩:=i;exact⟨false,rfl,by simp[i]⟩
  .exact⟨true,rfl,by simpa using i⟩
theorem Ae7 {data:List Aw} (c:DSz data):∃b,Tj data=some b/\(b=true↔Kc data):=by obtain⟨b,h1,h2⟩:=A4s c;refine⟨b,?_,h2⟩;unfold Tj;rw[h1,Ad];cases b with| false=>rfl| true=>rfl
theorem SzD.args {data:List Aw} (h:SzD data) {x:Aw} (hx:x∈data) {y:Pz} (hy:y∈x.O) {t:Ah} (ht:t∈y.R):B5 t<=1048576/\t.R.length<=1048576/\y.R.length<=1048576:=by have h1:=(h x hx).2 y hy;have h3:=Ln ht;have f:=K4 t;have c:=N3 t.R;have b:=N3 y.R;omega
def isV (σ:List Ah) (k n:Int):Bool:=k==4&&decide (0<=n)&&decide (n<(σ.length:Int))
mutual
def Dy (σ:List Ah):Ah->Ah
 | ⟨k,n,l⟩=>match (if isV σ k n then σ[n.toNat]? else none) with
  | some s=>s
  | none=>⟨k,n,N4 σ l⟩
def N4 (σ:List Ah):List Ah->List Ah
 | []=>[]
 | x::xs=>Dy σ x::N4 σ xs
end
theorem Ajx (σ l:List Ah):N4 σ l=l.map (Dy σ):=by induction l with| nil=>rfl| cons x xs ih=>simp only[N4,ih,List.map_cons]
theorem Ae8 {σ:List Ah} {k n:Int} (h:isV σ k n=true):∃s,σ[n.toNat]? = some s/\Af σ n=some s/\s∈σ:=by simp only[isV,Ck,C8]at h;have b:n.toNat < σ.length:=ω;refine⟨σ[n.toNat],Bx b,?_,List.getElem_mem b⟩;unfold Af;rw[Ay ω,Bx b]
theorem Aau {σ:List Ah} {t s:Ah} (h:isV σ t.G t.U=true) (b:σ[t.U.toNat]? = some s):Dy σ t=s:=by cases t;simp only[Dy]at *;simp[h,b]
theorem Ae9 {σ:List Ah} {t:Ah} (h:isV σ t.G t.U=false):Dy σ t=⟨t.G,t.U,t.R.map (Dy σ)⟩:=by cases t;simp only[Dy]at *;simp[h,Ajx]
mutual
theorem Arr:∀t:Ah,Dy [] t=t
 | ⟨k,n,l⟩=>by
  have hv:isV [] k n=false:=by
   unfold isV
   by_cases h:0<=n
   .rw[Ax (by simp;omega:¬n<(([]:List Ah).length:Int))];simp
   .rw[Ax h];simp
  simp only[Dy,hv,Ars l];rfl
theorem Ars:∀l:List Ah,N4 [] l=l
 | []=>rfl
 | x::xs=>by simp only[N4,Arr x,Ars xs]
end
mutual
theorem Art (σ:List Ah) (M:Nat) (hM:1<=M) (hσ:∀s∈σ,B5 s<=M):∀t:Ah,B5 (Dy σ t)<=B5 t*M
 | ⟨k,n,l⟩=>by
  cases hv:isV σ k n with
  | true=>
   obtain⟨s,h1,_,h3⟩:=Ae8 hv
   rw[Aau (t:=⟨k,n,l⟩) hv h1]
   have:=hσ s h3
   have h2:=W7 ⟨k,n,l⟩
   calc B5 s<=1*M:=ω
    _<=_:=Nat.mul_le_mul_right M h2
  | false=>
   have:=Aru σ M hM hσ l
   simp only[Dy,hv,B5]
   simp only[Bool.false_eq_true,if_false,B5]
   rw[Nat.add_mul];omega
theorem Aru (σ:List Ah) (M:Nat) (hM:1<=M) (hσ:∀s∈σ,B5 s<=M):∀l:List Ah,Dd (N4 σ l)<=Dd l*M
 | []=>by simp[N4,Dd]
 | x::xs=>by
  have h1:=Art σ M hM hσ x
  have h2:=Aru σ M hM hσ xs
  simp only[N4,Dd]
  rw[Nat.add_mul];omega
end
theorem Arv (σ:List Ah) (t:Ah):(bif t.G==(4:Int) then bif decide (t.U>=(0:Int)) then some (decide (t.U<(σ.length:Int))) else some false else some false)=some (isV σ t.G t.U):=by unfold isV;cases t.G==4 <;> simp;by_cases h:0<=t.U <;> simp[h]
theorem A4t:∀(k:Nat) (t:Ah) (σ:List Ah) (M:Nat),(∀s∈σ,B5 s<=M)->B5 t+M+1<=k->k<1099511627776->Pu k t σ=some (Dy σ t):=by
 intro k;induction k with
 | zero=>intro t σ M _ h;omega
 | succ k ih=>
  intro t σ M b h hk;have f:=K4 t;have c:=N3 t.R;rw[Pu];rw[show (show OB from bif t.G==(4:Int) then bif decide (t.U>=(0:Int)) then some (decide (t.U<(σ.length:Int))) else some false else some false)=some (isV σ t.G t.U) from Arv σ t,Ad];cases hv:isV σ t.G t.U with
  | true=>obtain⟨s,h1,h2,h3⟩:=Ae8 hv;have:=b s h3;simp only[Ak,h2,Ad,Aau hv h1,ih s [] 0 ψ ω ω,Arr]
  | false=>
   rw[Ae9 hv];simp only[Am];refine Ho t.R (λj=>((j:Int),(t.R.take j).map (Dy σ))) rfl ω ?_ ?_
   .intro j x hj hx h1 h2 h3;have:=Ln (Cf hx);simp only[h1,h2,h3,Ak,Ad,ih x σ M b ω ω];rw[Dm ζ,Ad,Dc hx];simp
   .intro h1;exact⟨t.R.map (Dy σ),ψ,rfl⟩
theorem A4u:∀(k:Nat) (t:Ah),B5 t<=k->B5 t<1099511627776->Rj k t=some (B5 t:Int):=by
 intro k;induction k with
 | zero=>intro t h;have:=W7 t;omega
 | succ k ih=>
  intro t h ht;have b:=K4 t;have c:=N3 t.R;rw[Rj];refine Ho t.R (λj=>(1+(Dd (t.R.take j):Int),(j:Int))) rfl ω ?_ ?_
  .intro j x hj hx h1 h2 h3;have hm:=Ln (Cf hx);have f:=Ajs t.R (j+1);have e:Dd (t.R.take (j+1))=Dd (t.R.take j)+B5 x:=(by rw[Dc hx,Ae4];simp[Dd]);simp only[h1,h2,h3,Ak,Ad,ih x ω ω];rw[show Ac (1+(Dd (t.R.take j):Int)+(B5 x:Int))=1+(Dd (t.R.take (j+1)):Int) by rw[e,Ac,B3] <;> omega]
  .intro h1;exact⟨1+(Dd t.R:Int),ψ,by rw[b];simp⟩
theorem A4v (σ:List Ah) (M:Nat) (D:1<=M) (q:M<=1048576) (z:∀s∈σ,B5 s<=M):∀(k:Nat) (t:Ah),B5 t<=k->B5 t<=1048576 -> ∃v:Nat,Rk k t (σ.map λs=>(B5 s:Int))=some (v:Int)/\v<=B5 (Dy σ t)/\((v=B5 (Dy σ t))\/200<v):=by
 intro k;induction k with
 | zero=>intro t h;have:=W7 t;omega
 | succ k ih=>
  intro t h ht;have A:=K4 t;have y:=N3 t.R;have g:∀x,B5 x<=1048576->B5 (Dy σ x)<=1099511627776:=λx hx=>by have:=Art σ M D z x;have:B5 x*M<=1048576*1048576:=Nat.mul_le_mul hx q;omega
  rw[Rk];rw[show (show OB from bif t.G==(4:Int) then bif decide (t.U>=(0:Int)) then some (decide (t.U<((σ.map λs=>(B5 s:Int)).length:Int))) else some false else some false)=some (isV σ t.G t.U) by rw[Ix];exact Arv σ t,Ad];cases hv:isV σ t.G t.U with
  | true=>obtain⟨s,h1,h2,h3⟩:=Ae8 hv;have hi:Af (σ.map λs=>(B5 s:Int)) t.U=some (B5 s:Int):=(by have:=Hq h2;rw[Bv (n:=t.U.toNat) ω];simp[h1]);simp only[Ak,hi,Ad,Aau hv h1];exact⟨B5 s,rfl,Nat.le_refl _,.inl rfl⟩
  | false=>
   have u:=g t ht;rw[Ae9 hv]at u ⊢;simp only[Am];have f:B5 ⟨t.G,t.U,t.R.map (Dy σ)⟩=1+Dd (t.R.map (Dy σ)):=(by simp only[B5]);rw[f]at u ⊢;refine Aej (λv:Nat=>(v:Int)) (Ej (λ(n,i)=>∃j:Nat,i=j/\j<=t.R.length/\n=1+(Dd ((t.R.map (Dy σ)).take j):Int)) (λ(_,i)=>t.R.length-i.toNat) (λn=>∃v:Nat,n=v/\v<=1+Dd (t.R.map (Dy σ))/\(v=1+Dd (t.R.map (Dy σ))\/200<v)) ⟨0,rfl,ω,by simp[Dd]⟩ ?_ ?_)
   .rintro⟨n,i⟩ ⟨j,rfl,hj,l⟩;have l:n=_:=l;subst l;rcases Cg j t.R.length with h'|h'
    .have hx:t.R[j]? = some t.R[j]:=Bx h';generalize t.R[j]=x at hx;have hm:=Ln (Cf hx);obtain⟨v,b,v2,v3⟩:=ih x ω ω;have c:(t.R.map (Dy σ))[j]? = some (Dy σ x):=(by simp[hx]);have e:Dd ((t.R.map (Dy σ)).take (j+1))=Dd ((t.R.map (Dy σ)).take j)+B5 (Dy σ x):=(by rw[Dc c,Ae4];simp[Dd]);have B:=Ajs (t.R.map (Dy σ)) (j+1);have E:Ac (1+(Dd ((t.R.map (Dy σ)).take j):Int)+(v:Int))=((1+Dd ((t.R.map (Dy σ)).take j)+v:Nat):Int):=ξ;simp only[Ap (ω:(j:Int)<(t.R.length:Int)),Ak,Bv rfl hx,Ad,b,C9 h' ω,E];by_cases hb:1+Dd ((t.R.map (Dy σ)).take j)+v>200
     .rw[Ap ω];exact .inr ⟨_,rfl,_,rfl,ω,.inr hb⟩
     .rw[Ax ω];refine .inl ⟨_,rfl,⟨j+1,rfl,ω,?_⟩,ζ⟩;have:v=B5 (Dy σ x):=ω;subst this;rw[e];omega
    .have:j=t.R.length:=ω;subst this;refine .inr ⟨_,by simp;rfl,1+Dd (t.R.map (Dy σ)),?_,ω,.inl rfl⟩;rw[Iw ψ];omega
   .rintro n ⟨v,rfl,b,v2⟩;exact⟨_,rfl,v,rfl,b,v2⟩
def Jr (data:List Aw) (t:Ah) (c:Int):Option (List Ah) := if t.G=5 then match Af data t.U with
  | none=>none
  | some x=>if (t.R.length:Int)=x.V then match Af x.O c with
    | none=>none
    | some y=>if (y.R.map (Dy t.R)).all (λa=>decide (B5 a<=200)) then some (y.R.map (Dy t.R)) else none else none else none
def okL (o:Option (List Ah)):List Ah×Bool:=match o with|none=>([],false) | some l=>(l,true)
def Szv (data:List Aw):Prop:=∀x∈data,∀y∈x.O,y.R.length<=6/\∀a∈y.R,B5 a<=200
theorem Kc.szv {data:List Aw} (h:Kc data):Szv data:=by
 intro x hx y hy;obtain⟨d,hd⟩:=Gz hx;have h1:=h.2.1 d x hd;obtain⟨_,c,b⟩:=h1.2.2.2.2.2 y hy;refine⟨c,λa ha=>?_⟩;have:=D2.1 b a ha;unfold R7 at this;rw[Bool.or_eq_true]at this;rcases this with h'|h'
 .exact (Ajt hd h1.2.1 h').2
 .simp only[Ck,C8]at h';exact h'.2
theorem Afa {data:List Aw} (A:Szv data) (t:Ah) (ht:B5 t<=200) (c:Int):Ws data t c=some (okL (Jr data t c)):=by
 have B:=K4 t;have q:=N3 t.R;unfold Ws Jr;by_cases hk:t.G=5
 .simp only[Fc hk,Am,Ay hk];cases hx:Af data t.U with
  | none=>
   rcases Aao hx with h|h
   .simp only[Ap h,Ak,Ad,okL]
   .by_cases h':t.U<0
    .simp only[Ap h',Ak,Ad,okL]
    .simp only[Ax h',Ap (show t.U>=(data.length:Int) from h),Ak,Am,Ad,okL]
  | some x=>
   obtain⟨a1,a2,_,hxm⟩:=Hq hx;simp only[Ax (ω:¬t.U<0),Ax (ω:¬t.U>=(data.length:Int)),Am,Ad];by_cases hv:(t.R.length:Int)=x.V
   .simp only[Fc hv,Am,Ay hv];cases hy:Af x.O c with
    | none=>
     rcases Aao hy with h|h
     .simp only[Ap h,Ak,Ad,okL]
     .by_cases h':c<0
      .simp only[Ap h',Ak,Ad,okL]
      .simp only[Ax h',Ap (show c>=(x.O.length:Int) from h),Ak,Am,Ad,okL]
    | some y=>
     obtain⟨b1,b2,_,i⟩:=Hq hy;obtain⟨E,b⟩:=A x hxm y i;simp only[Ax (ω:¬c<0),Ax (ω:¬c>=(x.O.length:Int)),Am,Ad];rw[Ka (n:=t.R.length) (c:=t.R.length) rfl rfl ω ω ω,Ad];refine Ho t.R (λj=>((j:Int),((t.R.take j).map λs=>(B5 s:Int))++List.replicate (t.R.length-j) 0)) rfl ω ?_ ?_
     .intro j s hj g h1 h2 h3;have:=Ln (Cf g);obtain⟨m,hm⟩:∃m,t.R.length-j=m+1:=⟨t.R.length-j-1,ω⟩;have D:t.R.length-(j+1)=m:=ω;have k:j=((t.R.take j).map λs=>(B5 s:Int)).length:=ζ;simp only[h1,h2,h3,Ak,Ad,A4u 4000000 s ω ω,hm,D,List.replicate_succ,Aaq _ _ _ (j:Int) j rfl k,Aap _ _ _ _ (j:Int) j rfl k,Dc g];simp
     .intro h1;refine⟨t.R.map λs=>(B5 s:Int),ψ,?_⟩;have l:∀s∈t.R,B5 s<=200:=λs g=>by have:=Ln g;omega
      refine (Ky (rt:=(y.R.map (Dy t.R),true)) (rf:=([],false)) y.R (λa=>decide (B5 (Dy t.R a)<=200)) (λj=>(j:Int)) rfl ω ?_ ?_).trans ?_
      .intro j a ha h1 h2 h3;have z:=b a (Cf ha);obtain⟨v,u,v2,v3⟩:=A4v t.R 200 ω ω l 4000000 a ω ω;simp only[h1,h2,h3,Ak,Ad,u];by_cases hb:B5 (Dy t.R a)<=200
       .rw[Ap hb,Ax ω];exact⟨λ_=>rfl,λh=>by cases h⟩
       .rw[Ax hb,Ap ω];exact⟨nofun,λ_=>⟨_,rfl,rfl⟩⟩
      .intro h1;refine⟨.inr (),ψ,?_⟩;simp only;refine Ho y.R (λj=>((j:Int),(y.R.take j).map (Dy t.R))) rfl ω ?_ ?_
       .intro j a hj ha h1 h2 h3;have z:=b a (Cf ha);simp only[h1,h2,h3,Ak,Ad,A4t 4000000 a t.R 200 l ω ω];rw[Dm ζ,Ad,Dc ha];simp
       .intro h1;exact⟨y.R.map (Dy t.R),ψ,rfl⟩
      .rw[List.all_map];cases f:y.R.all ((λa=>decide (B5 a<=200)) ∘ Dy t.R) with| true=>rw[Ay rfl];rw[show (y.R.all λa=>decide (B5 (Dy t.R a)<=200))=true from f];rfl| false=>rw[show (y.R.all λa=>decide (B5 (Dy t.R a)<=200))=false from f];rfl
   .simp only[Ek hv,Ak,Ad,Av hv,okL]
 .simp only[Ek hk,Ak,Ad,Av hk,okL]
theorem A4w {data:List Aw} (b:Szv data) (t:Ah) (ht:B5 t<=200) (c:Int):Adj data t c=some (okL (Jr data t c)):=Afa b t ht c
theorem R9 {data:List Aw} {t:Ah} {c:Int} {l:List Ah} (h:Jr data t c=some l) : ∃x y,t.G=5/\Af data t.U=some x/\(t.R.length:Int)=x.V/\Af x.O c=some y/\l=y.R.map (Dy t.R)/\∀a∈l,B5 a<=200:=by
 unfold Jr at h;by_cases hk:t.G=5
 .rw[Ay hk]at h;cases hx:Af data t.U with
  | none=>rw[hx]at h;cases h
  | some x=>
   rw[hx]at h;simp only at h;by_cases hv:(t.R.length:Int)=x.V
   .rw[Ay hv]at h;cases hy:Af x.O c with
    | none=>rw[hy]at h;cases h
    | some y=>
     rw[hy]at h;simp only at h;by_cases b:(y.R.map (Dy t.R)).all (λa=>decide (B5 a<=200))=true
     .rw[Ay b]at h;cases h;refine⟨x,y,hk,rfl,hv,hy,rfl,λa ha=>?_⟩;have:=D2.1 b a ha;simpa using this
     .rw[Av b]at h;cases h
   .rw[Av hv]at h;cases h
 .rw[Av hk]at h;cases h
def G6 (l:List Ah) (r:List Bool):List Ah:=((l.zip r).filter λp=>!p.2).map (·.1)
def Ig (data:List Aw) (t:Ah) (c:Int):Option (List Ah):=(Jr data t c).map λl=>G6 l (Eb data t.U c)
theorem Aav {data:List Aw} {t:Ah} {c:Int} {l:List Ah} (h:Jr data t c=some l):(Eb data t.U c).length=l.length:=by obtain⟨x,y,_,hx,_,hy,rfl,_⟩:=R9 h;unfold Eb;simp only[hx,hy,Ix]
theorem Ajy {l:List Ah} {r:List Bool} {j:Nat} {a:Ah} {b:Bool} (h1:l[j]? = some a) (h2:r[j]? = some b):G6 (l.take (j+1)) (r.take (j+1))=G6 (l.take j) (r.take j)++bif b then [] else [a]:=by unfold G6;have f:=E4 h1;have c:=E4 h2;rw[Dc h1,Dc h2,List.zip_append ζ];cases b <;> simp
theorem Afb (l:List Ah) (r:List Bool):(G6 l r).length<=l.length:=by unfold G6;rw[Ix];refine Nat.le_trans (List.length_filter_le _ _) ?_;rw[List.length_zip];omega
theorem Afc {data:List Aw} (f:Szv data) (i:O0 data) (t:Ah) (ht:B5 t<=200) (c:Int):Wi data t c=some (okL (Ig data t c)):=by
 unfold Wi Ig;rw[Afa f t ht c,Ad];cases g:Jr data t c with
 | none=>rfl
 | some l=>
  have k:=Aav g;obtain⟨x,y,_,hx,_,hy,s,_⟩:=R9 g;obtain⟨h,_⟩:=f x (Hq hx).2.2.2 y (Hq hy).2.2.2;have q:l.length<=6:=(by rw[s];simpa using h);simp only[okL,Dz,Am,Aar data t.U c i,Ad,Option.map_some];refine Ho (Eb data t.U c) (λj=>((j:Int),G6 (l.take j) ((Eb data t.U c).take j))) (by simp[G6]) ω ?_ ?_
  .intro j b hj hb h1 h2 h3;have ha:l[j]? = some l[j]:=Bx ω;generalize l[j]=a at ha;have u:=Afb (l.take j) ((Eb data t.U c).take j);have:(l.take j).length<=6:=ζ;simp only[h1,h2,h3,Ak,Ad,Bv rfl ha,Ajy ha hb];rw[Dm ζ];cases b <;> simp
  .intro h1;refine⟨G6 l (Eb data t.U c),?_,rfl⟩;simp only[h1];rw[Iw ω,Iw (Nat.le_refl _)];rfl
def Ih (r:List Bool):List Int:=(r.zipIdx.filter λp=>!p.1).map λp=>(p.2:Int)
theorem A4x {r:List Bool} {j:Nat} {b:Bool} (h:r[j]? = some b):(r.take (j+1)).zipIdx=(r.take j).zipIdx++[(b,j)]:=by have:=E4 h;rw[Dc h,List.zipIdx_append];simp;omega
theorem Ajz {data:List Aw} {t:Ah} {c:Int} {l:List Ah} (h:Ig data t c=some l):(∀a∈l,B5 a<=200)/\∃x,Af data t.U=some x/\0<=c/\c<x.O.length:=by unfold Ig at h;cases b:Jr data t c with| none=>rw[b]at h;cases h| some m=>rw[b]at h;cases h;obtain⟨x,y,_,hx,_,hy,_,g⟩:=R9 b;refine⟨λa ha=>?_,x,hx,(Hq hy).1,(Hq hy).2.1⟩;unfold G6 at ha;obtain⟨p,f,rfl⟩:=List.mem_map.1 ha;exact g _ (List.of_mem_zip (List.mem_filter.1 f).1).1
mutual
def Dl:Bj->Nat
 | ⟨_,l⟩=>1+Gj l
def Gj:List Bj->Nat
 | []=>0
 | x::xs=>Dl x+Gj xs
end
theorem Hc (t:Bj):Dl t=1+Gj t.K:=by cases t;simp only[Dl]
theorem Md {l:List Bj} {a:Bj} (h:a∈l):Dl a<=Gj l:=by
 induction l with
 | nil=>cases h
 | cons x xs ih=>
  simp only[Gj];rcases Fx.1 h with rfl|h
  .omega
  .have:=ih h;omega
theorem P4 (l:List Bj):l.length<=Gj l:=by induction l with| nil=>simp| cons x xs ih=>simp only[Gj,Ei];have:=Hc x;omega
mutual
def G1 (data:List Aw):Bj->Ah->Option Nat
 | ⟨n,kids⟩,t=>
  if t.G=6 then (if n=0 then D0 data kids t.R else none)
  else if t.G=7 then (if 0<=n/\n<=6/\kids.length=0 then some n.toNat else none)
  else if t.G=5 then (if n=0 then Ib data kids t else none)
  else if n=0/\kids.length=0 then some 0 else none
def D0 (data:List Aw):List Bj->List Ah->Option Nat
 | [],[]=>some 0
 | i::is,t::ts=>(G1 data i t).bind λa=>(D0 data is ts).map (a + ·)
 | [],_::_=>none
 | _::_,[]=>none
def Ib (data:List Aw):List Bj->Ah->Option Nat
 | [],_=>some 0
 | ⟨n,kids⟩::es,t=>(Ig data t n).bind λts=>(D0 data kids ts).bind λa=>(Ib data es t).map (1+a + ·)
end
theorem Aaw (data:List Aw) (i:Bj) (t:Ah):G1 data i t=if t.G=6 then (if i.U=0 then D0 data i.K t.R else none) else if t.G=7 then (if 0<=i.U/\i.U<=6/\i.K.length=0 then some i.U.toNat else none) else if t.G=5 then (if i.U=0 then Ib data i.K t else none) else if i.U=0/\i.K.length=0 then some 0 else none:=by cases i;simp only[G1]
theorem Afd (data:List Aw) (e:Bj) (es:List Bj) (t:Ah):Ib data (e::es) t=(Ig data t e.U).bind λts=>(D0 data e.K ts).bind λa=>(Ib data es t).map (1+a + ·):=by cases e;simp only[Ib]
theorem Sa (data:List Aw) (i:Bj) (b:List Bj) (t:Ah) (ts:List Ah):D0 data (i::b) (t::ts)=(G1 data i t).bind λa=>(D0 data b ts).map (a + ·):=by simp only[D0]
theorem Aj0 (data:List Aw):∀(b:List Bj) (ts:List Ah),ts.length≠b.length->D0 data b ts=none
 | [],[],h=>absurd rfl h
 | i::b,t::ts,h=>by rw[Sa,Aj0 data b ts (by simpa using h)];cases G1 data i t <;> rfl
 | [],_::_,_=>by simp only[D0]
 | _::_,[],_=>by simp only[D0]
def Kd (o:Option Nat):Int:=match o with|some d=>if d<=6 then (d:Int) else -1|none => -1
theorem Afe {d:Nat} (h:d<=6):Kd (some d)=d:=by simp[Kd,h]
theorem Aj1 {d:Nat} (h:6<d):Kd (some d) = -1:=by simp only[Kd];rw[Av ω]
theorem Arw (o:Option Nat):(Kd o = -1/\∀d,o=some d->6<d)\/∃d,o=some d/\d<=6/\Kd o=d:=by
 cases o with
 | none=>exact .inl ⟨rfl,λd h=>by cases h⟩
 | some d=>
  rcases Cg 6 d with h|h
  .exact .inl ⟨Aj1 h,λe b=>by cases b;exact h⟩
  .exact .inr ⟨d,rfl,h,Afe h⟩
theorem Arx {o:Option Nat} (h:∀d,o=some d->6<d):Kd o = -1:=by cases o with| none=>rfl| some d=>exact Aj1 (h d rfl)
def Pr (p:Int×Bool) (o:Option Nat):Prop:=(p.2=true/\∃d:Nat,o=some d/\d<=6/\p.1=d)\/(p.2=false/\∀d,o=some d->6<d)
theorem Js {α:Type} {l:List α} {j:Nat} {x:α} (h:l[j]? = some x):l.drop j=x::l.drop (j+1):=by have hj:=E4 h;rw[List.drop_eq_getElem_cons hj];rw[Bx hj]at h;rw[Fj h]
theorem A4y {data:List Aw} (M:Szv data) (N:O0 data):∀k:Nat, (∀(i:Bj) (t:Ah),2*Dl i<=k->Dl i<=1048576->B5 t<=200->∃p,Rl k data t i=some p/\Pr p (G1 data i t)) /\ (∀(c:List Bj) (ts:List Ah),2*Gj c+1<=k->Gj c<=1048576->(∀t∈ts,B5 t<=200)->∃p,Rr k data ts c=some p/\Pr p (D0 data c ts)):=by
 intro k;induction k with
 | zero=>exact⟨λi t h=>by have:=Hc i;omega,λc ts h=>ω⟩
 | succ k ih=>
  obtain⟨Z,J⟩:=ih;constructor
  .intro i t hk hi ht;have a8:=Hc i;have a6:=P4 i.K;rw[Rl,Aaw];by_cases U:t.G=6
   .simp only[Dk U,Ak,Ay U];by_cases h0:i.U=0
    .simp only[Fc h0,Am,Ay h0];obtain⟨p,p1,p2⟩:=J i.K t.R ω ω (λa ha=>by have:=Ln ha;have:=K4 t;omega);rw[p1];exact⟨p,rfl,p2⟩
    .simp only[Ek h0,Ak,Av h0];exact⟨_,rfl,.inr ⟨rfl,λd h=>by cases h⟩⟩
   .simp only[Cn U,Am,Av U];by_cases R:t.G=7
    .simp only[Dk R,Ak,Ay R];by_cases a1:0<=i.U
     .by_cases a2:i.U<=6
      .by_cases a3:i.K.length=0
       .rw[Ap (show i.U>=0 from a1),Ap a2,Ay ⟨a1,a2,a3⟩];exact⟨_,rfl,.inl ⟨by simp[a3],i.U.toNat,rfl,ω,ζ⟩⟩
       .rw[Ap (show i.U>=0 from a1),Ap a2,Av (λh=>a3 h.2.2)];exact⟨_,rfl,.inr ⟨Cn ω,λd h=>by cases h⟩⟩
      .rw[Ap (show i.U>=0 from a1),Ax a2,Av (λh=>a2 h.2.1)];exact⟨_,rfl,.inr ⟨rfl,λd h=>by cases h⟩⟩
     .rw[Ax (show ¬i.U>=0 from a1),Av (λh=>a1 h.1)];exact⟨_,rfl,.inr ⟨rfl,λd h=>by cases h⟩⟩
    .simp only[Cn R,Am,Av R];by_cases V:t.G=5
     .simp only[Dk V,Ak,Ay V];by_cases h0:i.U=0
      .simp only[Fc h0,Am,Ay h0];have key:∀(m j acc:Nat),j+m=i.K.length->acc<=6->∃z,An (S:=(Int×Int)) (E:=((Int×Bool)⊕Int)) (λ(v8,v9)=>
         bif v9<(i.K.length:Int) then ((Af i.K v9).bind λx=> (Wi data t x.U).bind λv12=> bif (!v12.2) then some (.inr (.inl (0,false))) else ((Rr k data v12.1 x.K).bind λD=> bif (!D.2) then some (.inr (.inl (0,false))) else (bif (Ac (v8+(Ac (1+D.1))))>(6:Int) then some (.inr (.inl (0,false))) else some (.inl ((Ac (v8+(Ac (1+D.1)))),(Ac (v9+1))))))) else some (.inr (.inr v8))) ((acc:Int),(j:Int))=some z/\(match z with|.inl p=>p=(0,false)/\∀d,(Ib data (i.K.drop j) t).map (acc + ·)=some d->6<d | .inr v=>∃d:Nat,(Ib data (i.K.drop j) t).map (acc + ·)=some d/\d<=6/\v=d):=by
        intro m;induction m with
        | zero=>intro j acc hj g;have:j=i.K.length:=ω;subst this;exact⟨.inr (acc:Int),D5 ψ,acc,by simp[Ib],g,rfl⟩
        | succ m y=>
         intro j acc hj g;have f:i.K[j]? = some i.K[j]:=Bx ω;generalize i.K[j]=e at f;have a7:=Md (Cf f);have aa:=Hc e;rw[Js f,Afd];cases hp:Ig data t e.U with
         | none=>refine⟨.inl (0,false),D5 ?_,rfl,λd h=>by simp at h⟩;simp only[Ap (ω:(j:Int)<(i.K.length:Int)),Ak,Bv rfl f,Ad,Afc M N t ht e.U,hp,okL,Bool.not_false]
         | some ts=>
          obtain⟨q,I,l⟩:=J e.K ts ω ω (Ajz hp).1;rcases l with⟨l,a,A,q4,Y⟩|⟨l,A⟩
          .have X:Ac ((acc:Int)+Ac (1+q.1))=((acc+(1+a):Nat):Int):=(by rw[Y,show Ac (1+(a:Int))=((1+a:Nat):Int) by rw[Ac,B3] <;> omega,Ac,B3] <;> omega);by_cases hb:acc+(1+a)<=6
           .obtain⟨z,s,z2⟩:=y (j+1) (acc+(1+a)) ω hb;refine⟨z,?_,?_⟩
            .rw[Ir (s':=(((acc+(1+a):Nat):Int),((j+1:Nat):Int)))]
             .exact s
             .simp only[Ap (ω:(j:Int)<(i.K.length:Int)),Ak,Bv rfl f,Ad,Afc M N t ht e.U,hp,okL,Dz,Am,I,l,X,Ax (ω:¬((acc+(1+a):Nat):Int)>6),C9 (show j<i.K.length by omega) ω]
            .have G:∀o:Option Nat,(((some a:Option Nat).bind λa=>o.map (1+a + ·)).map (acc + ·))=o.map (acc+(1+a) + ·):=(by intro o;cases o <;> simp[Nat.add_assoc]);rw[Ad,A,G];exact z2
           .refine⟨.inl (0,false),D5 ?_,rfl,λd h=>?_⟩
            .simp only[Ap (ω:(j:Int)<(i.K.length:Int)),Ak,Bv rfl f,Ad,Afc M N t ht e.U,hp,okL,Dz,Am,I,l,X,Ap (ω:((acc+(1+a):Nat):Int)>6)]
            .rw[Ad,A,Ad]at h;cases B:Ib data (i.K.drop (j+1)) t with| none=>rw[B]at h;cases h| some b=>rw[B]at h;simp at h;omega
          .refine⟨.inl (0,false),D5 ?_,rfl,λd h=>?_⟩
           .simp only[Ap (ω:(j:Int)<(i.K.length:Int)),Ak,Bv rfl f,Ad,Afc M N t ht e.U,hp,okL,Dz,Am,I,l,Bool.not_false]
           .rw[Ad]at h;cases ha:D0 data e.K ts with
            | none=>rw[ha]at h;cases h
            | some a=>rw[ha,Ad]at h;have:=A a ha;cases B:Ib data (i.K.drop (j+1)) t with| none=>rw[B]at h;cases h| some b=>rw[B]at h;simp at h;omega
       obtain⟨z,s,z2⟩:=key i.K.length 0 0 ω ω;have s:An _ ((0:Int),(0:Int))=some z:=s;rw[s,Ad];have G:∀o:Option Nat,o.map (0 + ·)=o:=(by intro o;cases o <;> simp);rw[List.drop_zero,G]at z2
       match z,z2 with| .inl p,z2=>exact⟨_,rfl,.inr ⟨by rw[z2.1],z2.2⟩⟩| .inr v,z2=>obtain⟨d,d1,d2,d3⟩:=z2;exact⟨_,rfl,.inl ⟨rfl,d,d1,d2,d3⟩⟩
      .simp only[Ek h0,Ak,Av h0];exact⟨_,rfl,.inr ⟨rfl,λd h=>by cases h⟩⟩
     .simp only[Cn V,Am,Av V];by_cases h0:i.U=0
      .simp only[Dk h0,Ak];by_cases a3:i.K.length=0
       .rw[Ay ⟨h0,a3⟩];exact⟨_,rfl,.inl ⟨by simp[a3],0,rfl,ω,rfl⟩⟩
       .rw[Av (λh=>a3 h.2)];exact⟨_,rfl,.inr ⟨Cn ω,λd h=>by cases h⟩⟩
      .simp only[Cn h0,Am];rw[Av (λh=>h0 h.1)];exact⟨_,rfl,.inr ⟨rfl,λd h=>by cases h⟩⟩
  .intro c ts hk hi ht;have a6:=P4 c;rw[Rr];by_cases hl:ts.length=c.length
   .rw[Fc ω];simp only[Am];have key:∀(m j acc:Nat),j+m=c.length->acc<=6*j->∃z,An (S:=(Int×Int)) (E:=((Int×Bool)⊕Int)) (λ(v5,L)=>
      bif L<(ts.length:Int) then ((Af ts L).bind λv7=> (Af c L).bind λv9=> (Rl k data v7 v9).bind λx=> bif (!x.2) then some (.inr (.inl (0,false))) else some (.inl ((Ac (v5+x.1)),(Ac (L+1))))) else some (.inr (.inr v5))) ((acc:Int),(j:Int))=some z/\(match z with|.inl p=>p=(0,false)/\∀d,(D0 data (c.drop j) (ts.drop j)).map (acc + ·)=some d->6<d | .inr v=>∃d:Nat,(D0 data (c.drop j) (ts.drop j)).map (acc + ·)=some d/\v=d):=by
     intro m;induction m with
     | zero=>intro j acc hj g;have:j=ts.length:=ω;subst this;refine⟨.inr (acc:Int),D5 ψ,acc,?_,rfl⟩;rw[List.drop_of_length_le ω,List.drop_of_length_le ω];simp[D0]
     | succ m y=>
      intro j acc hj g;have f:c[j]? = some c[j]:=Bx ω;generalize c[j]=e at f;have hu:ts[j]? = some ts[j]:=Bx ω;generalize ts[j]=u at hu;have a7:=Md (Cf f);rw[Js f,Js hu,Sa];obtain⟨q,I,l⟩:=Z e u ω ω (ht u (Cf hu));rcases l with⟨l,a,A,q4,Y⟩|⟨l,A⟩
      .have X:Ac ((acc:Int)+q.1)=((acc+a:Nat):Int):=(by rw[Y,Ac,B3] <;> omega);obtain⟨z,s,z2⟩:=y (j+1) (acc+a) ω ω;refine⟨z,?_,?_⟩
       .rw[Ir (s':=(((acc+a:Nat):Int),((j+1:Nat):Int)))]
        .exact s
        .simp only[Ap (ω:(j:Int)<(ts.length:Int)),Ak,Bv rfl f,Bv rfl hu,Ad,Dz,Am,I,l,X,C9 (show j<c.length by omega) ω]
       .have G:∀o:Option Nat,(((some a:Option Nat).bind λa=>o.map (a + ·)).map (acc + ·))=o.map (acc+a + ·):=(by intro o;cases o <;> simp[Nat.add_assoc]);rw[A,G];exact z2
      .refine⟨.inl (0,false),D5 ?_,rfl,λd h=>?_⟩
       .simp only[Ap (ω:(j:Int)<(ts.length:Int)),Ak,Bv rfl f,Bv rfl hu,Ad,I,l,Bool.not_false]
       .cases ha:G1 data e u with
        | none=>rw[ha]at h;cases h
        | some a=>rw[ha,Ad]at h;have:=A a ha;cases B:D0 data (c.drop (j+1)) (ts.drop (j+1)) with| none=>rw[B]at h;cases h| some b=>rw[B]at h;simp at h;omega
    obtain⟨z,s,z2⟩:=key c.length 0 0 ω ω;have s:An _ ((0:Int),(0:Int))=some z:=s;rw[s,Ad];have G:∀o:Option Nat,o.map (0 + ·)=o:=(by intro o;cases o <;> simp);rw[List.drop_zero,List.drop_zero,G]at z2
    match z,z2 with
    | .inl p,z2=>exact⟨_,rfl,.inr ⟨by rw[z2.1],z2.2⟩⟩
    | .inr v,z2=>
     obtain⟨d,d1,d3⟩:=z2;by_cases hd:d<=6
     .exact⟨_,rfl,.inl ⟨Ap ω,d,d1,hd,d3⟩⟩
     .exact⟨_,rfl,.inr ⟨Ax ω,λe f=>by rw[d1]at f;cases f;omega⟩⟩
   .rw[Ek ω,Aj0 data c ts hl];exact⟨_,rfl,.inr ⟨rfl,λd h=>by cases h⟩⟩
theorem Kc.cons8 {data:List Aw} (h:Kc data):∀x∈data,x.O.length<=8:=by intro x hx;obtain⟨d,hd⟩:=Gz hx;exact (h.2.1 d x hd).2.2.2.1
end Go.Ab
