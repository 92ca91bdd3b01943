/- Plain laws: what the plain functions answer. -/
import Derived.Test.YthhfdmfhkfdfkaaGreatDoorPePl0
namespace Go.Ab
open Go Ieee
theorem Av8 (n d:Nat):∃c,Toward.even.cut false n d=c/\(n / 2 ^ d<=c)/\c<=n / 2 ^ d+1/\(n % 2 ^ d=0->c=n / 2 ^ d):=by
 refine ⟨_,rfl,?_⟩;unfold Toward.cut;simp only [Nat.shiftLeft_eq,Nat.one_mul];by_cases hd:d<=n.log2+2
 .rw [Nat.min_eq_left hd];generalize h2:2 ^ d=g;have h:0<g:=(by rw [<-h2]; exact Nat.pow_pos δ);refine ⟨ω,?_,λh0=>?_⟩
  .have:=Bool.toNat_le (decide (g<2*(n % g))||(g==2*(n % g)&&n / g % 2==1))
   omega
  .rw [h0];have h1:decide (g<2*0)=false:=ψ;have h3:(g==2*0)=false:=(by simp; omega);rw [h1,h3]; rfl
 .rw [Nat.min_eq_right ω];have b:n<2 ^ (n.log2+1):=Nat.lt_log2_self;have h:2 ^ (n.log2+2)=2*2 ^ (n.log2+1):=(by rw [Nat.pow_succ]; omega);have f:2 ^ (n.log2+2)<=2 ^ d:=Nat.pow_le_pow_right δ ω;have k:n / 2 ^ (n.log2+2)=0:=Nat.div_eq_of_lt ω;have e2:n % 2 ^ (n.log2+2)=n:=Nat.mod_eq_of_lt ω;have j:n / 2 ^ d=0:=Nat.div_eq_of_lt ω;have i:n % 2 ^ d=n:=Nat.mod_eq_of_lt ω;rw [k,e2,j,i];have h1:decide (2 ^ (n.log2+2)<2*n)=false:=(by simp; omega);have h3:(2 ^ (n.log2+2)==2*n)=false:=(by simp; omega);rw [h1,h3];exact ⟨ψ,ψ,λ_=>rfl⟩
theorem Ty (f:Nat) (place e:Int) (u:f≠0) (E:place+f.log2=e) (h1 : -1000<=e) (h2:e<=900) : ∃(m:Nat) (p:Int),double.read (double.nearest false f place) = .number false m p/\4503599627370496<=m/\m<9007199254740992/\(p=e-52\/(p=e-51/\m=4503599627370496)):=by
 have g:max (place+f.log2-(double.fractionBits:Int)) double.leastPlace=e-52:=by have a:(double.fractionBits:Int)=52:=rfl;have b:double.leastPlace = -1074:=δ;rw [a,b,E]; omega
 have hw:double.nearest false f place=min ((e-52+1074).toNat*4503599627370496+Toward.even.cut false (f <<< (place-(e-52)).toNat) ((e-52)-place).toNat) (2047*4503599627370496):=by unfold Format.nearest;rw [if_neg u];simp only [g];have b:double.leastPlace = -1074:=δ;have c:double.binade=4503599627370496:=δ;have d:double.infRung=2047*4503599627370496:=δ;rw [b,c,d];unfold Format.word;simp only [Bool.false_eq_true,if_false];congr 3
 have hk:4503599627370496<=Toward.even.cut false (f <<< (place-(e-52)).toNat) ((e-52)-place).toNat/\Toward.even.cut false (f <<< (place-(e-52)).toNat) ((e-52)-place).toNat<=9007199254740992:=by
  obtain ⟨c,hc,s,q,i⟩:=Av8 (f <<< (place-(e-52)).toNat) ((e-52)-place).toNat;rw [hc];have D:2 ^ f.log2<=f:=Nat.log2_self_le u;have B:f<2 ^ (f.log2+1):=Nat.lt_log2_self;rw [Nat.shiftLeft_eq] at s q i;rcases Int.le_total place (e-52) with h | h
  .have z:(place-(e-52)).toNat=0:=ω;rw [z,Nat.pow_zero,Nat.mul_one] at s q i;have hd:f.log2=52+((e-52)-place).toNat:=ω;have hp:2 ^ f.log2=4503599627370496*2 ^ ((e-52)-place).toNat:=(by rw [hd,Nat.pow_add]);have l:2 ^ (f.log2+1)=9007199254740992*2 ^ ((e-52)-place).toNat:=(by rw [Nat.pow_succ,hp]; omega);have hpos:0<2 ^ ((e-52)-place).toNat:=Nat.pow_pos δ;have a1:4503599627370496<=f / 2 ^ ((e-52)-place).toNat:=(Nat.le_div_iff_mul_le hpos).2 ω;have a2:f / 2 ^ ((e-52)-place).toNat<9007199254740992:=(Nat.div_lt_iff_lt_mul hpos).2 ω;omega
  .have z:((e-52)-place).toNat=0:=ω;rw [z,Nat.pow_zero,Nat.div_one] at s q i;have I:=i (Nat.mod_one _);have hd:52=f.log2+(place-(e-52)).toNat:=ω;have hp:2 ^ f.log2*2 ^ (place-(e-52)).toNat=4503599627370496:=(by rw [<-Nat.pow_add,<-hd]);have l:2 ^ (f.log2+1)*2 ^ (place-(e-52)).toNat=9007199254740992:=(by rw [Nat.pow_succ,Nat.mul_right_comm,hp]);have hpos:0<2 ^ (place-(e-52)).toNat:=Nat.pow_pos δ;have a1:=Nat.mul_le_mul_right (2 ^ (place-(e-52)).toNat) D;have a2:=Nat.mul_lt_mul_of_pos_right B hpos;omega
 generalize Toward.even.cut false (f <<< (place-(e-52)).toNat) ((e-52)-place).toNat=c at *;obtain ⟨t,ht⟩:∃t:Nat,(e-52+1074).toNat=t/\t<=1922/\(t:Int)=e+1022:=⟨_,rfl,ω,ω⟩;rw [ht.1] at hw;rw [Nat.min_eq_left ω] at hw;rw [hw];have b:double.leastPlace = -1074:=δ;have G:double.binade=4503599627370496:=δ;have d:double.infRung=2047*4503599627370496:=δ;have x:double.signWeight=9223372036854775808:=δ;unfold Format.read;rw [b,G,d,x];have A:(t*4503599627370496+c) / 9223372036854775808=0:=Nat.div_eq_of_lt ω;have y:(t*4503599627370496+c) % 9223372036854775808=t*4503599627370496+c:=Nat.mod_eq_of_lt ω;simp only [A,y];rw [if_neg ω,if_pos ω];by_cases hc:c<9007199254740992
 .refine ⟨c,e-52,?_,hk.1,hc,.inl rfl⟩;have k:(t*4503599627370496+c) % 4503599627370496=c-4503599627370496:=ω;have j:(t*4503599627370496+c) / 4503599627370496=t+1:=ω;rw [k,j,show 4503599627370496+(c-4503599627370496)=c by omega,show (-1074:Int)+((t+1-1:Nat):Int)=e-52 by omega]; rfl
 .have hc:c=9007199254740992:=ω;subst hc;refine ⟨4503599627370496,e-51,?_,δ,δ,.inr ⟨rfl,rfl⟩⟩;have k:(t*4503599627370496+9007199254740992) % 4503599627370496=0:=ω;have j:(t*4503599627370496+9007199254740992) / 4503599627370496=t+2:=ω;rw [k,j,Nat.add_zero,show (-1074:Int)+((t+2-1:Nat):Int)=e-51 by omega]; rfl
theorem Afz (v:Int) (h:0<=v):floatOfInt .f64 v=double.nearest false v.natAbs 0:=by have e:decide (v<0)=false:=Aq ω;show double.nearest (decide (v<0)) v.natAbs 0=_;rw [e]
theorem Av9:double.read 4876203697187506176 = .number false 7812500000000000 7:=δ
theorem Aa7 {n k:Nat} (h1:2 ^ k<=n) (h2:n<2 ^ (k+1)):n.log2=k:=(Nat.log2_eq_iff (by have:=Nat.pow_pos (n:=k) (show 0<2 by decide); omega)).2 ⟨h1,h2⟩
theorem Xe {n k:Nat} (h:n<2 ^ (k+1)):n.log2<=k:=by
 by_cases h0:n=0
 .subst h0; simp
 .have:=(Nat.log2_lt h0).2 h; omega
theorem Af0 {n k:Nat} (h:2 ^ k<=n):k<=n.log2:=(Nat.le_log2 (by have:=Nat.pow_pos (n:=k) (show 0<2 by decide); omega)).2 h
theorem Awa (x:Int) (h0:1<=x) (h1:x<1000000000):∃(w:Nat) (m:Nat) (p:Int),floatBits .mul .f64 (floatOfInt .f64 x) 4876203697187506176=some w/\double.read w = .number false m p/\4503599627370496<=m/\m<9007199254740992/\7<=p/\(p<=37\/(p=38/\m=4503599627370496)):=by
 have l:x.natAbs.log2<=29:=Xe (by simp; omega);obtain ⟨m1,b,g,a1,a2,a3⟩:=Ty x.natAbs 0 (x.natAbs.log2) ω ω ω ω;have c:(m1*7812500000000000).log2=104\/((m1*7812500000000000).log2=105/\m1≠4503599627370496):=by
  have b1:2 ^ 104<=m1*7812500000000000:=ω;have b2:m1*7812500000000000<2 ^ 106:=ω;rcases Nat.lt_or_ge (m1*7812500000000000) (2 ^ 105) with h | h
  .exact .inl (Aa7 b1 h)
  .exact .inr ⟨Aa7 h b2,by rintro rfl; omega⟩
 obtain ⟨m2,i,f,k,j,q⟩:=Ty (m1*7812500000000000) (b+7) (b+7+(m1*7812500000000000).log2) ω rfl ω ω;refine ⟨double.nearest false (m1*7812500000000000) (b+7),m2,i,?_,f,k,j,ω,ω⟩;show ((double.read (floatOfInt .f64 x)).product (double.read 4876203697187506176)).map double.write=_;rw [Afz x ω,g,Av9]; rfl
theorem Awb (w:Nat) (m:Nat) (p:Int) (hw:double.read w = .number false m p) (M:4503599627370496<=m) (L:m<9007199254740992) (I:7<=p) (j:p<=37\/(p=38/\m=4503599627370496)) (y:Int) (h0:0<=y) (h1:y<1000000000000000000) : ∃(w':Nat) (g:Nat) (f:Int),floatBits .add .f64 w (floatOfInt .f64 y)=some w'/\double.read w' = .number false g f/\4503599627370496<=g/\g<9007199254740992/\7<=f/\f<=39:=by
 obtain ⟨c,b,x,V,U⟩:∃(c:Nat) (b:Int),double.read (floatOfInt .f64 y) = .number false c b/\b<=8/\c<9007199254740992/\-1074<=b:=by
  rw [Afz y h0];by_cases hy:y.natAbs=0
  .rw [hy]; exact ⟨0,-1074,δ,δ,δ,δ⟩
  .have Z:y.natAbs.log2<=59:=Xe (by simp; omega);obtain ⟨m1,D,A,a1,a2,a3⟩:=Ty y.natAbs 0 (y.natAbs.log2) hy ω ω ω;exact ⟨m1,D,A,ω,a2,ω⟩
 generalize hb:min p b=base;have ht:∃T:Nat,signed false m (p-base).toNat+signed false c (b-base).toNat=(T:Int)/\T=m*2 ^ (p-base).toNat+c*2 ^ (b-base).toNat:=by refine ⟨m <<< (p-base).toNat+c <<< (b-base).toNat,rfl,by rw [Nat.shiftLeft_eq,Nat.shiftLeft_eq]⟩
 obtain ⟨T,t1,t2⟩:=ht;have G:0<2 ^ (p-base).toNat:=Nat.pow_pos δ;have i:2 ^ (b-base).toNat<=2 ^ (8-base).toNat:=Nat.pow_le_pow_right δ ω;have J:m*2 ^ (p-base).toNat<=2 ^ (90-base).toNat:=by
  rcases j with h | ⟨rfl,rfl⟩
  .have e:2 ^ (90-base).toNat=2 ^ (p-base).toNat*2 ^ (90-p).toNat:=(by rw [<-Nat.pow_add]; congr 1; omega);have e2:2 ^ 53<=2 ^ (90-p).toNat:=Nat.pow_le_pow_right δ ω;rw [e,Nat.mul_comm];exact Nat.mul_le_mul_left _ ω
  .have e:2 ^ (90-base).toNat=2 ^ (38-base).toNat*2 ^ 52:=(by rw [<-Nat.pow_add]; congr 1; omega);rw [e,Nat.mul_comm]; omega
 have E:c*2 ^ (b-base).toNat<2 ^ (90-base).toNat:=by have e:2 ^ (90-base).toNat=2 ^ (8-base).toNat*2 ^ 82:=(by rw [<-Nat.pow_add]; congr 1; omega);have e3:c*2 ^ (b-base).toNat<=c*2 ^ (8-base).toNat:=Nat.mul_le_mul_left _ i;have N:0<2 ^ (8-base).toNat:=Nat.pow_pos δ;have e5:c*2 ^ (8-base).toNat<2 ^ 82*2 ^ (8-base).toNat:=Nat.mul_lt_mul_of_pos_right ω N;rw [e,Nat.mul_comm (2 ^ (8-base).toNat)]; omega
 have s:T<2 ^ ((90-base).toNat+1):=by rw [Nat.pow_succ]; omega
 have q:2 ^ (52+(p-base).toNat)<=T:=by have:2 ^ 52*2 ^ (p-base).toNat<=m*2 ^ (p-base).toNat:=Nat.mul_le_mul_right _ ω;rw [Nat.pow_add]; omega
 have Y:=Xe s;have X:=Af0 q;have u:T≠0:=by have:=Nat.pow_pos (n:=52+(p-base).toNat) (show 0<2 by decide); omega
 obtain ⟨m3,B,z,S,R,c3⟩:=Ty T base (base+T.log2) u rfl ω ω;refine ⟨double.nearest false T base,m3,B,?_,z,S,R,ω,ω⟩;show ((double.read w).sum (double.read (floatOfInt .f64 y))).map double.write=_;rw [hw,x];have l:¬((T:Int)=0):=ω;have k:decide ((T:Int)<0)=false:=Aq ω;simp only [Datum.sum,hb,t1,if_neg l,k,Option.map_some,Int.natAbs_natCast,Format.write]
theorem Awc {b m N:Nat} {p:Int} (g:double.read b = .number false m p) (i:(Datum.number false m p).toInt .zero=some (N:Int)) (h:N<=9223372036854775808):floatToIntVal .f64 b .u64=some (N:Int):=by have hd:FloatKind.f64.decode b = .number false m p:=g;have f:IntKind.u64.min=0:=δ;have c:IntKind.u64.max=18446744073709551615:=δ;unfold floatToIntVal;rw [hd,i];simp only [f,c];rw [if_pos ⟨ω,ω⟩]
theorem Awd (w:Nat) (m:Nat) (p:Int) (hw:double.read w = .number false m p) (R:4503599627370496<=m) (M:m<9007199254740992) (L:7<=p) (J:p<=39) (z:Int) (h0:1000000000<=z) (h1:z<1000000000000000000) : ∃(w':Nat) (n:Int),floatBits .quo .f64 w (floatOfInt .f64 z)=some w'/\floatToIntVal .f64 w' .u64=some n/\0<=n/\n<=9223372036854775808:=by
 have U:z.natAbs.log2<=59:=Xe (by simp; omega);have S:29<=z.natAbs.log2:=Af0 (by simp; omega);obtain ⟨f,c,u,a1,a2,a3⟩:=Ty z.natAbs 0 (z.natAbs.log2) ω ω ω ω;have D:m.log2=52:=Aa7 ω ω;have y:f.log2=52:=Aa7 ω ω;generalize hq:m*2 ^ 54 / f=q;generalize l:((m*2 ^ 54 % f != 0).toNat)=s;have E:s<=1:=by rw [<-l]; exact Bool.toNat_le _
 have I:q<2 ^ 55:=by rw [<-hq]; exact (Nat.div_lt_iff_lt_mul ω).2 ω
 have G:2 ^ 53<=q:=by rw [<-hq]; exact (Nat.le_div_iff_mul_le ω).2 ω
 have B:(2*q+s).log2<=55:=Xe ω;have A:54<=(2*q+s).log2:=Af0 ω;obtain ⟨m4,b,x,Z,X,Y⟩:=Ty (2*q+s) (p-c-(54:Nat)-1) (p-c-(54:Nat)-1+(2*q+s).log2) ω rfl ω ω;have j:(Datum.number false m p).quotient (double.fractionBits+2) (Datum.number false f c)=some (.number false (2*q+s) (p-c-(54:Nat)-1)):=by have i:¬f=0:=ω;have fb:double.fractionBits+2=54:=rfl;simp only [Datum.quotient,if_neg i,fb,D,y,Nat.shiftLeft_eq,Nat.add_sub_cancel,hq,l,Bool.xor_self]
 have hb:m4*2 ^ b.toNat<=9223372036854775808:=by
  have k:b<=10\/(b=11/\m4=4503599627370496):=ω;rcases k with h | ⟨rfl,rfl⟩
  .have:2 ^ b.toNat<=2 ^ 10:=Nat.pow_le_pow_right δ ω;have:=Nat.mul_le_mul (Nat.le_of_lt X) this;omega
  .decide
 obtain ⟨N,V,g⟩:∃N:Nat,(Datum.number false m4 b).toInt .zero=some (N:Int)/\N<=9223372036854775808:=by
  refine ⟨(m4 <<< b.toNat) / (1 <<< min (-b).toNat ((m4 <<< b.toNat).log2+2)),?_,?_⟩
  .simp only [Datum.toInt,Datum.integral,Toward.cut,signed,Bool.false_eq_true,if_false,Nat.shiftLeft_zero,Bool.toNat_false,Nat.add_zero]
  .rw [Nat.shiftLeft_eq m4];exact Nat.le_trans (Nat.div_le_self _ _) hb
 refine ⟨double.nearest false (2*q+s) (p-c-(54:Nat)-1),(N:Int),?_,?_,ω,ω⟩
 .have e:floatBits .quo .f64 w (floatOfInt .f64 z)=((double.read w).quotient (double.fractionBits+2) (double.read (floatOfInt .f64 z))).map double.write:=rfl;rw [e,hw,Afz z ω,u,j];simp only [Option.map_some,Format.write]
 .exact Awc x V g
theorem Awe (r n:Nat) (h2:2<=Ba n) (E:Ba r<=Ba n+1) (G:Ba n<1099511627776):∃d:Nat,We (Af r) (Af n)=some (d:Int)/\d<1000000000:=by
 unfold We;unfold Ba at h2 E G;have c:n≠0:=by rintro rfl; rw [Fi] at h2; simp at h2
 by_cases V:(Af r).length<(Af n).length
 .exact ⟨0,by rw [An ω]; rfl,δ⟩
 .rw [Aq ω,cond_false];have y:Aa (((Af n).length:Int)-1)=(((Af n).length-1:Nat):Int):=(by rw [Aa,B4] <;> omega);have u:Aa (((Af n).length:Int)-2)=(((Af n).length-2:Nat):Int):=(by rw [Aa,B4] <;> omega);have i1:(Af n).length-1<(Af n).length:=ω;have i2:(Af n).length-2<(Af n).length:=ω;have h:(Af n).length-1<(Af r).length:=ω;have g:(Af n).length-2<(Af r).length:=ω;have t1:=(Eb n).get i1;have t2:=(Eb n).get i2;have M:=(Eb r).get h;have L:=(Eb r).get g;have i:(Af n)[(Af n).length-1]≠0:=(by have:=(Aav n).2 (Hx c);rwa [List.getLast_eq_getElem] at this);rw [y,u,Df rfl i1,Ad,Df rfl i2,Ad,Df rfl h,Ad,Df rfl g,Ad];generalize (Af n)[(Af n).length-1]=a1 at *;generalize (Af n)[(Af n).length-2]=a2 at *;generalize (Af r)[(Af n).length-1]=b1 at *;generalize (Af r)[(Af n).length-2]=b2 at *;have l:A2 (A2 (A2 b1*1000000000)+A2 b2)=b1*1000000000+b2:=(by rw [show A2 b1=b1 from Cy ω ω,show A2 b2=b2 from Cy ω ω,show A2 (b1*1000000000)=b1*1000000000 from Cy ω ω];exact Cy ω ω);have j:A2 (A2 (A2 a1*1000000000)+A2 a2)=a1*1000000000+a2:=(by rw [show A2 a1=a1 from Cy ω ω,show A2 a2=a2 from Cy ω ω,show A2 (a1*1000000000)=a1*1000000000 from Cy ω ω];exact Cy ω ω);rw [l,j];by_cases X:(Af r).length=(Af n).length
  .rw [Ct ω,cond_true,Jt ω ω ω,Ad];have R:0<=(b1*1000000000+b2) / (a1*1000000000+a2):=Int.ediv_nonneg ω ω;have N:(b1*1000000000+b2) / (a1*1000000000+a2)<1000000000:=Int.ediv_lt_of_lt_mul ω ω;exact ⟨((b1*1000000000+b2) / (a1*1000000000+a2)).toNat,by congr 1; omega,ω⟩
  .have hk:(Af n).length<(Af r).length:=ω;have b:r≠0:=(by rintro rfl; rw [Fi] at hk; simp at hk);have J:=(Eb r).get hk;have f:(Af r)[(Af n).length]≠0:=(by have:=(Aav r).2 (Hx b);rw [List.getLast_eq_getElem] at this;have e:(Af r).length-1=(Af n).length:=ω;simpa [e] using this);rw [Bz ω,cond_false,Df rfl hk,Ad];generalize (Af r)[(Af n).length]=x at *;obtain ⟨s,m3,A,f1,f2,f3,f4,f5,f6⟩:=Awa x ω ω;obtain ⟨q,m4,z,g1,g2,g3,g4,g5,g6⟩:=Awb s m3 A f2 f3 f4 f5 f6 (b1*1000000000+b2) ω ω;obtain ⟨I,k,D,B,U,S⟩:=Awd q m4 z g2 g3 g4 g5 g6 (a1*1000000000+a2) ω ω;rw [f1,Ad,g1,Ad,D,Ad,B,Ad,show A2 (k+2)=k+2 from Cy ω ω];by_cases hc:(999999999:Int)<k+2
   .exact ⟨999999999,by rw [if_pos hc]; rfl,δ⟩
   .exact ⟨(k+2).toNat,by rw [if_neg hc]; congr 1; omega,ω⟩
end Go.Ab
namespace Go.Ab
open Go
theorem Awf (x r:Nat):Ba (x % 1000000000+1000000000*r)<=Ba r+1:=by apply Kd;have:=Mc r;rw [Nat.pow_succ];omega
set_option maxHeartbeats 1000000 in
theorem Af1 (m n:Nat) (hm:Ba m<137438953472) (hn:Ba n<137438953472) (A:n≠0):Ql (Af m) (Af n)=some (Af (m / n),Af (m % n)):=by
 unfold Ql;rw [Aa5,Rf m n ω ω,Ad];have ad:=hm;have ac:=hn;unfold Ba at hm hn;by_cases g:m<n
 .rw [show Ei m n = -1 by rw [Ei,if_pos g],An (by decide:(-1:Int)<0),cond_true,Rg _ ω,Ad,Avq (Aav m),Nat.div_eq_of_lt g,Nat.mod_eq_of_lt g,Fi]
 .rw [Aq (show ¬Ei m n<0 by rw [Ei,if_neg g]; split <;> decide),cond_false];have a6:(Af n).length≠0:=λe=>Hx A (List.length_eq_zero_iff.1 e);by_cases h1:(Af n).length=1
  .rw [Ct (by omega:((Af n).length:Int)=1),cond_true];have z:n<1000000000:=(by have:=Mc n;rw [show Ba n=1 from h1] at this;simpa using this);have V:Af n = [(n:Int)]:=(by rw [Lc A,Nat.div_eq_of_lt z,Fi,Nat.mod_eq_of_lt z]);rw [V,show Ae [(n:Int)] 0=some (n:Int) from rfl,Ad,show A2 (n:Int)=n from Cy ω ω,Av5 m n ω ω ω,Ad];have a1:m % n<n:=Nat.mod_lt _ ω;rw [Aa4,Oy (m % n) ω,Ad]
  .rw [Bz (by omega:((Af n).length:Int)≠1),cond_false];have hw:Aa (((Af m).length:Int)-1)=((Af m).length:Int)-1:=(by rw [Aa,B4] <;> omega);rw [Js rfl rfl (Nat.le_refl _) ω ω,hw];simp only [Ad];have ha:=Eb m;refine He (λ(r,i,q)=>∃(k R:Nat),r=Af R/\i=(k:Int)-1/\k<=(Af m).length/\R<n/\q.length=(Af m).length/\Bs q/\Aj (q.drop k)*n+R=Aj ((Af m).drop k)) (λ(_,i,_)=>(i+1).toNat) (λ(r,q)=>∃R:Nat,r=Af R/\R<n/\q.length=(Af m).length/\Bs q/\Aj q*n+R=m) ⟨(Af m).length,0,by rw [Fi],rfl,Nat.le_refl _,ω,ψ,Bs.replicate _,by simp [Aj]⟩ ?_ ?_
   .rintro ⟨r,i,q⟩ ⟨k,R,rfl,rfl,hk,G,s,f,hv⟩;cases k with
    | zero=>exact .inr ⟨(Af R,q),ψ,R,rfl,G,s,f,by simpa [Er] using hv⟩
    | succ j=>
     have hj:j<(Af m).length:=ω;have B:j<q.length:=ω;have hx:=ha.get hj;obtain ⟨x,u⟩:∃x:Nat,(Af m)[j]=(x:Int):=⟨(Af m)[j].toNat,ω⟩;have I:x<1000000000:=ω;have e0:((j+1:Nat):Int)-1=(j:Int):=ω;have e1:decide ((j:Int)>=0)=true:=An ω;have X:Ba R<=Ba n:=G4 ω;have aa:Ba (x+1000000000*R)<=Ba R+1:=(by have:=Awf x R;rwa [Nat.mod_eq_of_lt I] at this);have af:(Af R).length<=(Af n).length:=X;have D:Ja ((x:Int)::Af R)=some (Af (x+1000000000*R)):=by
      rw [Rg _ (by simp; omega)];congr 1;refine Ju ?_ ?_
      .intro d hd;rcases List.mem_cons.1 hd with rfl | hd
       .omega
       .exact Eb R d hd
      .simp only [Aj,Er]; omega
     obtain ⟨d0,N,ae⟩:=Awe (x+1000000000*R) n (by unfold Ba; omega) ω ω;generalize Z:x+1000000000*R=c at *;have a8:c<1000000000*n:=ω;have l:∀d:Nat,d<18446744073709551616->K7 (d:Int)=some (Af d)/\I8 (Af n) (Af d)=some (Af (n*d)):=(by intro d hd;have:=Lf hd;exact ⟨by rw [Aa4,Oy d hd],O3 n d ω ω⟩);have E:∀d:Nat,d<18446744073709551616->N4 (Af (n*d)) (Af c)=some (Ei (n*d) c):=(by intro d hd;have h3:=Lf hd;have h4:=Fp n d;rw [Aa5,Rf _ _ ω ω]);simp only [e0,e1,cond_true,Df rfl hj,u,Ad,Di (show ([(x:Int)].length+(Af R).length)*4<=_ by simp; omega),List.singleton_append,D,N];refine .inl (M4 (C6 (λd=>∃e:Nat,d=e/\e<=d0) (λd=>d.toNat) (λd=>∃e:Nat,d=e/\e<=d0/\n*e<=c) ⟨d0,rfl,Nat.le_refl _⟩ ?_ ?_))
     .rintro d ⟨e,rfl,he⟩;by_cases U:e=0
      .subst U;exact .inr ⟨0,rfl,0,rfl,ω,ψ⟩
      .obtain ⟨m1,m2⟩:=l e ω;simp only [An (by omega:(e:Int)>0),cond_true,m1,m2,E e ω,Ad];by_cases hc:c<n*e
       .refine .inl ⟨((e-1:Nat):Int),?_,⟨e-1,rfl,ω⟩,by simp; omega⟩;rw [show Ei (n*e) c=1 by rw [Ei,if_neg ω,if_pos hc],show decide ((1:Int)>0)=true from rfl,cond_true,show A2 ((e:Int)-1)=((e-1:Nat):Int) by rw [A2,Cy] <;> omega]
       .refine .inr ⟨(e:Int),?_,e,rfl,he,ω⟩;rw [Aq (show ¬Ei (n*e) c>0 by rw [Ei,if_neg hc]; split <;> decide),cond_false]
     .rintro d ⟨e,rfl,he,L⟩;obtain ⟨m1,m2⟩:=l e ω;simp only [m1,m2,Ad,Aa6 c (n*e) ω L];refine C6 (λ(r,d)=>∃(b e2:Nat),r=Af b/\d=e2/\n*e2+b=c) (λ(r,_)=>(Aj r).toNat) (λ(r,d)=>∃(b e2:Nat),r=Af b/\d=e2/\n*e2+b=c/\b<n) ⟨c-n*e,e,rfl,rfl,ω⟩ ?_ ?_
      .rintro ⟨r,d⟩ ⟨b,e2,rfl,rfl,J⟩;have a7:Ba b<=Ba c:=G4 ω;have S:e2<1000000000:=by
        rcases Nat.lt_or_ge e2 1000000000 with h | h
        .exact h
        .exfalso;have:n*1000000000<=n*e2:=Nat.mul_le_mul_left n h;omega
       simp only [Aa5,Rf b n ω ω,Ad];by_cases hc:b<n
       .refine .inr ⟨(Af b,(e2:Int)),?_,b,e2,rfl,rfl,J,hc⟩;rw [Aq (show ¬Ei b n>=0 by rw [Ei,if_pos hc]; decide),cond_false]
       .refine .inl ⟨(Af (b-n),((e2+1:Nat):Int)),?_,⟨b-n,e2+1,rfl,rfl,?_⟩,?_⟩
        .rw [An (show Ei b n>=0 by rw [Ei,if_neg hc]; split <;> decide),cond_true,Aa6 b n ω ω,Ad,show A2 ((e2:Int)+1)=((e2+1:Nat):Int) by rw [A2,Cy] <;> omega]
        .rw [Nat.mul_add]; omega
        .simp only [Er]; omega
      .rintro ⟨r,d⟩ ⟨b,e2,rfl,rfl,J,Y⟩;have S:e2<1000000000:=by
        rcases Nat.lt_or_ge e2 1000000000 with h | h
        .exact h
        .exfalso;have:n*1000000000<=n*e2:=Nat.mul_le_mul_left n h;omega
       have w1:B7 (e2:Int)=e2:=Fe ω ω;have w8:Aa ((j:Int)-1)=(j:Int)-1:=(by rw [Aa,B4] <;> omega);refine ⟨_,by simp only [Df rfl B,Ad,w1,w8,Ho rfl],(Af b,(j:Int)-1,q.set j (e2:Int)),rfl,⟨j,b,rfl,rfl,ω,Y,by simpa using s,f.set _ ω ω,?_⟩,ψ⟩;have d1:(q.set j (e2:Int)).drop j=(e2:Int)::q.drop (j+1):=(by rw [List.drop_eq_getElem_cons (by simpa using B),List.drop_set_of_lt ω]; simp);rw [d1,List.drop_eq_getElem_cons hj,u];simp only [Aj];rw [<-hv];have:((n*e2+b:Nat):Int)=((x+1000000000*R:Nat):Int):=(by rw [J,Z]);simp only [Int.natCast_add,Int.natCast_mul] at this;grind
   .rintro ⟨r,q⟩ ⟨R,rfl,G,s,f,hv⟩;dsimp only;have ab:=Gd f.u32;obtain ⟨Q,hQ⟩:∃Q:Nat,Aj q=Q:=⟨(Aj q).toNat,ω⟩;rw [hQ] at hv;have y:Q*n+R=m:=(by have:((Q*n+R:Nat):Int)=(m:Int):=(by simp only [Int.natCast_add,Int.natCast_mul]; exact hv);omega);have hd:m / n=Q:=(by rw [<-y,Nat.mul_comm,Nat.mul_add_div ω,Nat.div_eq_of_lt G]; rfl);have M:m % n=R:=(by rw [<-y,Nat.mul_comm,Nat.mul_add_mod,Nat.mod_eq_of_lt G]);rw [Rg q ω,Ad,Ju f hQ,hd,M]
theorem Awg (m n:Nat) (h:Ba m<137438953472) (g:Ba n<137438953472):V3 (Af m) (Af n)=some (Af (Nat.gcd m n)):=by
 unfold V3;refine He (λ(a,b)=>∃x y:Nat,a=Af x/\b=Af y/\Ba x<137438953472/\Ba y<137438953472/\Nat.gcd x y=Nat.gcd m n) (λ(_,b)=>(Aj b).toNat) (λr=>r=Af (Nat.gcd m n)) ⟨m,n,rfl,rfl,h,g,rfl⟩ ?_ (by rintro e rfl; rfl);rintro ⟨a,b⟩ ⟨x,y,rfl,rfl,hx,hy,f⟩;by_cases c:y=0
 .subst c;refine .inr ⟨Af x,by rw [Fi]; rfl,?_⟩;rw [<-f,Nat.gcd_zero_right]
 .have i:(Af y).length≠0:=λe=>Hx c (List.length_eq_zero_iff.1 e);have j:decide (((Af y).length:Int)>0)=true:=An ω;refine .inl ⟨(Af y,Af (x % y)),?_,⟨y,x % y,rfl,rfl,hy,by have:=G4 (Nat.mod_le x y); omega,?_⟩,?_⟩
  .simp only [j,cond_true,Af1 x y hx hy c,Ad]
  .rw [<-f,Nat.gcd_comm y,<-Nat.gcd_rec,Nat.gcd_comm]
  .simp only [Er];have:=Nat.mod_lt x (by omega:y>0);omega
end Go.Ab
namespace Go.Ab
open Go
def M6 (b:Bool) (n d:Nat):Ai:=if d=0 then ⟨false,[],[1]⟩ else Bj b n d
theorem Aa8 {n:Nat} (h:n≠0):(Af n).length≠0:=λe=>Hx h (List.length_eq_zero_iff.1 e)
theorem Af2 (c:Bool) (a b:List Int) (ha:Kb a) (hb:Kb b) (q:a.length<137438953400) (l:b.length<137438953400):Ij c a b=some (M6 c (Aj a).toNat (Aj b).toNat):=by
 unfold Ij;have h1:=Aa2 ha;have h2:=Aa2 hb;rw [Amx a ha ω,Ad,Amx b hb ω,Ad];generalize (Aj a).toNat=n at *;generalize (Aj b).toNat=d at *;by_cases g:n=0
 .subst g;have:M6 c 0 d=⟨false,[],[1]⟩:=(by unfold M6; split <;> simp [Bj]);rw [this,Fi]; rfl
 .have j:=Aa8 g;by_cases hd:d=0
  .subst hd;simp only [Bz (by omega:((Af n).length:Int)≠0),cond_false,Fi,Ad];rfl
  .have k:=Aa8 hd;have f:Nat.gcd n d≠0:=(by have:=Nat.gcd_pos_of_pos_left d (by omega:0<n); omega);have u:Ba (Nat.gcd n d)<=Ba n:=G4 (Nat.gcd_le_left d (by omega:0<n));simp only [Bz (by omega:((Af n).length:Int)≠0),cond_false,Bz (by omega:((Af d).length:Int)≠0),Ad,Awg n d ω ω];rw [M6,if_neg hd,Bj,if_neg g];have key:(bif (((Af (Nat.gcd n d)).length:Int) != (1:Int)) then some true else ((Ae (Af (Nat.gcd n d)) 0).bind λi=>some (i != (1:Int))))=some (decide (Nat.gcd n d≠1)):=by
    have h3:=Afv (Nat.gcd n d);unfold Qq at h3;by_cases s:(Af (Nat.gcd n d)).length=1
    .rw [Ct (by omega:((Af (Nat.gcd n d)).length:Int)=1),cond_true] at h3;rw [Cp (by omega:((Af (Nat.gcd n d)).length:Int)=1),cond_false];cases hi:Ae (Af (Nat.gcd n d)) 0 with| none=>rw [hi] at h3; cases h3| some v=>rw [hi] at h3;simp only [Ad] at h3 ⊢;have h3:=Option.some.inj h3;congr 1;rw [bne,h3]; simp
    .rw [Bz (by omega:((Af (Nat.gcd n d)).length:Int)≠1),cond_false] at h3;rw [Cs (by omega:((Af (Nat.gcd n d)).length:Int)≠1),cond_true];have h3:=Option.some.inj h3;have:Nat.gcd n d≠1:=(by simpa using h3.symm);rw [An this]
   rw [key,Ad];by_cases h:Nat.gcd n d=1
   .rw [Aq (by simpa using h),cond_false,h]; simp
   .rw [An h,cond_true,Af1 n _ ω ω f,Ad,Af1 d _ ω ω f,Ad]
theorem Awh (a:Ai):M6 a.Neg (Aj a.Num).toNat (Aj a.Den).toNat=Bj (sv a) (nv a) (dv a):=by
 unfold M6 sv nv dv;by_cases b:(Aj a.Num).toNat=0
 .simp [b,Bj]
 .by_cases hd:(Aj a.Den).toNat=0
  .simp [hd,Bj]
  .simp [b,hd]
theorem O4 (a:Ai) (k:Nat) (h:RB k a) (hk:k<137438953400):J8 a=some (Bj (sv a) (nv a) (dv a)):=by unfold J8;have:=h.nl;have:=h.dl;rw [Af2 _ _ _ h.num h.den ω ω,Ad,Awh]
theorem Rh (s:Bool) (n d:Nat) (hd:d≠0):(Bj s n d).Num=Af (nv (Bj s n d))/\(Bj s n d).Den=Af (dv (Bj s n d))/\(Bj s n d).Neg=sv (Bj s n d):=by
 obtain ⟨h1,h2,h3,h4⟩:=Aa3 s n d hd;rw [h1,h2];by_cases h0:n=0
 .subst h0;rw [h4 rfl,Xd];have b:d / Nat.gcd 0 d=1:=(by rw [Nat.gcd_zero_left]; exact Nat.div_self ω);rw [b,Nat.zero_div,Fi,Tw]; exact ⟨rfl,rfl,rfl⟩
 .rw [h3 h0]; simp [Bj,h0]
theorem O5 (a:Ai):∃g:Nat,g≠0/\nv a=g*nv (Bj (sv a) (nv a) (dv a))/\dv a=g*dv (Bj (sv a) (nv a) (dv a))/\sv (Bj (sv a) (nv a) (dv a))=sv a:=by
 obtain ⟨h1,h2,h3,h4⟩:=Aa3 (sv a) (nv a) (dv a) (D4 a);have hd:=D4 a;have b:0<Nat.gcd (nv a) (dv a):=Nat.gcd_pos_of_pos_right _ ω;refine ⟨Nat.gcd (nv a) (dv a),ω,?_,?_,?_⟩
 .rw [h1]; exact (Nat.mul_div_cancel' (Nat.gcd_dvd_left _ _)).symm
 .rw [h2]; exact (Nat.mul_div_cancel' (Nat.gcd_dvd_right _ _)).symm
 .by_cases h0:nv a=0
  .rw [h4 h0];unfold nv at h0;unfold sv;split at h0
   .rename_i hc; rw [if_pos hc]
   .omega
  .exact h3 h0
theorem Awi (s:Bool) (n d:Nat) (h:d≠0):M6 s n d=Bj s n d:=by rw [M6,if_neg h]
theorem Ri (b:Bool) (n d:Nat) (f:Ba n<137438953400) (hd:Ba d<137438953400) (c:d≠0):Ij b (Af n) (Af d)=some (Bj b n d):=by unfold Ba at f hd;rw [Af2 b _ _ (Eb n).u32 (Eb d).u32 f hd,Er,Er,Int.toNat_natCast,Int.toNat_natCast,Awi _ _ _ c]
theorem Awj {k:Nat} {a:Ai} (h:RB k a):RB (k+1) (Bj (sv a) (nv a) (dv a)):=Jh _ _ _ _ h.nv h.dv ω
theorem Tz {k:Nat} {a:Ai} (h:RB k a):Ba (nv (Bj (sv a) (nv a) (dv a)))<=k+1/\Ba (dv (Bj (sv a) (nv a) (dv a)))<=k+1:=by
 obtain ⟨g,b,h1,h2,_⟩:=O5 a;have a1:=h.nv;have a2:=h.dv;refine ⟨Nat.le_trans (G4 ?_) a1,Nat.le_trans (G4 ?_) a2⟩
 .exact Nat.le_trans (Nat.le_mul_of_pos_left _ ω) (Nat.le_of_eq h1.symm)
 .exact Nat.le_trans (Nat.le_mul_of_pos_left _ ω) (Nat.le_of_eq h2.symm)
theorem Awk (a b:Ai) (j k:Nat) (ha:RB j a) (hb:RB k b) (hj:j<34359738368) (hk:k<34359738368):Hn a b=some (Bj (sv a != sv b) (nv a*nv b) (dv a*dv b)):=by unfold Hn;rw [O4 a j ha ω,Ad,O4 b k hb ω,Ad];obtain ⟨g,f,a1,a2,a3⟩:=O5 a;obtain ⟨h,hh,b1,b2,q⟩:=O5 b;obtain ⟨f1,f2,f3⟩:=Rh (sv a) (nv a) (dv a) (D4 a);obtain ⟨l,e2,i⟩:=Rh (sv b) (nv b) (dv b) (D4 b);obtain ⟨y,x⟩:=Tz ha;obtain ⟨u,s⟩:=Tz hb;rw [f1,f2,f3,l,e2,i,a3,q];generalize hc:Bj (sv a) (nv a) (dv a)=c at *;generalize hd:Bj (sv b) (nv b) (dv b)=d at *;have m1:=Fp (nv c) (nv d);have m2:=Fp (dv c) (dv d);have z:dv c*dv d≠0:=Nat.mul_ne_zero (D4 c) (D4 d);rw [O3 _ _ ω ω,Ad,O3 _ _ ω ω,Ad,Ri _ _ _ ω ω z,Ad];rw [a1,a2,b1,b2,show g*nv c*(h*nv d)=g*h*(nv c*nv d) by grind,show g*dv c*(h*dv d)=g*h*(dv c*dv d) by grind,O2 _ _ _ _ (Nat.mul_ne_zero f hh)]
theorem Awl (l:Bool) (c j:Nat) (k:Bool) (b i g h:Nat) (u:g≠0) (hh:h≠0):Ib l (g*c) (g*j) k (h*b) (h*i)=g*h*Ib l c j k b i/\Jg l (g*c) (g*j) k (h*b) (h*i)=Jg l c j k b i:=by
 have s:g*c*(h*i)=g*h*(c*i):=by grind
 have e2:h*b*(g*j)=g*h*(b*j):=by grind
 have hc:(g*h*(b*j)<=g*h*(c*i))↔(b*j<=c*i):=Nat.mul_le_mul_left_iff (Nat.mul_pos ω ω);unfold Ib Jg;rw [s,e2];by_cases q:l=k
 .simp only [if_pos q];exact ⟨by rw [Nat.mul_add],trivial⟩
 .simp only [if_neg q];by_cases f:b*j<=c*i
  .simp only [if_pos f,if_pos (hc.2 f)];exact ⟨by rw [Nat.mul_sub],trivial⟩
  .simp only [if_neg f,if_neg (λh=>f (hc.1 h))];exact ⟨by rw [Nat.mul_sub],trivial⟩
theorem Awm (a b:Ai) (j k:Nat) (ha:RB j a) (hb:RB k b) (hj:j<34359738368) (hk:k<34359738368) : I7 a b=some (Bj (Jg (sv a) (nv a) (dv a) (sv b) (nv b) (dv b)) (Ib (sv a) (nv a) (dv a) (sv b) (nv b) (dv b)) (dv a*dv b)):=by
 unfold I7;rw [O4 a j ha ω,Ad,O4 b k hb ω,Ad];obtain ⟨g,l,a1,a2,a3⟩:=O5 a;obtain ⟨h,hh,b1,b2,y⟩:=O5 b;obtain ⟨f1,f2,f3⟩:=Rh (sv a) (nv a) (dv a) (D4 a);obtain ⟨x,e2,u⟩:=Rh (sv b) (nv b) (dv b) (D4 b);obtain ⟨E,D⟩:=Tz ha;obtain ⟨B,A⟩:=Tz hb;rw [f1,f2,f3,x,e2,u,a3,y];generalize hc:Bj (sv a) (nv a) (dv a)=c at *;generalize hd:Bj (sv b) (nv b) (dv b)=d at *;have m1:=Fp (nv c) (dv d);have m2:=Fp (nv d) (dv c);have m3:=Fp (dv c) (dv d);have m4:=W8 (nv c*dv d) (nv d*dv c);have m5:=G4 (Nat.sub_le (nv c*dv d) (nv d*dv c));have m6:=G4 (Nat.sub_le (nv d*dv c) (nv c*dv d));have z:dv c*dv d≠0:=Nat.mul_ne_zero (D4 c) (D4 d);obtain ⟨s,q⟩:=Awl (sv a) (nv c) (dv c) (sv b) (nv d) (dv d) g h l hh;rw [a1,a2,b1,b2,s,q,show g*dv c*(h*dv d)=g*h*(dv c*dv d) by grind,O2 _ _ _ _ (Nat.mul_ne_zero l hh)];rw [O3 _ _ ω ω,Ad,O3 _ _ ω ω,Ad,O3 _ _ ω ω,Ad];unfold Jg Ib;by_cases i:sv a=sv b
 .have e:(sv a==sv b)=true:=(by rw [i]; exact beq_self_eq_true _);rw [e,cond_true,Av7 _ _ ω ω,Ad,Ri _ _ _ ω ω z,Ad,if_pos i,if_pos i]
 .have e:(sv a==sv b)=false:=(by simpa using i);rw [e,cond_false,Aa5,Rf _ _ ω ω,Ad,if_neg i,if_neg i];by_cases f:nv d*dv c<=nv c*dv d
  .rw [An (show Ei (nv c*dv d) (nv d*dv c)>=0 by rw [Ei,if_neg ω]; split <;> decide),cond_true,Aa6 _ _ ω f,Ad,Ri _ _ _ ω ω z,Ad,if_pos f,if_pos f]
  .rw [Aq (show ¬Ei (nv c*dv d) (nv d*dv c)>=0 by rw [Ei,if_pos ω]; decide),cond_false,Aa6 _ _ ω ω,Ad,Ri _ _ _ ω ω z,Ad,if_neg f,if_neg f]
theorem Amy (a:Ai) (k:Nat) (h:RB k a) (hk:k<137438953400):Qi a=some (Ia (sv a) (nv a)):=by
 unfold Qi;rw [O4 a k h hk,Ad];obtain ⟨g,b,a1,a2,a3⟩:=O5 a;obtain ⟨f1,f2,f3⟩:=Rh (sv a) (nv a) (dv a) (D4 a);rw [f1,f3,a3,Ia];by_cases h0:nv a=0
 .have:nv (Bj (sv a) (nv a) (dv a))=0:=by
   rw [h0] at a1;rcases Nat.mul_eq_zero.1 a1.symm with h | h
   .exact (b h).elim
   .rw [h0]; exact h
  rw [this,Fi,if_pos h0]; rfl
 .have:nv (Bj (sv a) (nv a) (dv a))≠0:=(by intro e; rw [e,Nat.mul_zero] at a1; exact h0 a1);have:=Aa8 this;rw [Bz ω,cond_false,if_neg h0];cases sv a <;> rfl
theorem Awn (a:Ai) (k:Nat) (h:RB k a) (hk:k<137438953400):Ws a=some (Bj (!sv a) (nv a) (dv a)):=by
 unfold Ws;have:=h.nl;have:=h.dl;rw [Af2 _ _ _ h.num h.den ω ω,Ad];congr 1;unfold M6 sv nv dv;by_cases b:(Aj a.Num).toNat=0
 .simp [b,Bj]
 .by_cases hd:(Aj a.Den).toNat=0
  .simp [hd,Bj]
  .simp [b,hd]
theorem O6 (z:Int) (h1 : -9223372036854775808<=z) (h2:z<=9223372036854775807):F5 z=some (Bj (decide (z<0)) z.natAbs 1):=by
 unfold F5;have j:=Lf (n:=z.natAbs) ω;have c:([1]:List Int)=Af 1:=Tw.symm;by_cases h:z<0
 .have i:Aa (z+1)=z+1:=B4 ω ω;have g:Aa (0-(z+1))=0-(z+1):=B4 ω ω;have f:A2 (0-(z+1))=0-(z+1):=Cy ω ω;have b:A2 (0-(z+1)+1)=((z.natAbs:Nat):Int):=(by rw [A2,Cy ω ω]; omega);rw [An h,cond_true,i,g,f,b,Aa4,Oy _ ω,Ad,c,Ri _ _ _ ω (by rw [Kg]; decide) δ,Ad]
 .have b:A2 z=((z.natAbs:Nat):Int):=(by rw [A2,Cy ω ω]; omega);rw [Aq h,cond_false,b,Aa4,Oy _ ω,Ad,c,Ri _ _ _ ω (by rw [Kg]; decide) δ,Ad]
theorem Awo (a b:Ai) (j k:Nat) (ha:RB j a) (hb:RB k b) (hj:j<34359738368) (hk:k<34359738368) (i:nv b≠0):Tc a b=some (Bj (sv a != sv b) (nv a*dv b) (dv a*nv b),true):=by
 unfold Tc;rw [O4 a j ha ω,Ad,O4 b k hb ω,Ad];obtain ⟨g,l,a1,a2,a3⟩:=O5 a;obtain ⟨h,hh,b1,b2,u⟩:=O5 b;obtain ⟨f1,f2,f3⟩:=Rh (sv a) (nv a) (dv a) (D4 a);obtain ⟨s,e2,q⟩:=Rh (sv b) (nv b) (dv b) (D4 b);obtain ⟨B,A⟩:=Tz ha;obtain ⟨y,x⟩:=Tz hb;rw [f1,f2,f3,s,e2,q,a3,u];generalize hc:Bj (sv a) (nv a) (dv a)=c at *;generalize hd:Bj (sv b) (nv b) (dv b)=d at *;have m1:=Fp (nv c) (dv d);have m2:=Fp (dv c) (nv d);have f:nv d≠0:=by intro e; rw [e,Nat.mul_zero] at b1; exact i b1
 have z:dv c*nv d≠0:=Nat.mul_ne_zero (D4 c) f;have:=Aa8 f;rw [Bz ω,cond_false,O3 _ _ ω ω,Ad,O3 _ _ ω ω,Ad,Ri _ _ _ ω ω z,Ad];rw [a1,a2,b1,b2,show g*nv c*(h*dv d)=g*h*(nv c*dv d) by grind,show g*dv c*(h*nv d)=g*h*(dv c*nv d) by grind,O2 _ _ _ _ (Nat.mul_ne_zero l hh)]
end Go.Ab
namespace Go.Ab
open Go
theorem Aa9 (s:Bool) (n d:Nat) (hd:d≠0):∃g:Nat,g≠0/\n=g*nv (Bj s n d)/\d=g*dv (Bj s n d)/\(n≠0->sv (Bj s n d)=s)/\(n=0->sv (Bj s n d)=false):=by obtain ⟨h1,h2,h3,h4⟩:=Aa3 s n d hd;have b:0<Nat.gcd n d:=Nat.gcd_pos_of_pos_right _ ω;exact ⟨Nat.gcd n d,ω,by rw [h1]; exact (Nat.mul_div_cancel' (Nat.gcd_dvd_left _ _)).symm,by rw [h2]; exact (Nat.mul_div_cancel' (Nat.gcd_dvd_right _ _)).symm,h3,h4⟩
theorem Awp (s t:Bool) (n d m e:Nat) (hd:d≠0) (l:e≠0):Bj (sv (Bj s n d) != sv (Bj t m e)) (nv (Bj s n d)*nv (Bj t m e)) (dv (Bj s n d)*dv (Bj t m e))=Bj (s != t) (n*m) (d*e):=by
 obtain ⟨g,k,a1,a2,a3,_⟩:=Aa9 s n d hd;obtain ⟨h,hh,b1,b2,u,_⟩:=Aa9 t m e l;have q:Bj (s != t) (n*m) (d*e)=Bj (sv (Bj s n d) != sv (Bj t m e)) (n*m) (d*e):=by apply Amv;intro b;have i:n≠0:=λe=>b (by rw [e]; simp);have j:m≠0:=λe=>b (by rw [e]; simp);rw [a3 i,u j]
 rw [q];generalize Bj s n d=c at *;generalize Bj t m e=f at *;rw [a1,a2,b1,b2,show g*nv c*(h*nv f)=g*h*(nv c*nv f) by grind,show g*dv c*(h*dv f)=g*h*(dv c*dv f) by grind,O2 _ _ _ _ (Nat.mul_ne_zero k hh)]
def F7 (n:Nat):Nat->Nat
 | 0=>1
 | k+1=>F7 n k*(n-k)
def fct:Nat->Nat
 | 0=>1
 | k+1=>fct k*(k+1)
theorem Xf:∀k,fct k≠0
 | 0=>δ
 | k+1=>Nat.mul_ne_zero (Xf k) ω
theorem Awq {n k:Nat} (h:n<k):F7 n k=0:=by
 induction k with
 | zero=>omega
 | succ k ih=>
  simp only [F7];rcases Nat.lt_or_ge n k with h' | h'
  .rw [ih h']; simp
  .have:n-k=0:=ω;rw [this]; simp
theorem Awr (n k:Nat) (b:n<1000000000):Ba (F7 n k)<=k+1:=by induction k with| zero=>simp [F7,Kg]| succ k ih=>have h1:=Fp (F7 n k) (n-k);have h2:Ba (n-k)<=1:=Kd (by simp; omega);simp only [F7]; omega
theorem Aws (k:Nat) (hk:k<1000000000):Ba (fct k)<=k+1:=by induction k with| zero=>simp [fct,Kg]| succ k ih=>have h1:=Fp (fct k) (k+1);have h2:Ba (k+1)<=1:=Kd (by simp; omega);simp only [fct];have:=ih ω;omega
theorem Amz {n:Nat} (h:n<1000000000):Ba n<=1:=Kd (by simpa using h)
theorem Awt (n k:Nat) (b:n<1000000000) (hk:k<=64):RB (k+1) (Bj false (F7 n k) (fct k)) := Jh _ _ _ _ (Awr n k b) (Aws k ω) ω
theorem Am0 (a:Ai):Ai.mk a.Neg a.Num a.Den=a:=by cases a; rfl
theorem Awu (n k:Nat) (A:n<1000000000) (hk:k<=64):S9 (n:Int) (k:Int)=some (Bj false (F7 n k) (fct k)):=by
 unfold S9;have B:Dn 1=some (Bj false (F7 n 0) (fct 0)):=Tx 1 δ δ;rw [B,Ad];refine He (λ(i,s,b,c)=>∃q:Nat,i=q/\q<=k/\q<=n/\Ai.mk s b c=Bj false (F7 n q) (fct q)) (λ(i,_,_,_)=>k-i.toNat) (λe=>match e with | .inl r=>r=Bj false (F7 n k) (fct k) | .inr (s,b,c)=>Ai.mk s b c=Bj false (F7 n k) (fct k)) ⟨0,rfl,ω,ω,Am0 _⟩ ?_ ?_
 .rintro ⟨i,s,b,c⟩ ⟨q,rfl,hq,z,ha⟩;rcases Nat.lt_or_ge q k with h | h
  .simp only [An (by omega:(q:Int)<(k:Int)),cond_true];by_cases x:n=q
   .subst x;refine .inr ⟨.inl (Bj false 0 1),?_,?_⟩
    .rw [Ct rfl,cond_true,Tx 0 δ δ]; rfl
    .show Bj false 0 1=_;rw [Awq h,Xd,Xd]
   .have u:Aa ((n:Int)-(q:Int))=((n-q:Nat):Int):=(by rw [Aa,B4] <;> omega);have l:Aa ((q:Int)+1)=((q+1:Nat):Int):=Jv h ω;have y:Mu ((n-q:Nat):Int) ((q+1:Nat):Int)=some (Bj false (n-q) (q+1)):=(by rw [Amu _ _ ω ω ω ω ω,Aq (by omega:¬((n-q:Nat):Int)<0),Aq (by omega:¬((q+1:Nat):Int)<0)]; rfl);have g:RB 1 (Bj false (n-q) (q+1)):=Jh _ _ _ _ (Amz ω) (Amz ω) ω;have j:=Xc _ _ _ _ (Awt n q A ω) g ω ω;rw [Awp false false (F7 n q) (fct q) (n-q) (q+1) (Xf q) ω] at j;refine .inl ⟨(((q+1:Nat):Int),(Bj false (F7 n (q+1)) (fct (q+1))).Neg,(Bj false (F7 n (q+1)) (fct (q+1))).Num,(Bj false (F7 n (q+1)) (fct (q+1))).Den),?_,⟨q+1,rfl,ω,ω,Am0 _⟩,by simp; omega⟩;rw [Bz ω,cond_false,u,l,y,Ad,ha,j,Ad]; rfl
  .have:q=k:=ω;subst this;refine .inr ⟨.inr (s,b,c),ψ,ha⟩
 .rintro (e | ⟨s,b,c⟩) f
  .simp only at f ⊢; rw [f]
  .simp only at f ⊢; rw [f]
end Go.Ab
namespace Go.Ab
open Go
mutual
def A6:Ag->Nat
 | ⟨_,_,l⟩=>1+Cj l
def Cj:List Ag->Nat
 | []=>0
 | x::xs=>A6 x+Cj xs
end
theorem Ga (t:Ag):A6 t=1+Cj t.Args:=by cases t; simp only [A6]
theorem Me (t:Ag):1<=A6 t:=by rw [Ga]; omega
theorem Gf {l:List Ag} {a:Ag} (h:a∈l):A6 a<=Cj l:=by
 induction l with
 | nil=>cases h
 | cons x xs ih=>
  simp only [Cj];rcases List.mem_cons.1 h with rfl | h
  .omega
  .have:=ih h; omega
theorem Hq (l:List Ag):l.length<=Cj l:=by induction l with| nil=>simp| cons x xs ih=>simp only [Cj,List.length_cons]; have:=Me x; omega
theorem Aba (l m:List Ag):Cj (l++m)=Cj l+Cj m:=by induction l with| nil=>simp [Cj]| cons x xs ih=>simp only [List.cons_append,Cj,ih]; omega
def Il (data:List Ao) (vars k n:Int) (len:Nat):Bool := if k=1\/k=2\/k=3 then n==0&&len==0 else if k=4 then decide (0<=n)&&decide (n<vars)&&len==0 else if k=5 then decide (0<=n)&&(match data[n.toNat]? with | some d=>(len:Int)==d.Vars | none=>false) else if k=6 then n==0&&decide (2<=len)&&decide (len<=6) else if k=7\/k=8 then n==0&&len==1 else if k=9 then n==0&&decide (1<=len)&&decide (len<=7) else false
mutual
def Dc (data:List Ao) (vars:Int):Ag->Bool
 | ⟨k,n,l⟩=>Il data vars k n l.length&&Dp data vars l
def Dp (data:List Ao) (vars:Int):List Ag->Bool
 | []=>true
 | x::xs=>Dc data vars x&&Dp data vars xs
end
theorem T0 (data:List Ao) (vars:Int) (t:Ag):Dc data vars t=(Il data vars t.Kind t.Num t.Args.length&&Dp data vars t.Args):=by cases t; simp only [Dc]
theorem Af3 {α:Type} (l:List α) (n:Nat):((l.length:Int)==(n:Int))=(l.length==n):=by
 by_cases h:l.length=n
 .subst h; simp
 .rw [Bz ω]; simp [h]
theorem Awv (k:Nat) (t:Ag) (data:List Ao) (vars left:Int) (h1:1<=left) (h2:left<=1000) : K8 (k+1) t ⟨data,vars,left⟩=bif Il data vars t.Kind t.Num t.Args.length then ((Tq k t.Args ⟨data,vars,left-1⟩).bind λv12=>some ((!v12.1),v12.2)) else some (false,⟨data,vars,left-1⟩):=by have hw:Aa (left-1)=left-1:=B4 ω ω;have b:¬left-1<0:=ω;rw [K8];simp only [hw,Aq b,cond_false];generalize g:(Tq k t.Args ⟨data,vars,left-1⟩).bind (λv12=>some ((!v12.1),v12.2))=X;generalize f:(some (false,⟨data,vars,left-1⟩):Option (Bool×F6))=Y;unfold Il Ae;generalize t.Args.length=len;generalize t.Kind=c;generalize t.Num=n;cases hd:data[n.toNat]? <;> simp only [Bool.cond_eq_ite,Afl,Ad,Option.bind_none,hd] <;> grind
theorem Xg {l:List Ag} {j:Nat} (h:j<l.length):Cj (l.take (j+1))=Cj (l.take j)+A6 l[j]:=by rw [List.take_succ_eq_append_getElem h,Aba]; simp [Cj]
theorem Am1 (data:List Ao) (vars:Int) (l m:List Ag):Dp data vars (l++m)=(Dp data vars l&&Dp data vars m):=by induction l with| nil=>simp [Dp]| cons x xs ih=>simp only [List.cons_append,Dp,ih,Bool.and_assoc]
theorem Abb (data:List Ao) (vars:Int) {l:List Ag} {j:Nat} (h:j<l.length):Dp data vars (l.take (j+1))=(Dp data vars (l.take j)&&Dc data vars l[j]):=by rw [List.take_succ_eq_append_getElem h,Am1]; simp [Dp]
theorem Xh (l:List Ag) (j:Nat):Cj (l.take j)<=Cj l:=by have:=Aba (l.take j) (l.drop j);rw [List.take_append_drop] at this; omega
theorem Am2 (data:List Ao) (vars:Int) (l:List Ag) (j:Nat) (h:Dp data vars l=true):Dp data vars (l.take j)=true:=by have:=Am1 data vars (l.take j) (l.drop j);rw [List.take_append_drop,h] at this;have:=this.symm;simp only [Ca] at this;exact this.1
theorem Aww (data:List Ao) (vars:Int) (k:Nat) (l:List Ag) (c:Nat) (E:l.length<1099511627776) (ih:∀(a:Ag),a∈l->∀f:Nat,f<=c->∃g:Int,K8 k a ⟨data,vars,f⟩=some (Dc data vars a&&decide (A6 a<=f),⟨data,vars,g⟩)/\((Dc data vars a&&decide (A6 a<=f))=true->g=(f:Int)-A6 a)) : ∃p:Int×Int,W4 (k+2) l ⟨data,vars,c⟩=some (p.1,⟨data,vars,p.2⟩)/\((Dp data vars l&&decide (Cj l<=c))=true->p.1 = -1/\p.2=(c:Int)-Cj l)/\((Dp data vars l&&decide (Cj l<=c))=false->0<=p.1):=by
 rw [W4];refine Afk (λp:Int×Int=>(p.1,F6.mk data vars p.2)) (C6 (λ(v3,v4,v5,s)=>∃j:Nat,v3=j/\j<=l.length/\v4=data/\v5=vars/\Dp data vars (l.take j)=true/\Cj (l.take j)<=c/\s=(c:Int)-Cj (l.take j)) (λ(v3,_,_,_)=>l.length-v3.toNat) (λz=>match z with | .inl (i,b)=>0<=i/\(∃g,b=⟨data,vars,g⟩)/\(Dp data vars l&&decide (Cj l<=c))=false | .inr (v4,v5,s)=>v4=data/\v5=vars/\(Dp data vars l&&decide (Cj l<=c))=true/\s=(c:Int)-Cj l) ⟨0,rfl,ω,rfl,rfl,rfl,by simp [Cj],by simp [Cj]⟩ ?_ ?_)
 .rintro ⟨v3,v4,v5,s⟩ ⟨j,rfl,hj,rfl,rfl,x,A,rfl⟩;rcases Nat.lt_or_ge j l.length with h | h
  .obtain ⟨u,y⟩:∃u:Nat,(c:Int)-Cj (l.take j)=u/\u<=c:=⟨c-Cj (l.take j),ω,ω⟩;obtain ⟨g,D,e2⟩:=ih l[j] (List.getElem_mem h) u y.2;simp only [An (by omega:(j:Int)<(l.length:Int)),cond_true,Df rfl h,Ad,V5,y.1,D];cases hb:(Dc v4 v5 l[j]&&decide (A6 l[j]<=u)) with
   | true=>
    have G:=e2 hb;simp only [Ca,decide_eq_true_eq] at hb;refine .inl ⟨(((j+1:Nat):Int),v4,v5,g),?_,⟨j+1,rfl,ω,rfl,rfl,?_,?_,?_⟩,by simp; omega⟩
    .simp only [D3,cond_false];rw [show Aa ((j:Int)+1)=((j+1:Nat):Int) by rw [Aa,B4] <;> omega]
    .rw [Abb _ _ h,x,hb.1]; rfl
    .rw [Xg h]; omega
    .show g=_;rw [Xg h]; omega
   | false=>refine .inr ⟨.inl ((j:Int),⟨v4,v5,g⟩),ψ,ω,⟨g,rfl⟩,?_⟩;cases q:(Dp v4 v5 l&&decide (Cj l<=c)) with| false=>rfl| true=>exfalso;simp only [Ca,decide_eq_true_eq] at q;have a1:=Am2 v4 v5 l (j+1) q.1;rw [Abb _ _ h] at a1;simp only [Ca] at a1;have a2:=Xh l (j+1);rw [Xg h] at a2;rw [a1.2,Bool.true_and,decide_eq_false_iff_not] at hb;omega
  .have:j=l.length:=ω;subst this;rw [List.take_length] at *;refine .inr ⟨.inr (v4,v5,(c:Int)-Cj l),ψ,rfl,rfl,by simp [x,A],rfl⟩
 .rintro (⟨i,b⟩ | ⟨v4,v5,s⟩) B
  .obtain ⟨a1,⟨g,rfl⟩,a3⟩:=B;exact ⟨_,rfl,(i,g),rfl,(λh=>by rw [a3] at h; cases h),λ_=>a1⟩
  .obtain ⟨rfl,rfl,a3,rfl⟩:=B;exact ⟨_,rfl,(-1,_),rfl,λ_=>⟨rfl,rfl⟩,λh=>by rw [a3] at h; cases h⟩
theorem Awx (data:List Ao) (vars:Int):∀(left:Nat) (t:Ag) (k:Nat),left<=200->4*left+4<=k->A6 t<1099511627776 -> ∃f:Int,K8 k t ⟨data,vars,left⟩=some (Dc data vars t&&decide (A6 t<=left),⟨data,vars,f⟩)/\((Dc data vars t&&decide (A6 t<=left))=true->f=(left:Int)-A6 t):=by
 intro left;induction left using Nat.strongRecOn with
 | _ left s=>
  intro t k A hk ht;have hp:=Me t;obtain ⟨g,rfl⟩:∃g,k=g+1:=⟨k-1,ω⟩;cases left with
  | zero=>refine ⟨-1,?_,λh=>by simp at h; omega⟩;rw [K8];have hd:decide (A6 t<=0)=false:=Aq ω;rw [hd,Bool.and_false];rfl
  | succ b=>
   rw [Awv g t data vars ((b+1:Nat):Int) ω ω];have y:((b+1:Nat):Int)-1=(b:Int):=ω;rw [y,T0];cases z:Il data vars t.Kind t.Num t.Args.length with
   | false=>exact ⟨b,ψ,λh=>by simp at h⟩
   | true=>
    obtain ⟨q,rfl⟩:∃q,g=q+3:=⟨g-3,ω⟩;have j:=Ga t;have u:=Hq t.Args;obtain ⟨⟨i,f⟩,h1,h2,h3⟩:=Aww data vars q t.Args b ω (λa ha c x=>by have:=Gf ha;exact s c ω a q ω ω ω);have l:decide (A6 t<=b+1)=decide (Cj t.Args<=b):=(by rw [j]; congr 1; simp only [eq_iff_iff]; omega);simp only [cond_true,Tq,h1,Ad,Bool.true_and,l];refine ⟨f,?_,λh=>?_⟩
    .cases hb:(Dp data vars t.Args&&decide (Cj t.Args<=b)) with| true=>have h4:i = -1:=(h2 hb).1;rw [Aq (by omega:¬i>=0)]; rfl| false=>have h4:0<=i:=h3 hb;rw [An (by omega:i>=0)]; rfl
    .have h4:f=(b:Int)-Cj t.Args:=(h2 h).2;rw [h4,j]; omega
theorem Xi (data:List Ao) (t:Ag) (vars:Int) (ht:A6 t<1099511627776):Ly data t vars=some (Dc data vars t&&decide (A6 t<=200)):=by unfold Ly;obtain ⟨b,h1,_⟩:=Awx data vars 200 t 4000000 δ δ ht;have h1:K8 4000000 t ⟨data,vars,200⟩=_:=h1;rw [h1]; rfl
theorem Am3:∀(k:Nat) (t:Ag),A6 t<=k->A6 t<1099511627776->L6 k t=some (A6 t:Int):=by
 intro k;induction k with
 | zero=>intro t h; have:=Me t; omega
 | succ k ih=>
  intro t h ht;have c:=Ga t;have f:=Hq t.Args;rw [L6];refine He (λ(n,i)=>∃j:Nat,i=j/\j<=t.Args.length/\n=1+(Cj (t.Args.take j):Int)) (λ(_,i)=>t.Args.length-i.toNat) (λn=>n=(A6 t:Int)) ⟨0,rfl,ω,by simp [Cj]⟩ ?_ (by rintro n rfl; rfl);rintro ⟨n,i⟩ ⟨j,rfl,hj,rfl⟩;rcases Nat.lt_or_ge j t.Args.length with h' | h'
  .have l:=Gf (List.getElem_mem h');have g:=Xh t.Args j;have b:=Xh t.Args (j+1);rw [Xg h'] at b;refine .inl ⟨(1+(Cj (t.Args.take (j+1)):Int),((j+1:Nat):Int)),?_,⟨j+1,rfl,ω,rfl⟩,by simp; omega⟩;simp only [An (by omega:(j:Int)<(t.Args.length:Int)),cond_true,Df rfl h',Ad,ih t.Args[j] ω ω];rw [show Aa ((j:Int)+1)=((j+1:Nat):Int) by rw [Aa,B4] <;> omega,show Aa (1+(Cj (t.Args.take j):Int)+(A6 t.Args[j]:Int))=1+(Cj (t.Args.take (j+1)):Int) by rw [Xg h',Aa,B4] <;> omega]
  .have:j=t.Args.length:=ω;subst this;exact .inr ⟨1+(Cj t.Args:Int),ψ,by rw [c]; omega⟩
theorem Awy (data:List Ao) (vars:Int):∀(k:Nat) (t:Ag),A6 t<=k->A6 t<1099511627776->Oa k data t vars=some (Dc data vars t):=by
 intro k;induction k with
 | zero=>intro t h; have:=Me t; omega
 | succ k ih=>
  intro t h ht;have A:=Ga t;have l:=Hq t.Args;have c:(Al (S:=Int) (E:=(Bool⊕Unit)) (λv8=>bif v8<(t.Args.length:Int) then ((Ae t.Args v8).bind λv9=>(Oa k data v9 vars).bind λx=>bif (!x) then some (.inr (.inl false)) else some (.inl (Aa (v8+1)))) else some (.inr (.inr ()))) 0).bind (λz=>match z with | .inl y=>some y | .inr _=>some true)=some (Dp data vars t.Args):=by
   refine He (λi=>∃j:Nat,i=j/\j<=t.Args.length/\Dp data vars (t.Args.take j)=true) (λi=>t.Args.length-i.toNat) (λz=>match z with | .inl r=>r=Dp data vars t.Args | .inr _=>Dp data vars t.Args=true) ⟨0,rfl,ω,by simp [Dp]⟩ ?_ ?_
   .rintro i ⟨j,rfl,hj,f⟩;rcases Nat.lt_or_ge j t.Args.length with h' | h'
    .have I:=Gf (List.getElem_mem h');simp only [An (by omega:(j:Int)<(t.Args.length:Int)),cond_true,Df rfl h',Ad,ih t.Args[j] ω ω];cases hb:Dc data vars t.Args[j] with
     | true=>refine .inl ⟨((j+1:Nat):Int),?_,⟨j+1,rfl,ω,by rw [Abb _ _ h',f,hb]; rfl⟩,by simp; omega⟩;simp only [D3,cond_false];rw [show Aa ((j:Int)+1)=((j+1:Nat):Int) by rw [Aa,B4] <;> omega]
     | false=>refine .inr ⟨.inl false,ψ,?_⟩;show false=_;cases q:Dp data vars t.Args with| false=>rfl| true=>have a1:=Am2 data vars t.Args (j+1) q;rw [Abb _ _ h',hb,Bool.and_false] at a1; cases a1
    .have:j=t.Args.length:=ω;subst this;rw [List.take_length] at f;exact .inr ⟨.inr (),ψ,f⟩
   .rintro (r | u) s
    .simp only at s ⊢; rw [s]
    .simp only at s ⊢; rw [s]
  rw [Oa,T0];refine Eq.trans (b:=Option.bind _ (λz:Bool⊕Unit=>match z with | .inl D=>some D | .inr _=>some (Dp data vars t.Args))) (Avn ?_) ?_
  .rintro (r | u)
   .rfl
   .exact c
  have g:t.Args.length=0->Dp data vars t.Args=true:=(by intro e; rw [List.length_eq_zero_iff.1 e]; rfl);unfold Il Ae;clear c ih h ht A l;generalize Dp data vars t.Args=X at *;generalize t.Args.length=len at *;generalize t.Kind=G;generalize t.Num=n;by_cases B:len=0
  .have hx:=g B;subst B; subst hx;cases hd:data[n.toNat]? <;> simp only [Bool.cond_eq_ite,Afl,Ad,Option.bind_none,hd] <;> grind
  .have h0:((len:Int)==0)=false:=Bz ω;have h1:(len==0)=false:=(by simpa using B);have h2:((len:Int) != 1)=(!(len==1)):=by
    by_cases h:len=1
    .subst h; rfl
    .rw [Cs ω]; simp [h]
   cases hd:data[n.toNat]? <;> simp only [h0,h1,h2,Bool.cond_eq_ite,Afl,Ad,Option.bind_none,hd,Bool.and_false,Bool.false_and] <;> grind
theorem Abc (data:List Ao) (t:Ag) (vars:Int) (ht:A6 t<=4000000):L1 data t vars=some (Dc data vars t&&decide (A6 t<=200)):=by
 unfold L1;rw [Am3 4000000 t ht ω,Ad,Awy data vars 4000000 t ht ω];by_cases h:A6 t<=200
 .rw [An (by omega:(A6 t:Int)<=200),An h]; simp
 .rw [Aq (by omega:¬(A6 t:Int)<=200),Aq h]; simp
end Go.Ab
namespace Go.Ab
open Go
def Mf (a:Ag) (i:Int):Bool:=a.Kind==4&&a.Num==i&&a.Args.length==0
def Am4 (l:List Ag):Bool:=l.zipIdx.all λq=>Mf q.1 q.2
def G5 (t:Ag) (d vars:Int):Bool:=t.Kind==5&&t.Num==d&&(t.Args.length:Int)==vars&&Am4 t.Args
theorem Am5 (t:Ag) (d vars:Int) (ht:t.Args.length<1099511627776):Mx t d vars=some (G5 t d vars):=by
 unfold Mx G5;by_cases h1:t.Kind=5
 .by_cases h2:t.Num=d
  .by_cases h3:(t.Args.length:Int)=vars
   .simp only [Cp h1,Cp h2,Cp h3,cond_false,Ad,Ct h1,Ct h2,Ct h3,Bool.true_and];refine (M5 t.Args (λq=>Mf q.1 q.2) (λj=>(j:Int)) rfl ω (rt:=true) (rf:=false) ?_ ?_).trans (by rw [Kf]; rfl)
    .intro j x hx _ hd hi hw;simp only [hd,hi,hw,cond_true,Ad,Mf];constructor
     .intro h;simp only [Ca,beq_iff_eq] at h;simp [h.1.1,h.1.2,h.2]
     .intro h;by_cases g1:x.Kind=4
      .by_cases g2:x.Num=j
       .by_cases g3:x.Args.length=0
        .simp [g1,g2,g3] at h
        .exact ⟨.inl false,by simp only [Cp g1,Cp g2,cond_false]; rw [An ω]; rfl,rfl⟩
       .exact ⟨.inl false,by simp only [Cp g1,Cs g2,cond_false]; rfl,rfl⟩
      .exact ⟨.inl false,by simp only [Cs g1]; rfl,rfl⟩
    .intro hd _;exact ⟨.inr (),by simp only [hd]; rfl,rfl⟩
   .simp only [Cp h1,Cp h2,Cs h3,cond_false,cond_true,Ad,Bz h3,Bool.and_false,Bool.false_and]
  .simp only [Cp h1,Cs h2,cond_false,cond_true,Ad,Bz h2,Bool.and_false,Bool.false_and]
 .simp only [Cs h1,cond_true,Ad,Bz h1,Bool.false_and]
def Cx (data:List Ao) (d c:Int):List Bool := match Ae data d with
 | none=>[]
 | some x=>match Ae x.Cons c with
  | none=>[]
  | some y=>y.Args.map λt=>G5 t d x.Vars
theorem Ec {α:Type} {l:List α} {i:Int} {x:α} (h:Ae l i=some x):0<=i/\i<l.length/\l[i.toNat]? = some x/\x∈l:=by
 unfold Ae at h;split at h
 .have h1:i.toNat<l.length:=Dr h;exact ⟨by assumption,ω,h,Bg h⟩
 .cases h
theorem O7 {α:Type} {l:List α} {i:Int} (h:Ae l i=none):i<0\/(l.length:Int)<=i:=by
 unfold Ae at h;split at h
 .rw [List.getElem?_eq_none_iff] at h;right; omega
 .left; omega
theorem Am6 {R:Type} (data:List Ao) (d c:Int) (F:Ao->Lb->Option R) (z:R) (X:Option R) (f:X=((bif d<(0:Int) then some true else bif d>=(data.length:Int) then some true else bif c<(0:Int) then some true else (Ae data d).bind λb=>some (decide (c>=(b.Cons.length:Int))):OB).bind λv2=>bif v2 then some z else (Ae data d).bind λv3=>(Ae v3.Cons c).bind λv4=>F v3 v4)) : X=match Ae data d with
   | none=>some z
   | some x=>match Ae x.Cons c with
    | none=>some z
    | some y=>F x y:=by
 subst f;cases hx:Ae data d with
 | none=>
  rcases O7 hx with h | h
  .simp only [An h,cond_true,Ad]
  .by_cases h':d<0
   .simp only [An h',cond_true,Ad]
   .simp only [Aq h',An (show d>=(data.length:Int) from h),cond_true,cond_false,Ad]
 | some x=>
  obtain ⟨a1,a2,_,_⟩:=Ec hx;simp only [Aq (by omega:¬d<0),Aq (by omega:¬d>=(data.length:Int)),cond_false,Ad];cases hy:Ae x.Cons c with
  | none=>
   rcases O7 hy with h | h
   .simp only [An h,cond_true,Ad]
   .by_cases h':c<0
    .simp only [An h',cond_true,Ad]
    .simp only [Aq h',An (show c>=(x.Cons.length:Int) from h),cond_true,cond_false,Ad]
  | some y=>obtain ⟨b1,b2,_,_⟩:=Ec hy;simp only [Aq (by omega:¬c<0),Aq (by omega:¬c>=(x.Cons.length:Int)),cond_false,Ad]
def Awz (l:List Ag):Prop:=l.length<=4194304/\∀a∈l,a.Args.length<=4194304
def Hf (data:List Ao):Prop:=∀x∈data,∀y∈x.Cons,Awz y.Args
theorem Af4 (data:List Ao) (d c:Int) (hd:Hf data):Tl data d c=some (Cx data d c):=by
 unfold Tl;rw [Am6 data d c (λv4 v5=>_) [] _ rfl];unfold Cx;cases hx:Ae data d with
 | none=>rfl
 | some x=>
  cases hy:Ae x.Cons c with
  | none=>simp only [hy]
  | some y=>
   simp only [hy];have b:=hd x (Ec hx).2.2.2 y (Ec hy).2.2.2;refine Fg y.Args (λj=>((j:Int),(y.Args.take j).map λt=>G5 t d x.Vars)) rfl (by have:=b.1; omega) ?_ ?_
   .intro j t hj ht h1 h2 h3;simp only [h1,h2,cond_true,Ad,Am5 t d x.Vars (by have:=b.2 t (Bg ht); omega)];rw [Di (by simp; have:=b.1; omega),Ad,h3,Cu ht,List.map_append]; rfl
   .intro h1;exact ⟨_,by simp only [h1]; rfl,ψ⟩
theorem Aw0 (data:List Ao) (d c:Int) (hd:Hf data):Aff data d c=some (Cx data d c):=Af4 data d c hd
theorem T1 {α:Type} (l m:List α) (y x:α) (i:Int) (n:Nat) (h:i=n) (b:n=l.length):Cf (l++y::m) i x=l++x::m:=by rw [Ho h]; subst b; simp
theorem T2 {α:Type} (l m:List α) (y:α) (i:Int) (n:Nat) (h:i=n) (b:n=l.length):Ae (l++y::m) i=some y:=by rw [Bi h]; subst b; simp
theorem Aw1 (l:List Ag) (k f:List Bool) (i:Int) (n:Nat) (b:Bool) (h:i=n) (s:n=k.length) (A:l.length<1099511627776) {R:Type} {J:Int×List Bool->Option R} {r:R} (z:J ((l.length:Int),k++(b&&Am4 l)::f)=some r) : (Al (S:=(Int×(List Bool))) (E:=(Int×(List Bool))) (λ(c,g)=> bif c<(l.length:Int) then ((Ae l c).bind λv44=> bif (v44.Kind != (4:Int)) then ((Ae g i).bind λv46=> some (.inl ((Aa (c+1)),(Cf g i false)))) else (bif (v44.Num != c) then ((Ae g i).bind λy=> some (.inl ((Aa (c+1)),(Cf g i false)))) else (bif (v44.Args.length:Int)>(0:Int) then ((Ae g i).bind λu=> some (.inl ((Aa (c+1)),(Cf g i false)))) else (some (.inl ((Aa (c+1)),g)))))) else (some (.inr (c,g)))) (0,k++b::f)).bind J=some r:=by
 refine Fg l (λj=>((j:Int),k++(b&&(l.take j).zipIdx.all (λq=>Mf q.1 q.2))::f)) ψ ω ?_ ?_
 .intro j x hj hx h1 h2 h3;have e:(l.take (j+1)).zipIdx.all (λq=>Mf q.1 q.2)=((l.take j).zipIdx.all (λq=>Mf q.1 q.2)&&Mf x j):=(by rw [Cu hx,List.zipIdx_append,List.all_append]; simp [Nat.min_eq_left (Nat.le_of_lt hj)]);simp only [h1,h2,h3,cond_true,Ad,T2 k f _ i n h s,T1 k f _ _ i n h s,e];unfold Mf;by_cases g1:x.Kind=4
  .by_cases g2:x.Num=j
   .by_cases g3:x.Args.length=0
    .rw [Aq ω]; simp [g1,g2,g3]
    .rw [An ω];have:(x.Args.length==0)=false:=(by simpa using g3);simp [g1,g2,this]
   .simp [g1,g2,Cs g2]
  .simp [g1,Cs g1]
 .intro h1;refine ⟨_,by simp only [h1]; rfl,?_⟩;rw [List.take_length];exact z
theorem Xj (data:List Ao) (d c:Int) (hd:Hf data):M0 data d c=some (Cx data d c):=by
 unfold M0;rw [Am6 data d c (λv3 v4=>_) [] _ rfl];unfold Cx;cases hx:Ae data d with
 | none=>rfl
 | some x=>
  cases hy:Ae x.Cons c with
  | none=>simp only [hy]
  | some y=>
   simp only [hy];have f:=hd x (Ec hx).2.2.2 y (Ec hy).2.2.2;have g:=f.1;rw [Js (n:=y.Args.length) (c:=y.Args.length) rfl rfl ω ω ω,Ad];refine Fg y.Args (λj=>((j:Int),((y.Args.take j).map λt=>G5 t d x.Vars)++List.replicate (y.Args.length-j) false)) rfl ω ?_ ?_
   .intro j t hj ht h1 h2 h3;obtain ⟨m,h⟩:∃m,y.Args.length-j=m+1:=⟨y.Args.length-j-1,ω⟩;have e2:y.Args.length-(j+1)=m:=ω;have b:j=((y.Args.take j).map λt=>G5 t d x.Vars).length:=(by simp; omega);simp only [h1,h2,cond_true,Ad,h,e2,List.replicate_succ,Cu ht,List.map_append,List.map_cons,List.map_nil,List.append_assoc,List.cons_append,List.nil_append, T2 _ _ _ (j:Int) j rfl b,T1 _ _ _ _ (j:Int) j rfl b];have hb:(bif t.Kind==5 then bif t.Num==d then some (List.map (λt=>G5 t d x.Vars) (List.take j y.Args)++((t.Args.length:Int)==x.Vars)::List.replicate m false)
       else some (List.map (λt=>G5 t d x.Vars) (List.take j y.Args)++false::List.replicate m false) else some (List.map (λt=>G5 t d x.Vars) (List.take j y.Args)++false::List.replicate m false))=some (List.map (λt=>G5 t d x.Vars) (List.take j y.Args)++(t.Kind==5&&t.Num==d&&((t.Args.length:Int)==x.Vars))::List.replicate m false):=by cases t.Kind==5 <;> cases t.Num==d <;> simp
    rw [hb,Ad];refine Aw1 t.Args _ _ (j:Int) j _ rfl b (by have:=f.2 t (Bg ht); omega) ?_;rw [h3]; rfl
   .intro h1;exact ⟨_,by simp only [h1]; rfl,ψ⟩
mutual
def mnt (d:Int):Ag->Bool
 | ⟨k,n,l⟩=>(k==5&&n==d)||M7 d l
def M7 (d:Int):List Ag->Bool
 | []=>false
 | x::xs=>mnt d x||M7 d xs
end
theorem Aw2 (d:Int) (t:Ag):mnt d t=((t.Kind==5&&t.Num==d)||M7 d t.Args):=by cases t; simp only [mnt]
theorem Aw3 (d:Int) (l:List Ag):M7 d l=l.any (mnt d):=by induction l with| nil=>rfl| cons x xs ih=>simp only [M7,ih,List.any_cons]
theorem Aw4 (d:Int):∀(n:Nat) (t:Ag) (k:Nat),A6 t<=n->4*n+4<=k->n<1099511627776->Qv k t d=some (mnt d t):=by
 intro n;induction n with
 | zero=>intro t k h; have:=Me t; omega
 | succ n ih=>intro t k h hk g;obtain ⟨k,rfl⟩:∃c,k=c+4:=⟨k-4,ω⟩;have f:=Ga t;have b:=Hq t.Args;have key:Tp (k+3) t.Args d=some (M7 d t.Args):=(by rw [Tp,Aak];rw [Aw3];refine Xa (Afq t.Args (mnt d) ω ?_ (λh=>by simp only [h]; rfl) (λ_=>rfl) rfl) (λi hi=>by rw [hi]);intro j x hx h1 h2 h3;have l:=Gf hx;simp only [h1,h2,h3,cond_true,Ad,Wv,ih x k ω ω ω]);rw [Qv,key,Aw2];cases t.Kind==5 <;> cases t.Num==d <;> simp
end Go.Ab
namespace Go.Ab
open Go
theorem Am7 (data:List Ao) (v:Int) (l:List Ag):Dp data v l=l.all (Dc data v):=by induction l with| nil=>rfl| cons x xs ih=>simp only [Dp,ih,List.all_cons]
theorem Aw5 (data:List Ao) (d:Nat) (v k n:Int) (len:Nat):(Il (data.take (d+1)) v k n len && !(k==5&&n==(d:Int)))=Il (data.take d) v k n len:=by
 by_cases hk:k=5
 .subst hk;unfold Il;simp only [beq_self_eq_true,Bool.true_and,List.getElem?_take];by_cases b:n=d
  .subst b; simp
  .by_cases h0:0<=n
   .have e:(n==(d:Int))=false:=Bz b;rcases Nat.lt_or_ge n.toNat d with h | h
    .simp [h,e,show n.toNat<d+1 by omega]
    .simp [e,show ¬n.toNat<d by omega,show ¬n.toNat<d+1 by omega]
   .simp [h0]
 .have e:(k==(5:Int))=false:=Bz hk;simp only [e,Bool.false_and,Bool.not_false,Bool.and_true,Il,hk,if_false]
mutual
theorem Am8 (data:List Ao) (d:Nat) (v:Int):∀t:Ag,(Dc (data.take (d+1)) v t && !mnt d t)=Dc (data.take d) v t
 | ⟨k,n,l⟩=>by
  have h1:=Am9 data d v l
  have h2:=Aw5 data d v k n l.length
  simp only [Dc,mnt]
  rw [<-h1,<-h2]
  cases Il (data.take (d+1)) v k n l.length <;> cases (k==5&&n==(d:Int)) <;> cases Dp (data.take (d+1)) v l <;> simp
theorem Am9 (data:List Ao) (d:Nat) (v:Int):∀l:List Ag,(Dp (data.take (d+1)) v l && !M7 d l)=Dp (data.take d) v l
 | []=>by simp [Dp,M7]
 | x::xs=>by
  have h1:=Am8 data d v x
  have h2:=Am9 data d v xs
  simp only [Dp,M7]
  rw [<-h1,<-h2]
  cases Dc (data.take (d+1)) v x <;> cases mnt d x <;> cases Dp (data.take (d+1)) v xs <;> simp
end
theorem Ana:∀l:List Ag,(∀a∈l,a.Args.length=0)->Cj l=l.length
 | [],_=>rfl
 | x::xs,h=>by have h1:=h x ψ;simp only [Cj,List.length_cons];rw [Ana xs (λa ha=>h a (by simp [ha])),Ga,List.length_eq_zero_iff.1 h1];simp only [Cj]; omega
theorem Af5 {data:List Ao} {d:Nat} {x:Ao} (hx:data[d]? = some x) (hv:x.Vars<=6) {t:Ag} (h:G5 t d x.Vars=true):Dc (data.take (d+1)) x.Vars t=true/\A6 t<=200:=by
 unfold G5 at h;simp only [Ca,beq_iff_eq] at h;obtain ⟨⟨⟨h1,h2⟩,h3⟩,h4⟩:=h;have ha:∀a∈t.Args,∃i:Nat,i<t.Args.length/\a.Kind=4/\a.Num=i/\a.Args.length=0:=by intro a ha;obtain ⟨i,hi⟩:=List.getElem?_of_mem ha;have:=Ge h4 hi;simp only [Mf,Ca,beq_iff_eq] at this;exact ⟨i,Dr hi,this.1.1,this.1.2,this.2⟩
 refine ⟨?_,?_⟩
 .rw [T0,Am7,Ca];constructor
  .rw [h1,h2];unfold Il;simp [hx,h3]
  .rw [List.all_eq_true];intro a b;obtain ⟨i,i1,i2,i3,i4⟩:=ha a b;rw [T0,i2,i3,i4,List.length_eq_zero_iff.1 i4];unfold Il;simp [Dp]; omega
 .rw [Ga,Ana _ (λa h=>(ha a h).choose_spec.2.2.2)];omega
def Im (data:List Ao) (d:Nat) (v:Int) (t:Ag):Bool:=G5 t d v||(Dc (data.take d) v t&&decide (A6 t<=200))
theorem Aw6 {data:List Ao} {d:Nat} {x:Ao} (hx:data[d]? = some x) (hv:x.Vars<=6) (t:Ag):((Dc (data.take (d+1)) x.Vars t&&decide (A6 t<=200))&&(G5 t d x.Vars || !mnt d t))=Im data d x.Vars t:=by unfold Im;cases h:G5 t d x.Vars with| true=>obtain ⟨h1,h2⟩:=Af5 hx hv h;rw [h1,An h2]; rfl| false=>rw [<-Am8 data d x.Vars t];cases Dc (data.take (d+1)) x.Vars t <;> cases decide (A6 t<=200) <;> simp
def SzD (data:List Ao):Prop:=∀x∈data,x.Cons.length<=1048576/\∀y∈x.Cons,Cj y.Args<=1048576
theorem SzD.short {data:List Ao} (h:SzD data):Hf data:=λx hx y hy=>by have h1:=(h x hx).2 y hy;have h2:=Hq y.Args;refine ⟨ω,λa ha=>?_⟩;have h3:=Gf ha;have h4:=Ga a;have b:=Hq a.Args;omega
theorem Aw7 {data:List Ao} (g:SzD data) (d c:Nat) {x:Ao} {y:Lb} (hx:data[d]? = some x) (hy:x.Cons[c]? = some y) (hv:x.Vars<=6) (hd:data.length<=1048576) : Oc data d c=some (decide (y.Args.length<=6)&&y.Args.all (Im data d x.Vars)):=by
 have b:=Dr hx;have l:=(g x (Bg hx)).2 y (Bg hy);unfold Oc;rw [Bi rfl hx,Ad,Bi rfl hy,Ad,Xj data d c g.short];by_cases k:y.Args.length<=6
 .rw [Aq (by omega:¬(y.Args.length:Int)>6),An k];simp only [cond_false,Bool.true_and,Ad];refine (Ld y.Args (Im data d x.Vars) (λj=>(j:Int)) rfl ω (rt:=true) (rf:=false) ?_ ?_).trans (by rw [Kf])
  .intro j t ht h1 h2 h3;have q:=Gf (Bg ht);have s:Ae (Cx data d c) (j:Int)=some (G5 t d x.Vars):=(by unfold Cx;simp only [Bi rfl hx,Bi rfl hy];rw [Bi rfl];simp [ht]);simp only [h1,h2,h3,cond_true,Ad,show Aa ((d:Int)+1)=((d+1:Nat):Int) from Co b ω,Aat rfl (show d+1<=data.length from b),Bi rfl hx,
    Xi (data.take (d+1)) t x.Vars ω,s];rw [<-Aw6 hx hv t];cases i:(Dc (data.take (d+1)) x.Vars t&&decide (A6 t<=200)) with
   | false=>exact ⟨(λh=>by cases h),λ_=>⟨.inl false,rfl,rfl⟩⟩
   | true=>
    have f:A6 t<=200:=(by simp only [Ca,decide_eq_true_eq] at i; exact i.2);simp only [D3,cond_false,Bool.true_and];cases u:G5 t d x.Vars with
    | true=>exact ⟨λ_=>rfl,λh=>by cases h⟩
    | false=>simp only [Bool.not_false,cond_true,Aw4 d 200 t 4000000 f ω ω,Ad,Bool.false_or];cases mnt d t with| true=>exact ⟨(λh=>by cases h),λ_=>⟨.inl false,rfl,rfl⟩⟩| false=>exact ⟨λ_=>rfl,λh=>by cases h⟩
  .intro h;exact ⟨.inr (),by simp only [h]; rfl,rfl⟩
 .rw [An (by omega:(y.Args.length:Int)>6),Aq k]; rfl
end Go.Ab
namespace Go.Ab
open Go
def bI (s:ByteArray) (i:Nat):Int:=if h:i<s.size then (s[i].toNat:Int) else 0
def loI (c:Int):Bool:=decide (97<=c)&&decide (c<=122)
def upI (c:Int):Bool:=decide (65<=c)&&decide (c<=90)
def diI (c:Int):Bool:=decide (48<=c)&&decide (c<=57)
def wiI (c:Int):Bool:=loI c||upI c||diI c||c==95
def Es (s:ByteArray):Prop:=1<=s.size/\s.size<=24/\upI (bI s 0)=true/\∀i,i<s.size->wiI (bI s i)=true
theorem Hr {s:ByteArray} {i:Int} {n:Nat} (hi:i=n) (h:n<s.size):∃c:UInt8,E8 s i=some c/\(c.toNat:Int)=bI s n:=by
 subst hi;refine ⟨s[n],?_,?_⟩
 .unfold E8;rw [if_pos ω,show ((n:Int)).toNat=n from rfl];simp [h]
 .unfold bI; simp [h]
theorem Rj {s:ByteArray} {a b j:Nat} (hb:b<=s.size) (h:a+j<b):bI (s.extract a b) j=bI s (a+j):=by
 unfold bI;have h1:j<(s.extract a b).size:=by rw [ByteArray.size_extract]; omega
 rw [dif_pos h1,dif_pos ω,ByteArray.getElem_extract]
theorem Mh {s:ByteArray} {lo hi:Int} {a b:Nat} (h1:lo=a) (h2:hi=b) (h3:a<=b) (h4:b<=s.size):Dt s lo hi=some (s.extract a b):=by subst h1; subst h2; unfold Dt; rw [if_pos ω]; rfl
theorem Anb {a b:ByteArray} (h:a.toList=b.toList):a=b:=by rw [ByteArray.toList_eq,ByteArray.toList_eq] at h;have:a.data=b.data:=Array.toList_inj.1 h;cases a; cases b; simp at this; subst this; rfl
theorem Abd (a b:ByteArray):(a.toList==b.toList)=decide (a=b):=by
 by_cases h:a=b
 .subst h; simp
 .rw [Aq h];cases hb:(a.toList==b.toList) with| false=>rfl| true=>exact absurd (Anb (by simpa using hb)) h
theorem Af6 (c:Int):Tm c=some (loI c):=by unfold Tm loI; by_cases h:(97:Int)<=c <;> simp [h]
theorem Af7 (c:Int):Q7 c=some (upI c):=by unfold Q7 upI; by_cases h:(65:Int)<=c <;> simp [h]
theorem Xk (c:Int):Oo c=some (diI c):=by unfold Oo diI; by_cases h:(48:Int)<=c <;> simp [h]
theorem Anc (c:Int):Tn c=some (wiI c):=by unfold Tn wiI;rw [Af6,Af7,Xk];simp only [Ad];cases loI c <;> cases upI c <;> cases diI c <;> rfl
theorem Aw8 (c:Int):Wo c=some (loI c):=Af6 c
theorem Aw9 (c:Int):Th c=some (upI c):=Af7 c
theorem Axa (c:Int):Ti c=some (diI c):=Xk c
theorem T3 {S E:Type} {step:S->Option (S⊕E)} (s:ByteArray) (p:Int->Bool) (b:Nat->S) (f:Nat->E) (lo:Nat) (h1:∀j,lo<=j->j<s.size->p (bI s j)=true->step (b j)=some (.inl (b (j+1)))) (h2:∀j,lo<=j->j<s.size->p (bI s j)=false->step (b j)=some (.inr (f j))) (h3:step (b s.size)=some (.inr (f s.size))) : ∀(m i:Nat),lo<=i->i+m=s.size->∃n,i<=n/\n<=s.size/\(∀j,i<=j->j<n->p (bI s j)=true)/\(n<s.size->p (bI s n)=false)/\Al step (b i)=some (f n):=by
 intro m;induction m with
 | zero=>intro i _ hi;have:i=s.size:=ω;subst this;exact ⟨s.size,ω,ω,λj _ _=>ω,λh=>ω,F3 h3⟩
 | succ m ih=>
  intro i c hi;cases hp:p (bI s i) with
  | true=>
   obtain ⟨n,a1,a2,a3,a4,a5⟩:=ih (i+1) ω ω;refine ⟨n,ω,a2,λj b1 b2=>?_,a4,by rw [K1 (h1 i c ω hp)]; exact a5⟩;rcases Nat.lt_or_ge i j with h | h
   .exact a3 j h b2
   .have:j=i:=ω;subst this; exact hp
  | false=>exact ⟨i,ω,ω,λj _ _=>ω,λ_=>hp,F3 (h2 i c ω hp)⟩
theorem Axb (s:ByteArray) (k:s.size<1099511627776):∃n,n<=s.size/\(∀j,j<n->wiI (bI s j)=true)/\(n<s.size->wiI (bI s n)=false)/\Wz s=some (s.extract 0 n):=by
 have H:=T3 (step:=λv3:Int=>bif v3<(s.size:Int) then ((E8 s v3).bind λh=>(Tn (h.toNat:Int)).bind λv5=>bif v5 then some (.inl (Aa (v3+1))) else some (.inr v3)) else some (.inr v3))
  s wiI (λj=>(j:Int)) (λj=>(j:Int)) 0 (λj _ hj hp=>by
   obtain ⟨c,g,f⟩:=Hr (s:=s) (i:=(j:Int)) rfl hj
   simp only [An (by omega:(j:Int)<(s.size:Int)),cond_true,g,Ad,f,Anc,hp,Co hj ω]) (λj _ hj hp=>by
   obtain ⟨c,g,f⟩:=Hr (s:=s) (i:=(j:Int)) rfl hj
   simp only [An (by omega:(j:Int)<(s.size:Int)),cond_true,g,Ad,f,Anc,hp,cond_false]) ψ s.size 0 ω ω
 obtain ⟨n,_,a2,a3,a4,a5⟩:=H
 refine ⟨n,a2,λj hj=>a3 j ω hj,a4,?_⟩
 unfold Wz
 have a5:Al _ (0:Int)=some (n:Int):=a5
 rw [a5,Ad,Mh (lo:=0) (a:=0) (b:=n) rfl rfl ω a2]; rfl
theorem Axc (s:ByteArray) (k:s.size<1099511627776):∃n,n<=s.size/\(∀j,j<n->diI (bI s j)=true)/\(n<s.size->diI (bI s n)=false)/\Aaj s=some (s.extract 0 n):=by
 have H:=T3 (step:=λv3:Int=>bif v3<(s.size:Int) then ((E8 s v3).bind λh=>(Oo (h.toNat:Int)).bind λv5=>bif v5 then some (.inl (Aa (v3+1))) else some (.inr v3)) else some (.inr v3))
  s diI (λj=>(j:Int)) (λj=>(j:Int)) 0 (λj _ hj hp=>by
   obtain ⟨c,g,f⟩:=Hr (s:=s) (i:=(j:Int)) rfl hj
   simp only [An (by omega:(j:Int)<(s.size:Int)),cond_true,g,Ad,f,Xk,hp,Co hj ω]) (λj _ hj hp=>by
   obtain ⟨c,g,f⟩:=Hr (s:=s) (i:=(j:Int)) rfl hj
   simp only [An (by omega:(j:Int)<(s.size:Int)),cond_true,g,Ad,f,Xk,hp,cond_false]) ψ s.size 0 ω ω
 obtain ⟨n,_,a2,a3,a4,a5⟩:=H
 refine ⟨n,a2,λj hj=>a3 j ω hj,a4,?_⟩
 unfold Aaj
 have a5:Al _ (0:Int)=some (n:Int):=a5
 rw [a5,Ad,Mh (lo:=0) (a:=0) (b:=n) rfl rfl ω a2]; rfl
theorem Lg {R:Type} {c:Bool} {X Y:Option R} {Q:R->Prop} (h1:∃r,X=some r/\Q r) (h2:∃r,Y=some r/\Q r):∃r,(bif c then X else Y)=some r/\Q r:=by cases c <;> assumption
theorem Xl {A R:Type} {X:Option A} {f:A->Option R} {Q:R->Prop} (P:A->Prop) (h1:∃a,X=some a/\P a) (h2:∀a,P a->∃r,f a=some r/\Q r):∃r,X.bind f=some r/\Q r:=by obtain ⟨a,e,h⟩:=h1;rw [e]; exact h2 a h
theorem Axd (s:ByteArray):∃b,W0 s=some b/\True:=by unfold W0;repeat' first | refine Lg ?_ ?_ | exact ⟨_,rfl,trivial⟩
theorem Axe (s:ByteArray) (h1:1<=s.size):∃r,W2 s=some r/\(r.size<=s.size):=by
 have g:Dt s 0 1=some (s.extract 0 1):=Mh rfl rfl ω h1;have c:(s.extract 0 1).size<=s.size:=by rw [ByteArray.size_extract]; omega
 unfold W2;refine Xl (λz=>∀r,z = .inl r->r.size<=s.size) ?_ ?_
 .by_cases h2:2<=s.size
  .have f:Dt s 0 2=some (s.extract 0 2):=Mh rfl rfl ω h2;have b:∀r,(Sum.inl (s.extract 0 2):ByteArray⊕Unit) = .inl r->r.size<=s.size:=(by rintro r ⟨⟩; rw [ByteArray.size_extract]; omega);simp only [f,Ad];repeat' first | refine Lg ?_ ?_ | with_reducible exact ⟨_,rfl,b⟩ | exact ⟨_,rfl,λr h=>by cases h⟩
  .rw [Aq ω];exact ⟨_,rfl,λr h=>by cases h⟩
 .rintro (r | u) i
  .exact ⟨_,rfl,i r rfl⟩
  .simp only [g,Ad];have h0:(ByteArray.mk #[]).size<=s.size:=Nat.zero_le _;repeat' first | refine Lg ?_ ?_ | with_reducible exact ⟨_,rfl,c⟩ | with_reducible exact ⟨_,rfl,h0⟩
theorem Axf (s:ByteArray) (g:s.size<1099511627776):∃b,W1 s=some b/\True:=by
 unfold W1;refine C6 (λ(_,i)=>∃j:Nat,i=j/\j<=s.size) (λ(_,i)=>s.size-i.toNat) (λ_=>True) ⟨0,rfl,ω⟩ ?_ ?_
 .rintro ⟨v,i⟩ ⟨j,rfl,hj⟩;rcases Nat.lt_or_ge j s.size with h | h
  .obtain ⟨c,f,_⟩:=Hr (s:=s) (i:=(j:Int)) rfl h;simp only [An (by omega:(j:Int)<(s.size:Int)),cond_true,f,Ad,Co h ω];cases decide (Aa (Aa (v*10)+Aa (wu8 ((c.toNat:Int)-48)))>1000000) with| true=>exact .inr ⟨_,rfl,trivial⟩| false=>exact .inl ⟨_,rfl,⟨j+1,rfl,ω⟩,by simp; omega⟩
  .have:j=s.size:=ω;subst this;exact .inr ⟨.inr (),ψ,trivial⟩
 .rintro (r | u) _ <;> exact ⟨_,rfl,trivial⟩
theorem Axg (s:ByteArray) (i:Nat) (hi:i<s.size) (R:s.size<1099511627776) : ∃r,Wu s i=some r/\(r.2=0->1<=r.1.Text.size/\i+r.1.Text.size<=s.size/\(r.1.Kind=2->Es r.1.Text))/\(Es s->i=0->r=(⟨2,s,0⟩,0)):=by
 obtain ⟨c,M,L⟩:=Hr (s:=s) (i:=(i:Int)) rfl hi;have u:Dt s (i:Int) (s.size:Int)=some (s.extract i s.size):=Mh rfl rfl ω ω;have I:(s.extract i s.size).size=s.size-i:=by rw [ByteArray.size_extract]; omega
 have x:bI (s.extract i s.size) 0=bI s i:=Rj ω ω;unfold Wu;simp only [M,Ad,L,Af6,Af7,Xk,u];have hw:(bif loI (bI s i) then some true else some (upI (bI s i)))=some (loI (bI s i)||upI (bI s i)):=by cases loI (bI s i) <;> rfl
 rw [hw];simp only [Ad];cases l:(loI (bI s i)||upI (bI s i)) with
 | true=>
  obtain ⟨n,G,D,y,n4⟩:=Axb (s.extract i s.size) ω;have A:1<=n:=by
   rcases Nat.eq_zero_or_pos n with h | h
   .subst h;have:=y ω;rw [x] at this;unfold wiI at this;rw [l] at this; cases this
   .exact h
  have hx:(s.extract i s.size).extract 0 n=s.extract i (i+n):=(by rw [ByteArray.extract_extract]; congr 1; omega);have q:(s.extract i (i+n)).size=n:=(by rw [ByteArray.size_extract]; omega);rw [hx] at n4;simp only [cond_true,n4,Ad,q];have g:Es s->i=0->n=s.size:=by
   intro hu h0;rcases Nat.lt_or_ge n s.size with h | h
   .have:=y ω;rw [Rj ω ω,hu.2.2.2 _ ω] at this; cases this
   .omega
  by_cases J:n<=24
  .rw [Aq ω];cases k:upI (bI s i) with
   | true=>
    refine ⟨_,rfl,λ_=>⟨?_,?_,λ_=>⟨?_,?_,?_,?_⟩⟩,?_⟩
    .show 1<=(s.extract i (i+n)).size; omega
    .show i+(s.extract i (i+n)).size<=s.size; omega
    .show 1<=(s.extract i (i+n)).size; omega
    .show (s.extract i (i+n)).size<=24; omega
    .show upI (bI (s.extract i (i+n)) 0)=true;rw [Rj ω ω]; exact k
    .show ∀j,j<(s.extract i (i+n)).size->wiI (bI (s.extract i (i+n)) j)=true;intro j hj;rw [Rj ω ω];have:=D j ω;rw [Rj ω ω] at this; exact this
    .intro hu h0;have:=g hu h0;subst h0; subst this;rw [Nat.zero_add,ByteArray.extract_zero_size]; rfl
   | false=>obtain ⟨b,hb,_⟩:=Axd (s.extract i (i+n));simp only [cond_false,hb,Ad];have f:Es s->i=0->False:=(by intro hu h0;subst h0;rw [hu.2.2.1] at k; cases k);cases b with| true=>exact ⟨_,rfl,λ_=>⟨by show 1<=(s.extract i (i+n)).size; omega,by show i+(s.extract i (i+n)).size<=s.size; omega,λh=>by cases h⟩,λhu h0=>(f hu h0).elim⟩| false=>exact ⟨_,rfl,λ_=>⟨by show 1<=(s.extract i (i+n)).size; omega,by show i+(s.extract i (i+n)).size<=s.size; omega,λh=>by cases h⟩,λhu h0=>(f hu h0).elim⟩
  .rw [An ω];refine ⟨_,rfl,(λh=>by cases h),λhu h0=>?_⟩;have:=g hu h0;have:=hu.2.1;omega
 | false=>
  have f:Es s->i=0->False:=(by intro hu h0;subst h0;rw [hu.2.2.1,Bool.or_true] at l; cases l);simp only [cond_false];cases hd:diI (bI s i) with
  | true=>
   obtain ⟨n,G,D,y,n4⟩:=Axc (s.extract i s.size) ω;have A:1<=n:=by
    rcases Nat.eq_zero_or_pos n with h | h
    .subst h;have:=y ω;rw [x,hd] at this; cases this
    .exact h
   have hx:(s.extract i s.size).extract 0 n=s.extract i (i+n):=(by rw [ByteArray.extract_extract]; congr 1; omega);have q:(s.extract i (i+n)).size=n:=(by rw [ByteArray.size_extract]; omega);rw [hx] at n4;obtain ⟨b,hb,_⟩:=Axf (s.extract i (i+n)) ω;simp only [cond_true,n4,Ad,hb];refine Xl (λ_=>True) ?_ ?_
   .exact Lg ⟨_,rfl,trivial⟩ ⟨_,rfl,trivial⟩
   .intro v _;refine Lg ⟨_,rfl,(λh=>by cases h),λhu h0=>(f hu h0).elim⟩ (Lg ⟨_,rfl,(λh=>by cases h),λhu h0=>(f hu h0).elim⟩ ⟨_,rfl,λ_=>⟨?_,?_,λh=>by cases h⟩,λhu h0=>(f hu h0).elim⟩)
    .show 1<=(s.extract i (i+n)).size; omega
    .show i+(s.extract i (i+n)).size<=s.size; omega
  | false=>
   obtain ⟨r,E,N⟩:=Axe (s.extract i s.size) ω;simp only [cond_false,E,Ad];rw [Abd];by_cases z:r=ByteArray.mk #[]
   .rw [An z];exact ⟨_,rfl,(λh=>by cases h),λhu h0=>(f hu h0).elim⟩
   .rw [Aq z];refine ⟨_,rfl,λ_=>⟨?_,?_,λh=>by cases h⟩,λhu h0=>(f hu h0).elim⟩
    .show 1<=r.size;rcases Nat.eq_zero_or_pos r.size with h | h
     .have B:r.data.toList.length=0:=(by simpa using h);exact absurd (Anb (by rw [ByteArray.toList_eq,List.length_eq_zero_iff.1 B,ByteArray.toList_eq])) z
     .exact h
    .show i+r.size<=s.size; omega
theorem Axh (c:Int):Wt c=some (c==9||c==10||c==13||c==32):=by unfold Wt;cases c==9 <;> cases c==10 <;> cases c==13 <;> rfl
theorem Ane (s:ByteArray) (S:s.size<1099511627776):∃b,Qp s=some b/\(b=true↔Es s):=by
 unfold Qp Aaa
 by_cases q:(s.size:Int)>16384
 .rw [An q]
  refine ⟨false,rfl,by simp; rintro ⟨_,h,_⟩; omega⟩
 rw [Aq q]
 simp only [cond_false]
 refine Xl (λr:List H9×Int×Int=>(r.2.2≠0/\¬Es s)\/(r.2.2=0/\∃o e,r.1=o++[e]/\(∀t∈o,t.Kind=2->Es t.Text)/\(Es s->o = [⟨2,s,0⟩]))) ?_ ?_
 .refine C6 (λ(v26,f)=>∃i:Nat,v26=i/\i<=s.size/\f.length<=i/\(∀t∈f,t.Kind=2->Es t.Text)/\(Es s->(i=0/\f = [])\/(i=s.size/\f = [⟨2,s,0⟩])))
   (λ(v26,_)=>s.size-v26.toNat)
   (λz=>match z with | .inl o=>o.length<=16384/\(∀t∈o,t.Kind=2->Es t.Text)/\(Es s->o = [⟨2,s,0⟩]) | .inr (_,_,e)=>e≠0/\¬Es s)
   ⟨0,rfl,ω,ψ,ψ,λ_=>.inl ⟨rfl,rfl⟩⟩ ?_ ?_
  .rintro ⟨v,o⟩ ⟨i,rfl,hi,ho,hk,hu⟩
   rcases Nat.lt_or_ge i s.size with h | h
   .obtain ⟨c,E,D⟩:=Hr (s:=s) (i:=(i:Int)) rfl h
    have g:Es s->i=0/\o = []:=λu=>by
     rcases hu u with h' | h'
     .exact h'
     .omega
    simp only [An (by omega:(i:Int)<(s.size:Int)),cond_true,E,Ad,D,Axh]
    cases I:(bI s i==9||bI s i==10||bI s i==13||bI s i==32) with
    | true=>
     have k:¬Es s:=by
      intro u
      have h0:=(g u).1
      subst h0
      have:=u.2.2.1
      simp only [upI,Ca,decide_eq_true_eq] at this
      simp only [Bool.or_eq_true,beq_iff_eq] at I
      omega
     exact .inl ⟨(((i+1:Nat):Int),o),by simp only [cond_true]; rw [Co h ω],⟨i+1,rfl,ω,(by show o.length<=i+1; omega),hk,λu=>(k u).elim⟩,by simp; omega⟩
    | false=>
     simp only [cond_false]
     cases A:(bI s i==35) with
     | true=>
      have k:¬Es s:=by
       intro u
       have h0:=(g u).1
       subst h0
       have:=u.2.2.1
       simp only [upI,Ca,decide_eq_true_eq] at this
       simp only [beq_iff_eq] at A
       omega
      simp only [cond_true]
      obtain ⟨n,n1,n2,Z,n4,G⟩:=T3 (step:=λv32:Int=>bif v32<(s.size:Int) then ((E8 s v32).bind λJ=>bif ((J.toNat:Int)==(10:Int)) then some (.inr (.inl v32)) else some (.inl (Aa (v32+1)))) else some (.inr (.inr v32)))
       s (λc=>!(c==10)) (λj=>(j:Int)) (λj=>if j<s.size then Sum.inl (j:Int) else Sum.inr (j:Int)) 0 (λj _ hj hp=>by
        obtain ⟨c,E,D⟩:=Hr (s:=s) (i:=(j:Int)) rfl hj
        simp only [Bool.not_eq_true'] at hp
        simp only [An (by omega:(j:Int)<(s.size:Int)),cond_true,E,Ad,D,hp,Co hj ω,cond_false]) (λj _ hj hp=>by
        obtain ⟨c,E,D⟩:=Hr (s:=s) (i:=(j:Int)) rfl hj
        simp only [Bool.not_eq_false'] at hp
        simp only [An (by omega:(j:Int)<(s.size:Int)),cond_true,E,Ad,D,hp,if_pos hj]) ψ (s.size-i) i ω ω
      have U:i<n:=by
       rcases Nat.lt_or_ge i n with h' | h'
       .exact h'
       .have:n=i:=ω
        subst this
        have:=n4 h
        simp only [beq_iff_eq] at A
        rw [A] at this; cases this
      have G:Al _ (i:Int)=_:=G
      rw [G,Ad]
      rcases Nat.lt_or_ge n s.size with h' | h'
      .rw [if_pos h']
       exact .inl ⟨((n:Int),o),rfl,⟨n,rfl,ω,(by show o.length<=n; omega),hk,λu=>(k u).elim⟩,by simp; omega⟩
      .rw [if_neg ω]
       exact .inr ⟨.inl o,rfl,ω,hk,λu=>(k u).elim⟩
     | false=>
      obtain ⟨r,R,N,L⟩:=Axg s i h S
      simp only [cond_false,R,Ad]
      by_cases B:r.2=0
      .obtain ⟨a1,a2,a3⟩:=N B
       simp only [Cp B,cond_false]
       rw [Di (by simp; omega),Ad]
       refine .inl ⟨(((i+r.1.Text.size:Nat):Int),o++[r.1]),?_,⟨i+r.1.Text.size,rfl,a2,by simp; omega,?_,?_⟩,by simp; omega⟩
       .rw [show Aa ((i:Int)+(r.1.Text.size:Int))=((i+r.1.Text.size:Nat):Int) by rw [Aa,B4] <;> omega]
       .intro t ht
        rcases List.mem_append.1 ht with h' | h'
        .exact hk t h'
        .simp at h'; subst h'; exact a3
       .intro u
        obtain ⟨b1,b2⟩:=g u
        have:=L u b1
        subst b1; subst b2; subst this
        exact .inr ⟨ψ,rfl⟩
      .simp only [Cs B,cond_true]
       refine .inr ⟨_,rfl,B,λu=>?_⟩
       rw [L u (g u).1] at B
       exact B rfl
   .have:i=s.size:=ω
    subst this
    refine .inr ⟨.inl o,ψ,ω,hk,λu=>?_⟩
    rcases hu u with ⟨h',_⟩ | ⟨_,h'⟩
    .have:=u.1; omega
    .exact h'
  .rintro (o | ⟨l,p,e⟩) M
   .obtain ⟨Y,z2,z3⟩:=M
    simp only
    rw [Di (by simp; omega),Ad]
    exact ⟨_,rfl,.inr ⟨rfl,o,_,rfl,z2,z3⟩⟩
   .exact ⟨_,rfl,.inl M⟩
 .rintro ⟨l,p,e⟩ (⟨h1,h2⟩ | ⟨h1,o,t,h2,h3,h4⟩)
  .simp only at h1
   simp only [Bz h1,cond_false]
   exact ⟨_,rfl,by simp [h2]⟩
  .simp only at h1 h2
   subst h1; subst h2
   simp only [beq_self_eq_true,cond_true]
   match o,h3,h4 with
   | [],_,h4=>exact ⟨false,ψ,by simp; intro u; cases h4 u⟩
   | [x],h3,h4=>
    have X:Ae ([x]++[t]) 0=some x:=rfl
    simp only [X,Ad,Abd]
    have V:((([x]++[t]).length:Int)==2)=true:=rfl
    simp only [V,cond_true]
    by_cases hx:x.Kind=2
    .simp only [Ct hx,cond_true]
     refine ⟨_,rfl,?_⟩
     rw [decide_eq_true_iff]
     constructor
     .intro h; rw [<-h]; exact h3 x ψ hx
     .intro u; have:=h4 u; simp at this; rw [this]
    .simp only [Bz hx,cond_false]
     refine ⟨_,rfl,?_⟩
     simp only [Bool.false_eq_true,false_iff]
     intro u; have:=h4 u; simp at this; rw [this] at hx; exact hx rfl
   | x::y::ys,_,h4=>
    refine ⟨false,?_,by simp; intro u; have:=h4 u; simp at this⟩
    rw [Bz]
    .rfl
    .simp; omega
end Go.Ab
namespace Go.Ab
open Go
theorem Axi (s:ByteArray):∃b,Aac s=some b/\True:=by
 have key:∀(L:List ByteArray),L.length<1000->∃b,((Al (S:=Int) (E:=(Bool⊕Unit)) (λv2=>bif v2<(L.length:Int) then ((Ae L v2).bind λv3=>bif (v3.toList==s.toList) then some (.inr (.inl true)) else some (.inl (Aa (v2+1)))) else some (.inr (.inr ()))) 0).bind λz=>match z with | .inl c=>some c | .inr _=>some false)=some b/\True:=by
  intro L f;refine ⟨_,Ld L (λv=>!(v.toList==s.toList)) (λj=>(j:Int)) rfl ω (rt:=false) (rf:=true) ?_ ?_,trivial⟩
  .intro j x hx h1 h2 h3;simp only [h1,h2,h3,cond_true,Ad];cases (x.toList==s.toList) with| true=>exact ⟨(λh=>by cases h),λ_=>⟨_,rfl,rfl⟩⟩| false=>exact ⟨λ_=>rfl,λh=>by cases h⟩
  .intro h; exact ⟨.inr (),by simp only [h]; rfl,rfl⟩
 exact key _ δ
theorem Axj (s:ByteArray) (h1:1<=s.size) (T:ByteArray) (x:T.size<1000):∃r,((Al (S:=Int) (E:=(Int⊕Unit)) (λb=>bif b<(T.size:Int) then ((E8 s 0).bind λl=>(E8 T b).bind λk=>bif ((l.toNat:Int)==(k.toNat:Int)) then some (.inr (.inl 1)) else some (.inl (Aa (b+1)))) else some (.inr (.inr ()))) 0).bind λz=>match z with | .inl f=>some f | .inr _=>some 0)=some r/\(r=0\/(1<=r/\r<=s.size)):=by
 refine C6 (λi=>∃j:Nat,i=j/\j<=T.size) (λi=>T.size-i.toNat) (λz=>∀r,z = .inl r->r=1) ⟨0,rfl,ω⟩ ?_ ?_
 .rintro i ⟨j,rfl,hj⟩;rcases Nat.lt_or_ge j T.size with h | h
  .obtain ⟨c,q,_⟩:=Hr (s:=T) (i:=(j:Int)) rfl h;obtain ⟨d,d1,_⟩:=Hr (s:=s) (i:=0) (n:=0) rfl h1;simp only [An (by omega:(j:Int)<(T.size:Int)),cond_true,q,d1,Ad,Co h ω];cases ((d.toNat:Int)==(c.toNat:Int)) with| true=>exact .inr ⟨_,rfl,λr h=>by cases h; rfl⟩| false=>exact .inl ⟨_,rfl,⟨j+1,rfl,ω⟩,by simp; omega⟩
  .have:j=T.size:=ω;subst this;exact .inr ⟨.inr (),ψ,λr h=>by cases h⟩
 .rintro (r | u) g
  .exact ⟨r,rfl,.inr (by have:=g r rfl; omega)⟩
  .exact ⟨0,rfl,.inl rfl⟩
theorem Axk (s:ByteArray) (h1:1<=s.size):∃r,Wq s=some r/\(r=0\/(1<=r/\r<=s.size)):=by
 unfold Wq;refine Xl (λb=>b=true->2<=s.size) ?_ ?_
 .by_cases h2:2<=s.size
  .have c:Dt s 0 2=some (s.extract 0 2):=Mh rfl rfl ω h2;simp only [c,Ad];repeat' first | refine Lg ?_ ?_ | exact ⟨_,rfl,λ_=>h2⟩
  .rw [Aq ω];exact ⟨_,rfl,λh=>by cases h⟩
 .rintro b hb;cases b with| true=>exact ⟨2,rfl,.inr ⟨ω,by have:=hb rfl; omega⟩⟩| false=>exact Axj s h1 _ δ
theorem Axl (s:ByteArray) (k:s.size<1099511627776):∃b,Wp s=some b/\True:=by
 unfold Wp;refine C6 (λ(_,i)=>∃j:Nat,i=j/\j<=s.size) (λ(_,i)=>s.size-i.toNat) (λ_=>True) ⟨0,rfl,ω⟩ ?_ ?_
 .rintro ⟨v,i⟩ ⟨j,rfl,hj⟩;rcases Nat.lt_or_ge j s.size with h | h
  .obtain ⟨c,f,_⟩:=Hr (s:=s) (i:=(j:Int)) rfl h;simp only [An (by omega:(j:Int)<(s.size:Int)),cond_true,f,Ad,Co h ω];cases decide (Aa (Aa (v*10)+Aa (wu8 ((c.toNat:Int)-48)))>1000000) with| true=>exact .inr ⟨_,rfl,trivial⟩| false=>exact .inl ⟨_,rfl,⟨j+1,rfl,ω⟩,by simp; omega⟩
  .have:j=s.size:=ω;subst this;exact .inr ⟨.inr v,ψ,trivial⟩
 .rintro (⟨r,g⟩ | u) _ <;> exact ⟨_,rfl,trivial⟩
theorem Anf (s:ByteArray) (hs:s.size<1099511627776):∃b,Qj s=some b/\(b=true↔Es s):=by
 unfold Qj Z1
 by_cases L:(s.size:Int)>16384
 .rw [An L]
  refine ⟨false,rfl,by simp; rintro ⟨_,h,_⟩; omega⟩
 rw [Aq L]
 simp only [cond_false]
 refine Xl (λr:List Ix×Int×Int=>(r.2.2≠0/\¬Es s)\/(r.2.2=0/\∃o e,r.1=o++[e]/\(∀t∈o,t.Kind=2->Es t.Text)/\(Es s->o = [⟨2,s,0⟩]))) ?_ ?_
 .refine C6 (λ(v26,J)=>∃i:Nat,v26=i/\i<=s.size/\J.length<=i/\(∀t∈J,t.Kind=2->Es t.Text)/\(Es s->(i=0/\J = [])\/(i=s.size/\J = [⟨2,s,0⟩])))
   (λ(v26,_)=>s.size-v26.toNat)
   (λz=>match z with | .inr o=>o.length<=16384/\(∀t∈o,t.Kind=2->Es t.Text)/\(Es s->o = [⟨2,s,0⟩]) | .inl (_,_,e)=>e≠0/\¬Es s)
   ⟨0,rfl,ω,ψ,ψ,λ_=>.inl ⟨rfl,rfl⟩⟩ ?_ ?_
  .rintro ⟨v,o⟩ ⟨i,rfl,hi,ho,hk,hu⟩
   rcases Nat.lt_or_ge i s.size with h | h
   .obtain ⟨c,D,B⟩:=Hr (s:=s) (i:=(i:Int)) rfl h
    have A:Es s->i=0/\o = []:=λu=>by
     rcases hu u with h' | h'
     .exact h'
     .omega
    have f:∀j:Nat,i<=j->j<=s.size->Aa ((i:Int)+((j:Int)-(i:Int)))=(j:Int):=λj _ _=>by rw [Aa,B4] <;> omega
    have V:(bif bI s i==9 then some true else bif bI s i==10 then some true else bif bI s i==13 then some true else some (bI s i==32))=some (bI s i==9||bI s i==10||bI s i==13||bI s i==32):=by
     cases bI s i==9 <;> cases bI s i==10 <;> cases bI s i==13 <;> rfl
    have hw:(bif loI (bI s i) then some true else some (upI (bI s i)))=some (loI (bI s i)||upI (bI s i)):=by cases loI (bI s i) <;> rfl
    simp only [An (by omega:(i:Int)<(s.size:Int)),cond_true,D,Ad,B,V,Aw8,Aw9,Axa,hw]
    cases V:(bI s i==9||bI s i==10||bI s i==13||bI s i==32) with
    | true=>
     have g:¬Es s:=by
      intro u
      have h0:=(A u).1
      subst h0
      have:=u.2.2.1
      simp only [upI,Ca,decide_eq_true_eq] at this
      simp only [Bool.or_eq_true,beq_iff_eq] at V
      omega
     exact .inl ⟨(((i+1:Nat):Int),o),by simp only [cond_true]; rw [Co h ω],⟨i+1,rfl,ω,(by show o.length<=i+1; omega),hk,λu=>(g u).elim⟩,by simp; omega⟩
    | false=>
     simp only [cond_false]
     cases S:(bI s i==35) with
     | true=>
      have g:¬Es s:=by
       intro u
       have h0:=(A u).1
       subst h0
       have:=u.2.2.1
       simp only [upI,Ca,decide_eq_true_eq] at this
       simp only [beq_iff_eq] at S
       omega
      simp only [cond_true]
      obtain ⟨n,n1,G,n3,n4,E⟩:=T3 (step:=λv54:Int=>bif v54<(s.size:Int) then ((E8 s v54).bind λah=>bif ((ah.toNat:Int) != (10:Int)) then some (.inl (Aa (v54+1))) else some (.inr v54)) else some (.inr v54))
       s (λc=>c != 10) (λj=>(j:Int)) (λj=>(j:Int)) 0 (λj _ hj hp=>by
        obtain ⟨c,D,B⟩:=Hr (s:=s) (i:=(j:Int)) rfl hj
        simp only [An (by omega:(j:Int)<(s.size:Int)),cond_true,D,Ad,B,hp,Co hj ω]) (λj _ hj hp=>by
        obtain ⟨c,D,B⟩:=Hr (s:=s) (i:=(j:Int)) rfl hj
        simp only [An (by omega:(j:Int)<(s.size:Int)),cond_true,D,Ad,B,hp,cond_false]) ψ (s.size-i) i ω ω
      have ai:i<n:=by
       rcases Nat.lt_or_ge i n with h' | h'
       .exact h'
       .have:n=i:=ω
        subst this
        have:=n4 h
        simp only [beq_iff_eq] at S
        rw [S] at this; cases this
      have E:Al _ (i:Int)=_:=E
      rw [E,Ad]
      exact .inl ⟨((n:Int),o),rfl,⟨n,rfl,ω,(by show o.length<=n; omega),hk,λu=>(g u).elim⟩,by simp; omega⟩
     | false=>
      simp only [cond_false]
      cases U:(loI (bI s i)||upI (bI s i)) with
      | true=>
       simp only [cond_true]
       obtain ⟨n,n1,G,n3,n4,E⟩:=T3 (step:=λv67:Int=>bif (Aa ((i:Int)+v67))<(s.size:Int) then ((E8 s (Aa ((i:Int)+v67))).bind λag=>(some (loI (ag.toNat:Int))).bind λa8=>
         bif a8 then some (.inl (Aa (v67+1))) else ((E8 s (Aa ((i:Int)+v67))).bind λaf=>(some (upI (af.toNat:Int))).bind λa7=>bif a7 then some (.inl (Aa (v67+1))) else
         ((E8 s (Aa ((i:Int)+v67))).bind λae=>(some (diI (ae.toNat:Int))).bind λa6=>bif a6 then some (.inl (Aa (v67+1))) else ((E8 s (Aa ((i:Int)+v67))).bind λad=>bif ((ad.toNat:Int)==(95:Int)) then some (.inl (Aa (v67+1))) else some (.inr v67))))) else some (.inr v67))
        s wiI (λj=>(j:Int)-(i:Int)) (λj=>(j:Int)-(i:Int)) i (λj q hj hp=>by
         obtain ⟨c,D,B⟩:=Hr (s:=s) (i:=(j:Int)) rfl hj
         have X:Aa ((j:Int)-(i:Int)+1)=((j+1:Nat):Int)-(i:Int):=by rw [Aa,B4] <;> omega
         simp only [f j q ω,An (by omega:(j:Int)<(s.size:Int)),cond_true,D,Ad,B,X]
         unfold wiI at hp
         revert hp
         cases loI (bI s j) <;> cases upI (bI s j) <;> cases diI (bI s j) <;> cases (bI s j==95) <;> simp) (λj q hj hp=>by
         obtain ⟨c,D,B⟩:=Hr (s:=s) (i:=(j:Int)) rfl hj
         simp only [f j q ω,An (by omega:(j:Int)<(s.size:Int)),cond_true,D,Ad,B]
         unfold wiI at hp
         revert hp
         cases loI (bI s j) <;> cases upI (bI s j) <;> cases diI (bI s j) <;> cases (bI s j==95) <;> simp) (by
         simp only [f s.size hi ω]; simp) (s.size-(i+1)) (i+1) ω ω
       have e0:((i+1:Nat):Int)-(i:Int)=1:=ω
       simp only [e0] at E
       simp only [Ad] at E
       rw [E,Ad]
       have k:Dt s (i:Int) (Aa ((i:Int)+((n:Int)-(i:Int))))=some (s.extract i n):=by rw [f n ω G]; exact Mh rfl rfl ω G
       have Y:(s.extract i n).size=n-i:=by rw [ByteArray.size_extract]; omega
       have Z:∀j,i<=j->j<n->wiI (bI s j)=true:=λj a1 a2=>by
        rcases Nat.lt_or_ge i j with h' | h'
        .exact n3 j h' a2
        .have:j=i:=ω
         subst this; unfold wiI; rw [U]; rfl
       have I:Es s->n=s.size:=by
        intro u
        rcases Nat.lt_or_ge n s.size with h' | h'
        .have:=n4 h'
         rw [u.2.2.2 _ h'] at this; cases this
        .omega
       by_cases aj:n-i<=24
       .rw [Aq ω]
        simp only [cond_false]
        cases R:upI (bI s i) with
        | true=>
         simp only [cond_true,Ad,k]
         rw [Di (by simp; omega),Ad,f n ω G]
         refine .inl ⟨_,rfl,⟨n,rfl,G,by simp; omega,?_,?_⟩,by simp; omega⟩
         .intro t ht
          rcases List.mem_append.1 ht with h' | h'
          .exact hk t h'
          .simp only [List.mem_singleton] at h'
           subst h'
           intro _
           refine ⟨?_,?_,?_,?_⟩
           .show 1<=(s.extract i n).size; omega
           .show (s.extract i n).size<=24; omega
           .show upI (bI (s.extract i n) 0)=true
            rw [Rj ω ω]; exact R
           .show ∀j,j<(s.extract i n).size->wiI (bI (s.extract i n) j)=true
            intro j hj
            rw [Rj ω ω]
            exact Z _ ω ω
         .intro u
          obtain ⟨b1,b2⟩:=A u
          have hf:=I u
          subst b1; subst b2; subst hf
          rw [ByteArray.extract_zero_size]
          exact .inr ⟨rfl,rfl⟩
        | false=>
         obtain ⟨b,hb,_⟩:=Axi (s.extract i n)
         have g:¬Es s:=by
          intro u
          have h0:=(A u).1
          subst h0
          rw [u.2.2.1] at R; cases R
         have ab:∃N:Int,(bif b then some 4 else some 1:Option Int)=some N/\N≠2:=by cases b <;> exact ⟨_,rfl,δ⟩
         obtain ⟨N,k1,k2⟩:=ab
         simp only [cond_false,Ad,k,hb,k1]
         rw [Di (by simp; omega),Ad,f n ω G]
         refine .inl ⟨_,rfl,⟨n,rfl,G,by simp; omega,?_,λu=>(g u).elim⟩,by simp; omega⟩
         intro t ht
         rcases List.mem_append.1 ht with h' | h'
         .exact hk t h'
         .simp only [List.mem_singleton] at h'
          subst h'
          intro h'; exact absurd h' k2
       .rw [An ω]
        refine .inr ⟨_,rfl,(by show (9:Int)≠0; decide),λu=>?_⟩
        have:=I u
        have:=u.2.1
        have:=(A u).1
        omega
      | false=>
       have g:¬Es s:=by
        intro u
        have h0:=(A u).1
        subst h0
        rw [u.2.2.1,Bool.or_true] at U; cases U
       have M:∀(n:Nat) (N:Int),i<n->n<=s.size->N≠2->∃s':Int×List Ix,(Bx 32 o [(Ix.mk N (s.extract i n) i)]).bind (λaa=>(some (Sum.inl ((n:Int),aa)):Option ((Int×List Ix)⊕((List Ix×Int×Int)⊕List Ix))))=some (.inl s') /\
         (∃j:Nat,s'.1=j/\j<=s.size/\s'.2.length<=j/\(∀t∈s'.2,t.Kind=2->Es t.Text)/\(Es s->(j=0/\s'.2 = [])\/(j=s.size/\s'.2 = [⟨2,s,0⟩])))/\s.size-s'.1.toNat<s.size-i:=by
        intro n N a1 a2 a3
        rw [Di (by simp; omega),Ad]
        refine ⟨_,rfl,⟨n,rfl,a2,by simp; omega,?_,λu=>(g u).elim⟩,by simp; omega⟩
        intro t ht
        rcases List.mem_append.1 ht with h' | h'
        .exact hk t h'
        .simp only [List.mem_singleton] at h'
         subst h'
         intro h'; exact absurd h' a3
       simp only [cond_false]
       cases hd:diI (bI s i) with
       | true=>
        simp only [cond_true]
        obtain ⟨n,n1,G,n3,n4,E⟩:=T3 (step:=λv85:Int=>bif (Aa ((i:Int)+v85))<(s.size:Int) then ((E8 s (Aa ((i:Int)+v85))).bind λac=>(some (diI (ac.toNat:Int))).bind λv87=>
          bif v87 then some (.inl (Aa (v85+1))) else some (.inr v85)) else some (.inr v85))
         s diI (λj=>(j:Int)-(i:Int)) (λj=>(j:Int)-(i:Int)) i (λj q hj hp=>by
          obtain ⟨c,D,B⟩:=Hr (s:=s) (i:=(j:Int)) rfl hj
          have X:Aa ((j:Int)-(i:Int)+1)=((j+1:Nat):Int)-(i:Int):=by rw [Aa,B4] <;> omega
          simp only [f j q ω,An (by omega:(j:Int)<(s.size:Int)),cond_true,D,Ad,B,X,hp]) (λj q hj hp=>by
          obtain ⟨c,D,B⟩:=Hr (s:=s) (i:=(j:Int)) rfl hj
          simp only [f j q ω,An (by omega:(j:Int)<(s.size:Int)),cond_true,D,Ad,B,hp,cond_false]) (by
          simp only [f s.size hi ω]; simp) (s.size-(i+1)) (i+1) ω ω
        have e0:((i+1:Nat):Int)-(i:Int)=1:=ω
        simp only [e0] at E
        simp only [Ad] at E
        rw [E,Ad]
        have k:Dt s (i:Int) (n:Int)=some (s.extract i n):=Mh rfl rfl ω G
        have Y:(s.extract i n).size=n-i:=by rw [ByteArray.size_extract]; omega
        obtain ⟨b,hb,_⟩:=Axl (s.extract i n) ω
        obtain ⟨b',hb'⟩:∃b':Bool,(bif decide ((n:Int)-(i:Int)>1) then some (bI s i==48) else some false)=some b':=by cases decide ((n:Int)-(i:Int)>1) <;> exact ⟨_,rfl⟩
        simp only [hb',Ad,k,hb,f n ω G]
        cases b' with
        | true=>exact .inr ⟨_,rfl,(by show (2:Int)≠0; decide),g⟩
        | false=>
         simp only [cond_false]
         cases b.2 with
         | true=>exact .inl (M n 3 ω G δ)
         | false=>exact .inr ⟨_,rfl,(by show (9:Int)≠0; decide),g⟩
       | false=>
        have k:Dt s (i:Int) (s.size:Int)=some (s.extract i s.size):=Mh rfl rfl ω ω
        have Y:(s.extract i s.size).size=s.size-i:=by rw [ByteArray.size_extract]; omega
        obtain ⟨r,r1,r2⟩:=Axk (s.extract i s.size) ω
        simp only [cond_false,k,Ad,r1]
        by_cases h0:r=0
        .subst h0
         exact .inr ⟨_,rfl,(by show (2:Int)≠0; decide),g⟩
        .simp only [Bz h0,cond_false]
         obtain ⟨m,hm⟩:∃m:Nat,r=m:=⟨r.toNat,ω⟩
         subst hm
         have X:Aa ((i:Int)+(m:Int))=((i+m:Nat):Int):=by rw [Aa,B4] <;> omega
         rw [X,Mh (s:=s) (lo:=(i:Int)) (hi:=((i+m:Nat):Int)) rfl rfl ω ω,Ad]
         exact .inl (M (i+m) 5 ω ω δ)
   .have:i=s.size:=ω
    subst this
    refine .inr ⟨.inr o,ψ,ω,hk,λu=>?_⟩
    rcases hu u with ⟨h',_⟩ | ⟨_,h'⟩
    .have:=u.1; omega
    .exact h'
  .rintro (⟨l,p,e⟩ | o) hz
   .exact ⟨_,rfl,.inl hz⟩
   .obtain ⟨z1,z2,z3⟩:=hz
    simp only
    rw [Di (by simp; omega),Ad]
    exact ⟨_,rfl,.inr ⟨rfl,o,_,rfl,z2,z3⟩⟩
 .rintro ⟨l,p,e⟩ (⟨h1,h2⟩ | ⟨h1,o,t,h2,h3,h4⟩)
  .simp only at h1
   simp only [Bz h1,cond_false]
   exact ⟨_,rfl,by simp [h2]⟩
  .simp only at h1 h2
   subst h1; subst h2
   simp only [beq_self_eq_true,cond_true]
   match o,h3,h4 with
   | [],_,h4=>exact ⟨false,ψ,by simp; intro u; cases h4 u⟩
   | [x],h3,h4=>
    have e0:Ae ([x]++[t]) 0=some x:=rfl
    simp only [e0,Ad,Abd]
    have X:((([x]++[t]).length:Int)==2)=true:=rfl
    simp only [X,cond_true]
    by_cases hx:x.Kind=2
    .simp only [Ct hx,cond_true]
     refine ⟨_,rfl,?_⟩
     rw [decide_eq_true_iff]
     constructor
     .intro h; rw [<-h]; exact h3 x ψ hx
     .intro u; have:=h4 u; simp at this; rw [this]
    .simp only [Bz hx,cond_false]
     refine ⟨_,rfl,?_⟩
     simp only [Bool.false_eq_true,false_iff]
     intro u; have:=h4 u; simp at this; rw [this] at hx; exact hx rfl
   | x::y::ys,_,h4=>
    refine ⟨false,?_,by simp; intro u; have:=h4 u; simp at this⟩
    rw [Bz]
    .rfl
    .simp; omega
end Go.Ab
namespace Go.Ab
open Go
def Rk (data:List Ao) (d:Nat) (v:Int) (y:Lb):Prop:=Es y.Name/\y.Args.length<=6/\y.Args.all (Im data d v)=true
def O8 (data:List Ao) (d:Nat) (x:Ao):Prop:=0<=x.Vars/\x.Vars<=6/\1<=x.Cons.length/\x.Cons.length<=8/\Es x.Name/\∀y∈x.Cons,Rk data d x.Vars y
def Fy (x:Ao):List ByteArray:=x.Cons.map (·.Name)
def Gv (data:List Ao):Prop:=data.length<=12/\(∀d x,data[d]? = some x->O8 data d x)/\(data.map (·.Name)).Nodup/\(data.flatMap Fy).Nodup
structure DSz (data:List Ao):Prop where
 len:data.length<=1048576
 sz:SzD data
 nm:∀x∈data,x.Name.size<=1048576
 cn:∀x∈data,∀y∈x.Cons,y.Name.size<=1048576
theorem Af8 (a b:ByteArray):(a==b)=true↔a=b:=by
 constructor
 .intro h;cases a with | mk a=>cases b with | mk b=>
  have:a=b:=(by exact eq_of_beq h);rw [this]
 .rintro rfl;cases a with | mk a=>exact beq_self_eq_true a
def Ji (o:List (ByteArray×Bool)) (L:List ByteArray):Prop:=(∀p∈o,p.2=true)/\∀s,Fw o s=true↔s∈L
theorem Ji.nil:Ji [] []:=⟨ψ,by simp [Fw]⟩
theorem Ji.get {o:List (ByteArray×Bool)} {L:List ByteArray} (h:Ji o L) {s:ByteArray} (b:Fw o s=true):Iv o s false=true:=by unfold Iv;unfold Fw at b;rw [List.any_eq_true] at b;obtain ⟨p,g,f⟩:=b;cases c:o.find? (λp=>s==p.1) with| none=>exact absurd f (by have:=List.find?_eq_none.1 c p g; simpa using this)| some q=>exact h.1 q (List.mem_of_find?_eq_some c)
theorem Axm (o:List (ByteArray×Bool)) (s t:ByteArray) (v:Bool):Fw (Fx o s v) t=(Fw o t||t==s):=by
 induction o with
 | nil=>simp [Fx,Fw]
 | cons p o ih=>unfold Fx;cases hp:(s==p.1) with| true=>have:s=p.1:=(Af8 _ _).1 hp;subst this;simp only [cond_true,Fw,List.any_cons];cases t==p.1 <;> simp| false=>simp only [Fw,List.any_cons] at ih ⊢;simp only [cond_false,List.any_cons,ih,Bool.or_assoc]
theorem Ji.put {o:List (ByteArray×Bool)} {L:List ByteArray} (h:Ji o L) (s:ByteArray):Ji (Fx o s true) (L++[s]):=by
 refine ⟨?_,λt=>?_⟩
 .have:∀o:List (ByteArray×Bool),(∀p∈o,p.2=true)->∀p∈Fx o s true,p.2=true:=by
   intro o;induction o with
   | nil=>intro _ p hp; simp [Fx] at hp; rw [hp]
   | cons q o ih=>
    intro b p hp;unfold Fx at hp;cases hq:(s==q.1) with
    | true=>
     rw [hq] at hp;simp only [cond_true,List.mem_cons] at hp;rcases hp with rfl | hp
     .rfl
     .exact b p (by simp [hp])
    | false=>
     rw [hq] at hp;simp only [cond_false,List.mem_cons] at hp;rcases hp with rfl | hp
     .exact b _ ψ
     .exact ih (λp hp=>b p (by simp [hp])) p hp
  exact this o h.1
 .rw [Axm,Bool.or_eq_true,h.2 t,Af8]; simp
theorem Axn (x:Ao) {c:Nat} {y:Lb} (hy:x.Cons[c]? = some y):Fy x=(x.Cons.take c).map (·.Name)++y.Name::(x.Cons.drop (c+1)).map (·.Name):=by
 have h:=List.take_append_drop c x.Cons
 have hc:=Dr hy
 have e:x.Cons.drop c=y::x.Cons.drop (c+1):=by
  rw [List.drop_eq_getElem_cons hc]
  rw [Be hc] at hy
  rw [Option.some.inj hy]
 unfold Fy
 conv=>lhs; rw [<-h,e]
 simp
theorem Ang {L m:List ByteArray} {s:ByteArray} (h:(L++s::m).Nodup):s ∉ L:=by rw [List.nodup_append] at h;intro b;exact h.2.2 s b s ψ rfl
theorem Af9 {L:List ByteArray} {s:ByteArray} (h:L.Nodup) (c:s ∉ L):(L++[s]).Nodup:=by rw [List.nodup_append];refine ⟨h,ψ,?_⟩;intro a ha b hb;simp at hb; subst hb;intro e; subst e; exact c ha
theorem Axo {data:List Ao} (q:DSz data) {d:Nat} {x:Ao} (hx:data[d]? = some x) (hv:x.Vars<=6) (o:List (ByteArray×Bool)) (L:List ByteArray) (G:Ji o L) (J:L.Nodup) : ∃z,Al (S:=(Int×(List (ByteArray×Bool)))) (E:=(Bool⊕(Int×(List (ByteArray×Bool))))) (λ(f,g)=> bif f<(x.Cons.length:Int) then ((Ae x.Cons f).bind λv54=> (Qp v54.Name).bind λu=> bif (!u) then some (.inr (.inl false)) else (bif (Fw g v54.Name) then (bif (Iv g v54.Name (false:Bool)) then some (.inr (.inl false)) else ((Oc data d f).bind λs=> bif (!s) then some (.inr (.inl false)) else some (.inl ((Aa (f+1)),(Fx g v54.Name true))))) else ((Oc data d f).bind λv58=> bif (!v58) then some (.inr (.inl false)) else some (.inl ((Aa (f+1)),(Fx g v54.Name true)))))) else some (.inr (.inr (f,g)))) (0,o)=some z /\ match z with
   | .inl r=>r=false/\¬((∀y∈x.Cons,Rk data d x.Vars y)/\(L++Fy x).Nodup)
   | .inr (_,o')=>(∀y∈x.Cons,Rk data d x.Vars y)/\(L++Fy x).Nodup/\Ji o' (L++Fy x):=by
 have hxm:=Bg hx;have I:=(q.sz x hxm).1;refine P5 (λ(f,g)=>∃c:Nat,f=c/\c<=x.Cons.length/\(∀y∈x.Cons.take c,Rk data d x.Vars y)/\(L++(x.Cons.take c).map (·.Name)).Nodup/\Ji g (L++(x.Cons.take c).map (·.Name))) (λ(f,_)=>x.Cons.length-f.toNat) _ ?_ _ ⟨0,rfl,ω,ψ,by simpa using J,by simpa using G⟩;rintro ⟨v,g⟩ ⟨c,rfl,hc,h1,h2,h3⟩;rcases Nat.lt_or_ge c x.Cons.length with h | h
 .have hy:x.Cons[c]? = some x.Cons[c]:=Be h;generalize x.Cons[c]=y at hy;have k:=Bg hy;obtain ⟨b,b1,b2⟩:=Ane y.Name (by have:=q.cn x hxm y k; omega);have ht:=Cu hy;have B:L++Fy x=(L++(x.Cons.take c).map (·.Name))++y.Name::(x.Cons.drop (c+1)).map (·.Name):=(by rw [Axn x hy]; simp);simp only [An (by omega:(c:Int)<(x.Cons.length:Int)),cond_true,Bi rfl hy,Ad,b1,Aw7 q.sz d c hx hy hv q.len,Co h ω];cases b with
  | false=>refine .inr ⟨.inl false,rfl,rfl,λhh=>?_⟩;have:=b2.2 (hh.1 y k).1; cases this
  | true=>
   simp only [D3,cond_false];cases j:Fw g y.Name with
   | true=>simp only [cond_true,h3.get j];refine .inr ⟨.inl false,rfl,rfl,λhh=>?_⟩;rw [B] at hh;exact Ang hh.2 ((h3.2 _).1 j)
   | false=>
    simp only [cond_false];cases i:(decide (y.Args.length<=6)&&y.Args.all (Im data d x.Vars)) with
    | false=>refine .inr ⟨.inl false,rfl,rfl,λhh=>?_⟩;have:=hh.1 y k;rw [this.2.2,An this.2.1] at i; cases i
    | true=>
     simp only [Ca,decide_eq_true_eq] at i;have A:y.Name ∉ L++(x.Cons.take c).map (·.Name):=λhh=>by rw [(h3.2 _).2 hh] at j; cases j
     have e:L++(x.Cons.take (c+1)).map (·.Name)=(L++(x.Cons.take c).map (·.Name))++[y.Name]:=(by rw [ht]; simp);refine .inl ⟨_,rfl,⟨c+1,rfl,ω,?_,?_,?_⟩,by simp; omega⟩
     .intro D l;rw [ht] at l;rcases List.mem_append.1 l with h' | h'
      .exact h1 D h'
      .simp at h'; subst h'; exact ⟨b2.1 rfl,i.1,i.2⟩
     .rw [e]; exact Af9 h2 A
     .rw [e]; exact h3.put _
 .have:c=x.Cons.length:=ω;subst this;rw [List.take_length] at h1 h2 h3;exact .inr ⟨.inr ((x.Cons.length:Int),g),ψ,h1,h2,h3⟩
theorem Axp {data:List Ao} {d:Nat} {x:Ao} (hx:data[d]? = some x):data.flatMap Fy=((data.take d).flatMap Fy++Fy x)++(data.drop (d+1)).flatMap Fy/\data.map (·.Name)=(data.take d).map (·.Name)++x.Name::(data.drop (d+1)).map (·.Name):=by
 have h:=List.take_append_drop d data
 have hc:=Dr hx
 have e:data.drop d=x::data.drop (d+1):=by
  rw [List.drop_eq_getElem_cons hc]
  rw [Be hc] at hx
  rw [Option.some.inj hx]
 constructor
 .conv=>lhs; rw [<-h,e]
  simp [List.flatMap_append]
 .conv=>lhs; rw [<-h,e]
  simp
theorem Axq {data:List Ao} (i:DSz data):∃b,Vs data=some b/\(b=true↔Gv data):=by
 have D:=i.len;unfold Vs;rcases Nat.lt_or_ge 12 data.length with h12 | h12
 .rw [An ω];exact ⟨false,rfl,by simp; intro h; have:=h.1; omega⟩
 rw [Aq ω];simp only [cond_false];refine C6 (λ(v31,c,f)=>∃d:Nat,v31=d/\d<=data.length/\(∀j x,j<d->data[j]? = some x->O8 data j x)/\((data.take d).map (·.Name)).Nodup/\((data.take d).flatMap Fy).Nodup/\Ji c ((data.take d).map (·.Name))/\Ji f ((data.take d).flatMap Fy)) (λ(v31,_,_)=>data.length-v31.toNat) (λz=>match z with | .inl r=>r=false/\¬Gv data | .inr _=>Gv data) ⟨0,rfl,ω,by intro j x h; omega,ψ,ψ,by simpa using Ji.nil,by simpa using Ji.nil⟩ ?_ ?_
 .rintro ⟨v,c,f⟩ ⟨d,rfl,hd,h1,h2,h3,h4,R⟩;rcases Nat.lt_or_ge d data.length with h | h
  .have hx:data[d]? = some data[d]:=Be h;generalize data[d]=x at hx;have hxm:=Bg hx;obtain ⟨b,b1,b2⟩:=Ane x.Name (by have:=i.nm x hxm; omega);obtain ⟨f1,f2⟩:=Axp hx;simp only [An (by omega:(d:Int)<(data.length:Int)),cond_true,Bi rfl hx,Ad,b1];have bad:∀(u:¬O8 data d x),∃e:Bool⊕((List (ByteArray×Bool))×(List (ByteArray×Bool))),(some (Sum.inr (Sum.inl false)):Option ((Int×(List (ByteArray×Bool))×(List (ByteArray×Bool)))⊕(Bool⊕((List (ByteArray×Bool))×(List (ByteArray×Bool))))))=some (.inr e)/\(match e with | .inl r=>r=false/\¬Gv data | .inr _=>Gv data) :=
    λu=>⟨.inl false,rfl,rfl,λhh=>u (hh.2.1 d x hx)⟩
   cases b with
   | false=>exact .inr (bad λhh=>by have:=b2.2 hh.2.2.2.2.1; cases this)
   | true=>
    simp only [D3,cond_false];cases g:Fw c x.Name with
    | true=>simp only [cond_true,h4.get g,Ad];refine .inr ⟨.inl false,rfl,rfl,λhh=>?_⟩;have:=hh.2.2.1;rw [f2] at this;exact Ang this ((h4.2 _).1 g)
    | false=>
     simp only [cond_false];by_cases l:x.Vars<0
     .simp only [An l,cond_true,Ad];exact .inr (bad λhh=>by have:=hh.1; omega)
     by_cases s:x.Vars>6
     .simp only [Aq l,An s,cond_true,cond_false,Ad];exact .inr (bad λhh=>by have:=hh.2.1; omega)
     simp only [Aq l,Aq s,cond_false,Ad];by_cases q:(x.Cons.length:Int)<1
     .simp only [An q,cond_true,Ad];exact .inr (bad λhh=>by have:=hh.2.2.1; omega)
     by_cases y:(x.Cons.length:Int)>8
     .simp only [Aq q,An y,cond_true,cond_false,Ad];exact .inr (bad λhh=>by have:=hh.2.2.2.1; omega)
     simp only [Aq q,Aq y,cond_false,Ad];obtain ⟨z,G,z2⟩:=Axo i hx ω f _ R h3;rw [G,Ad]
     match z,z2 with
     | .inl r,z2=>obtain ⟨rfl,z2⟩:=z2;refine .inr ⟨.inl false,rfl,rfl,λhh=>z2 ⟨(hh.2.1 d x hx).2.2.2.2.2,?_⟩⟩;have:=hh.2.2.2;rw [f1] at this;exact (List.nodup_append.1 this).1
     | .inr (v60,A),z2=>
      obtain ⟨L,J,I⟩:=z2;have ht:=Cu hx;have B:x.Name ∉ (data.take d).map (·.Name):=λhh=>by rw [(h4.2 _).2 hh] at g; cases g
      have E:(data.take (d+1)).map (·.Name)=(data.take d).map (·.Name)++[x.Name]:=(by rw [ht]; simp);have e2:(data.take (d+1)).flatMap Fy=(data.take d).flatMap Fy++Fy x:=(by rw [ht]; simp [List.flatMap_append]);refine .inl ⟨(((d+1:Nat):Int),Fx c x.Name true,A),by simp only [Co h ω],⟨d+1,rfl,ω,?_,?_,?_,?_,?_⟩,by simp; omega⟩
      .intro j M N k;rcases Nat.lt_or_ge j d with h' | h'
       .exact h1 j M h' k
       .have:j=d:=ω;subst this;rw [hx] at k; cases k;exact ⟨ω,ω,ω,ω,b2.1 rfl,L⟩
      .rw [E]; exact Af9 h2 B
      .rw [e2]; exact J
      .rw [E]; exact h4.put _
      .rw [e2]; exact I
  .have:d=data.length:=ω;subst this;rw [List.take_length] at h2 h3;exact .inr ⟨.inr (c,f),ψ,h12,λd x hx=>h1 d x (Dr hx) hx,h2,h3⟩
 .rintro (r | ⟨o,o'⟩) i
  .obtain ⟨rfl,i⟩:=i;exact ⟨false,rfl,by simp [i]⟩
  .exact ⟨true,rfl,by simpa using i⟩
theorem Aga {data:List Ao} (c:DSz data):∃b,Qb data=some b/\(b=true↔Gv data):=by obtain ⟨b,h1,h2⟩:=Axq c;refine ⟨b,?_,h2⟩;unfold Qb;rw [h1,Ad];cases b with| false=>rfl| true=>rfl
end Go.Ab
