/- Plain laws: what the plain functions answer. -/
import Derived.Test.YtohelcameomopaaGreatDoorApPl0
namespace Go.Ab
open Go Ieee
theorem Aya (n d:Nat):∃c,Toward.even.cut false n d=c/\(n / 2 ^ d<=c)/\c<=n / 2 ^ d+1/\(n % 2 ^ d=0->c=n / 2 ^ d):=by
 refine ⟨_,rfl,?_⟩;unfold Toward.cut;simp only [Nat.shiftLeft_eq,Nat.one_mul];by_cases hd:d<=n.log2+2
 .rw [Nat.min_eq_left hd];generalize h2:2 ^ d=g;have h:0<g:=(by rw [<-h2]; exact Nat.pow_pos δ);refine ⟨ω,?_,λh0=>?_⟩
  .have:=Bool.toNat_le (decide (g<2*(n % g))||(g==2*(n % g)&&n / g % 2==1))
   omega
  .rw [h0];have h1:decide (g<2*0)=false:=ψ;have h3:(g==2*0)=false:=(by simp; omega);rw [h1,h3]; rfl
 .rw [Nat.min_eq_right ω];have b:n<2 ^ (n.log2+1):=Nat.lt_log2_self;have h:2 ^ (n.log2+2)=2*2 ^ (n.log2+1):=(by rw [Nat.pow_succ]; omega);have f:2 ^ (n.log2+2)<=2 ^ d:=Nat.pow_le_pow_right δ ω;have l:n / 2 ^ (n.log2+2)=0:=Nat.div_eq_of_lt ω;have k:n % 2 ^ (n.log2+2)=n:=Nat.mod_eq_of_lt ω;have j:n / 2 ^ d=0:=Nat.div_eq_of_lt ω;have i:n % 2 ^ d=n:=Nat.mod_eq_of_lt ω;rw [l,k,j,i];have h1:decide (2 ^ (n.log2+2)<2*n)=false:=(by simp; omega);have h3:(2 ^ (n.log2+2)==2*n)=false:=(by simp; omega);rw [h1,h3];exact ⟨ψ,ψ,λ_=>rfl⟩
theorem Vo (f:Nat) (place e:Int) (hm:f≠0) (D:place+f.log2=e) (h1 : -1000<=e) (h2:e<=900) : ∃(m:Nat) (p:Int),double.read (double.nearest false f place) = .number false m p/\4503599627370496<=m/\m<9007199254740992/\(p=e-52\/(p=e-51/\m=4503599627370496)):=by
 have g:max (place+f.log2-(double.fractionBits:Int)) double.leastPlace=e-52:=by have a:(double.fractionBits:Int)=52:=rfl;have b:double.leastPlace = -1074:=δ;rw [a,b,D]; omega
 have hw:double.nearest false f place=min ((e-52+1074).toNat*4503599627370496+Toward.even.cut false (f <<< (place-(e-52)).toNat) ((e-52)-place).toNat) (2047*4503599627370496):=by unfold Format.nearest;rw [if_neg hm];simp only [g];have b:double.leastPlace = -1074:=δ;have c:double.binade=4503599627370496:=δ;have d:double.infRung=2047*4503599627370496:=δ;rw [b,c,d];unfold Format.word;simp only [Bool.false_eq_true,if_false];congr 3
 have hk:4503599627370496<=Toward.even.cut false (f <<< (place-(e-52)).toNat) ((e-52)-place).toNat/\Toward.even.cut false (f <<< (place-(e-52)).toNat) ((e-52)-place).toNat<=9007199254740992:=by
  obtain ⟨c,hc,s,q,i⟩:=Aya (f <<< (place-(e-52)).toNat) ((e-52)-place).toNat;rw [hc];have B:2 ^ f.log2<=f:=Nat.log2_self_le hm;have A:f<2 ^ (f.log2+1):=Nat.lt_log2_self;rw [Nat.shiftLeft_eq] at s q i;rcases Int.le_total place (e-52) with h | h
  .have z:(place-(e-52)).toNat=0:=ω;rw [z,Nat.pow_zero,Nat.mul_one] at s q i;have hd:f.log2=52+((e-52)-place).toNat:=ω;have hp:2 ^ f.log2=4503599627370496*2 ^ ((e-52)-place).toNat:=(by rw [hd,Nat.pow_add]);have l:2 ^ (f.log2+1)=9007199254740992*2 ^ ((e-52)-place).toNat:=(by rw [Nat.pow_succ,hp]; omega);have hpos:0<2 ^ ((e-52)-place).toNat:=Nat.pow_pos δ;have a1:4503599627370496<=f / 2 ^ ((e-52)-place).toNat:=(Nat.le_div_iff_mul_le hpos).2 ω;have a2:f / 2 ^ ((e-52)-place).toNat<9007199254740992:=(Nat.div_lt_iff_lt_mul hpos).2 ω;omega
  .have z:((e-52)-place).toNat=0:=ω;rw [z,Nat.pow_zero,Nat.div_one] at s q i;have G:=i (Nat.mod_one _);have hd:52=f.log2+(place-(e-52)).toNat:=ω;have hp:2 ^ f.log2*2 ^ (place-(e-52)).toNat=4503599627370496:=(by rw [<-Nat.pow_add,<-hd]);have l:2 ^ (f.log2+1)*2 ^ (place-(e-52)).toNat=9007199254740992:=(by rw [Nat.pow_succ,Nat.mul_right_comm,hp]);have hpos:0<2 ^ (place-(e-52)).toNat:=Nat.pow_pos δ;have a1:=Nat.mul_le_mul_right (2 ^ (place-(e-52)).toNat) B;have a2:=Nat.mul_lt_mul_of_pos_right A hpos;omega
 generalize Toward.even.cut false (f <<< (place-(e-52)).toNat) ((e-52)-place).toNat=c at *;obtain ⟨t,ht⟩:∃t:Nat,(e-52+1074).toNat=t/\t<=1922/\(t:Int)=e+1022:=⟨_,rfl,ω,ω⟩;rw [ht.1] at hw;rw [Nat.min_eq_left ω] at hw;rw [hw];have b:double.leastPlace = -1074:=δ;have E:double.binade=4503599627370496:=δ;have d:double.infRung=2047*4503599627370496:=δ;have u:double.signWeight=9223372036854775808:=δ;unfold Format.read;rw [b,E,d,u];have y:(t*4503599627370496+c) / 9223372036854775808=0:=Nat.div_eq_of_lt ω;have x:(t*4503599627370496+c) % 9223372036854775808=t*4503599627370496+c:=Nat.mod_eq_of_lt ω;simp only [y,x];rw [if_neg ω,if_pos ω];by_cases hc:c<9007199254740992
 .refine ⟨c,e-52,?_,hk.1,hc,.inl rfl⟩;have k:(t*4503599627370496+c) % 4503599627370496=c-4503599627370496:=ω;have j:(t*4503599627370496+c) / 4503599627370496=t+1:=ω;rw [k,j,show 4503599627370496+(c-4503599627370496)=c by omega,show (-1074:Int)+((t+1-1:Nat):Int)=e-52 by omega]; rfl
 .have hc:c=9007199254740992:=ω;subst hc;refine ⟨4503599627370496,e-51,?_,δ,δ,.inr ⟨rfl,rfl⟩⟩;have k:(t*4503599627370496+9007199254740992) % 4503599627370496=0:=ω;have j:(t*4503599627370496+9007199254740992) / 4503599627370496=t+2:=ω;rw [k,j,Nat.add_zero,show (-1074:Int)+((t+2-1:Nat):Int)=e-51 by omega]; rfl
theorem Ag5 (v:Int) (h:0<=v):floatOfInt .f64 v=double.nearest false v.natAbs 0:=by have e:decide (v<0)=false:=An ω;show double.nearest (decide (v<0)) v.natAbs 0=_;rw [e]
theorem Ayb:double.read 4876203697187506176 = .number false 7812500000000000 7:=δ
theorem Acn {n k:Nat} (h1:2 ^ k<=n) (h2:n<2 ^ (k+1)):n.log2=k:=(Nat.log2_eq_iff (by have:=Nat.pow_pos (n:=k) (show 0<2 by decide); omega)).2 ⟨h1,h2⟩
theorem Yr {n k:Nat} (h:n<2 ^ (k+1)):n.log2<=k:=by
 by_cases h0:n=0
 .subst h0; simp
 .have:=(Nat.log2_lt h0).2 h; omega
theorem Ag6 {n k:Nat} (h:2 ^ k<=n):k<=n.log2:=(Nat.le_log2 (by have:=Nat.pow_pos (n:=k) (show 0<2 by decide); omega)).2 h
theorem Ayc (x:Int) (h0:1<=x) (h1:x<1000000000):∃(w:Nat) (m:Nat) (p:Int),floatBits .mul .f64 (floatOfInt .f64 x) 4876203697187506176=some w/\double.read w = .number false m p/\4503599627370496<=m/\m<9007199254740992/\7<=p/\(p<=37\/(p=38/\m=4503599627370496)):=by
 have l:x.natAbs.log2<=29:=Yr (by simp; omega);obtain ⟨m1,b,g,a1,a2,a3⟩:=Vo x.natAbs 0 (x.natAbs.log2) ω ω ω ω;have c:(m1*7812500000000000).log2=104\/((m1*7812500000000000).log2=105/\m1≠4503599627370496):=by
  have b1:2 ^ 104<=m1*7812500000000000:=ω;have b2:m1*7812500000000000<2 ^ 106:=ω;rcases Nat.lt_or_ge (m1*7812500000000000) (2 ^ 105) with h | h
  .exact .inl (Acn b1 h)
  .exact .inr ⟨Acn h b2,by rintro rfl; omega⟩
 obtain ⟨m2,i,f,k,j,q⟩:=Vo (m1*7812500000000000) (b+7) (b+7+(m1*7812500000000000).log2) ω rfl ω ω;refine ⟨double.nearest false (m1*7812500000000000) (b+7),m2,i,?_,f,k,j,ω,ω⟩;show ((double.read (floatOfInt .f64 x)).product (double.read 4876203697187506176)).map double.write=_;rw [Ag5 x ω,g,Ayb]; rfl
theorem Ayd (w:Nat) (m:Nat) (p:Int) (hw:double.read w = .number false m p) (M:4503599627370496<=m) (L:m<9007199254740992) (I:7<=p) (j:p<=37\/(p=38/\m=4503599627370496)) (y:Int) (h0:0<=y) (h1:y<1000000000000000000) : ∃(w':Nat) (g:Nat) (f:Int),floatBits .add .f64 w (floatOfInt .f64 y)=some w'/\double.read w' = .number false g f/\4503599627370496<=g/\g<9007199254740992/\7<=f/\f<=39:=by
 obtain ⟨c,b,x,V,U⟩:∃(c:Nat) (b:Int),double.read (floatOfInt .f64 y) = .number false c b/\b<=8/\c<9007199254740992/\-1074<=b:=by
  rw [Ag5 y h0];by_cases hy:y.natAbs=0
  .rw [hy]; exact ⟨0,-1074,δ,δ,δ,δ⟩
  .have Z:y.natAbs.log2<=59:=Yr (by simp; omega);obtain ⟨m1,D,A,a1,a2,a3⟩:=Vo y.natAbs 0 (y.natAbs.log2) hy ω ω ω;exact ⟨m1,D,A,ω,a2,ω⟩
 generalize hb:min p b=base;have ht:∃T:Nat,signed false m (p-base).toNat+signed false c (b-base).toNat=(T:Int)/\T=m*2 ^ (p-base).toNat+c*2 ^ (b-base).toNat:=by refine ⟨m <<< (p-base).toNat+c <<< (b-base).toNat,rfl,by rw [Nat.shiftLeft_eq,Nat.shiftLeft_eq]⟩
 obtain ⟨T,t1,t2⟩:=ht;have G:0<2 ^ (p-base).toNat:=Nat.pow_pos δ;have i:2 ^ (b-base).toNat<=2 ^ (8-base).toNat:=Nat.pow_le_pow_right δ ω;have J:m*2 ^ (p-base).toNat<=2 ^ (90-base).toNat:=by
  rcases j with h | ⟨rfl,rfl⟩
  .have e:2 ^ (90-base).toNat=2 ^ (p-base).toNat*2 ^ (90-p).toNat:=(by rw [<-Nat.pow_add]; congr 1; omega);have e2:2 ^ 53<=2 ^ (90-p).toNat:=Nat.pow_le_pow_right δ ω;rw [e,Nat.mul_comm];exact Nat.mul_le_mul_left _ ω
  .have e:2 ^ (90-base).toNat=2 ^ (38-base).toNat*2 ^ 52:=(by rw [<-Nat.pow_add]; congr 1; omega);rw [e,Nat.mul_comm]; omega
 have E:c*2 ^ (b-base).toNat<2 ^ (90-base).toNat:=by have e:2 ^ (90-base).toNat=2 ^ (8-base).toNat*2 ^ 82:=(by rw [<-Nat.pow_add]; congr 1; omega);have e3:c*2 ^ (b-base).toNat<=c*2 ^ (8-base).toNat:=Nat.mul_le_mul_left _ i;have N:0<2 ^ (8-base).toNat:=Nat.pow_pos δ;have e5:c*2 ^ (8-base).toNat<2 ^ 82*2 ^ (8-base).toNat:=Nat.mul_lt_mul_of_pos_right ω N;rw [e,Nat.mul_comm (2 ^ (8-base).toNat)]; omega
 have s:T<2 ^ ((90-base).toNat+1):=by rw [Nat.pow_succ]; omega
 have q:2 ^ (52+(p-base).toNat)<=T:=by have:2 ^ 52*2 ^ (p-base).toNat<=m*2 ^ (p-base).toNat:=Nat.mul_le_mul_right _ ω;rw [Nat.pow_add]; omega
 have Y:=Yr s;have X:=Ag6 q;have u:T≠0:=by have:=Nat.pow_pos (n:=52+(p-base).toNat) (show 0<2 by decide); omega
 obtain ⟨m3,B,z,S,R,c3⟩:=Vo T base (base+T.log2) u rfl ω ω;refine ⟨double.nearest false T base,m3,B,?_,z,S,R,ω,ω⟩;show ((double.read w).sum (double.read (floatOfInt .f64 y))).map double.write=_;rw [hw,x];have l:¬((T:Int)=0):=ω;have k:decide ((T:Int)<0)=false:=An ω;simp only [Datum.sum,hb,t1,if_neg l,k,Option.map_some,Int.natAbs_natCast,Format.write]
theorem Aye {b m N:Nat} {p:Int} (g:double.read b = .number false m p) (i:(Datum.number false m p).toInt .zero=some (N:Int)) (h:N<=9223372036854775808):floatToIntVal .f64 b .u64=some (N:Int):=by have hd:FloatKind.f64.decode b = .number false m p:=g;have f:IntKind.u64.min=0:=δ;have c:IntKind.u64.max=18446744073709551615:=δ;unfold floatToIntVal;rw [hd,i];simp only [f,c];rw [if_pos ⟨ω,ω⟩]
theorem Ayf (w:Nat) (m:Nat) (p:Int) (hw:double.read w = .number false m p) (R:4503599627370496<=m) (M:m<9007199254740992) (L:7<=p) (J:p<=39) (z:Int) (h0:1000000000<=z) (h1:z<1000000000000000000) : ∃(w':Nat) (n:Int),floatBits .quo .f64 w (floatOfInt .f64 z)=some w'/\floatToIntVal .f64 w' .u64=some n/\0<=n/\n<=9223372036854775808:=by
 have U:z.natAbs.log2<=59:=Yr (by simp; omega);have S:29<=z.natAbs.log2:=Ag6 (by simp; omega);obtain ⟨f,c,u,a1,a2,a3⟩:=Vo z.natAbs 0 (z.natAbs.log2) ω ω ω ω;have D:m.log2=52:=Acn ω ω;have y:f.log2=52:=Acn ω ω;generalize hq:m*2 ^ 54 / f=q;generalize l:((m*2 ^ 54 % f != 0).toNat)=s;have E:s<=1:=by rw [<-l]; exact Bool.toNat_le _
 have I:q<2 ^ 55:=by rw [<-hq]; exact (Nat.div_lt_iff_lt_mul ω).2 ω
 have G:2 ^ 53<=q:=by rw [<-hq]; exact (Nat.le_div_iff_mul_le ω).2 ω
 have B:(2*q+s).log2<=55:=Yr ω;have A:54<=(2*q+s).log2:=Ag6 ω;obtain ⟨m4,b,x,Z,X,Y⟩:=Vo (2*q+s) (p-c-(54:Nat)-1) (p-c-(54:Nat)-1+(2*q+s).log2) ω rfl ω ω;have j:(Datum.number false m p).quotient (double.fractionBits+2) (Datum.number false f c)=some (.number false (2*q+s) (p-c-(54:Nat)-1)):=by have i:¬f=0:=ω;have fb:double.fractionBits+2=54:=rfl;simp only [Datum.quotient,if_neg i,fb,D,y,Nat.shiftLeft_eq,Nat.add_sub_cancel,hq,l,Bool.xor_self]
 have hb:m4*2 ^ b.toNat<=9223372036854775808:=by
  have k:b<=10\/(b=11/\m4=4503599627370496):=ω;rcases k with h | ⟨rfl,rfl⟩
  .have:2 ^ b.toNat<=2 ^ 10:=Nat.pow_le_pow_right δ ω;have:=Nat.mul_le_mul (Nat.le_of_lt X) this;omega
  .decide
 obtain ⟨N,V,g⟩:∃N:Nat,(Datum.number false m4 b).toInt .zero=some (N:Int)/\N<=9223372036854775808:=by
  refine ⟨(m4 <<< b.toNat) / (1 <<< min (-b).toNat ((m4 <<< b.toNat).log2+2)),?_,?_⟩
  .simp only [Datum.toInt,Datum.integral,Toward.cut,signed,Bool.false_eq_true,if_false,Nat.shiftLeft_zero,Bool.toNat_false,Nat.add_zero]
  .rw [Nat.shiftLeft_eq m4];exact Nat.le_trans (Nat.div_le_self _ _) hb
 refine ⟨double.nearest false (2*q+s) (p-c-(54:Nat)-1),(N:Int),?_,?_,ω,ω⟩
 .have e:floatBits .quo .f64 w (floatOfInt .f64 z)=((double.read w).quotient (double.fractionBits+2) (double.read (floatOfInt .f64 z))).map double.write:=rfl;rw [e,hw,Ag5 z ω,u,j];simp only [Option.map_some,Format.write]
 .exact Aye x V g
theorem Ayg (r n:Nat) (h2:2<=Bi n) (E:Bi r<=Bi n+1) (G:Bi n<1099511627776):∃d:Nat,Xs (Af r) (Af n)=some (d:Int)/\d<1000000000:=by
 unfold Xs;unfold Bi at h2 E G;have c:n≠0:=by rintro rfl; rw [Fu] at h2; simp at h2
 by_cases V:(Af r).length<(Af n).length
 .exact ⟨0,by rw [Aj ω]; rfl,δ⟩
 .rw [An ω,cond_false];have y:Aa (((Af n).length:Int)-1)=(((Af n).length-1:Nat):Int):=(by rw [Aa,Bm] <;> omega);have u:Aa (((Af n).length:Int)-2)=(((Af n).length-2:Nat):Int):=(by rw [Aa,Bm] <;> omega);have i1:(Af n).length-1<(Af n).length:=ω;have i2:(Af n).length-2<(Af n).length:=ω;have h:(Af n).length-1<(Af r).length:=ω;have g:(Af n).length-2<(Af r).length:=ω;have t1:=(Er n).get i1;have t2:=(Er n).get i2;have M:=(Er r).get h;have L:=(Er r).get g;have i:(Af n)[(Af n).length-1]≠0:=(by have:=(Ab8 n).2 (Ic c);rwa [List.getLast_eq_getElem] at this);rw [y,u,Dv rfl i1,Ad,Dv rfl i2,Ad,Dv rfl h,Ad,Dv rfl g,Ad];generalize (Af n)[(Af n).length-1]=a1 at *;generalize (Af n)[(Af n).length-2]=a2 at *;generalize (Af r)[(Af n).length-1]=b1 at *;generalize (Af r)[(Af n).length-2]=b2 at *;have l:Az (Az (Az b1*1000000000)+Az b2)=b1*1000000000+b2:=(by rw [show Az b1=b1 from C7 ω ω,show Az b2=b2 from C7 ω ω,show Az (b1*1000000000)=b1*1000000000 from C7 ω ω];exact C7 ω ω);have j:Az (Az (Az a1*1000000000)+Az a2)=a1*1000000000+a2:=(by rw [show Az a1=a1 from C7 ω ω,show Az a2=a2 from C7 ω ω,show Az (a1*1000000000)=a1*1000000000 from C7 ω ω];exact C7 ω ω);rw [l,j];by_cases X:(Af r).length=(Af n).length
  .rw [Dw ω,cond_true,Ky ω ω ω,Ad];have R:0<=(b1*1000000000+b2) / (a1*1000000000+a2):=Int.ediv_nonneg ω ω;have N:(b1*1000000000+b2) / (a1*1000000000+a2)<1000000000:=Int.ediv_lt_of_lt_mul ω ω;exact ⟨((b1*1000000000+b2) / (a1*1000000000+a2)).toNat,by congr 1; omega,ω⟩
  .have hk:(Af n).length<(Af r).length:=ω;have b:r≠0:=(by rintro rfl; rw [Fu] at hk; simp at hk);have J:=(Er r).get hk;have f:(Af r)[(Af n).length]≠0:=(by have:=(Ab8 r).2 (Ic b);rw [List.getLast_eq_getElem] at this;have e:(Af r).length-1=(Af n).length:=ω;simpa [e] using this);rw [Ch ω,cond_false,Dv rfl hk,Ad];generalize (Af r)[(Af n).length]=x at *;obtain ⟨s,m3,A,f1,f2,f3,f4,f5,f6⟩:=Ayc x ω ω;obtain ⟨q,m4,z,g1,g2,g3,g4,g5,g6⟩:=Ayd s m3 A f2 f3 f4 f5 f6 (b1*1000000000+b2) ω ω;obtain ⟨I,k,D,B,U,S⟩:=Ayf q m4 z g2 g3 g4 g5 g6 (a1*1000000000+a2) ω ω;rw [f1,Ad,g1,Ad,D,Ad,B,Ad,show Az (k+2)=k+2 from C7 ω ω];by_cases hc:(999999999:Int)<k+2
   .exact ⟨999999999,by rw [if_pos hc]; rfl,δ⟩
   .exact ⟨(k+2).toNat,by rw [if_neg hc]; congr 1; omega,ω⟩
end Go.Ab
namespace Go.Ab
open Go
theorem Ayh (x r:Nat):Bi (x % 1000000000+1000000000*r)<=Bi r+1:=by apply I9;have:=Nc r;rw [Nat.pow_succ];omega
set_option maxHeartbeats 1000000 in
theorem Ag7 (m n:Nat) (hm:Bi m<137438953472) (hn:Bi n<137438953472) (D:n≠0):Ru (Af m) (Af n)=some (Af (m / n),Af (m % n)):=by
 unfold Ru;rw [Acl,Vj m n ω ω,Ad];have af:=hm;have ae:=hn;unfold Bi at hm hn;by_cases l:m<n
 .rw [show Fi m n = -1 by rw [Fi,if_pos l],Aj (by decide:(-1:Int)<0),cond_true,So _ ω,Ad,Axr (Ab8 m),Nat.div_eq_of_lt l,Nat.mod_eq_of_lt l,Fu]
 .rw [An (show ¬Fi m n<0 by rw [Fi,if_neg l]; split <;> decide),cond_false];have a8:(Af n).length≠0:=λe=>Ic D (List.length_eq_zero_iff.1 e);by_cases h1:(Af n).length=1
  .rw [Dw (by omega:((Af n).length:Int)=1),cond_true];have B:n<1000000000:=(by have:=Nc n;rw [show Bi n=1 from h1] at this;simpa using this);have Y:Af n = [(n:Int)]:=(by rw [Mk D,Nat.div_eq_of_lt B,Fu,Nat.mod_eq_of_lt B]);rw [Y,show Ae [(n:Int)] 0=some (n:Int) from rfl,Ad,show Az (n:Int)=n from C7 ω ω,Ax7 m n ω ω ω,Ad];have a7:m % n<n:=Nat.mod_lt _ ω;rw [Ack,P6 (m % n) ω,Ad]
  .rw [Ch (by omega:((Af n).length:Int)≠1),cond_false];have hw:Aa (((Af m).length:Int)-1)=((Af m).length:Int)-1:=(by rw [Aa,Bm] <;> omega);rw [Ju rfl rfl (Nat.le_refl _) ω ω,hw];simp only [Ad];have ha:=Er m;refine He (λ(r,i,q)=>∃(k R:Nat),r=Af R/\i=(k:Int)-1/\k<=(Af m).length/\R<n/\q.length=(Af m).length/\B3 q/\Ak (q.drop k)*n+R=Ak ((Af m).drop k)) (λ(_,i,_)=>(i+1).toNat) (λ(r,q)=>∃R:Nat,r=Af R/\R<n/\q.length=(Af m).length/\B3 q/\Ak q*n+R=m) ⟨(Af m).length,0,by rw [Fu],rfl,Nat.le_refl _,ω,ψ,B3.replicate _,by simp [Ak]⟩ ?_ ?_
   .rintro ⟨r,i,q⟩ ⟨k,R,rfl,rfl,hk,J,u,g,A⟩;cases k with
    | zero=>exact .inr ⟨(Af R,q),ψ,R,rfl,J,u,g,by simpa [E6] using A⟩
    | succ j=>
     have hj:j<(Af m).length:=ω;have E:j<q.length:=ω;have hx:=ha.get hj;obtain ⟨x,y⟩:∃x:Nat,(Af m)[j]=(x:Int):=⟨(Af m)[j].toNat,ω⟩;have L:x<1000000000:=ω;have e0:((j+1:Nat):Int)-1=(j:Int):=ω;have e1:decide ((j:Int)>=0)=true:=Aj ω;have Z:Bi R<=Bi n:=Hy ω;have ac:Bi (x+1000000000*R)<=Bi R+1:=(by have:=Ayh x R;rwa [Nat.mod_eq_of_lt L] at this);have ah:(Af R).length<=(Af n).length:=Z;have G:J6 ((x:Int)::Af R)=some (Af (x+1000000000*R)):=by
      rw [So _ (by simp; omega)];congr 1;refine Kz ?_ ?_
      .intro d hd;rcases List.mem_cons.1 hd with rfl | hd
       .omega
       .exact Er R d hd
      .simp only [Ak,E6]; omega
     obtain ⟨d0,U,ag⟩:=Ayg (x+1000000000*R) n (by unfold Bi; omega) ω ω;generalize a6:x+1000000000*R=f at *;have ab:f<1000000000*n:=ω;have s:∀d:Nat,d<18446744073709551616->Ma (d:Int)=some (Af d)/\J5 (Af n) (Af d)=some (Af (n*d)):=(by intro d hd;have:=Nd hd;exact ⟨by rw [Ack,P6 d hd],P8 n d ω ω⟩);have I:∀d:Nat,d<18446744073709551616->Pn (Af (n*d)) (Af f)=some (Fi (n*d) f):=(by intro d hd;have h3:=Nd hd;have h4:=Gy n d;rw [Acl,Vj _ _ ω ω]);simp only [e0,e1,cond_true,Dv rfl hj,y,Ad,C3 (show ([(x:Int)].length+(Af R).length)*4<=_ by simp; omega),List.singleton_append,G,U];refine .inl (Ab4 (Fe (λd=>∃e:Nat,d=e/\e<=d0) (λd=>d.toNat) (λd=>∃e:Nat,d=e/\e<=d0/\n*e<=f) ⟨d0,rfl,Nat.le_refl _⟩ ?_ ?_))
     .rintro d ⟨e,rfl,he⟩;by_cases X:e=0
      .subst X;exact .inr ⟨0,rfl,0,rfl,ω,ψ⟩
      .obtain ⟨m1,m2⟩:=s e ω;simp only [Aj (by omega:(e:Int)>0),cond_true,m1,m2,I e ω,Ad];by_cases hc:f<n*e
       .refine .inl ⟨((e-1:Nat):Int),?_,⟨e-1,rfl,ω⟩,by simp; omega⟩;rw [show Fi (n*e) f=1 by rw [Fi,if_neg ω,if_pos hc],show decide ((1:Int)>0)=true from rfl,cond_true,show Az ((e:Int)-1)=((e-1:Nat):Int) by rw [Az,C7] <;> omega]
       .refine .inr ⟨(e:Int),?_,e,rfl,he,ω⟩;rw [An (show ¬Fi (n*e) f>0 by rw [Fi,if_neg hc]; split <;> decide),cond_false]
     .rintro d ⟨e,rfl,he,N⟩;obtain ⟨m1,m2⟩:=s e ω;simp only [m1,m2,Ad,Acm f (n*e) ω N];refine Fe (λ(r,d)=>∃(c b:Nat),r=Af c/\d=b/\n*b+c=f) (λ(r,_)=>(Ak r).toNat) (λ(r,d)=>∃(c b:Nat),r=Af c/\d=b/\n*b+c=f/\c<n) ⟨f-n*e,e,rfl,rfl,ω⟩ ?_ ?_
      .rintro ⟨r,d⟩ ⟨c,b,rfl,rfl,M⟩;have aa:Bi c<=Bi f:=Hy ω;have V:b<1000000000:=by
        rcases Nat.lt_or_ge b 1000000000 with h | h
        .exact h
        .exfalso;have:n*1000000000<=n*b:=Nat.mul_le_mul_left n h;omega
       simp only [Acl,Vj c n ω ω,Ad];by_cases hc:c<n
       .refine .inr ⟨(Af c,(b:Int)),?_,c,b,rfl,rfl,M,hc⟩;rw [An (show ¬Fi c n>=0 by rw [Fi,if_pos hc]; decide),cond_false]
       .refine .inl ⟨(Af (c-n),((b+1:Nat):Int)),?_,⟨c-n,b+1,rfl,rfl,?_⟩,?_⟩
        .rw [Aj (show Fi c n>=0 by rw [Fi,if_neg hc]; split <;> decide),cond_true,Acm c n ω ω,Ad,show Az ((b:Int)+1)=((b+1:Nat):Int) by rw [Az,C7] <;> omega]
        .rw [Nat.mul_add]; omega
        .simp only [E6]; omega
      .rintro ⟨r,d⟩ ⟨c,b,rfl,rfl,M,a1⟩;have V:b<1000000000:=by
        rcases Nat.lt_or_ge b 1000000000 with h | h
        .exact h
        .exfalso;have:n*1000000000<=n*b:=Nat.mul_le_mul_left n h;omega
       have w1:Cl (b:Int)=b:=Fr ω ω;have w8:Aa ((j:Int)-1)=(j:Int)-1:=(by rw [Aa,Bm] <;> omega);refine ⟨_,by simp only [Dv rfl E,Ad,w1,w8,Fh rfl],(Af c,(j:Int)-1,q.set j (b:Int)),rfl,⟨j,c,rfl,rfl,ω,a1,by simpa using u,g.set _ ω ω,?_⟩,ψ⟩;have d1:(q.set j (b:Int)).drop j=(b:Int)::q.drop (j+1):=(by rw [List.drop_eq_getElem_cons (by simpa using E),List.drop_set_of_lt ω]; simp);rw [d1,List.drop_eq_getElem_cons hj,y];simp only [Ak];rw [<-A];have:((n*b+c:Nat):Int)=((x+1000000000*R:Nat):Int):=(by rw [M,a6]);simp only [Int.natCast_add,Int.natCast_mul] at this;grind
   .rintro ⟨r,q⟩ ⟨R,rfl,J,u,g,A⟩;dsimp only;have ad:=Gi g.u32;obtain ⟨Q,hQ⟩:∃Q:Nat,Ak q=Q:=⟨(Ak q).toNat,ω⟩;rw [hQ] at A;have z:Q*n+R=m:=(by have:((Q*n+R:Nat):Int)=(m:Int):=(by simp only [Int.natCast_add,Int.natCast_mul]; exact A);omega);have hd:m / n=Q:=(by rw [<-z,Nat.mul_comm,Nat.mul_add_div ω,Nat.div_eq_of_lt J]; rfl);have S:m % n=R:=(by rw [<-z,Nat.mul_comm,Nat.mul_add_mod,Nat.mod_eq_of_lt J]);rw [So q ω,Ad,Kz g hQ,hd,S]
theorem Ayi (m n:Nat) (hm:Bi m<137438953472) (g:Bi n<137438953472):Xe (Af m) (Af n)=some (Af (Nat.gcd m n)):=by
 unfold Xe;refine He (λ(a,b)=>∃x y:Nat,a=Af x/\b=Af y/\Bi x<137438953472/\Bi y<137438953472/\Nat.gcd x y=Nat.gcd m n) (λ(_,b)=>(Ak b).toNat) (λr=>r=Af (Nat.gcd m n)) ⟨m,n,rfl,rfl,hm,g,rfl⟩ ?_ (by rintro e rfl; rfl);rintro ⟨a,b⟩ ⟨x,y,rfl,rfl,hx,hy,f⟩;by_cases c:y=0
 .subst c;refine .inr ⟨Af x,by rw [Fu]; rfl,?_⟩;rw [<-f,Nat.gcd_zero_right]
 .have h:(Af y).length≠0:=λe=>Ic c (List.length_eq_zero_iff.1 e);have i:decide (((Af y).length:Int)>0)=true:=Aj ω;refine .inl ⟨(Af y,Af (x % y)),?_,⟨y,x % y,rfl,rfl,hy,by have:=Hy (Nat.mod_le x y); omega,?_⟩,?_⟩
  .simp only [i,cond_true,Ag7 x y hx hy c,Ad]
  .rw [<-f,Nat.gcd_comm y,<-Nat.gcd_rec,Nat.gcd_comm]
  .simp only [E6];have:=Nat.mod_lt x (by omega:y>0);omega
end Go.Ab
namespace Go.Ab
open Go
def Oe (b:Bool) (n d:Nat):Ar:=if d=0 then ⟨false,[],[1]⟩ else A9 b n d
theorem Aco {n:Nat} (h:n≠0):(Af n).length≠0:=λe=>Ic h (List.length_eq_zero_iff.1 e)
theorem Ag8 (c:Bool) (a b:List Int) (ha:Mj a) (hb:Mj b) (q:a.length<137438953400) (l:b.length<137438953400):I7 c a b=some (Oe c (Ak a).toNat (Ak b).toNat):=by
 unfold I7;have h1:=Ach ha;have h2:=Ach hb;rw [Anw a ha ω,Ad,Anw b hb ω,Ad];generalize (Ak a).toNat=n at *;generalize (Ak b).toNat=d at *;by_cases g:n=0
 .subst g;have:Oe c 0 d=⟨false,[],[1]⟩:=(by unfold Oe; split <;> simp [A9]);rw [this,Fu]; rfl
 .have j:=Aco g;by_cases hd:d=0
  .subst hd;simp only [Ch (by omega:((Af n).length:Int)≠0),cond_false,Fu,Ad];rfl
  .have k:=Aco hd;have f:Nat.gcd n d≠0:=(by have:=Nat.gcd_pos_of_pos_left d (by omega:0<n); omega);have u:Bi (Nat.gcd n d)<=Bi n:=Hy (Nat.gcd_le_left d (by omega:0<n));simp only [Ch (by omega:((Af n).length:Int)≠0),cond_false,Ch (by omega:((Af d).length:Int)≠0),Ad,Ayi n d ω ω];rw [Oe,if_neg hd,A9,if_neg g];have key:(bif (((Af (Nat.gcd n d)).length:Int) != (1:Int)) then some true else ((Ae (Af (Nat.gcd n d)) 0).bind λi=>some (i != (1:Int))))=some (decide (Nat.gcd n d≠1)):=by
    have h3:=Ag1 (Nat.gcd n d);unfold R3 at h3;by_cases s:(Af (Nat.gcd n d)).length=1
    .rw [Dw (by omega:((Af (Nat.gcd n d)).length:Int)=1),cond_true] at h3;rw [De (by omega:((Af (Nat.gcd n d)).length:Int)=1),cond_false];cases hi:Ae (Af (Nat.gcd n d)) 0 with| none=>rw [hi] at h3; cases h3| some v=>rw [hi] at h3;simp only [Ad] at h3 ⊢;have h3:=Option.some.inj h3;congr 1;rw [bne,h3]; simp
    .rw [Ch (by omega:((Af (Nat.gcd n d)).length:Int)≠1),cond_false] at h3;rw [Dh (by omega:((Af (Nat.gcd n d)).length:Int)≠1),cond_true];have h3:=Option.some.inj h3;have:Nat.gcd n d≠1:=(by simpa using h3.symm);rw [Aj this]
   rw [key,Ad];by_cases h:Nat.gcd n d=1
   .rw [An (by simpa using h),cond_false,h]; simp
   .rw [Aj h,cond_true,Ag7 n _ ω ω f,Ad,Ag7 d _ ω ω f,Ad]
theorem Ayj (a:Ar):Oe a.Neg (Ak a.Num).toNat (Ak a.Den).toNat=A9 (sv a) (nv a) (dv a):=by
 unfold Oe sv nv dv;by_cases b:(Ak a.Num).toNat=0
 .simp [b,A9]
 .by_cases hd:(Ak a.Den).toNat=0
  .simp [hd,A9]
  .simp [b,hd]
theorem Of (a:Ar) (k:Nat) (h:RB k a) (hk:k<137438953400):Jq a=some (A9 (sv a) (nv a) (dv a)):=by unfold Jq;have:=h.nl;have:=h.dl;rw [Ag8 _ _ _ h.num h.den ω ω,Ad,Ayj]
theorem Sp (s:Bool) (n d:Nat) (hd:d≠0):(A9 s n d).Num=Af (nv (A9 s n d))/\(A9 s n d).Den=Af (dv (A9 s n d))/\(A9 s n d).Neg=sv (A9 s n d):=by
 obtain ⟨h1,h2,h3,c⟩:=Sn s n d hd;rw [h1,h2];by_cases h0:n=0
 .subst h0;rw [c rfl,Vn];have b:d / Nat.gcd 0 d=1:=(by rw [Nat.gcd_zero_left]; exact Nat.div_self ω);rw [b,Nat.zero_div,Fu,Vk]; exact ⟨rfl,rfl,rfl⟩
 .rw [h3 h0]; simp [A9,h0]
theorem P9 (a:Ar):∃g:Nat,g≠0/\nv a=g*nv (A9 (sv a) (nv a) (dv a))/\dv a=g*dv (A9 (sv a) (nv a) (dv a))/\sv (A9 (sv a) (nv a) (dv a))=sv a:=by
 obtain ⟨h1,h2,h3,b⟩:=Sn (sv a) (nv a) (dv a) (Es a);have hd:=Es a;have c:0<Nat.gcd (nv a) (dv a):=Nat.gcd_pos_of_pos_right _ ω;refine ⟨Nat.gcd (nv a) (dv a),ω,?_,?_,?_⟩
 .rw [h1]; exact (Nat.mul_div_cancel' (Nat.gcd_dvd_left _ _)).symm
 .rw [h2]; exact (Nat.mul_div_cancel' (Nat.gcd_dvd_right _ _)).symm
 .by_cases h0:nv a=0
  .rw [b h0];unfold nv at h0;unfold sv;split at h0
   .rename_i hc; rw [if_pos hc]
   .omega
  .exact h3 h0
theorem Ayk (s:Bool) (n d:Nat) (h:d≠0):Oe s n d=A9 s n d:=by rw [Oe,if_neg h]
theorem Sq (b:Bool) (n d:Nat) (f:Bi n<137438953400) (hd:Bi d<137438953400) (c:d≠0):I7 b (Af n) (Af d)=some (A9 b n d):=by unfold Bi at f hd;rw [Ag8 b _ _ (Er n).u32 (Er d).u32 f hd,E6,E6,Int.toNat_natCast,Int.toNat_natCast,Ayk _ _ _ c]
theorem Anx {k:Nat} {a:Ar} (h:RB k a):RB (k+1) (A9 (sv a) (nv a) (dv a)):=Hf _ _ _ _ h.nv h.dv ω
theorem Vp {k:Nat} {a:Ar} (h:RB k a):Bi (nv (A9 (sv a) (nv a) (dv a)))<=k+1/\Bi (dv (A9 (sv a) (nv a) (dv a)))<=k+1:=by
 obtain ⟨g,b,h1,h2,_⟩:=P9 a;have a1:=h.nv;have a2:=h.dv;refine ⟨Nat.le_trans (Hy ?_) a1,Nat.le_trans (Hy ?_) a2⟩
 .exact Nat.le_trans (Nat.le_mul_of_pos_left _ ω) (Nat.le_of_eq h1.symm)
 .exact Nat.le_trans (Nat.le_mul_of_pos_left _ ω) (Nat.le_of_eq h2.symm)
theorem Anz (a b:Ar) (j k:Nat) (ha:RB j a) (hb:RB k b) (hj:j<34359738368) (hk:k<34359738368):I5 a b=some (A9 (sv a != sv b) (nv a*nv b) (dv a*dv b)):=by unfold I5;rw [Of a j ha ω,Ad,Of b k hb ω,Ad];obtain ⟨g,i,a1,a2,a3⟩:=P9 a;obtain ⟨h,f,b1,b2,u⟩:=P9 b;obtain ⟨f1,f2,f3⟩:=Sp (sv a) (nv a) (dv a) (Es a);obtain ⟨s,q,l⟩:=Sp (sv b) (nv b) (dv b) (Es b);obtain ⟨B,A⟩:=Vp ha;obtain ⟨y,x⟩:=Vp hb;rw [f1,f2,f3,s,q,l,a3,u];generalize hc:A9 (sv a) (nv a) (dv a)=c at *;generalize hd:A9 (sv b) (nv b) (dv b)=d at *;have m1:=Gy (nv c) (nv d);have m2:=Gy (dv c) (dv d);have z:dv c*dv d≠0:=Nat.mul_ne_zero (Es c) (Es d);rw [P8 _ _ ω ω,Ad,P8 _ _ ω ω,Ad,Sq _ _ _ ω ω z,Ad];rw [a1,a2,b1,b2,show g*nv c*(h*nv d)=g*h*(nv c*nv d) by grind,show g*dv c*(h*dv d)=g*h*(dv c*dv d) by grind,Mm _ _ _ _ (Nat.mul_ne_zero i f)]
theorem Ayl (l:Bool) (c j:Nat) (k:Bool) (b i g h:Nat) (y:g≠0) (x:h≠0):Hz l (g*c) (g*j) k (h*b) (h*i)=g*h*Hz l c j k b i/\Ke l (g*c) (g*j) k (h*b) (h*i)=Ke l c j k b i:=by
 have u:g*c*(h*i)=g*h*(c*i):=by grind
 have s:h*b*(g*j)=g*h*(b*j):=by grind
 have hc:(g*h*(b*j)<=g*h*(c*i))↔(b*j<=c*i):=Nat.mul_le_mul_left_iff (Nat.mul_pos ω ω);unfold Hz Ke;rw [u,s];by_cases q:l=k
 .simp only [if_pos q];exact ⟨by rw [Nat.mul_add],trivial⟩
 .simp only [if_neg q];by_cases f:b*j<=c*i
  .simp only [if_pos f,if_pos (hc.2 f)];exact ⟨by rw [Nat.mul_sub],trivial⟩
  .simp only [if_neg f,if_neg (λh=>f (hc.1 h))];exact ⟨by rw [Nat.mul_sub],trivial⟩
theorem Ag9 (a b:Ar) (j k:Nat) (ha:RB j a) (hb:RB k b) (hj:j<34359738368) (hk:k<34359738368) : Ph a b=some (A9 (Ke (sv a) (nv a) (dv a) (sv b) (nv b) (dv b)) (Hz (sv a) (nv a) (dv a) (sv b) (nv b) (dv b)) (dv a*dv b)):=by
 unfold Ph;rw [Of a j ha ω,Ad,Of b k hb ω,Ad];obtain ⟨g,q,a1,a2,a3⟩:=P9 a;obtain ⟨h,l,b1,b2,B⟩:=P9 b;obtain ⟨f1,f2,f3⟩:=Sp (sv a) (nv a) (dv a) (Es a);obtain ⟨A,y,x⟩:=Sp (sv b) (nv b) (dv b) (Es b);obtain ⟨I,G⟩:=Vp ha;obtain ⟨E,D⟩:=Vp hb;rw [f1,f2,f3,A,y,x,a3,B];generalize hc:A9 (sv a) (nv a) (dv a)=c at *;generalize hd:A9 (sv b) (nv b) (dv b)=d at *;have m1:=Gy (nv c) (dv d);have m2:=Gy (nv d) (dv c);have m3:=Gy (dv c) (dv d);have m4:=Aca (nv c*dv d) (nv d*dv c);have m5:=Hy (Nat.sub_le (nv c*dv d) (nv d*dv c));have m6:=Hy (Nat.sub_le (nv d*dv c) (nv c*dv d));have z:dv c*dv d≠0:=Nat.mul_ne_zero (Es c) (Es d);obtain ⟨u,s⟩:=Ayl (sv a) (nv c) (dv c) (sv b) (nv d) (dv d) g h q l;rw [a1,a2,b1,b2,u,s,show g*dv c*(h*dv d)=g*h*(dv c*dv d) by grind,Mm _ _ _ _ (Nat.mul_ne_zero q l)];rw [P8 _ _ ω ω,Ad,P8 _ _ ω ω,Ad,P8 _ _ ω ω,Ad];unfold Ke Hz;by_cases i:sv a=sv b
 .have e:(sv a==sv b)=true:=(by rw [i]; exact beq_self_eq_true _);rw [e,cond_true,Ax9 _ _ ω ω,Ad,Sq _ _ _ ω ω z,Ad,if_pos i,if_pos i]
 .have e:(sv a==sv b)=false:=(by simpa using i);rw [e,cond_false,Acl,Vj _ _ ω ω,Ad,if_neg i,if_neg i];by_cases f:nv d*dv c<=nv c*dv d
  .rw [Aj (show Fi (nv c*dv d) (nv d*dv c)>=0 by rw [Fi,if_neg ω]; split <;> decide),cond_true,Acm _ _ ω f,Ad,Sq _ _ _ ω ω z,Ad,if_pos f,if_pos f]
  .rw [An (show ¬Fi (nv c*dv d) (nv d*dv c)>=0 by rw [Fi,if_pos ω]; decide),cond_false,Acm _ _ ω ω,Ad,Sq _ _ _ ω ω z,Ad,if_neg f,if_neg f]
theorem Aha (a:Ar) (k:Nat) (h:RB k a) (hk:k<137438953400):L9 a=some (I0 (sv a) (nv a)):=by
 unfold L9;rw [Of a k h hk,Ad];obtain ⟨g,b,a1,a2,a3⟩:=P9 a;obtain ⟨f1,f2,f3⟩:=Sp (sv a) (nv a) (dv a) (Es a);rw [f1,f3,a3,I0];by_cases h0:nv a=0
 .have:nv (A9 (sv a) (nv a) (dv a))=0:=by
   rw [h0] at a1;rcases Nat.mul_eq_zero.1 a1.symm with h | h
   .exact (b h).elim
   .rw [h0]; exact h
  rw [this,Fu,if_pos h0]; rfl
 .have:nv (A9 (sv a) (nv a) (dv a))≠0:=(by intro e; rw [e,Nat.mul_zero] at a1; exact h0 a1);have:=Aco this;rw [Ch ω,cond_false,if_neg h0];cases sv a <;> rfl
theorem An0 (a:Ar) (k:Nat) (h:RB k a) (hk:k<137438953400):Ul a=some (A9 (!sv a) (nv a) (dv a)):=by
 unfold Ul;have:=h.nl;have:=h.dl;rw [Ag8 _ _ _ h.num h.den ω ω,Ad];congr 1;unfold Oe sv nv dv;by_cases b:(Ak a.Num).toNat=0
 .simp [b,A9]
 .by_cases hd:(Ak a.Den).toNat=0
  .simp [hd,A9]
  .simp [b,hd]
theorem Aym (a:Ar) (k:Nat) (h:RB k a) (hk:k<8589934592):Wy a a=some 0:=by
 unfold Wy Rl;have h1:=h.nv;have h2:=h.dv;have u:=An0 a k h ω;have i:RB (k+1) (A9 (!sv a) (nv a) (dv a)):=Hf _ _ _ _ h1 h2 ω;obtain ⟨j,q,l,A⟩:=Sn (!sv a) (nv a) (dv a) (Es a);rw [u,Ad,Ag9 a _ k (k+1) h i ω ω,Ad,Ad];generalize hc:A9 (!sv a) (nv a) (dv a)=c at *;have B:0<Nat.gcd (nv a) (dv a):=Nat.gcd_pos_of_pos_right _ (by have:=Es a; omega);have y:nv a=Nat.gcd (nv a) (dv a)*nv c:=by rw [j]; exact (Nat.mul_div_cancel' (Nat.gcd_dvd_left _ _)).symm
 have z:dv a=Nat.gcd (nv a) (dv a)*dv c:=by rw [q]; exact (Nat.mul_div_cancel' (Nat.gcd_dvd_right _ _)).symm
 have b:Hz (sv a) (nv a) (dv a) (sv c) (nv c) (dv c)=0:=by
  by_cases h0:nv a=0
  .have:nv c=0:=(by rw [j,h0]; simp);unfold Hz;rw [h0,this];split
   .simp
   .split <;> simp
  .have s:sv a≠sv c:=(by rw [l h0]; cases sv a <;> decide);have:nv c*dv a=nv a*dv c:=(by generalize Nat.gcd (nv a) (dv a)=g at *;rw [y,z]; grind);unfold Hz;rw [if_neg s,this,if_pos (Nat.le_refl _),Nat.sub_self]
 rw [b,Vn];have f:RB 1 ⟨false,[],[1]⟩:=by refine ⟨(λ_ h=>by cases h),(λx h=>?_),ψ,ψ⟩;simp at h; subst h; decide
 rw [Aha _ 1 f δ];rfl
theorem Sr (z:Int) (h1 : -9223372036854775808<=z) (h2:z<=9223372036854775807):Iw z=some (A9 (decide (z<0)) z.natAbs 1):=by
 unfold Iw;have j:=Nd (n:=z.natAbs) ω;have c:([1]:List Int)=Af 1:=Vk.symm;by_cases h:z<0
 .have i:Aa (z+1)=z+1:=Bm ω ω;have g:Aa (0-(z+1))=0-(z+1):=Bm ω ω;have f:Az (0-(z+1))=0-(z+1):=C7 ω ω;have b:Az (0-(z+1)+1)=((z.natAbs:Nat):Int):=(by rw [Az,C7 ω ω]; omega);rw [Aj h,cond_true,i,g,f,b,Ack,P6 _ ω,Ad,c,Sq _ _ _ ω (by rw [Ig]; decide) δ,Ad]
 .have b:Az z=((z.natAbs:Nat):Int):=(by rw [Az,C7 ω ω]; omega);rw [An h,cond_false,b,Ack,P6 _ ω,Ad,c,Sq _ _ _ ω (by rw [Ig]; decide) δ,Ad]
theorem Ayn (a b:Ar) (j k:Nat) (ha:RB j a) (hb:RB k b) (hj:j<34359738368) (hk:k<34359738368) (i:nv b≠0):Us a b=some (A9 (sv a != sv b) (nv a*dv b) (dv a*nv b),true):=by
 unfold Us;rw [Of a j ha ω,Ad,Of b k hb ω,Ad];obtain ⟨g,q,a1,a2,a3⟩:=P9 a;obtain ⟨h,l,b1,b2,y⟩:=P9 b;obtain ⟨f1,f2,f3⟩:=Sp (sv a) (nv a) (dv a) (Es a);obtain ⟨x,u,s⟩:=Sp (sv b) (nv b) (dv b) (Es b);obtain ⟨E,D⟩:=Vp ha;obtain ⟨B,A⟩:=Vp hb;rw [f1,f2,f3,x,u,s,a3,y];generalize hc:A9 (sv a) (nv a) (dv a)=c at *;generalize hd:A9 (sv b) (nv b) (dv b)=d at *;have m1:=Gy (nv c) (dv d);have m2:=Gy (dv c) (nv d);have f:nv d≠0:=by intro e; rw [e,Nat.mul_zero] at b1; exact i b1
 have z:dv c*nv d≠0:=Nat.mul_ne_zero (Es c) f;have:=Aco f;rw [Ch ω,cond_false,P8 _ _ ω ω,Ad,P8 _ _ ω ω,Ad,Sq _ _ _ ω ω z,Ad];rw [a1,a2,b1,b2,show g*nv c*(h*dv d)=g*h*(nv c*dv d) by grind,show g*dv c*(h*nv d)=g*h*(dv c*nv d) by grind,Mm _ _ _ _ (Nat.mul_ne_zero q l)]
end Go.Ab
namespace Go.Ab
open Go
theorem Vq (s:Bool) (n d:Nat) (hd:d≠0):∃g:Nat,g≠0/\n=g*nv (A9 s n d)/\d=g*dv (A9 s n d)/\(n≠0->sv (A9 s n d)=s)/\(n=0->sv (A9 s n d)=false):=by obtain ⟨h1,h2,h3,b⟩:=Sn s n d hd;have c:0<Nat.gcd n d:=Nat.gcd_pos_of_pos_right _ ω;exact ⟨Nat.gcd n d,ω,by rw [h1]; exact (Nat.mul_div_cancel' (Nat.gcd_dvd_left _ _)).symm,by rw [h2]; exact (Nat.mul_div_cancel' (Nat.gcd_dvd_right _ _)).symm,h3,b⟩
theorem An1 (s t:Bool) (n d m e:Nat) (hd:d≠0) (l:e≠0):A9 (sv (A9 s n d) != sv (A9 t m e)) (nv (A9 s n d)*nv (A9 t m e)) (dv (A9 s n d)*dv (A9 t m e))=A9 (s != t) (n*m) (d*e):=by
 obtain ⟨g,k,a1,a2,a3,_⟩:=Vq s n d hd;obtain ⟨h,j,b1,b2,u,_⟩:=Vq t m e l;have q:A9 (s != t) (n*m) (d*e)=A9 (sv (A9 s n d) != sv (A9 t m e)) (n*m) (d*e):=by apply Acj;intro b;have i:n≠0:=λe=>b (by rw [e]; simp);have hm:m≠0:=λe=>b (by rw [e]; simp);rw [a3 i,u hm]
 rw [q];generalize A9 s n d=c at *;generalize A9 t m e=f at *;rw [a1,a2,b1,b2,show g*nv c*(h*nv f)=g*h*(nv c*nv f) by grind,show g*dv c*(h*dv f)=g*h*(dv c*dv f) by grind,Mm _ _ _ _ (Nat.mul_ne_zero k j)]
theorem Ayo (s t:Bool) (n d m e:Nat) (hd:d≠0) (q:e≠0) (hm:m≠0):A9 (sv (A9 s n d) != sv (A9 t m e)) (nv (A9 s n d)*dv (A9 t m e)) (dv (A9 s n d)*nv (A9 t m e))=A9 (s != t) (n*e) (d*m)/\nv (A9 t m e)≠0:=by
 obtain ⟨g,l,a1,a2,a3,_⟩:=Vq s n d hd;obtain ⟨h,k,b1,b2,x,_⟩:=Vq t m e q;have i:nv (A9 t m e)≠0:=by intro z; rw [z,Nat.mul_zero] at b1; exact hm b1
 refine ⟨?_,i⟩;have u:A9 (s != t) (n*e) (d*m)=A9 (sv (A9 s n d) != sv (A9 t m e)) (n*e) (d*m):=by apply Acj;intro b;have j:n≠0:=λe=>b (by rw [e]; simp);rw [a3 j,x hm]
 rw [u];generalize A9 s n d=c at *;generalize A9 t m e=f at *;rw [a1,a2,b1,b2,show g*nv c*(h*dv f)=g*h*(nv c*dv f) by grind,show g*dv c*(h*nv f)=g*h*(dv c*nv f) by grind,Mm _ _ _ _ (Nat.mul_ne_zero l k)]
def Ef (n:Nat):Nat->Nat
 | 0=>1
 | k+1=>Ef n k*(n-k)
def D1:Nat->Nat
 | 0=>1
 | k+1=>D1 k*(k+1)
theorem Ss:∀k,D1 k≠0
 | 0=>δ
 | k+1=>Nat.mul_ne_zero (Ss k) ω
theorem Ahb {n k:Nat} (h:n<k):Ef n k=0:=by
 induction k with
 | zero=>omega
 | succ k ih=>
  simp only [Ef];rcases Nat.lt_or_ge n k with h' | h'
  .rw [ih h']; simp
  .have:n-k=0:=ω;rw [this]; simp
theorem An2 (n k:Nat) (b:n<1000000000):Bi (Ef n k)<=k+1:=by induction k with| zero=>simp [Ef,Ig]| succ k ih=>have h1:=Gy (Ef n k) (n-k);have h2:Bi (n-k)<=1:=I9 (by simp; omega);simp only [Ef]; omega
theorem An3 (k:Nat) (hk:k<1000000000):Bi (D1 k)<=k+1:=by induction k with| zero=>simp [D1,Ig]| succ k ih=>have h1:=Gy (D1 k) (k+1);have h2:Bi (k+1)<=1:=I9 (by simp; omega);simp only [D1];have:=ih ω;omega
theorem Su {n:Nat} (h:n<1000000000):Bi n<=1:=I9 (by simpa using h)
theorem An4 (n k:Nat) (b:n<1000000000) (hk:k<=64):RB (k+1) (A9 false (Ef n k) (D1 k)) := Hf _ _ _ _ (An2 n k b) (An3 k ω) ω
theorem Acp (a:Ar):Ar.mk a.Neg a.Num a.Den=a:=by cases a; rfl
theorem An5 (n k:Nat) (z:n<1000000000) (hk:k<=64):U7 (n:Int) (k:Int)=some (A9 false (Ef n k) (D1 k)):=by
 unfold U7;have A:F3 1=some (A9 false (Ef n 0) (D1 0)):=Vm 1 δ δ;rw [A,Ad];refine He (λ(i,s,b,c)=>∃q:Nat,i=q/\q<=k/\q<=n/\Ar.mk s b c=A9 false (Ef n q) (D1 q)) (λ(i,_,_,_)=>k-i.toNat) (λe=>match e with | .inl r=>r=A9 false (Ef n k) (D1 k) | .inr (s,b,c)=>Ar.mk s b c=A9 false (Ef n k) (D1 k)) ⟨0,rfl,ω,ω,Acp _⟩ ?_ ?_
 .rintro ⟨i,s,b,c⟩ ⟨q,rfl,hq,y,ha⟩;rcases Nat.lt_or_ge q k with h | h
  .simp only [Aj (by omega:(q:Int)<(k:Int)),cond_true];by_cases u:n=q
   .subst u;refine .inr ⟨.inl (A9 false 0 1),?_,?_⟩
    .rw [Dw rfl,cond_true,Vm 0 δ δ]; rfl
    .show A9 false 0 1=_;rw [Ahb h,Vn,Vn]
   .have l:Aa ((n:Int)-(q:Int))=((n-q:Nat):Int):=(by rw [Aa,Bm] <;> omega);have j:Aa ((q:Int)+1)=((q+1:Nat):Int):=Kd h ω;have x:Se ((n-q:Nat):Int) ((q+1:Nat):Int)=some (A9 false (n-q) (q+1)):=(by rw [Ax5 _ _ ω ω ω ω ω,An (by omega:¬((n-q:Nat):Int)<0),An (by omega:¬((q+1:Nat):Int)<0)]; rfl);have g:RB 1 (A9 false (n-q) (q+1)):=Hf _ _ _ _ (Su ω) (Su ω) ω;have hm:=Yq _ _ _ _ (An4 n q z ω) g ω ω;rw [An1 false false (Ef n q) (D1 q) (n-q) (q+1) (Ss q) ω] at hm;refine .inl ⟨(((q+1:Nat):Int),(A9 false (Ef n (q+1)) (D1 (q+1))).Neg,(A9 false (Ef n (q+1)) (D1 (q+1))).Num,(A9 false (Ef n (q+1)) (D1 (q+1))).Den),?_,⟨q+1,rfl,ω,ω,Acp _⟩,by simp; omega⟩;rw [Ch ω,cond_false,l,j,x,Ad,ha,hm,Ad]; rfl
  .have:q=k:=ω;subst this;refine .inr ⟨.inr (s,b,c),ψ,ha⟩
 .rintro (e | ⟨s,b,c⟩) f
  .simp only at f ⊢; rw [f]
  .simp only at f ⊢; rw [f]
theorem Ayp (n q:Nat) (x:n<1000000000) (hq:q<1000000000):∃s:Bool,Rl (A9 false n 1) (A9 false q 1)=some (A9 s (if q<=n then n-q else q-n) 1)/\(q<=n->n-q≠0->s=false):=by
 have hc:∀(s:Bool) (m:Nat),nv (A9 s m 1)=m/\dv (A9 s m 1)=1/\(m≠0->sv (A9 s m 1)=s)/\(m=0->sv (A9 s m 1)=false):=by intro s m;obtain ⟨h1,h2,h3,y⟩:=Sn s m 1 δ;refine ⟨by rw [h1]; simp,by rw [h2]; simp,h3,y⟩
 have k:RB 1 (A9 false n 1):=Hf _ _ _ _ (Su x) (by rw [Ig]; decide) ω;have j:RB 1 (A9 false q 1):=Hf _ _ _ _ (Su hq) (by rw [Ig]; decide) ω;obtain ⟨a1,a2,a3,a4⟩:=hc false n;obtain ⟨b1,b2,G,E⟩:=hc false q;have u:sv (A9 false n 1)=false:=by
  by_cases h:n=0
  .exact a4 h
  .exact a3 h
 have l:sv (A9 false q 1)=false:=by
  by_cases h:q=0
  .exact E h
  .exact G h
 have f:Ul (A9 false q 1)=some (A9 true q 1):=by rw [An0 _ 1 j δ,l,b1,b2]; rfl
 obtain ⟨D,B,A,z⟩:=hc true q;have i:RB 1 (A9 true q 1):=Hf _ _ _ _ (Su hq) (by rw [Ig]; decide) ω;have g:=Ag9 _ _ 1 1 k i δ δ;unfold Rl;rw [f,Ad,g,Ad,a1,a2,D,B,u];by_cases c:q=0
 .subst c;refine ⟨false,?_,λ_ _=>rfl⟩;rw [z rfl];simp [Ke,Hz]
 .rw [A c];by_cases b:q<=n
  .refine ⟨false,?_,λ_ _=>rfl⟩;simp [Ke,Hz,b]
  .refine ⟨true,?_,λh=>(b h).elim⟩;simp [Ke,Hz,b]
theorem Ayq (n k:Nat) (B:n<1000000000) (hk:k<=64):Rt (A9 false n 1) (k:Int)=some (A9 false (Ef n k) (D1 k)):=by
 unfold Rt;have J:Iw 1=some (A9 false (Ef n 0) (D1 0)):=Sr 1 δ δ;rw [J,Ad];refine He (λ(i,s,g,j)=>∃q:Nat,i=q/\q<=k/\Ar.mk s g j=A9 false (Ef n q) (D1 q)) (λ(i,_,_,_)=>k-i.toNat) (λ(s,g,j)=>Ar.mk s g j=A9 false (Ef n k) (D1 k)) ⟨0,rfl,ω,Acp _⟩ ?_ ?_
 .rintro ⟨i,s,g,j⟩ ⟨q,rfl,hq,ha⟩;rcases Nat.lt_or_ge q k with h | h
  .have I:Aa ((q:Int)+1)=((q+1:Nat):Int):=Kd h ω;have E:∀z:Nat,z<1000000000->Yj (z:Int)=some (A9 false z 1):=(by intro z L;have:=Sr (z:Int) ω ω;rw [An (by omega:¬(z:Int)<0)] at this;exact this);obtain ⟨t,l,ht⟩:=Ayp n q B ω;have u:RB 1 (A9 t (if q<=n then n-q else q-n) 1):=Hf _ _ _ _ (Su (by split <;> omega)) (by rw [Ig]; decide) ω;have hm:=Anz _ _ _ _ (An4 n q B ω) u ω ω;rw [An1 _ _ _ _ _ _ (Ss q) δ,Nat.mul_one] at hm;have c:Ef n q*(if q<=n then n-q else q-n)=Ef n (q+1):=by
    simp only [Ef];by_cases f:q<=n
    .rw [if_pos f]
    .rw [Ahb ω]; simp
   have D:A9 (false != t) (Ef n q*(if q<=n then n-q else q-n)) (D1 q)=A9 false (Ef n (q+1)) (D1 q):=by
    rw [c];apply Acj;intro b;have f:q<=n:=by
     rcases Nat.lt_or_ge n q with h' | h'
     .rw [Ahb ω] at b; exact (b rfl).elim
     .exact h'
    have A:n-q≠0:=(by intro e; simp only [Ef,e,Nat.mul_zero] at b; exact b rfl);rw [ht f A]; rfl
   rw [D] at hm;have y:RB (q+2) (A9 false (Ef n (q+1)) (D1 q)):=Hf _ _ _ _ (An2 n (q+1) B) (by have:=An3 q ω; omega) ω;have x:RB 1 (A9 false (q+1) 1):=Hf _ _ _ _ (Su ω) (by rw [Ig]; decide) ω;obtain ⟨d1,d2⟩:=Ayo false false (Ef n (q+1)) (D1 q) (q+1) 1 (Ss q) δ ω;have hd:=Ayn _ _ _ _ y x ω ω d2;rw [d1,Nat.mul_one] at hd;refine .inl ⟨(((q+1:Nat):Int),(A9 false (Ef n (q+1)) (D1 (q+1))).Neg,(A9 false (Ef n (q+1)) (D1 (q+1))).Num,(A9 false (Ef n (q+1)) (D1 (q+1))).Den),?_,⟨q+1,rfl,ω,Acp _⟩,by simp; omega⟩;simp only [Aj (by omega:(q:Int)<(k:Int)),cond_true,E q ω,Ad,l,ha,hm,I,E (q+1) ω,hd];rfl
  .have:q=k:=ω;subst this;exact .inr ⟨(s,g,j),ψ,ha⟩
 .rintro ⟨s,g,j⟩ G;simp only at G ⊢; rw [G]
end Go.Ab
namespace Go.Ab
open Go
mutual
def Bo:Ai->Nat
 | ⟨_,_,l⟩=>1+Cu l
def Cu:List Ai->Nat
 | []=>0
 | x::xs=>Bo x+Cu xs
end
theorem H3 (t:Ai):Bo t=1+Cu t.Args:=by cases t; simp only [Bo]
theorem Nf (t:Ai):1<=Bo t:=by rw [H3]; omega
theorem Ih {l:List Ai} {a:Ai} (h:a∈l):Bo a<=Cu l:=by
 induction l with
 | nil=>cases h
 | cons x xs ih=>
  simp only [Cu];rcases List.mem_cons.1 h with rfl | h
  .omega
  .have:=ih h; omega
theorem Jx (l:List Ai):l.length<=Cu l:=by induction l with| nil=>simp| cons x xs ih=>simp only [Cu,List.length_cons]; have:=Nf x; omega
theorem Acq (l m:List Ai):Cu (l++m)=Cu l+Cu m:=by induction l with| nil=>simp [Cu]| cons x xs ih=>simp only [List.cons_append,Cu,ih]; omega
def K0 (data:List A3) (vars k n:Int) (len:Nat):Bool := if k=1\/k=2\/k=3 then n==0&&len==0 else if k=4 then decide (0<=n)&&decide (n<vars)&&len==0 else if k=5 then decide (0<=n)&&(match data[n.toNat]? with | some d=>(len:Int)==d.Vars | none=>false) else if k=6 then n==0&&decide (2<=len)&&decide (len<=6) else if k=7\/k=8 then n==0&&len==1 else if k=9 then n==0&&decide (1<=len)&&decide (len<=7) else false
mutual
def Fv (data:List A3) (vars:Int):Ai->Bool
 | ⟨k,n,l⟩=>K0 data vars k n l.length&&Ev data vars l
def Ev (data:List A3) (vars:Int):List Ai->Bool
 | []=>true
 | x::xs=>Fv data vars x&&Ev data vars xs
end
theorem Acr (data:List A3) (vars:Int) (t:Ai):Fv data vars t=(K0 data vars t.Kind t.Num t.Args.length&&Ev data vars t.Args):=by cases t; simp only [Fv]
theorem An6 {α:Type} (l:List α) (n:Nat):((l.length:Int)==(n:Int))=(l.length==n):=by
 by_cases h:l.length=n
 .subst h; simp
 .rw [Ch ω]; simp [h]
theorem Ayr (k:Nat) (t:Ai) (data:List A3) (vars left:Int) (h1:1<=left) (h2:left<=1000) : Mb (k+1) t ⟨data,vars,left⟩=bif K0 data vars t.Kind t.Num t.Args.length then ((Vg k t.Args ⟨data,vars,left-1⟩).bind λv12=>some ((!v12.1),v12.2)) else some (false,⟨data,vars,left-1⟩):=by have hw:Aa (left-1)=left-1:=Bm ω ω;have b:¬left-1<0:=ω;rw [Mb];simp only [hw,An b,cond_false];generalize g:(Vg k t.Args ⟨data,vars,left-1⟩).bind (λv12=>some ((!v12.1),v12.2))=X;generalize f:(some (false,⟨data,vars,left-1⟩):Option (Bool×F8))=Y;unfold K0 Ae;generalize t.Args.length=len;generalize t.Kind=c;generalize t.Num=n;cases hd:data[n.toNat]? <;> simp only [Bool.cond_eq_ite,Ags,Ad,Option.bind_none,hd] <;> grind
theorem Ys {l:List Ai} {j:Nat} (h:j<l.length):Cu (l.take (j+1))=Cu (l.take j)+Bo l[j]:=by rw [List.take_succ_eq_append_getElem h,Acq]; simp [Cu]
theorem An7 (data:List A3) (vars:Int) (l m:List Ai):Ev data vars (l++m)=(Ev data vars l&&Ev data vars m):=by induction l with| nil=>simp [Ev]| cons x xs ih=>simp only [List.cons_append,Ev,ih,Bool.and_assoc]
theorem Acs (data:List A3) (vars:Int) {l:List Ai} {j:Nat} (h:j<l.length):Ev data vars (l.take (j+1))=(Ev data vars (l.take j)&&Fv data vars l[j]):=by rw [List.take_succ_eq_append_getElem h,An7]; simp [Ev]
theorem Yt (l:List Ai) (j:Nat):Cu (l.take j)<=Cu l:=by have:=Acq (l.take j) (l.drop j);rw [List.take_append_drop] at this; omega
theorem An8 (data:List A3) (vars:Int) (l:List Ai) (j:Nat) (h:Ev data vars l=true):Ev data vars (l.take j)=true:=by have:=An7 data vars (l.take j) (l.drop j);rw [List.take_append_drop,h] at this;have:=this.symm;simp only [Dj] at this;exact this.1
theorem Ays (data:List A3) (vars:Int) (k:Nat) (l:List Ai) (c:Nat) (G:l.length<1099511627776) (ih:∀(a:Ai),a∈l->∀f:Nat,f<=c->∃g:Int,Mb k a ⟨data,vars,f⟩=some (Fv data vars a&&decide (Bo a<=f),⟨data,vars,g⟩)/\((Fv data vars a&&decide (Bo a<=f))=true->g=(f:Int)-Bo a)) : ∃p:Int×Int,Yg (k+2) l ⟨data,vars,c⟩=some (p.1,⟨data,vars,p.2⟩)/\((Ev data vars l&&decide (Cu l<=c))=true->p.1 = -1/\p.2=(c:Int)-Cu l)/\((Ev data vars l&&decide (Cu l<=c))=false->0<=p.1):=by
 rw [Yg];refine Ab5 (λp:Int×Int=>(p.1,F8.mk data vars p.2)) (Fe (λ(v3,v4,v5,s)=>∃j:Nat,v3=j/\j<=l.length/\v4=data/\v5=vars/\Ev data vars (l.take j)=true/\Cu (l.take j)<=c/\s=(c:Int)-Cu (l.take j)) (λ(v3,_,_,_)=>l.length-v3.toNat) (λz=>match z with | .inl (i,b)=>0<=i/\(∃g,b=⟨data,vars,g⟩)/\(Ev data vars l&&decide (Cu l<=c))=false | .inr (v4,v5,s)=>v4=data/\v5=vars/\(Ev data vars l&&decide (Cu l<=c))=true/\s=(c:Int)-Cu l) ⟨0,rfl,ω,rfl,rfl,rfl,by simp [Cu],by simp [Cu]⟩ ?_ ?_)
 .rintro ⟨v3,v4,v5,s⟩ ⟨j,rfl,hj,rfl,rfl,x,A,rfl⟩;rcases Nat.lt_or_ge j l.length with h | h
  .obtain ⟨u,y⟩:∃u:Nat,(c:Int)-Cu (l.take j)=u/\u<=c:=⟨c-Cu (l.take j),ω,ω⟩;obtain ⟨g,E,D⟩:=ih l[j] (List.getElem_mem h) u y.2;simp only [Aj (by omega:(j:Int)<(l.length:Int)),cond_true,Dv rfl h,Ad,Xi,y.1,E];cases hb:(Fv v4 v5 l[j]&&decide (Bo l[j]<=u)) with
   | true=>
    have I:=D hb;simp only [Dj,decide_eq_true_eq] at hb;refine .inl ⟨(((j+1:Nat):Int),v4,v5,g),?_,⟨j+1,rfl,ω,rfl,rfl,?_,?_,?_⟩,by simp; omega⟩
    .simp only [Dk,cond_false];rw [show Aa ((j:Int)+1)=((j+1:Nat):Int) by rw [Aa,Bm] <;> omega]
    .rw [Acs _ _ h,x,hb.1]; rfl
    .rw [Ys h]; omega
    .show g=_;rw [Ys h]; omega
   | false=>refine .inr ⟨.inl ((j:Int),⟨v4,v5,g⟩),ψ,ω,⟨g,rfl⟩,?_⟩;cases q:(Ev v4 v5 l&&decide (Cu l<=c)) with| false=>rfl| true=>exfalso;simp only [Dj,decide_eq_true_eq] at q;have a1:=An8 v4 v5 l (j+1) q.1;rw [Acs _ _ h] at a1;simp only [Dj] at a1;have a2:=Yt l (j+1);rw [Ys h] at a2;rw [a1.2,Bool.true_and,decide_eq_false_iff_not] at hb;omega
  .have:j=l.length:=ω;subst this;rw [List.take_length] at *;refine .inr ⟨.inr (v4,v5,(c:Int)-Cu l),ψ,rfl,rfl,by simp [x,A],rfl⟩
 .rintro (⟨i,b⟩ | ⟨v4,v5,s⟩) B
  .obtain ⟨a1,⟨g,rfl⟩,a3⟩:=B;exact ⟨_,rfl,(i,g),rfl,(λh=>by rw [a3] at h; cases h),λ_=>a1⟩
  .obtain ⟨rfl,rfl,a3,rfl⟩:=B;exact ⟨_,rfl,(-1,_),rfl,λ_=>⟨rfl,rfl⟩,λh=>by rw [a3] at h; cases h⟩
theorem Ayt (data:List A3) (vars:Int):∀(left:Nat) (t:Ai) (k:Nat),left<=200->4*left+4<=k->Bo t<1099511627776 -> ∃f:Int,Mb k t ⟨data,vars,left⟩=some (Fv data vars t&&decide (Bo t<=left),⟨data,vars,f⟩)/\((Fv data vars t&&decide (Bo t<=left))=true->f=(left:Int)-Bo t):=by
 intro left;induction left using Nat.strongRecOn with
 | _ left s=>
  intro t k B hk ht;have hp:=Nf t;obtain ⟨g,rfl⟩:∃g,k=g+1:=⟨k-1,ω⟩;cases left with
  | zero=>refine ⟨-1,?_,λh=>by simp at h; omega⟩;rw [Mb];have hd:decide (Bo t<=0)=false:=An ω;rw [hd,Bool.and_false];rfl
  | succ b=>
   rw [Ayr g t data vars ((b+1:Nat):Int) ω ω];have z:((b+1:Nat):Int)-1=(b:Int):=ω;rw [z,Acr];cases A:K0 data vars t.Kind t.Num t.Args.length with
   | false=>exact ⟨b,ψ,λh=>by simp at h⟩
   | true=>
    obtain ⟨q,rfl⟩:∃q,g=q+3:=⟨g-3,ω⟩;have j:=H3 t;have x:=Jx t.Args;obtain ⟨⟨i,f⟩,h1,h2,h3⟩:=Ays data vars q t.Args b ω (λa ha c y=>by have:=Ih ha;exact s c ω a q ω ω ω);have l:decide (Bo t<=b+1)=decide (Cu t.Args<=b):=(by rw [j]; congr 1; simp only [eq_iff_iff]; omega);simp only [cond_true,Vg,h1,Ad,Bool.true_and,l];refine ⟨f,?_,λh=>?_⟩
    .cases hb:(Ev data vars t.Args&&decide (Cu t.Args<=b)) with| true=>have u:i = -1:=(h2 hb).1;rw [An (by omega:¬i>=0)]; rfl| false=>have u:0<=i:=h3 hb;rw [Aj (by omega:i>=0)]; rfl
    .have u:f=(b:Int)-Cu t.Args:=(h2 h).2;rw [u,j]; omega
theorem Yu (data:List A3) (t:Ai) (vars:Int) (ht:Bo t<1099511627776):Pe data t vars=some (Fv data vars t&&decide (Bo t<=200)):=by unfold Pe;obtain ⟨b,h1,_⟩:=Ayt data vars 200 t 4000000 δ δ ht;have h1:Mb 4000000 t ⟨data,vars,200⟩=_:=h1;rw [h1]; rfl
theorem An9:∀(k:Nat) (t:Ai),Bo t<=k->Bo t<1099511627776->N7 k t=some (Bo t:Int):=by
 intro k;induction k with
 | zero=>intro t h; have:=Nf t; omega
 | succ k ih=>
  intro t h ht;have c:=H3 t;have f:=Jx t.Args;rw [N7];refine He (λ(n,i)=>∃j:Nat,i=j/\j<=t.Args.length/\n=1+(Cu (t.Args.take j):Int)) (λ(_,i)=>t.Args.length-i.toNat) (λn=>n=(Bo t:Int)) ⟨0,rfl,ω,by simp [Cu]⟩ ?_ (by rintro n rfl; rfl);rintro ⟨n,i⟩ ⟨j,rfl,hj,rfl⟩;rcases Nat.lt_or_ge j t.Args.length with h' | h'
  .have hm:=Ih (List.getElem_mem h');have g:=Yt t.Args j;have b:=Yt t.Args (j+1);rw [Ys h'] at b;refine .inl ⟨(1+(Cu (t.Args.take (j+1)):Int),((j+1:Nat):Int)),?_,⟨j+1,rfl,ω,rfl⟩,by simp; omega⟩;simp only [Aj (by omega:(j:Int)<(t.Args.length:Int)),cond_true,Dv rfl h',Ad,ih t.Args[j] ω ω];rw [show Aa ((j:Int)+1)=((j+1:Nat):Int) by rw [Aa,Bm] <;> omega,show Aa (1+(Cu (t.Args.take j):Int)+(Bo t.Args[j]:Int))=1+(Cu (t.Args.take (j+1)):Int) by rw [Ys h',Aa,Bm] <;> omega]
  .have:j=t.Args.length:=ω;subst this;exact .inr ⟨1+(Cu t.Args:Int),ψ,by rw [c]; omega⟩
theorem Ayu (data:List A3) (vars:Int):∀(k:Nat) (t:Ai),Bo t<=k->Bo t<1099511627776->Pl k data t vars=some (Fv data vars t):=by
 intro k;induction k with
 | zero=>intro t h; have:=Nf t; omega
 | succ k ih=>
  intro t h ht;have A:=H3 t;have l:=Jx t.Args;have c:(Al (S:=Int) (E:=(Bool⊕Unit)) (λv8=>bif v8<(t.Args.length:Int) then ((Ae t.Args v8).bind λv9=>(Pl k data v9 vars).bind λx=>bif (!x) then some (.inr (.inl false)) else some (.inl (Aa (v8+1)))) else some (.inr (.inr ()))) 0).bind (λz=>match z with | .inl y=>some y | .inr _=>some true)=some (Ev data vars t.Args):=by
   refine He (λi=>∃j:Nat,i=j/\j<=t.Args.length/\Ev data vars (t.Args.take j)=true) (λi=>t.Args.length-i.toNat) (λz=>match z with | .inl r=>r=Ev data vars t.Args | .inr _=>Ev data vars t.Args=true) ⟨0,rfl,ω,by simp [Ev]⟩ ?_ ?_
   .rintro i ⟨j,rfl,hj,f⟩;rcases Nat.lt_or_ge j t.Args.length with h' | h'
    .have hm:=Ih (List.getElem_mem h');simp only [Aj (by omega:(j:Int)<(t.Args.length:Int)),cond_true,Dv rfl h',Ad,ih t.Args[j] ω ω];cases hb:Fv data vars t.Args[j] with
     | true=>refine .inl ⟨((j+1:Nat):Int),?_,⟨j+1,rfl,ω,by rw [Acs _ _ h',f,hb]; rfl⟩,by simp; omega⟩;simp only [Dk,cond_false];rw [show Aa ((j:Int)+1)=((j+1:Nat):Int) by rw [Aa,Bm] <;> omega]
     | false=>refine .inr ⟨.inl false,ψ,?_⟩;show false=_;cases q:Ev data vars t.Args with| false=>rfl| true=>have a1:=An8 data vars t.Args (j+1) q;rw [Acs _ _ h',hb,Bool.and_false] at a1; cases a1
    .have:j=t.Args.length:=ω;subst this;rw [List.take_length] at f;exact .inr ⟨.inr (),ψ,f⟩
   .rintro (r | u) s
    .simp only at s ⊢; rw [s]
    .simp only at s ⊢; rw [s]
  rw [Pl,Acr];refine Eq.trans (b:=Option.bind _ (λz:Bool⊕Unit=>match z with | .inl D=>some D | .inr _=>some (Ev data vars t.Args))) (Axo ?_) ?_
  .rintro (r | u)
   .rfl
   .exact c
  have g:t.Args.length=0->Ev data vars t.Args=true:=(by intro e; rw [List.length_eq_zero_iff.1 e]; rfl);unfold K0 Ae;clear c ih h ht A l;generalize Ev data vars t.Args=X at *;generalize t.Args.length=len at *;generalize t.Kind=G;generalize t.Num=n;by_cases B:len=0
  .have hx:=g B;subst B; subst hx;cases hd:data[n.toNat]? <;> simp only [Bool.cond_eq_ite,Ags,Ad,Option.bind_none,hd] <;> grind
  .have h0:((len:Int)==0)=false:=Ch ω;have h1:(len==0)=false:=(by simpa using B);have h2:((len:Int) != 1)=(!(len==1)):=by
    by_cases h:len=1
    .subst h; rfl
    .rw [Dh ω]; simp [h]
   cases hd:data[n.toNat]? <;> simp only [h0,h1,h2,Bool.cond_eq_ite,Ags,Ad,Option.bind_none,hd,Bool.and_false,Bool.false_and] <;> grind
theorem Ahc (data:List A3) (t:Ai) (vars:Int) (ht:Bo t<=4000000):N1 data t vars=some (Fv data vars t&&decide (Bo t<=200)):=by
 unfold N1;rw [An9 4000000 t ht ω,Ad,Ayu data vars 4000000 t ht ω];by_cases h:Bo t<=200
 .rw [Aj (by omega:(Bo t:Int)<=200),Aj h]; simp
 .rw [An (by omega:¬(Bo t:Int)<=200),An h]; simp
end Go.Ab
namespace Go.Ab
open Go
def Og (a:Ai) (i:Int):Bool:=a.Kind==4&&a.Num==i&&a.Args.length==0
def Aoa (l:List Ai):Bool:=l.zipIdx.all λq=>Og q.1 q.2
def Ii (t:Ai) (d vars:Int):Bool:=t.Kind==5&&t.Num==d&&(t.Args.length:Int)==vars&&Aoa t.Args
theorem Aob (t:Ai) (d vars:Int) (ht:t.Args.length<1099511627776):Pk t d vars=some (Ii t d vars):=by
 unfold Pk Ii;by_cases h1:t.Kind=5
 .by_cases h2:t.Num=d
  .by_cases h3:(t.Args.length:Int)=vars
   .simp only [De h1,De h2,De h3,cond_false,Ad,Dw h1,Dw h2,Dw h3,Bool.true_and];refine (Od t.Args (λq=>Og q.1 q.2) (λj=>(j:Int)) rfl ω (rt:=true) (rf:=false) ?_ ?_).trans (by rw [Ml]; rfl)
    .intro j x hx _ hd hi hw;simp only [hd,hi,hw,cond_true,Ad,Og];constructor
     .intro h;simp only [Dj,beq_iff_eq] at h;simp [h.1.1,h.1.2,h.2]
     .intro h;by_cases g1:x.Kind=4
      .by_cases g2:x.Num=j
       .by_cases g3:x.Args.length=0
        .simp [g1,g2,g3] at h
        .exact ⟨.inl false,by simp only [De g1,De g2,cond_false]; rw [Aj ω]; rfl,rfl⟩
       .exact ⟨.inl false,by simp only [De g1,Dh g2,cond_false]; rfl,rfl⟩
      .exact ⟨.inl false,by simp only [Dh g1]; rfl,rfl⟩
    .intro hd _;exact ⟨.inr (),by simp only [hd]; rfl,rfl⟩
   .simp only [De h1,De h2,Dh h3,cond_false,cond_true,Ad,Ch h3,Bool.and_false,Bool.false_and]
  .simp only [De h1,Dh h2,cond_false,cond_true,Ad,Ch h2,Bool.and_false,Bool.false_and]
 .simp only [Dh h1,cond_true,Ad,Ch h1,Bool.false_and]
def G2 (data:List A3) (d c:Int):List Bool := match Ae data d with
 | none=>[]
 | some x=>match Ae x.Cons c with
  | none=>[]
  | some y=>y.Args.map λt=>Ii t d x.Vars
theorem Gj {α:Type} {l:List α} {i:Int} {x:α} (h:Ae l i=some x):0<=i/\i<l.length/\l[i.toNat]? = some x/\x∈l:=by
 unfold Ae at h;split at h
 .have h1:i.toNat<l.length:=Dx h;exact ⟨by assumption,ω,h,Cd h⟩
 .cases h
theorem Qa {α:Type} {l:List α} {i:Int} (h:Ae l i=none):i<0\/(l.length:Int)<=i:=by
 unfold Ae at h;split at h
 .rw [List.getElem?_eq_none_iff] at h;right; omega
 .left; omega
theorem Aoc {R:Type} (data:List A3) (d c:Int) (F:A3->Mg->Option R) (z:R) (X:Option R) (f:X=((bif d<(0:Int) then some true else bif d>=(data.length:Int) then some true else bif c<(0:Int) then some true else (Ae data d).bind λb=>some (decide (c>=(b.Cons.length:Int))):OB).bind λv2=>bif v2 then some z else (Ae data d).bind λv3=>(Ae v3.Cons c).bind λv4=>F v3 v4)) : X=match Ae data d with
   | none=>some z
   | some x=>match Ae x.Cons c with
    | none=>some z
    | some y=>F x y:=by
 subst f;cases hx:Ae data d with
 | none=>
  rcases Qa hx with h | h
  .simp only [Aj h,cond_true,Ad]
  .by_cases h':d<0
   .simp only [Aj h',cond_true,Ad]
   .simp only [An h',Aj (show d>=(data.length:Int) from h),cond_true,cond_false,Ad]
 | some x=>
  obtain ⟨a1,a2,_,_⟩:=Gj hx;simp only [An (by omega:¬d<0),An (by omega:¬d>=(data.length:Int)),cond_false,Ad];cases hy:Ae x.Cons c with
  | none=>
   rcases Qa hy with h | h
   .simp only [Aj h,cond_true,Ad]
   .by_cases h':c<0
    .simp only [Aj h',cond_true,Ad]
    .simp only [An h',Aj (show c>=(x.Cons.length:Int) from h),cond_true,cond_false,Ad]
  | some y=>obtain ⟨b1,b2,_,_⟩:=Gj hy;simp only [An (by omega:¬c<0),An (by omega:¬c>=(x.Cons.length:Int)),cond_false,Ad]
def Ayv (l:List Ai):Prop:=l.length<=4194304/\∀a∈l,a.Args.length<=4194304
def Mn (data:List A3):Prop:=∀x∈data,∀y∈x.Cons,Ayv y.Args
theorem Ayw (data:List A3) (d c:Int) (hd:Mn data):Ve data d c=some (G2 data d c):=by
 unfold Ve;rw [Aoc data d c (λv4 v5=>_) [] _ rfl];unfold G2;cases hx:Ae data d with
 | none=>rfl
 | some x=>
  cases hy:Ae x.Cons c with
  | none=>simp only [hy]
  | some y=>
   simp only [hy];have b:=hd x (Gj hx).2.2.2 y (Gj hy).2.2.2;refine Gf y.Args (λj=>((j:Int),(y.Args.take j).map λt=>Ii t d x.Vars)) rfl (by have:=b.1; omega) ?_ ?_
   .intro j t hj ht h1 h2 h3;simp only [h1,h2,cond_true,Ad,Aob t d x.Vars (by have:=b.2 t (Cd ht); omega)];rw [C3 (by simp; have:=b.1; omega),Ad,h3,C8 ht,List.map_append]; rfl
   .intro h1;exact ⟨_,by simp only [h1]; rfl,ψ⟩
theorem Ayx (data:List A3) (d c:Int) (hd:Mn data):Ve data d c=some (G2 data d c):=Ayw data d c hd
theorem Ahd {α:Type} (l m:List α) (y x:α) (i:Int) (n:Nat) (h:i=n) (b:n=l.length):B9 (l++y::m) i x=l++x::m:=by rw [Fh h]; subst b; simp
theorem Ahe {α:Type} (l m:List α) (y:α) (i:Int) (n:Nat) (h:i=n) (b:n=l.length):Ae (l++y::m) i=some y:=by rw [Ce h]; subst b; simp
theorem Ayy (l:List Ai) (k f:List Bool) (i:Int) (n:Nat) (b:Bool) (h:i=n) (s:n=k.length) (A:l.length<1099511627776) {R:Type} {J:Int×List Bool->Option R} {r:R} (z:J ((l.length:Int),k++(b&&Aoa l)::f)=some r) : (Al (S:=(Int×(List Bool))) (E:=(Int×(List Bool))) (λ(c,g)=> bif c<(l.length:Int) then ((Ae l c).bind λv44=> bif (v44.Kind != (4:Int)) then ((Ae g i).bind λv46=> some (.inl ((Aa (c+1)),(B9 g i false)))) else (bif (v44.Num != c) then ((Ae g i).bind λy=> some (.inl ((Aa (c+1)),(B9 g i false)))) else (bif (v44.Args.length:Int)>(0:Int) then ((Ae g i).bind λu=> some (.inl ((Aa (c+1)),(B9 g i false)))) else (some (.inl ((Aa (c+1)),g)))))) else (some (.inr (c,g)))) (0,k++b::f)).bind J=some r:=by
 refine Gf l (λj=>((j:Int),k++(b&&(l.take j).zipIdx.all (λq=>Og q.1 q.2))::f)) ψ ω ?_ ?_
 .intro j x hj hx h1 h2 h3;have e:(l.take (j+1)).zipIdx.all (λq=>Og q.1 q.2)=((l.take j).zipIdx.all (λq=>Og q.1 q.2)&&Og x j):=(by rw [C8 hx,List.zipIdx_append,List.all_append]; simp [Nat.min_eq_left (Nat.le_of_lt hj)]);simp only [h1,h2,h3,cond_true,Ad,Ahe k f _ i n h s,Ahd k f _ _ i n h s,e];unfold Og;by_cases g1:x.Kind=4
  .by_cases g2:x.Num=j
   .by_cases g3:x.Args.length=0
    .rw [An ω]; simp [g1,g2,g3]
    .rw [Aj ω];have:(x.Args.length==0)=false:=(by simpa using g3);simp [g1,g2,this]
   .simp [g1,g2,Dh g2]
  .simp [g1,Dh g1]
 .intro h1;refine ⟨_,by simp only [h1]; rfl,?_⟩;rw [List.take_length];exact z
theorem Aod (data:List A3) (d c:Int) (hd:Mn data):U1 data d c=some (G2 data d c):=by
 unfold U1;rw [Aoc data d c (λv3 v4=>_) [] _ rfl];unfold G2;cases hx:Ae data d with
 | none=>rfl
 | some x=>
  cases hy:Ae x.Cons c with
  | none=>simp only [hy]
  | some y=>
   simp only [hy];have f:=hd x (Gj hx).2.2.2 y (Gj hy).2.2.2;have g:=f.1;rw [Ju (n:=y.Args.length) (c:=y.Args.length) rfl rfl ω ω ω,Ad];refine Gf y.Args (λj=>((j:Int),((y.Args.take j).map λt=>Ii t d x.Vars)++List.replicate (y.Args.length-j) false)) rfl ω ?_ ?_
   .intro j t hj ht h1 h2 h3;obtain ⟨m,hm⟩:∃m,y.Args.length-j=m+1:=⟨y.Args.length-j-1,ω⟩;have h:y.Args.length-(j+1)=m:=ω;have b:j=((y.Args.take j).map λt=>Ii t d x.Vars).length:=(by simp; omega);simp only [h1,h2,cond_true,Ad,hm,h,List.replicate_succ,C8 ht,List.map_append,List.map_cons,List.map_nil,List.append_assoc,List.cons_append,List.nil_append, Ahe _ _ _ (j:Int) j rfl b,Ahd _ _ _ _ (j:Int) j rfl b];have hb:(bif t.Kind==5 then bif t.Num==d then some (List.map (λt=>Ii t d x.Vars) (List.take j y.Args)++((t.Args.length:Int)==x.Vars)::List.replicate m false)
       else some (List.map (λt=>Ii t d x.Vars) (List.take j y.Args)++false::List.replicate m false) else some (List.map (λt=>Ii t d x.Vars) (List.take j y.Args)++false::List.replicate m false))=some (List.map (λt=>Ii t d x.Vars) (List.take j y.Args)++(t.Kind==5&&t.Num==d&&((t.Args.length:Int)==x.Vars))::List.replicate m false):=by cases t.Kind==5 <;> cases t.Num==d <;> simp
    rw [hb,Ad];refine Ayy t.Args _ _ (j:Int) j _ rfl b (by have:=f.2 t (Cd ht); omega) ?_;rw [h3]; rfl
   .intro h1;exact ⟨_,by simp only [h1]; rfl,ψ⟩
mutual
def mnt (d:Int):Ai->Bool
 | ⟨k,n,l⟩=>(k==5&&n==d)||Oh d l
def Oh (d:Int):List Ai->Bool
 | []=>false
 | x::xs=>mnt d x||Oh d xs
end
theorem Ayz (d:Int) (t:Ai):mnt d t=((t.Kind==5&&t.Num==d)||Oh d t.Args):=by cases t; simp only [mnt]
theorem Ay0 (d:Int) (l:List Ai):Oh d l=l.any (mnt d):=by induction l with| nil=>rfl| cons x xs ih=>simp only [Oh,ih,List.any_cons]
theorem Ay1 (d:Int):∀(n:Nat) (t:Ai) (k:Nat),Bo t<=n->4*n+4<=k->n<1099511627776->Rx k t d=some (mnt d t):=by
 intro n;induction n with
 | zero=>intro t k h; have:=Nf t; omega
 | succ n ih=>intro t k h hk g;obtain ⟨k,rfl⟩:∃c,k=c+4:=⟨k-4,ω⟩;have f:=H3 t;have b:=Jx t.Args;have key:Vf (k+3) t.Args d=some (Oh d t.Args):=(by rw [Vf,Abt];rw [Ay0];refine Yn (Anl t.Args (mnt d) ω ?_ (λh=>by simp only [h]; rfl) (λ_=>rfl) rfl) (λi hi=>by rw [hi]);intro j x hx h1 h2 h3;have hm:=Ih hx;simp only [h1,h2,h3,cond_true,Ad,X6,ih x k ω ω ω]);rw [Rx,key,Ayz];cases t.Kind==5 <;> cases t.Num==d <;> simp
end Go.Ab
namespace Go.Ab
open Go
theorem Ay2 (data:List A3) (v:Int) (l:List Ai):Ev data v l=l.all (Fv data v):=by induction l with| nil=>rfl| cons x xs ih=>simp only [Ev,ih,List.all_cons]
theorem Ay3 (data:List A3) (d:Nat) (v k n:Int) (len:Nat):(K0 (data.take (d+1)) v k n len && !(k==5&&n==(d:Int)))=K0 (data.take d) v k n len:=by
 by_cases hk:k=5
 .subst hk;unfold K0;simp only [beq_self_eq_true,Bool.true_and,List.getElem?_take];by_cases b:n=d
  .subst b; simp
  .by_cases h0:0<=n
   .have e:(n==(d:Int))=false:=Ch b;rcases Nat.lt_or_ge n.toNat d with h | h
    .simp [h,e,show n.toNat<d+1 by omega]
    .simp [e,show ¬n.toNat<d by omega,show ¬n.toNat<d+1 by omega]
   .simp [h0]
 .have e:(k==(5:Int))=false:=Ch hk;simp only [e,Bool.false_and,Bool.not_false,Bool.and_true,K0,hk,if_false]
mutual
theorem Aoe (data:List A3) (d:Nat) (v:Int):∀t:Ai,(Fv (data.take (d+1)) v t && !mnt d t)=Fv (data.take d) v t
 | ⟨k,n,l⟩=>by
  have h1:=Aof data d v l
  have h2:=Ay3 data d v k n l.length
  simp only [Fv,mnt]
  rw [<-h1,<-h2]
  cases K0 (data.take (d+1)) v k n l.length <;> cases (k==5&&n==(d:Int)) <;> cases Ev (data.take (d+1)) v l <;> simp
theorem Aof (data:List A3) (d:Nat) (v:Int):∀l:List Ai,(Ev (data.take (d+1)) v l && !Oh d l)=Ev (data.take d) v l
 | []=>by simp [Ev,Oh]
 | x::xs=>by
  have h1:=Aoe data d v x
  have h2:=Aof data d v xs
  simp only [Ev,Oh]
  rw [<-h1,<-h2]
  cases Fv (data.take (d+1)) v x <;> cases mnt d x <;> cases Ev (data.take (d+1)) v xs <;> simp
end
theorem Aog:∀l:List Ai,(∀a∈l,a.Args.length=0)->Cu l=l.length
 | [],_=>rfl
 | x::xs,h=>by have h1:=h x ψ;simp only [Cu,List.length_cons];rw [Aog xs (λa ha=>h a (by simp [ha])),H3,List.length_eq_zero_iff.1 h1];simp only [Cu]; omega
theorem Aoh {data:List A3} {d:Nat} {x:A3} (hx:data[d]? = some x) (f:x.Vars<=6) {t:Ai} (h:Ii t d x.Vars=true):Fv (data.take (d+1)) x.Vars t=true/\Bo t<=200:=by
 unfold Ii at h;simp only [Dj,beq_iff_eq] at h;obtain ⟨⟨⟨h1,h2⟩,h3⟩,c⟩:=h;have ha:∀a∈t.Args,∃i:Nat,i<t.Args.length/\a.Kind=4/\a.Num=i/\a.Args.length=0:=by intro a ha;obtain ⟨i,hi⟩:=List.getElem?_of_mem ha;have:=Hm c hi;simp only [Og,Dj,beq_iff_eq] at this;exact ⟨i,Dx hi,this.1.1,this.1.2,this.2⟩
 refine ⟨?_,?_⟩
 .rw [Acr,Ay2,Dj];constructor
  .rw [h1,h2];unfold K0;simp [hx,h3]
  .rw [List.all_eq_true];intro a b;obtain ⟨i,i1,i2,i3,i4⟩:=ha a b;rw [Acr,i2,i3,i4,List.length_eq_zero_iff.1 i4];unfold K0;simp [Ev]; omega
 .rw [H3,Aog _ (λa h=>(ha a h).choose_spec.2.2.2)];omega
def Jy (data:List A3) (d:Nat) (v:Int) (t:Ai):Bool:=Ii t d v||(Fv (data.take d) v t&&decide (Bo t<=200))
theorem Ay4 {data:List A3} {d:Nat} {x:A3} (hx:data[d]? = some x) (b:x.Vars<=6) (t:Ai):((Fv (data.take (d+1)) x.Vars t&&decide (Bo t<=200))&&(Ii t d x.Vars || !mnt d t))=Jy data d x.Vars t:=by unfold Jy;cases h:Ii t d x.Vars with| true=>obtain ⟨h1,h2⟩:=Aoh hx b h;rw [h1,Aj h2]; rfl| false=>rw [<-Aoe data d x.Vars t];cases Fv (data.take (d+1)) x.Vars t <;> cases decide (Bo t<=200) <;> simp
def SzD (data:List A3):Prop:=∀x∈data,x.Cons.length<=1048576/\∀y∈x.Cons,Cu y.Args<=1048576
theorem SzD.short {data:List A3} (h:SzD data):Mn data:=λx hx y hy=>by have h1:=(h x hx).2 y hy;have h2:=Jx y.Args;refine ⟨ω,λa ha=>?_⟩;have h3:=Ih ha;have c:=H3 a;have b:=Jx a.Args;omega
theorem Ay5 {data:List A3} (g:SzD data) (d c:Nat) {x:A3} {y:Mg} (hx:data[d]? = some x) (hy:x.Cons[c]? = some y) (q:x.Vars<=6) (hd:data.length<=1048576) : Pp data d c=some (decide (y.Args.length<=6)&&y.Args.all (Jy data d x.Vars)):=by
 have b:=Dx hx;have l:=(g x (Cd hx)).2 y (Cd hy);unfold Pp;rw [Ce rfl hx,Ad,Ce rfl hy,Ad,Aod data d c g.short];by_cases k:y.Args.length<=6
 .rw [An (by omega:¬(y.Args.length:Int)>6),Aj k];simp only [cond_false,Bool.true_and,Ad];refine (P4 y.Args (Jy data d x.Vars) (λj=>(j:Int)) rfl ω (rt:=true) (rf:=false) ?_ ?_).trans (by rw [Ml])
  .intro j t ht h1 h2 h3;have s:=Ih (Cd ht);have u:Ae (G2 data d c) (j:Int)=some (Ii t d x.Vars):=(by unfold G2;simp only [Ce rfl hx,Ce rfl hy];rw [Ce rfl];simp [ht]);simp only [h1,h2,h3,cond_true,Ad,show Aa ((d:Int)+1)=((d+1:Nat):Int) from C6 b ω,Yl rfl (show d+1<=data.length from b),Ce rfl hx,
    Yu (data.take (d+1)) t x.Vars ω,u];rw [<-Ay4 hx q t];cases i:(Fv (data.take (d+1)) x.Vars t&&decide (Bo t<=200)) with
   | false=>exact ⟨(λh=>by cases h),λ_=>⟨.inl false,rfl,rfl⟩⟩
   | true=>
    have f:Bo t<=200:=(by simp only [Dj,decide_eq_true_eq] at i; exact i.2);simp only [Dk,cond_false,Bool.true_and];cases z:Ii t d x.Vars with
    | true=>exact ⟨λ_=>rfl,λh=>by cases h⟩
    | false=>simp only [Bool.not_false,cond_true,Ay1 d 200 t 4000000 f ω ω,Ad,Bool.false_or];cases mnt d t with| true=>exact ⟨(λh=>by cases h),λ_=>⟨.inl false,rfl,rfl⟩⟩| false=>exact ⟨λ_=>rfl,λh=>by cases h⟩
  .intro h;exact ⟨.inr (),by simp only [h]; rfl,rfl⟩
 .rw [Aj (by omega:(y.Args.length:Int)>6),An k]; rfl
end Go.Ab
namespace Go.Ab
open Go
def bI (s:ByteArray) (i:Nat):Int:=if h:i<s.size then (s[i].toNat:Int) else 0
def loI (c:Int):Bool:=decide (97<=c)&&decide (c<=122)
def upI (c:Int):Bool:=decide (65<=c)&&decide (c<=90)
def diI (c:Int):Bool:=decide (48<=c)&&decide (c<=57)
def wiI (c:Int):Bool:=loI c||upI c||diI c||c==95
def E7 (s:ByteArray):Prop:=1<=s.size/\s.size<=24/\upI (bI s 0)=true/\∀i,i<s.size->wiI (bI s i)=true
theorem H4 {s:ByteArray} {i:Int} {n:Nat} (hi:i=n) (h:n<s.size):∃c:UInt8,Fc s i=some c/\(c.toNat:Int)=bI s n:=by
 subst hi;refine ⟨s[n],?_,?_⟩
 .unfold Fc;rw [if_pos ω,show ((n:Int)).toNat=n from rfl];simp [h]
 .unfold bI; simp [h]
theorem Sv {s:ByteArray} {a b j:Nat} (hb:b<=s.size) (h:a+j<b):bI (s.extract a b) j=bI s (a+j):=by
 unfold bI;have h1:j<(s.extract a b).size:=by rw [ByteArray.size_extract]; omega
 rw [dif_pos h1,dif_pos ω,ByteArray.getElem_extract]
theorem Ng {s:ByteArray} {lo hi:Int} {a b:Nat} (h1:lo=a) (h2:hi=b) (h3:a<=b) (c:b<=s.size):Ec s lo hi=some (s.extract a b):=by subst h1; subst h2; unfold Ec; rw [if_pos ω]; rfl
theorem Aoi {a b:ByteArray} (h:a.toList=b.toList):a=b:=by rw [ByteArray.toList_eq,ByteArray.toList_eq] at h;have:a.data=b.data:=Array.toList_inj.1 h;cases a; cases b; simp at this; subst this; rfl
theorem Acu (a b:ByteArray):(a.toList==b.toList)=decide (a=b):=by
 by_cases h:a=b
 .subst h; simp
 .rw [An h];cases hb:(a.toList==b.toList) with| false=>rfl| true=>exact absurd (Aoi (by simpa using hb)) h
theorem Ahf (c:Int):Vc c=some (loI c):=by unfold Vc loI; by_cases h:(97:Int)<=c <;> simp [h]
theorem Ahg (c:Int):Sb c=some (upI c):=by unfold Sb upI; by_cases h:(65:Int)<=c <;> simp [h]
theorem Yv (c:Int):Pv c=some (diI c):=by unfold Pv diI; by_cases h:(48:Int)<=c <;> simp [h]
theorem Aoj (c:Int):Vd c=some (wiI c):=by unfold Vd wiI;rw [Ahf,Ahg,Yv];simp only [Ad];cases loI c <;> cases upI c <;> cases diI c <;> rfl
theorem Ay6 (c:Int):X1 c=some (loI c):=Ahf c
theorem Ay7 (c:Int):U4 c=some (upI c):=Ahg c
theorem Ay8 (c:Int):U5 c=some (diI c):=Yv c
theorem Vr {S E:Type} {step:S->Option (S⊕E)} (s:ByteArray) (p:Int->Bool) (b:Nat->S) (f:Nat->E) (lo:Nat) (h1:∀j,lo<=j->j<s.size->p (bI s j)=true->step (b j)=some (.inl (b (j+1)))) (h2:∀j,lo<=j->j<s.size->p (bI s j)=false->step (b j)=some (.inr (f j))) (h3:step (b s.size)=some (.inr (f s.size))) : ∀(m i:Nat),lo<=i->i+m=s.size->∃n,i<=n/\n<=s.size/\(∀j,i<=j->j<n->p (bI s j)=true)/\(n<s.size->p (bI s n)=false)/\Al step (b i)=some (f n):=by
 intro m;induction m with
 | zero=>intro i _ hi;have:i=s.size:=ω;subst this;exact ⟨s.size,ω,ω,λj _ _=>ω,λh=>ω,Cz h3⟩
 | succ m ih=>
  intro i c hi;cases hp:p (bI s i) with
  | true=>
   obtain ⟨n,a1,a2,a3,a4,a5⟩:=ih (i+1) ω ω;refine ⟨n,ω,a2,λj b1 b2=>?_,a4,by rw [Ft (h1 i c ω hp)]; exact a5⟩;rcases Nat.lt_or_ge i j with h | h
   .exact a3 j h b2
   .have:j=i:=ω;subst this; exact hp
  | false=>exact ⟨i,ω,ω,λj _ _=>ω,λ_=>hp,Cz (h2 i c ω hp)⟩
theorem Ay9 (s:ByteArray) (k:s.size<1099511627776):∃n,n<=s.size/\(∀j,j<n->wiI (bI s j)=true)/\(n<s.size->wiI (bI s n)=false)/\Yb s=some (s.extract 0 n):=by
 have H:=Vr (step:=λv3:Int=>bif v3<(s.size:Int) then ((Fc s v3).bind λh=>(Vd (h.toNat:Int)).bind λv5=>bif v5 then some (.inl (Aa (v3+1))) else some (.inr v3)) else some (.inr v3))
  s wiI (λj=>(j:Int)) (λj=>(j:Int)) 0 (λj _ hj hp=>by
   obtain ⟨c,g,f⟩:=H4 (s:=s) (i:=(j:Int)) rfl hj
   simp only [Aj (by omega:(j:Int)<(s.size:Int)),cond_true,g,Ad,f,Aoj,hp,C6 hj ω]) (λj _ hj hp=>by
   obtain ⟨c,g,f⟩:=H4 (s:=s) (i:=(j:Int)) rfl hj
   simp only [Aj (by omega:(j:Int)<(s.size:Int)),cond_true,g,Ad,f,Aoj,hp,cond_false]) ψ s.size 0 ω ω
 obtain ⟨n,_,a2,a3,a4,a5⟩:=H
 refine ⟨n,a2,λj hj=>a3 j ω hj,a4,?_⟩
 unfold Yb
 have a5:Al _ (0:Int)=some (n:Int):=a5
 rw [a5,Ad,Ng (lo:=0) (a:=0) (b:=n) rfl rfl ω a2]; rfl
theorem Aza (s:ByteArray) (k:s.size<1099511627776):∃n,n<=s.size/\(∀j,j<n->diI (bI s j)=true)/\(n<s.size->diI (bI s n)=false)/\Abs s=some (s.extract 0 n):=by
 have H:=Vr (step:=λv3:Int=>bif v3<(s.size:Int) then ((Fc s v3).bind λh=>(Pv (h.toNat:Int)).bind λv5=>bif v5 then some (.inl (Aa (v3+1))) else some (.inr v3)) else some (.inr v3))
  s diI (λj=>(j:Int)) (λj=>(j:Int)) 0 (λj _ hj hp=>by
   obtain ⟨c,g,f⟩:=H4 (s:=s) (i:=(j:Int)) rfl hj
   simp only [Aj (by omega:(j:Int)<(s.size:Int)),cond_true,g,Ad,f,Yv,hp,C6 hj ω]) (λj _ hj hp=>by
   obtain ⟨c,g,f⟩:=H4 (s:=s) (i:=(j:Int)) rfl hj
   simp only [Aj (by omega:(j:Int)<(s.size:Int)),cond_true,g,Ad,f,Yv,hp,cond_false]) ψ s.size 0 ω ω
 obtain ⟨n,_,a2,a3,a4,a5⟩:=H
 refine ⟨n,a2,λj hj=>a3 j ω hj,a4,?_⟩
 unfold Abs
 have a5:Al _ (0:Int)=some (n:Int):=a5
 rw [a5,Ad,Ng (lo:=0) (a:=0) (b:=n) rfl rfl ω a2]; rfl
theorem Sw {R:Type} {c:Bool} {X Y:Option R} {Q:R->Prop} (h1:∃r,X=some r/\Q r) (h2:∃r,Y=some r/\Q r):∃r,(bif c then X else Y)=some r/\Q r:=by cases c <;> assumption
theorem Yw {A R:Type} {X:Option A} {f:A->Option R} {Q:R->Prop} (P:A->Prop) (h1:∃a,X=some a/\P a) (h2:∀a,P a->∃r,f a=some r/\Q r):∃r,X.bind f=some r/\Q r:=by obtain ⟨a,e,h⟩:=h1;rw [e]; exact h2 a h
theorem Azb (s:ByteArray):∃b,Yc s=some b/\True:=by unfold Yc;repeat' first | refine Sw ?_ ?_ | exact ⟨_,rfl,trivial⟩
theorem Azc (s:ByteArray) (h1:1<=s.size):∃r,Ye s=some r/\(r.size<=s.size):=by
 have g:Ec s 0 1=some (s.extract 0 1):=Ng rfl rfl ω h1;have c:(s.extract 0 1).size<=s.size:=by rw [ByteArray.size_extract]; omega
 unfold Ye;refine Yw (λz=>∀r,z = .inl r->r.size<=s.size) ?_ ?_
 .by_cases h2:2<=s.size
  .have f:Ec s 0 2=some (s.extract 0 2):=Ng rfl rfl ω h2;have b:∀r,(Sum.inl (s.extract 0 2):ByteArray⊕Unit) = .inl r->r.size<=s.size:=(by rintro r ⟨⟩; rw [ByteArray.size_extract]; omega);simp only [f,Ad];repeat' first | refine Sw ?_ ?_ | with_reducible exact ⟨_,rfl,b⟩ | exact ⟨_,rfl,λr h=>by cases h⟩
  .rw [An ω];exact ⟨_,rfl,λr h=>by cases h⟩
 .rintro (r | u) i
  .exact ⟨_,rfl,i r rfl⟩
  .simp only [g,Ad];have h0:(ByteArray.mk #[]).size<=s.size:=Nat.zero_le _;repeat' first | refine Sw ?_ ?_ | with_reducible exact ⟨_,rfl,c⟩ | with_reducible exact ⟨_,rfl,h0⟩
theorem Azd (s:ByteArray) (g:s.size<1099511627776):∃b,Yd s=some b/\True:=by
 unfold Yd;refine Fe (λ(_,i)=>∃j:Nat,i=j/\j<=s.size) (λ(_,i)=>s.size-i.toNat) (λ_=>True) ⟨0,rfl,ω⟩ ?_ ?_
 .rintro ⟨v,i⟩ ⟨j,rfl,hj⟩;rcases Nat.lt_or_ge j s.size with h | h
  .obtain ⟨c,f,_⟩:=H4 (s:=s) (i:=(j:Int)) rfl h;simp only [Aj (by omega:(j:Int)<(s.size:Int)),cond_true,f,Ad,C6 h ω];cases decide (Aa (Aa (v*10)+Aa (wu8 ((c.toNat:Int)-48)))>1000000) with| true=>exact .inr ⟨_,rfl,trivial⟩| false=>exact .inl ⟨_,rfl,⟨j+1,rfl,ω⟩,by simp; omega⟩
  .have:j=s.size:=ω;subst this;exact .inr ⟨.inr (),ψ,trivial⟩
 .rintro (r | u) _ <;> exact ⟨_,rfl,trivial⟩
theorem Aze (s:ByteArray) (i:Nat) (hi:i<s.size) (R:s.size<1099511627776) : ∃r,X5 s i=some r/\(r.2=0->1<=r.1.Text.size/\i+r.1.Text.size<=s.size/\(r.1.Kind=2->E7 r.1.Text))/\(E7 s->i=0->r=(⟨2,s,0⟩,0)):=by
 obtain ⟨c,M,L⟩:=H4 (s:=s) (i:=(i:Int)) rfl hi;have u:Ec s (i:Int) (s.size:Int)=some (s.extract i s.size):=Ng rfl rfl ω ω;have I:(s.extract i s.size).size=s.size-i:=by rw [ByteArray.size_extract]; omega
 have x:bI (s.extract i s.size) 0=bI s i:=Sv ω ω;unfold X5;simp only [M,Ad,L,Ahf,Ahg,Yv,u];have hw:(bif loI (bI s i) then some true else some (upI (bI s i)))=some (loI (bI s i)||upI (bI s i)):=by cases loI (bI s i) <;> rfl
 rw [hw];simp only [Ad];cases l:(loI (bI s i)||upI (bI s i)) with
 | true=>
  obtain ⟨n,G,D,y,n4⟩:=Ay9 (s.extract i s.size) ω;have A:1<=n:=by
   rcases Nat.eq_zero_or_pos n with h | h
   .subst h;have:=y ω;rw [x] at this;unfold wiI at this;rw [l] at this; cases this
   .exact h
  have hx:(s.extract i s.size).extract 0 n=s.extract i (i+n):=(by rw [ByteArray.extract_extract]; congr 1; omega);have q:(s.extract i (i+n)).size=n:=(by rw [ByteArray.size_extract]; omega);rw [hx] at n4;simp only [cond_true,n4,Ad,q];have g:E7 s->i=0->n=s.size:=by
   intro hu h0;rcases Nat.lt_or_ge n s.size with h | h
   .have:=y ω;rw [Sv ω ω,hu.2.2.2 _ ω] at this; cases this
   .omega
  by_cases J:n<=24
  .rw [An ω];cases k:upI (bI s i) with
   | true=>
    refine ⟨_,rfl,λ_=>⟨?_,?_,λ_=>⟨?_,?_,?_,?_⟩⟩,?_⟩
    .show 1<=(s.extract i (i+n)).size; omega
    .show i+(s.extract i (i+n)).size<=s.size; omega
    .show 1<=(s.extract i (i+n)).size; omega
    .show (s.extract i (i+n)).size<=24; omega
    .show upI (bI (s.extract i (i+n)) 0)=true;rw [Sv ω ω]; exact k
    .show ∀j,j<(s.extract i (i+n)).size->wiI (bI (s.extract i (i+n)) j)=true;intro j hj;rw [Sv ω ω];have:=D j ω;rw [Sv ω ω] at this; exact this
    .intro hu h0;have:=g hu h0;subst h0; subst this;rw [Nat.zero_add,ByteArray.extract_zero_size]; rfl
   | false=>obtain ⟨b,hb,_⟩:=Azb (s.extract i (i+n));simp only [cond_false,hb,Ad];have f:E7 s->i=0->False:=(by intro hu h0;subst h0;rw [hu.2.2.1] at k; cases k);cases b with| true=>exact ⟨_,rfl,λ_=>⟨by show 1<=(s.extract i (i+n)).size; omega,by show i+(s.extract i (i+n)).size<=s.size; omega,λh=>by cases h⟩,λhu h0=>(f hu h0).elim⟩| false=>exact ⟨_,rfl,λ_=>⟨by show 1<=(s.extract i (i+n)).size; omega,by show i+(s.extract i (i+n)).size<=s.size; omega,λh=>by cases h⟩,λhu h0=>(f hu h0).elim⟩
  .rw [Aj ω];refine ⟨_,rfl,(λh=>by cases h),λhu h0=>?_⟩;have:=g hu h0;have:=hu.2.1;omega
 | false=>
  have f:E7 s->i=0->False:=(by intro hu h0;subst h0;rw [hu.2.2.1,Bool.or_true] at l; cases l);simp only [cond_false];cases hd:diI (bI s i) with
  | true=>
   obtain ⟨n,G,D,y,n4⟩:=Aza (s.extract i s.size) ω;have A:1<=n:=by
    rcases Nat.eq_zero_or_pos n with h | h
    .subst h;have:=y ω;rw [x,hd] at this; cases this
    .exact h
   have hx:(s.extract i s.size).extract 0 n=s.extract i (i+n):=(by rw [ByteArray.extract_extract]; congr 1; omega);have q:(s.extract i (i+n)).size=n:=(by rw [ByteArray.size_extract]; omega);rw [hx] at n4;obtain ⟨b,hb,_⟩:=Azd (s.extract i (i+n)) ω;simp only [cond_true,n4,Ad,hb];refine Yw (λ_=>True) ?_ ?_
   .exact Sw ⟨_,rfl,trivial⟩ ⟨_,rfl,trivial⟩
   .intro v _;refine Sw ⟨_,rfl,(λh=>by cases h),λhu h0=>(f hu h0).elim⟩ (Sw ⟨_,rfl,(λh=>by cases h),λhu h0=>(f hu h0).elim⟩ ⟨_,rfl,λ_=>⟨?_,?_,λh=>by cases h⟩,λhu h0=>(f hu h0).elim⟩)
    .show 1<=(s.extract i (i+n)).size; omega
    .show i+(s.extract i (i+n)).size<=s.size; omega
  | false=>
   obtain ⟨r,E,N⟩:=Azc (s.extract i s.size) ω;simp only [cond_false,E,Ad];rw [Acu];by_cases z:r=ByteArray.mk #[]
   .rw [Aj z];exact ⟨_,rfl,(λh=>by cases h),λhu h0=>(f hu h0).elim⟩
   .rw [An z];refine ⟨_,rfl,λ_=>⟨?_,?_,λh=>by cases h⟩,λhu h0=>(f hu h0).elim⟩
    .show 1<=r.size;rcases Nat.eq_zero_or_pos r.size with h | h
     .have B:r.data.toList.length=0:=(by simpa using h);exact absurd (Aoi (by rw [ByteArray.toList_eq,List.length_eq_zero_iff.1 B,ByteArray.toList_eq])) z
     .exact h
    .show i+r.size<=s.size; omega
theorem Azf (c:Int):X4 c=some (c==9||c==10||c==13||c==32):=by unfold X4;cases c==9 <;> cases c==10 <;> cases c==13 <;> rfl
theorem Aok (s:ByteArray) (U:s.size<1099511627776):∃b,Rv s=some b/\(b=true↔E7 s):=by
 unfold Rv Abg
 by_cases q:(s.size:Int)>16384
 .rw [Aj q]
  refine ⟨false,rfl,by simp; rintro ⟨_,h,_⟩; omega⟩
 rw [An q]
 simp only [cond_false]
 refine Yw (λr:List Iz×Int×Int=>(r.2.2≠0/\¬E7 s)\/(r.2.2=0/\∃o e,r.1=o++[e]/\(∀t∈o,t.Kind=2->E7 t.Text)/\(E7 s->o = [⟨2,s,0⟩]))) ?_ ?_
 .refine Fe (λ(v26,f)=>∃i:Nat,v26=i/\i<=s.size/\f.length<=i/\(∀t∈f,t.Kind=2->E7 t.Text)/\(E7 s->(i=0/\f = [])\/(i=s.size/\f = [⟨2,s,0⟩])))
   (λ(v26,_)=>s.size-v26.toNat)
   (λz=>match z with | .inl o=>o.length<=16384/\(∀t∈o,t.Kind=2->E7 t.Text)/\(E7 s->o = [⟨2,s,0⟩]) | .inr (_,_,e)=>e≠0/\¬E7 s)
   ⟨0,rfl,ω,ψ,ψ,λ_=>.inl ⟨rfl,rfl⟩⟩ ?_ ?_
  .rintro ⟨v,o⟩ ⟨i,rfl,hi,ho,hk,hu⟩
   rcases Nat.lt_or_ge i s.size with h | h
   .obtain ⟨c,G,E⟩:=H4 (s:=s) (i:=(i:Int)) rfl h
    have g:E7 s->i=0/\o = []:=λu=>by
     rcases hu u with h' | h'
     .exact h'
     .omega
    simp only [Aj (by omega:(i:Int)<(s.size:Int)),cond_true,G,Ad,E,Azf]
    cases J:(bI s i==9||bI s i==10||bI s i==13||bI s i==32) with
    | true=>
     have k:¬E7 s:=by
      intro u
      have h0:=(g u).1
      subst h0
      have:=u.2.2.1
      simp only [upI,Dj,decide_eq_true_eq] at this
      simp only [Bool.or_eq_true,beq_iff_eq] at J
      omega
     exact .inl ⟨(((i+1:Nat):Int),o),by simp only [cond_true]; rw [C6 h ω],⟨i+1,rfl,ω,(by show o.length<=i+1; omega),hk,λu=>(k u).elim⟩,by simp; omega⟩
    | false=>
     simp only [cond_false]
     cases B:(bI s i==35) with
     | true=>
      have k:¬E7 s:=by
       intro u
       have h0:=(g u).1
       subst h0
       have:=u.2.2.1
       simp only [upI,Dj,decide_eq_true_eq] at this
       simp only [beq_iff_eq] at B
       omega
      simp only [cond_true]
      obtain ⟨n,n1,n2,n3,n4,I⟩:=Vr (step:=λv32:Int=>bif v32<(s.size:Int) then ((Fc s v32).bind λL=>bif ((L.toNat:Int)==(10:Int)) then some (.inr (.inl v32)) else some (.inl (Aa (v32+1)))) else some (.inr (.inr v32)))
       s (λc=>!(c==10)) (λj=>(j:Int)) (λj=>if j<s.size then Sum.inl (j:Int) else Sum.inr (j:Int)) 0 (λj _ hj hp=>by
        obtain ⟨c,G,E⟩:=H4 (s:=s) (i:=(j:Int)) rfl hj
        simp only [Bool.not_eq_true'] at hp
        simp only [Aj (by omega:(j:Int)<(s.size:Int)),cond_true,G,Ad,E,hp,C6 hj ω,cond_false]) (λj _ hj hp=>by
        obtain ⟨c,G,E⟩:=H4 (s:=s) (i:=(j:Int)) rfl hj
        simp only [Bool.not_eq_false'] at hp
        simp only [Aj (by omega:(j:Int)<(s.size:Int)),cond_true,G,Ad,E,hp,if_pos hj]) ψ (s.size-i) i ω ω
      have V:i<n:=by
       rcases Nat.lt_or_ge i n with h' | h'
       .exact h'
       .have:n=i:=ω
        subst this
        have:=n4 h
        simp only [beq_iff_eq] at B
        rw [B] at this; cases this
      have I:Al _ (i:Int)=_:=I
      rw [I,Ad]
      rcases Nat.lt_or_ge n s.size with h' | h'
      .rw [if_pos h']
       exact .inl ⟨((n:Int),o),rfl,⟨n,rfl,ω,(by show o.length<=n; omega),hk,λu=>(k u).elim⟩,by simp; omega⟩
      .rw [if_neg ω]
       exact .inr ⟨.inl o,rfl,ω,hk,λu=>(k u).elim⟩
     | false=>
      obtain ⟨r,S,R,M⟩:=Aze s i h U
      simp only [cond_false,S,Ad]
      by_cases D:r.2=0
      .obtain ⟨a1,a2,a3⟩:=R D
       simp only [De D,cond_false]
       rw [C3 (by simp; omega),Ad]
       refine .inl ⟨(((i+r.1.Text.size:Nat):Int),o++[r.1]),?_,⟨i+r.1.Text.size,rfl,a2,by simp; omega,?_,?_⟩,by simp; omega⟩
       .rw [show Aa ((i:Int)+(r.1.Text.size:Int))=((i+r.1.Text.size:Nat):Int) by rw [Aa,Bm] <;> omega]
       .intro t ht
        rcases List.mem_append.1 ht with h' | h'
        .exact hk t h'
        .simp at h'; subst h'; exact a3
       .intro u
        obtain ⟨b1,b2⟩:=g u
        have:=M u b1
        subst b1; subst b2; subst this
        exact .inr ⟨ψ,rfl⟩
      .simp only [Dh D,cond_true]
       refine .inr ⟨_,rfl,D,λu=>?_⟩
       rw [M u (g u).1] at D
       exact D rfl
   .have:i=s.size:=ω
    subst this
    refine .inr ⟨.inl o,ψ,ω,hk,λu=>?_⟩
    rcases hu u with ⟨h',_⟩ | ⟨_,h'⟩
    .have:=u.1; omega
    .exact h'
  .rintro (o | ⟨l,p,e⟩) N
   .obtain ⟨Z,z2,z3⟩:=N
    simp only
    rw [C3 (by simp; omega),Ad]
    exact ⟨_,rfl,.inr ⟨rfl,o,_,rfl,z2,z3⟩⟩
   .exact ⟨_,rfl,.inl N⟩
 .rintro ⟨l,p,e⟩ (⟨h1,h2⟩ | ⟨h1,o,t,h2,h3,A⟩)
  .simp only at h1
   simp only [Ch h1,cond_false]
   exact ⟨_,rfl,by simp [h2]⟩
  .simp only at h1 h2
   subst h1; subst h2
   simp only [beq_self_eq_true,cond_true]
   match o,h3,A with
   | [],_,A=>exact ⟨false,ψ,by simp; intro u; cases A u⟩
   | [x],h3,A=>
    have Y:Ae ([x]++[t]) 0=some x:=rfl
    simp only [Y,Ad,Acu]
    have X:((([x]++[t]).length:Int)==2)=true:=rfl
    simp only [X,cond_true]
    by_cases hx:x.Kind=2
    .simp only [Dw hx,cond_true]
     refine ⟨_,rfl,?_⟩
     rw [decide_eq_true_iff]
     constructor
     .intro h; rw [<-h]; exact h3 x ψ hx
     .intro u; have:=A u; simp at this; rw [this]
    .simp only [Ch hx,cond_false]
     refine ⟨_,rfl,?_⟩
     simp only [Bool.false_eq_true,false_iff]
     intro u; have:=A u; simp at this; rw [this] at hx; exact hx rfl
   | x::y::ys,_,A=>
    refine ⟨false,?_,by simp; intro u; have:=A u; simp at this⟩
    rw [Ch]
    .rfl
    .simp; omega
end Go.Ab
namespace Go.Ab
open Go
theorem Azg (s:ByteArray):∃b,Abm s=some b/\True:=by
 have key:∀(L:List ByteArray),L.length<1000->∃b,((Al (S:=Int) (E:=(Bool⊕Unit)) (λv2=>bif v2<(L.length:Int) then ((Ae L v2).bind λv3=>bif (v3.toList==s.toList) then some (.inr (.inl true)) else some (.inl (Aa (v2+1)))) else some (.inr (.inr ()))) 0).bind λz=>match z with | .inl c=>some c | .inr _=>some false)=some b/\True:=by
  intro L f;refine ⟨_,P4 L (λv=>!(v.toList==s.toList)) (λj=>(j:Int)) rfl ω (rt:=false) (rf:=true) ?_ ?_,trivial⟩
  .intro j x hx h1 h2 h3;simp only [h1,h2,h3,cond_true,Ad];cases (x.toList==s.toList) with| true=>exact ⟨(λh=>by cases h),λ_=>⟨_,rfl,rfl⟩⟩| false=>exact ⟨λ_=>rfl,λh=>by cases h⟩
  .intro h; exact ⟨.inr (),by simp only [h]; rfl,rfl⟩
 exact key _ δ
theorem Azh (s:ByteArray) (h1:1<=s.size) (T:ByteArray) (x:T.size<1000):∃r,((Al (S:=Int) (E:=(Int⊕Unit)) (λb=>bif b<(T.size:Int) then ((Fc s 0).bind λl=>(Fc T b).bind λk=>bif ((l.toNat:Int)==(k.toNat:Int)) then some (.inr (.inl 1)) else some (.inl (Aa (b+1)))) else some (.inr (.inr ()))) 0).bind λz=>match z with | .inl f=>some f | .inr _=>some 0)=some r/\(r=0\/(1<=r/\r<=s.size)):=by
 refine Fe (λi=>∃j:Nat,i=j/\j<=T.size) (λi=>T.size-i.toNat) (λz=>∀r,z = .inl r->r=1) ⟨0,rfl,ω⟩ ?_ ?_
 .rintro i ⟨j,rfl,hj⟩;rcases Nat.lt_or_ge j T.size with h | h
  .obtain ⟨c,q,_⟩:=H4 (s:=T) (i:=(j:Int)) rfl h;obtain ⟨d,d1,_⟩:=H4 (s:=s) (i:=0) (n:=0) rfl h1;simp only [Aj (by omega:(j:Int)<(T.size:Int)),cond_true,q,d1,Ad,C6 h ω];cases ((d.toNat:Int)==(c.toNat:Int)) with| true=>exact .inr ⟨_,rfl,λr h=>by cases h; rfl⟩| false=>exact .inl ⟨_,rfl,⟨j+1,rfl,ω⟩,by simp; omega⟩
  .have:j=T.size:=ω;subst this;exact .inr ⟨.inr (),ψ,λr h=>by cases h⟩
 .rintro (r | u) g
  .exact ⟨r,rfl,.inr (by have:=g r rfl; omega)⟩
  .exact ⟨0,rfl,.inl rfl⟩
theorem Azi (s:ByteArray) (h1:1<=s.size):∃r,X3 s=some r/\(r=0\/(1<=r/\r<=s.size)):=by
 unfold X3;refine Yw (λb=>b=true->2<=s.size) ?_ ?_
 .by_cases h2:2<=s.size
  .have c:Ec s 0 2=some (s.extract 0 2):=Ng rfl rfl ω h2;simp only [c,Ad];repeat' first | refine Sw ?_ ?_ | exact ⟨_,rfl,λ_=>h2⟩
  .rw [An ω];exact ⟨_,rfl,λh=>by cases h⟩
 .rintro b hb;cases b with| true=>exact ⟨2,rfl,.inr ⟨ω,by have:=hb rfl; omega⟩⟩| false=>exact Azh s h1 _ δ
theorem Azj (s:ByteArray) (k:s.size<1099511627776):∃b,X2 s=some b/\True:=by
 unfold X2;refine Fe (λ(_,i)=>∃j:Nat,i=j/\j<=s.size) (λ(_,i)=>s.size-i.toNat) (λ_=>True) ⟨0,rfl,ω⟩ ?_ ?_
 .rintro ⟨v,i⟩ ⟨j,rfl,hj⟩;rcases Nat.lt_or_ge j s.size with h | h
  .obtain ⟨c,f,_⟩:=H4 (s:=s) (i:=(j:Int)) rfl h;simp only [Aj (by omega:(j:Int)<(s.size:Int)),cond_true,f,Ad,C6 h ω];cases decide (Aa (Aa (v*10)+Aa (wu8 ((c.toNat:Int)-48)))>1000000) with| true=>exact .inr ⟨_,rfl,trivial⟩| false=>exact .inl ⟨_,rfl,⟨j+1,rfl,ω⟩,by simp; omega⟩
  .have:j=s.size:=ω;subst this;exact .inr ⟨.inr v,ψ,trivial⟩
 .rintro (⟨r,g⟩ | u) _ <;> exact ⟨_,rfl,trivial⟩
theorem Aol (s:ByteArray) (hs:s.size<1099511627776):∃b,Rr s=some b/\(b=true↔E7 s):=by
 unfold Rr Abd
 by_cases L:(s.size:Int)>16384
 .rw [Aj L]
  refine ⟨false,rfl,by simp; rintro ⟨_,h,_⟩; omega⟩
 rw [An L]
 simp only [cond_false]
 refine Yw (λr:List Jt×Int×Int=>(r.2.2≠0/\¬E7 s)\/(r.2.2=0/\∃o e,r.1=o++[e]/\(∀t∈o,t.Kind=2->E7 t.Text)/\(E7 s->o = [⟨2,s,0⟩]))) ?_ ?_
 .refine Fe (λ(v26,J)=>∃i:Nat,v26=i/\i<=s.size/\J.length<=i/\(∀t∈J,t.Kind=2->E7 t.Text)/\(E7 s->(i=0/\J = [])\/(i=s.size/\J = [⟨2,s,0⟩])))
   (λ(v26,_)=>s.size-v26.toNat)
   (λz=>match z with | .inr o=>o.length<=16384/\(∀t∈o,t.Kind=2->E7 t.Text)/\(E7 s->o = [⟨2,s,0⟩]) | .inl (_,_,e)=>e≠0/\¬E7 s)
   ⟨0,rfl,ω,ψ,ψ,λ_=>.inl ⟨rfl,rfl⟩⟩ ?_ ?_
  .rintro ⟨v,o⟩ ⟨i,rfl,hi,ho,hk,hu⟩
   rcases Nat.lt_or_ge i s.size with h | h
   .obtain ⟨c,D,B⟩:=H4 (s:=s) (i:=(i:Int)) rfl h
    have A:E7 s->i=0/\o = []:=λu=>by
     rcases hu u with h' | h'
     .exact h'
     .omega
    have f:∀j:Nat,i<=j->j<=s.size->Aa ((i:Int)+((j:Int)-(i:Int)))=(j:Int):=λj _ _=>by rw [Aa,Bm] <;> omega
    have X:(bif bI s i==9 then some true else bif bI s i==10 then some true else bif bI s i==13 then some true else some (bI s i==32))=some (bI s i==9||bI s i==10||bI s i==13||bI s i==32):=by
     cases bI s i==9 <;> cases bI s i==10 <;> cases bI s i==13 <;> rfl
    have hw:(bif loI (bI s i) then some true else some (upI (bI s i)))=some (loI (bI s i)||upI (bI s i)):=by cases loI (bI s i) <;> rfl
    simp only [Aj (by omega:(i:Int)<(s.size:Int)),cond_true,D,Ad,B,X,Ay6,Ay7,Ay8,hw]
    cases X:(bI s i==9||bI s i==10||bI s i==13||bI s i==32) with
    | true=>
     have g:¬E7 s:=by
      intro u
      have h0:=(A u).1
      subst h0
      have:=u.2.2.1
      simp only [upI,Dj,decide_eq_true_eq] at this
      simp only [Bool.or_eq_true,beq_iff_eq] at X
      omega
     exact .inl ⟨(((i+1:Nat):Int),o),by simp only [cond_true]; rw [C6 h ω],⟨i+1,rfl,ω,(by show o.length<=i+1; omega),hk,λu=>(g u).elim⟩,by simp; omega⟩
    | false=>
     simp only [cond_false]
     cases U:(bI s i==35) with
     | true=>
      have g:¬E7 s:=by
       intro u
       have h0:=(A u).1
       subst h0
       have:=u.2.2.1
       simp only [upI,Dj,decide_eq_true_eq] at this
       simp only [beq_iff_eq] at U
       omega
      simp only [cond_true]
      obtain ⟨n,n1,G,n3,n4,E⟩:=Vr (step:=λv54:Int=>bif v54<(s.size:Int) then ((Fc s v54).bind λai=>bif ((ai.toNat:Int) != (10:Int)) then some (.inl (Aa (v54+1))) else some (.inr v54)) else some (.inr v54))
       s (λc=>c != 10) (λj=>(j:Int)) (λj=>(j:Int)) 0 (λj _ hj hp=>by
        obtain ⟨c,D,B⟩:=H4 (s:=s) (i:=(j:Int)) rfl hj
        simp only [Aj (by omega:(j:Int)<(s.size:Int)),cond_true,D,Ad,B,hp,C6 hj ω]) (λj _ hj hp=>by
        obtain ⟨c,D,B⟩:=H4 (s:=s) (i:=(j:Int)) rfl hj
        simp only [Aj (by omega:(j:Int)<(s.size:Int)),cond_true,D,Ad,B,hp,cond_false]) ψ (s.size-i) i ω ω
      have aj:i<n:=by
       rcases Nat.lt_or_ge i n with h' | h'
       .exact h'
       .have:n=i:=ω
        subst this
        have:=n4 h
        simp only [beq_iff_eq] at U
        rw [U] at this; cases this
      have E:Al _ (i:Int)=_:=E
      rw [E,Ad]
      exact .inl ⟨((n:Int),o),rfl,⟨n,rfl,ω,(by show o.length<=n; omega),hk,λu=>(g u).elim⟩,by simp; omega⟩
     | false=>
      simp only [cond_false]
      cases V:(loI (bI s i)||upI (bI s i)) with
      | true=>
       simp only [cond_true]
       obtain ⟨n,n1,G,n3,n4,E⟩:=Vr (step:=λv67:Int=>bif (Aa ((i:Int)+v67))<(s.size:Int) then ((Fc s (Aa ((i:Int)+v67))).bind λah=>(some (loI (ah.toNat:Int))).bind λaa=>
         bif aa then some (.inl (Aa (v67+1))) else ((Fc s (Aa ((i:Int)+v67))).bind λag=>(some (upI (ag.toNat:Int))).bind λa8=>bif a8 then some (.inl (Aa (v67+1))) else
         ((Fc s (Aa ((i:Int)+v67))).bind λaf=>(some (diI (af.toNat:Int))).bind λa7=>bif a7 then some (.inl (Aa (v67+1))) else ((Fc s (Aa ((i:Int)+v67))).bind λae=>bif ((ae.toNat:Int)==(95:Int)) then some (.inl (Aa (v67+1))) else some (.inr v67))))) else some (.inr v67))
        s wiI (λj=>(j:Int)-(i:Int)) (λj=>(j:Int)-(i:Int)) i (λj q hj hp=>by
         obtain ⟨c,D,B⟩:=H4 (s:=s) (i:=(j:Int)) rfl hj
         have Y:Aa ((j:Int)-(i:Int)+1)=((j+1:Nat):Int)-(i:Int):=by rw [Aa,Bm] <;> omega
         simp only [f j q ω,Aj (by omega:(j:Int)<(s.size:Int)),cond_true,D,Ad,B,Y]
         unfold wiI at hp
         revert hp
         cases loI (bI s j) <;> cases upI (bI s j) <;> cases diI (bI s j) <;> cases (bI s j==95) <;> simp) (λj q hj hp=>by
         obtain ⟨c,D,B⟩:=H4 (s:=s) (i:=(j:Int)) rfl hj
         simp only [f j q ω,Aj (by omega:(j:Int)<(s.size:Int)),cond_true,D,Ad,B]
         unfold wiI at hp
         revert hp
         cases loI (bI s j) <;> cases upI (bI s j) <;> cases diI (bI s j) <;> cases (bI s j==95) <;> simp) (by
         simp only [f s.size hi ω]; simp) (s.size-(i+1)) (i+1) ω ω
       have e0:((i+1:Nat):Int)-(i:Int)=1:=ω
       simp only [e0] at E
       simp only [Ad] at E
       rw [E,Ad]
       have k:Ec s (i:Int) (Aa ((i:Int)+((n:Int)-(i:Int))))=some (s.extract i n):=by rw [f n ω G]; exact Ng rfl rfl ω G
       have Z:(s.extract i n).size=n-i:=by rw [ByteArray.size_extract]; omega
       have a6:∀j,i<=j->j<n->wiI (bI s j)=true:=λj a1 a2=>by
        rcases Nat.lt_or_ge i j with h' | h'
        .exact n3 j h' a2
        .have:j=i:=ω
         subst this; unfold wiI; rw [V]; rfl
       have I:E7 s->n=s.size:=by
        intro u
        rcases Nat.lt_or_ge n s.size with h' | h'
        .have:=n4 h'
         rw [u.2.2.2 _ h'] at this; cases this
        .omega
       by_cases ak:n-i<=24
       .rw [An ω]
        simp only [cond_false]
        cases S:upI (bI s i) with
        | true=>
         simp only [cond_true,Ad,k]
         rw [C3 (by simp; omega),Ad,f n ω G]
         refine .inl ⟨_,rfl,⟨n,rfl,G,by simp; omega,?_,?_⟩,by simp; omega⟩
         .intro t ht
          rcases List.mem_append.1 ht with h' | h'
          .exact hk t h'
          .simp only [List.mem_singleton] at h'
           subst h'
           intro _
           refine ⟨?_,?_,?_,?_⟩
           .show 1<=(s.extract i n).size; omega
           .show (s.extract i n).size<=24; omega
           .show upI (bI (s.extract i n) 0)=true
            rw [Sv ω ω]; exact S
           .show ∀j,j<(s.extract i n).size->wiI (bI (s.extract i n) j)=true
            intro j hj
            rw [Sv ω ω]
            exact a6 _ ω ω
         .intro u
          obtain ⟨b1,b2⟩:=A u
          have hf:=I u
          subst b1; subst b2; subst hf
          rw [ByteArray.extract_zero_size]
          exact .inr ⟨rfl,rfl⟩
        | false=>
         obtain ⟨b,hb,_⟩:=Azg (s.extract i n)
         have g:¬E7 s:=by
          intro u
          have h0:=(A u).1
          subst h0
          rw [u.2.2.1] at S; cases S
         have ac:∃R:Int,(bif b then some 4 else some 1:Option Int)=some R/\R≠2:=by cases b <;> exact ⟨_,rfl,δ⟩
         obtain ⟨R,k1,k2⟩:=ac
         simp only [cond_false,Ad,k,hb,k1]
         rw [C3 (by simp; omega),Ad,f n ω G]
         refine .inl ⟨_,rfl,⟨n,rfl,G,by simp; omega,?_,λu=>(g u).elim⟩,by simp; omega⟩
         intro t ht
         rcases List.mem_append.1 ht with h' | h'
         .exact hk t h'
         .simp only [List.mem_singleton] at h'
          subst h'
          intro h'; exact absurd h' k2
       .rw [Aj ω]
        refine .inr ⟨_,rfl,(by show (9:Int)≠0; decide),λu=>?_⟩
        have:=I u
        have:=u.2.1
        have:=(A u).1
        omega
      | false=>
       have g:¬E7 s:=by
        intro u
        have h0:=(A u).1
        subst h0
        rw [u.2.2.1,Bool.or_true] at V; cases V
       have M:∀(n:Nat) (R:Int),i<n->n<=s.size->R≠2->∃s':Int×List Jt,(Ca 32 o [(Jt.mk R (s.extract i n) i)]).bind (λab=>(some (Sum.inl ((n:Int),ab)):Option ((Int×List Jt)⊕((List Jt×Int×Int)⊕List Jt))))=some (.inl s') /\
         (∃j:Nat,s'.1=j/\j<=s.size/\s'.2.length<=j/\(∀t∈s'.2,t.Kind=2->E7 t.Text)/\(E7 s->(j=0/\s'.2 = [])\/(j=s.size/\s'.2 = [⟨2,s,0⟩])))/\s.size-s'.1.toNat<s.size-i:=by
        intro n R a1 a2 a3
        rw [C3 (by simp; omega),Ad]
        refine ⟨_,rfl,⟨n,rfl,a2,by simp; omega,?_,λu=>(g u).elim⟩,by simp; omega⟩
        intro t ht
        rcases List.mem_append.1 ht with h' | h'
        .exact hk t h'
        .simp only [List.mem_singleton] at h'
         subst h'
         intro h'; exact absurd h' a3
       simp only [cond_false]
       cases hd:diI (bI s i) with
       | true=>
        simp only [cond_true]
        obtain ⟨n,n1,G,n3,n4,E⟩:=Vr (step:=λv85:Int=>bif (Aa ((i:Int)+v85))<(s.size:Int) then ((Fc s (Aa ((i:Int)+v85))).bind λad=>(some (diI (ad.toNat:Int))).bind λv87=>
          bif v87 then some (.inl (Aa (v85+1))) else some (.inr v85)) else some (.inr v85))
         s diI (λj=>(j:Int)-(i:Int)) (λj=>(j:Int)-(i:Int)) i (λj q hj hp=>by
          obtain ⟨c,D,B⟩:=H4 (s:=s) (i:=(j:Int)) rfl hj
          have Y:Aa ((j:Int)-(i:Int)+1)=((j+1:Nat):Int)-(i:Int):=by rw [Aa,Bm] <;> omega
          simp only [f j q ω,Aj (by omega:(j:Int)<(s.size:Int)),cond_true,D,Ad,B,Y,hp]) (λj q hj hp=>by
          obtain ⟨c,D,B⟩:=H4 (s:=s) (i:=(j:Int)) rfl hj
          simp only [f j q ω,Aj (by omega:(j:Int)<(s.size:Int)),cond_true,D,Ad,B,hp,cond_false]) (by
          simp only [f s.size hi ω]; simp) (s.size-(i+1)) (i+1) ω ω
        have e0:((i+1:Nat):Int)-(i:Int)=1:=ω
        simp only [e0] at E
        simp only [Ad] at E
        rw [E,Ad]
        have k:Ec s (i:Int) (n:Int)=some (s.extract i n):=Ng rfl rfl ω G
        have Z:(s.extract i n).size=n-i:=by rw [ByteArray.size_extract]; omega
        obtain ⟨b,hb,_⟩:=Azj (s.extract i n) ω
        obtain ⟨b',hb'⟩:∃b':Bool,(bif decide ((n:Int)-(i:Int)>1) then some (bI s i==48) else some false)=some b':=by cases decide ((n:Int)-(i:Int)>1) <;> exact ⟨_,rfl⟩
        simp only [hb',Ad,k,hb,f n ω G]
        cases b' with
        | true=>exact .inr ⟨_,rfl,(by show (2:Int)≠0; decide),g⟩
        | false=>
         simp only [cond_false]
         cases b.2 with
         | true=>exact .inl (M n 3 ω G δ)
         | false=>exact .inr ⟨_,rfl,(by show (9:Int)≠0; decide),g⟩
       | false=>
        have k:Ec s (i:Int) (s.size:Int)=some (s.extract i s.size):=Ng rfl rfl ω ω
        have Z:(s.extract i s.size).size=s.size-i:=by rw [ByteArray.size_extract]; omega
        obtain ⟨r,r1,r2⟩:=Azi (s.extract i s.size) ω
        simp only [cond_false,k,Ad,r1]
        by_cases h0:r=0
        .subst h0
         exact .inr ⟨_,rfl,(by show (2:Int)≠0; decide),g⟩
        .simp only [Ch h0,cond_false]
         obtain ⟨m,hm⟩:∃m:Nat,r=m:=⟨r.toNat,ω⟩
         subst hm
         have Y:Aa ((i:Int)+(m:Int))=((i+m:Nat):Int):=by rw [Aa,Bm] <;> omega
         rw [Y,Ng (s:=s) (lo:=(i:Int)) (hi:=((i+m:Nat):Int)) rfl rfl ω ω,Ad]
         exact .inl (M (i+m) 5 ω ω δ)
   .have:i=s.size:=ω
    subst this
    refine .inr ⟨.inr o,ψ,ω,hk,λu=>?_⟩
    rcases hu u with ⟨h',_⟩ | ⟨_,h'⟩
    .have:=u.1; omega
    .exact h'
  .rintro (⟨l,p,e⟩ | o) hz
   .exact ⟨_,rfl,.inl hz⟩
   .obtain ⟨z1,z2,z3⟩:=hz
    simp only
    rw [C3 (by simp; omega),Ad]
    exact ⟨_,rfl,.inr ⟨rfl,o,_,rfl,z2,z3⟩⟩
 .rintro ⟨l,p,e⟩ (⟨h1,h2⟩ | ⟨h1,o,t,h2,h3,N⟩)
  .simp only at h1
   simp only [Ch h1,cond_false]
   exact ⟨_,rfl,by simp [h2]⟩
  .simp only at h1 h2
   subst h1; subst h2
   simp only [beq_self_eq_true,cond_true]
   match o,h3,N with
   | [],_,N=>exact ⟨false,ψ,by simp; intro u; cases N u⟩
   | [x],h3,N=>
    have e0:Ae ([x]++[t]) 0=some x:=rfl
    simp only [e0,Ad,Acu]
    have Y:((([x]++[t]).length:Int)==2)=true:=rfl
    simp only [Y,cond_true]
    by_cases hx:x.Kind=2
    .simp only [Dw hx,cond_true]
     refine ⟨_,rfl,?_⟩
     rw [decide_eq_true_iff]
     constructor
     .intro h; rw [<-h]; exact h3 x ψ hx
     .intro u; have:=N u; simp at this; rw [this]
    .simp only [Ch hx,cond_false]
     refine ⟨_,rfl,?_⟩
     simp only [Bool.false_eq_true,false_iff]
     intro u; have:=N u; simp at this; rw [this] at hx; exact hx rfl
   | x::y::ys,_,N=>
    refine ⟨false,?_,by simp; intro u; have:=N u; simp at this⟩
    rw [Ch]
    .rfl
    .simp; omega
end Go.Ab
namespace Go.Ab
open Go
def Sx (data:List A3) (d:Nat) (v:Int) (y:Mg):Prop:=E7 y.Name/\y.Args.length<=6/\y.Args.all (Jy data d v)=true
def Qb (data:List A3) (d:Nat) (x:A3):Prop:=0<=x.Vars/\x.Vars<=6/\1<=x.Cons.length/\x.Cons.length<=8/\E7 x.Name/\∀y∈x.Cons,Sx data d x.Vars y
def F4 (x:A3):List ByteArray:=x.Cons.map (·.Name)
def Ja (data:List A3):Prop:=data.length<=12/\(∀d x,data[d]? = some x->Qb data d x)/\(data.map (·.Name)).Nodup/\(data.flatMap F4).Nodup
structure DSz (data:List A3):Prop where
 len:data.length<=1048576
 sz:SzD data
 nm:∀x∈data,x.Name.size<=1048576
 cn:∀x∈data,∀y∈x.Cons,y.Name.size<=1048576
theorem Sy (a b:ByteArray):(a==b)=true↔a=b:=by
 constructor
 .intro h;cases a with | mk a=>cases b with | mk b=>
  have:a=b:=(by exact eq_of_beq h);rw [this]
 .rintro rfl;cases a with | mk a=>exact beq_self_eq_true a
def Kf (o:List (ByteArray×Bool)) (L:List ByteArray):Prop:=(∀p∈o,p.2=true)/\∀s,Fd o s=true↔s∈L
theorem Kf.nil:Kf [] []:=⟨ψ,by simp [Fd]⟩
theorem Kf.get {o:List (ByteArray×Bool)} {L:List ByteArray} (h:Kf o L) {s:ByteArray} (b:Fd o s=true):Ht o s false=true:=by unfold Ht;unfold Fd at b;rw [List.any_eq_true] at b;obtain ⟨p,g,f⟩:=b;cases c:o.find? (λp=>s==p.1) with| none=>exact absurd f (by have:=List.find?_eq_none.1 c p g; simpa using this)| some q=>exact h.1 q (List.mem_of_find?_eq_some c)
theorem Azk (o:List (ByteArray×Bool)) (s t:ByteArray) (v:Bool):Fd (Fp o s v) t=(Fd o t||t==s):=by
 induction o with
 | nil=>simp [Fp,Fd]
 | cons p o ih=>unfold Fp;cases hp:(s==p.1) with| true=>have:s=p.1:=(Sy _ _).1 hp;subst this;simp only [cond_true,Fd,List.any_cons];cases t==p.1 <;> simp| false=>simp only [Fd,List.any_cons] at ih ⊢;simp only [cond_false,List.any_cons,ih,Bool.or_assoc]
theorem Kf.put {o:List (ByteArray×Bool)} {L:List ByteArray} (h:Kf o L) (s:ByteArray):Kf (Fp o s true) (L++[s]):=by
 refine ⟨?_,λt=>?_⟩
 .have:∀o:List (ByteArray×Bool),(∀p∈o,p.2=true)->∀p∈Fp o s true,p.2=true:=by
   intro o;induction o with
   | nil=>intro _ p hp; simp [Fp] at hp; rw [hp]
   | cons q o ih=>
    intro b p hp;unfold Fp at hp;cases hq:(s==q.1) with
    | true=>
     rw [hq] at hp;simp only [cond_true,List.mem_cons] at hp;rcases hp with rfl | hp
     .rfl
     .exact b p (by simp [hp])
    | false=>
     rw [hq] at hp;simp only [cond_false,List.mem_cons] at hp;rcases hp with rfl | hp
     .exact b _ ψ
     .exact ih (λp hp=>b p (by simp [hp])) p hp
  exact this o h.1
 .rw [Azk,Bool.or_eq_true,h.2 t,Sy]; simp
theorem Azl (x:A3) {c:Nat} {y:Mg} (hy:x.Cons[c]? = some y):F4 x=(x.Cons.take c).map (·.Name)++y.Name::(x.Cons.drop (c+1)).map (·.Name):=by
 have h:=List.take_append_drop c x.Cons
 have hc:=Dx hy
 have e:x.Cons.drop c=y::x.Cons.drop (c+1):=by
  rw [List.drop_eq_getElem_cons hc]
  rw [Bv hc] at hy
  rw [Option.some.inj hy]
 unfold F4
 conv=>lhs; rw [<-h,e]
 simp
theorem Aom {L m:List ByteArray} {s:ByteArray} (h:(L++s::m).Nodup):s ∉ L:=by rw [List.nodup_append] at h;intro b;exact h.2.2 s b s ψ rfl
theorem Ahh {L:List ByteArray} {s:ByteArray} (h:L.Nodup) (c:s ∉ L):(L++[s]).Nodup:=by rw [List.nodup_append];refine ⟨h,ψ,?_⟩;intro a ha b hb;simp at hb; subst hb;intro e; subst e; exact c ha
theorem Azm {data:List A3} (s:DSz data) {d:Nat} {x:A3} (hx:data[d]? = some x) (I:x.Vars<=6) (o:List (ByteArray×Bool)) (L:List ByteArray) (hm:Kf o L) (M:L.Nodup) : ∃z,Al (S:=(Int×(List (ByteArray×Bool)))) (E:=(Bool⊕(Int×(List (ByteArray×Bool))))) (λ(f,g)=> bif f<(x.Cons.length:Int) then ((Ae x.Cons f).bind λv54=> (Rv v54.Name).bind λA=> bif (!A) then some (.inr (.inl false)) else (bif (Fd g v54.Name) then (bif (Ht g v54.Name (false:Bool)) then some (.inr (.inl false)) else ((Pp data d f).bind λu=> bif (!u) then some (.inr (.inl false)) else some (.inl ((Aa (f+1)),(Fp g v54.Name true))))) else ((Pp data d f).bind λv58=> bif (!v58) then some (.inr (.inl false)) else some (.inl ((Aa (f+1)),(Fp g v54.Name true)))))) else some (.inr (.inr (f,g)))) (0,o)=some z /\ match z with
   | .inl r=>r=false/\¬((∀y∈x.Cons,Sx data d x.Vars y)/\(L++F4 x).Nodup)
   | .inr (_,o')=>(∀y∈x.Cons,Sx data d x.Vars y)/\(L++F4 x).Nodup/\Kf o' (L++F4 x):=by
 have hxm:=Cd hx;have J:=(s.sz x hxm).1;refine Ib (λ(f,g)=>∃c:Nat,f=c/\c<=x.Cons.length/\(∀y∈x.Cons.take c,Sx data d x.Vars y)/\(L++(x.Cons.take c).map (·.Name)).Nodup/\Kf g (L++(x.Cons.take c).map (·.Name))) (λ(f,_)=>x.Cons.length-f.toNat) _ ?_ _ ⟨0,rfl,ω,ψ,by simpa using M,by simpa using hm⟩;rintro ⟨v,g⟩ ⟨c,rfl,hc,h1,h2,h3⟩;rcases Nat.lt_or_ge c x.Cons.length with h | h
 .have hy:x.Cons[c]? = some x.Cons[c]:=Bv h;generalize x.Cons[c]=y at hy;have l:=Cd hy;obtain ⟨b,b1,b2⟩:=Aok y.Name (by have:=s.cn x hxm y l; omega);have ht:=C8 hy;have D:L++F4 x=(L++(x.Cons.take c).map (·.Name))++y.Name::(x.Cons.drop (c+1)).map (·.Name):=(by rw [Azl x hy]; simp);simp only [Aj (by omega:(c:Int)<(x.Cons.length:Int)),cond_true,Ce rfl hy,Ad,b1,Ay5 s.sz d c hx hy I s.len,C6 h ω];cases b with
  | false=>refine .inr ⟨.inl false,rfl,rfl,λk=>?_⟩;have:=b2.2 (k.1 y l).1; cases this
  | true=>
   simp only [Dk,cond_false];cases j:Fd g y.Name with
   | true=>simp only [cond_true,h3.get j];refine .inr ⟨.inl false,rfl,rfl,λk=>?_⟩;rw [D] at k;exact Aom k.2 ((h3.2 _).1 j)
   | false=>
    simp only [cond_false];cases i:(decide (y.Args.length<=6)&&y.Args.all (Jy data d x.Vars)) with
    | false=>refine .inr ⟨.inl false,rfl,rfl,λk=>?_⟩;have:=k.1 y l;rw [this.2.2,Aj this.2.1] at i; cases i
    | true=>
     simp only [Dj,decide_eq_true_eq] at i;have B:y.Name ∉ L++(x.Cons.take c).map (·.Name):=λk=>by rw [(h3.2 _).2 k] at j; cases j
     have e:L++(x.Cons.take (c+1)).map (·.Name)=(L++(x.Cons.take c).map (·.Name))++[y.Name]:=(by rw [ht]; simp);refine .inl ⟨_,rfl,⟨c+1,rfl,ω,?_,?_,?_⟩,by simp; omega⟩
     .intro G q;rw [ht] at q;rcases List.mem_append.1 q with h' | h'
      .exact h1 G h'
      .simp at h'; subst h'; exact ⟨b2.1 rfl,i.1,i.2⟩
     .rw [e]; exact Ahh h2 B
     .rw [e]; exact h3.put _
 .have:c=x.Cons.length:=ω;subst this;rw [List.take_length] at h1 h2 h3;exact .inr ⟨.inr ((x.Cons.length:Int),g),ψ,h1,h2,h3⟩
theorem Azn {data:List A3} {d:Nat} {x:A3} (hx:data[d]? = some x):data.flatMap F4=((data.take d).flatMap F4++F4 x)++(data.drop (d+1)).flatMap F4/\data.map (·.Name)=(data.take d).map (·.Name)++x.Name::(data.drop (d+1)).map (·.Name):=by
 have h:=List.take_append_drop d data
 have hc:=Dx hx
 have e:data.drop d=x::data.drop (d+1):=by
  rw [List.drop_eq_getElem_cons hc]
  rw [Bv hc] at hx
  rw [Option.some.inj hx]
 constructor
 .conv=>lhs; rw [<-h,e]
  simp [List.flatMap_append]
 .conv=>lhs; rw [<-h,e]
  simp
theorem Azo {data:List A3} (j:DSz data):∃b,Xb data=some b/\(b=true↔Ja data):=by
 have G:=j.len;unfold Xb;rcases Nat.lt_or_ge 12 data.length with h12 | h12
 .rw [Aj ω];exact ⟨false,rfl,by simp; intro h; have:=h.1; omega⟩
 rw [An ω];simp only [cond_false];refine Fe (λ(v31,f,g)=>∃d:Nat,v31=d/\d<=data.length/\(∀k x,k<d->data[k]? = some x->Qb data k x)/\((data.take d).map (·.Name)).Nodup/\((data.take d).flatMap F4).Nodup/\Kf f ((data.take d).map (·.Name))/\Kf g ((data.take d).flatMap F4)) (λ(v31,_,_)=>data.length-v31.toNat) (λz=>match z with | .inl r=>r=false/\¬Ja data | .inr _=>Ja data) ⟨0,rfl,ω,by intro k x h; omega,ψ,ψ,by simpa using Kf.nil,by simpa using Kf.nil⟩ ?_ ?_
 .rintro ⟨v,f,g⟩ ⟨d,rfl,hd,h1,h2,h3,B,V⟩;rcases Nat.lt_or_ge d data.length with h | h
  .have hx:data[d]? = some data[d]:=Bv h;generalize data[d]=x at hx;have hxm:=Cd hx;obtain ⟨b,b1,b2⟩:=Aok x.Name (by have:=j.nm x hxm; omega);obtain ⟨f1,f2⟩:=Azn hx;simp only [Aj (by omega:(d:Int)<(data.length:Int)),cond_true,Ce rfl hx,Ad,b1];have bad:∀(y:¬Qb data d x),∃e:Bool⊕((List (ByteArray×Bool))×(List (ByteArray×Bool))),(some (Sum.inr (Sum.inl false)):Option ((Int×(List (ByteArray×Bool))×(List (ByteArray×Bool)))⊕(Bool⊕((List (ByteArray×Bool))×(List (ByteArray×Bool))))))=some (.inr e)/\(match e with | .inl r=>r=false/\¬Ja data | .inr _=>Ja data) :=
    λy=>⟨.inl false,rfl,rfl,λc=>y (c.2.1 d x hx)⟩
   cases b with
   | false=>exact .inr (bad λc=>by have:=b2.2 c.2.2.2.2.1; cases this)
   | true=>
    simp only [Dk,cond_false];cases i:Fd f x.Name with
    | true=>simp only [cond_true,B.get i,Ad];refine .inr ⟨.inl false,rfl,rfl,λc=>?_⟩;have:=c.2.2.1;rw [f2] at this;exact Aom this ((B.2 _).1 i)
    | false=>
     simp only [cond_false];by_cases q:x.Vars<0
     .simp only [Aj q,cond_true,Ad];exact .inr (bad λc=>by have:=c.1; omega)
     by_cases u:x.Vars>6
     .simp only [An q,Aj u,cond_true,cond_false,Ad];exact .inr (bad λc=>by have:=c.2.1; omega)
     simp only [An q,An u,cond_false,Ad];by_cases s:(x.Cons.length:Int)<1
     .simp only [Aj s,cond_true,Ad];exact .inr (bad λc=>by have:=c.2.2.1; omega)
     by_cases A:(x.Cons.length:Int)>8
     .simp only [An s,Aj A,cond_true,cond_false,Ad];exact .inr (bad λc=>by have:=c.2.2.2.1; omega)
     simp only [An s,An A,cond_false,Ad];obtain ⟨z,L,z2⟩:=Azm j hx ω g _ V h3;rw [L,Ad]
     match z,z2 with
     | .inl r,z2=>obtain ⟨rfl,z2⟩:=z2;refine .inr ⟨.inl false,rfl,rfl,λc=>z2 ⟨(c.2.1 d x hx).2.2.2.2.2,?_⟩⟩;have:=c.2.2.2;rw [f1] at this;exact (List.nodup_append.1 this).1
     | .inr (v60,D),z2=>
      obtain ⟨R,N,M⟩:=z2;have ht:=C8 hx;have E:x.Name ∉ (data.take d).map (·.Name):=λc=>by rw [(B.2 _).2 c] at i; cases i
      have J:(data.take (d+1)).map (·.Name)=(data.take d).map (·.Name)++[x.Name]:=(by rw [ht]; simp);have I:(data.take (d+1)).flatMap F4=(data.take d).flatMap F4++F4 x:=(by rw [ht]; simp [List.flatMap_append]);refine .inl ⟨(((d+1:Nat):Int),Fp f x.Name true,D),by simp only [C6 h ω],⟨d+1,rfl,ω,?_,?_,?_,?_,?_⟩,by simp; omega⟩
      .intro k S U l;rcases Nat.lt_or_ge k d with h' | h'
       .exact h1 k S h' l
       .have:k=d:=ω;subst this;rw [hx] at l; cases l;exact ⟨ω,ω,ω,ω,b2.1 rfl,R⟩
      .rw [J]; exact Ahh h2 E
      .rw [I]; exact N
      .rw [J]; exact B.put _
      .rw [I]; exact M
  .have:d=data.length:=ω;subst this;rw [List.take_length] at h2 h3;exact .inr ⟨.inr (f,g),ψ,h12,λd x hx=>h1 d x (Dx hx) hx,h2,h3⟩
 .rintro (r | ⟨o,o'⟩) j
  .obtain ⟨rfl,j⟩:=j;exact ⟨false,rfl,by simp [j]⟩
  .exact ⟨true,rfl,by simpa using j⟩
theorem Aon {data:List A3} (c:DSz data):∃b,W4 data=some b/\(b=true↔Ja data):=by obtain ⟨b,h1,h2⟩:=Azo c;refine ⟨b,?_,h2⟩;unfold W4;rw [h1,Ad];cases b with| false=>rfl| true=>rfl
end Go.Ab
