/- Plain laws: what the plain functions answer. -/
import Derived.Test.YtpedagkdpokpkaaGreatDoorWaPl0
import Derived.Lib.ItoaLen
namespace Go.Ab
open Go Ieee
theorem Awe (n d:Nat):∃c,Toward.even.cut false n d=c/\(n / 2 ^ d<=c)/\c<=n / 2 ^ d+1/\(n % 2 ^ d=0->c=n / 2 ^ d):=by
 refine ⟨_,rfl,?_⟩
 unfold Toward.cut
 simp only [Nat.shiftLeft_eq,Nat.one_mul]
 by_cases hd:d<=n.log2+2
 .rw [Nat.min_eq_left hd]
  generalize h2:2 ^ d=g
  have h:0<g:=by rw [<-h2]; exact Nat.pow_pos (by decide)
  refine ⟨by omega,?_,fun h0=>?_⟩
  .have:=Bool.toNat_le (decide (g<2*(n % g))||(g==2*(n % g)&&n / g % 2==1))
   omega
  .rw [h0]
   have h1:decide (g<2*0)=false:=by simp
   have h3:(g==2*0)=false:=by simp; omega
   rw [h1,h3]; rfl
 .rw [Nat.min_eq_right (by omega)]
  have b:n<2 ^ (n.log2+1):=Nat.lt_log2_self
  have h:2 ^ (n.log2+2)=2*2 ^ (n.log2+1):=by rw [Nat.pow_succ]; omega
  have f:2 ^ (n.log2+2)<=2 ^ d:=Nat.pow_le_pow_right (by decide) (by omega)
  have k:n / 2 ^ (n.log2+2)=0:=Nat.div_eq_of_lt (by omega)
  have j:n % 2 ^ (n.log2+2)=n:=Nat.mod_eq_of_lt (by omega)
  have i:n / 2 ^ d=0:=Nat.div_eq_of_lt (by omega)
  have e4:n % 2 ^ d=n:=Nat.mod_eq_of_lt (by omega)
  rw [k,j,i,e4]
  have h1:decide (2 ^ (n.log2+2)<2*n)=false:=by simp; omega
  have h3:(2 ^ (n.log2+2)==2*n)=false:=by simp; omega
  rw [h1,h3]
  exact ⟨by simp,by simp,fun _=>rfl⟩
theorem Tw (f:Nat) (place e:Int) (hm:f≠0) (D:place+f.log2=e) (h1 : -1000<=e) (h2:e<=900) :
  ∃(m:Nat) (p:Int),double.read (double.nearest false f place) = .number false m p/\4503599627370496<=m/\m<9007199254740992/\(p=e-52\/(p=e-51/\m=4503599627370496)):=by
 have g:max (place+f.log2-(double.fractionBits:Int)) double.leastPlace=e-52:=by
  have a:(double.fractionBits:Int)=52:=rfl
  have b:double.leastPlace = -1074:=by decide
  rw [a,b,D]; omega
 have hw:double.nearest false f place=min ((e-52+1074).toNat*4503599627370496+Toward.even.cut false (f <<< (place-(e-52)).toNat) ((e-52)-place).toNat) (2047*4503599627370496):=by
  unfold Format.nearest
  rw [if_neg hm]
  simp only [g]
  have b:double.leastPlace = -1074:=by decide
  have c:double.binade=4503599627370496:=by decide
  have d:double.infRung=2047*4503599627370496:=by decide
  rw [b,c,d]
  unfold Format.word
  simp only [Bool.false_eq_true,if_false]
  congr 3
 have hk:4503599627370496<=Toward.even.cut false (f <<< (place-(e-52)).toNat) ((e-52)-place).toNat/\Toward.even.cut false (f <<< (place-(e-52)).toNat) ((e-52)-place).toNat<=9007199254740992:=by
  obtain ⟨c,hc,s,q,i⟩:=Awe (f <<< (place-(e-52)).toNat) ((e-52)-place).toNat
  rw [hc]
  have B:2 ^ f.log2<=f:=Nat.log2_self_le hm
  have A:f<2 ^ (f.log2+1):=Nat.lt_log2_self
  rw [Nat.shiftLeft_eq] at s q i
  rcases Int.le_total place (e-52) with h | h
  .have z:(place-(e-52)).toNat=0:=by omega
   rw [z,Nat.pow_zero,Nat.mul_one] at s q i
   have hd:f.log2=52+((e-52)-place).toNat:=by omega
   have hp:2 ^ f.log2=4503599627370496*2 ^ ((e-52)-place).toNat:=by rw [hd,Nat.pow_add]
   have l:2 ^ (f.log2+1)=9007199254740992*2 ^ ((e-52)-place).toNat:=by rw [Nat.pow_succ,hp]; omega
   have hpos:0<2 ^ ((e-52)-place).toNat:=Nat.pow_pos (by decide)
   have a1:4503599627370496<=f / 2 ^ ((e-52)-place).toNat:=(Nat.le_div_iff_mul_le hpos).2 (by omega)
   have a2:f / 2 ^ ((e-52)-place).toNat<9007199254740992:=(Nat.div_lt_iff_lt_mul hpos).2 (by omega)
   omega
  .have z:((e-52)-place).toNat=0:=by omega
   rw [z,Nat.pow_zero,Nat.div_one] at s q i
   have G:=i (Nat.mod_one _)
   have hd:52=f.log2+(place-(e-52)).toNat:=by omega
   have hp:2 ^ f.log2*2 ^ (place-(e-52)).toNat=4503599627370496:=by rw [<-Nat.pow_add,<-hd]
   have l:2 ^ (f.log2+1)*2 ^ (place-(e-52)).toNat=9007199254740992:=by rw [Nat.pow_succ,Nat.mul_right_comm,hp]
   have hpos:0<2 ^ (place-(e-52)).toNat:=Nat.pow_pos (by decide)
   have a1:=Nat.mul_le_mul_right (2 ^ (place-(e-52)).toNat) B
   have a2:=Nat.mul_lt_mul_of_pos_right A hpos
   omega
 generalize Toward.even.cut false (f <<< (place-(e-52)).toNat) ((e-52)-place).toNat=c at *
 obtain ⟨t,ht⟩:∃t:Nat,(e-52+1074).toNat=t/\t<=1922/\(t:Int)=e+1022:=⟨_,rfl,by omega,by omega⟩
 rw [ht.1] at hw
 rw [Nat.min_eq_left (by omega)] at hw
 rw [hw]
 have b:double.leastPlace = -1074:=by decide
 have E:double.binade=4503599627370496:=by decide
 have d:double.infRung=2047*4503599627370496:=by decide
 have u:double.signWeight=9223372036854775808:=by decide
 unfold Format.read
 rw [b,E,d,u]
 have y:(t*4503599627370496+c) / 9223372036854775808=0:=Nat.div_eq_of_lt (by omega)
 have x:(t*4503599627370496+c) % 9223372036854775808=t*4503599627370496+c:=Nat.mod_eq_of_lt (by omega)
 simp only [y,x]
 rw [if_neg (by omega),if_pos (by omega)]
 by_cases hc:c<9007199254740992
 .refine ⟨c,e-52,?_,hk.1,hc,.inl rfl⟩
  have k:(t*4503599627370496+c) % 4503599627370496=c-4503599627370496:=by omega
  have j:(t*4503599627370496+c) / 4503599627370496=t+1:=by omega
  rw [k,j,show 4503599627370496+(c-4503599627370496)=c by omega,show (-1074:Int)+((t+1-1:Nat):Int)=e-52 by omega]; rfl
 .have hc:c=9007199254740992:=by omega
  subst hc
  refine ⟨4503599627370496,e-51,?_,by decide,by decide,.inr ⟨rfl,rfl⟩⟩
  have k:(t*4503599627370496+9007199254740992) % 4503599627370496=0:=by omega
  have j:(t*4503599627370496+9007199254740992) / 4503599627370496=t+2:=by omega
  rw [k,j,Nat.add_zero,show (-1074:Int)+((t+2-1:Nat):Int)=e-51 by omega]; rfl
theorem Ae3 (v:Int) (h:0<=v):floatOfInt .f64 v=double.nearest false v.natAbs 0:=by
 have e:decide (v<0)=false:=Aq (by omega)
 show double.nearest (decide (v<0)) v.natAbs 0=_
 rw [e]
theorem Awf:double.read 4876203697187506176 = .number false 7812500000000000 7:=by decide
theorem Aat {n k:Nat} (h1:2 ^ k<=n) (h2:n<2 ^ (k+1)):n.log2=k:=(Nat.log2_eq_iff (by have:=Nat.pow_pos (n:=k) (show 0<2 by decide); omega)).2 ⟨h1,h2⟩
theorem Ww {n k:Nat} (h:n<2 ^ (k+1)):n.log2<=k:=by
 by_cases h0:n=0
 .subst h0; simp
 .have:=(Nat.log2_lt h0).2 h; omega
theorem Ae4 {n k:Nat} (h:2 ^ k<=n):k<=n.log2:=(Nat.le_log2 (by have:=Nat.pow_pos (n:=k) (show 0<2 by decide); omega)).2 h
theorem Awg (x:Int) (h0:1<=x) (h1:x<1000000000):∃(w:Nat) (m:Nat) (p:Int),floatBits .mul .f64 (floatOfInt .f64 x) 4876203697187506176=some w/\double.read w = .number false m p/\4503599627370496<=m/\m<9007199254740992/\7<=p/\(p<=37\/(p=38/\m=4503599627370496)):=by
 have l:x.natAbs.log2<=29:=Ww (by simp; omega)
 obtain ⟨m1,b,g,a1,a2,a3⟩:=Tw x.natAbs 0 (x.natAbs.log2) (by omega) (by omega) (by omega) (by omega)
 have c:(m1*7812500000000000).log2=104\/((m1*7812500000000000).log2=105/\m1≠4503599627370496):=by
  have b1:2 ^ 104<=m1*7812500000000000:=by omega
  have b2:m1*7812500000000000<2 ^ 106:=by omega
  rcases Nat.lt_or_ge (m1*7812500000000000) (2 ^ 105) with h | h
  .exact .inl (Aat b1 h)
  .exact .inr ⟨Aat h b2,by rintro rfl; omega⟩
 obtain ⟨m2,i,f,k,j,q⟩:=Tw (m1*7812500000000000) (b+7) (b+7+(m1*7812500000000000).log2) (by omega) rfl (by omega) (by omega)
 refine ⟨double.nearest false (m1*7812500000000000) (b+7),m2,i,?_,f,k,j,by omega,by omega⟩
 show ((double.read (floatOfInt .f64 x)).product (double.read 4876203697187506176)).map double.write=_
 rw [Ae3 x (by omega),g,Awf]; rfl
theorem Awh (w:Nat) (m:Nat) (p:Int) (hw:double.read w = .number false m p) (M:4503599627370496<=m) (L:m<9007199254740992) (I:7<=p) (j:p<=37\/(p=38/\m=4503599627370496)) (y:Int) (h0:0<=y) (h1:y<1000000000000000000) :
  ∃(w':Nat) (g:Nat) (f:Int),floatBits .add .f64 w (floatOfInt .f64 y)=some w'/\double.read w' = .number false g f/\4503599627370496<=g/\g<9007199254740992/\7<=f/\f<=39:=by
 obtain ⟨c,b,x,U,S⟩:∃(c:Nat) (b:Int),double.read (floatOfInt .f64 y) = .number false c b/\b<=8/\c<9007199254740992/\-1074<=b:=by
  rw [Ae3 y h0]
  by_cases hy:y.natAbs=0
  .rw [hy]; exact ⟨0,-1074,by decide,by decide,by decide,by decide⟩
  .have Y:y.natAbs.log2<=59:=Ww (by simp; omega)
   obtain ⟨m1,D,A,a1,a2,a3⟩:=Tw y.natAbs 0 (y.natAbs.log2) hy (by omega) (by omega) (by omega)
   exact ⟨m1,D,A,by omega,a2,by omega⟩
 generalize hb:min p b=base
 have ht:∃T:Nat,signed false m (p-base).toNat+signed false c (b-base).toNat=(T:Int)/\T=m*2 ^ (p-base).toNat+c*2 ^ (b-base).toNat:=by
  refine ⟨m <<< (p-base).toNat+c <<< (b-base).toNat,rfl,by rw [Nat.shiftLeft_eq,Nat.shiftLeft_eq]⟩
 obtain ⟨T,t1,t2⟩:=ht
 have G:0<2 ^ (p-base).toNat:=Nat.pow_pos (by decide)
 have i:2 ^ (b-base).toNat<=2 ^ (8-base).toNat:=Nat.pow_le_pow_right (by decide) (by omega)
 have J:m*2 ^ (p-base).toNat<=2 ^ (90-base).toNat:=by
  rcases j with h | ⟨rfl,rfl⟩
  .have e:2 ^ (90-base).toNat=2 ^ (p-base).toNat*2 ^ (90-p).toNat:=by rw [<-Nat.pow_add]; congr 1; omega
   have e2:2 ^ 53<=2 ^ (90-p).toNat:=Nat.pow_le_pow_right (by decide) (by omega)
   rw [e,Nat.mul_comm]
   exact Nat.mul_le_mul_left _ (by omega)
  .have e:2 ^ (90-base).toNat=2 ^ (38-base).toNat*2 ^ 52:=by rw [<-Nat.pow_add]; congr 1; omega
   rw [e,Nat.mul_comm]; omega
 have E:c*2 ^ (b-base).toNat<2 ^ (90-base).toNat:=by
  have e:2 ^ (90-base).toNat=2 ^ (8-base).toNat*2 ^ 82:=by rw [<-Nat.pow_add]; congr 1; omega
  have e3:c*2 ^ (b-base).toNat<=c*2 ^ (8-base).toNat:=Nat.mul_le_mul_left _ i
  have e4:0<2 ^ (8-base).toNat:=Nat.pow_pos (by decide)
  have Z:c*2 ^ (8-base).toNat<2 ^ 82*2 ^ (8-base).toNat:=Nat.mul_lt_mul_of_pos_right (by omega) e4
  rw [e,Nat.mul_comm (2 ^ (8-base).toNat)]; omega
 have s:T<2 ^ ((90-base).toNat+1):=by rw [Nat.pow_succ]; omega
 have q:2 ^ (52+(p-base).toNat)<=T:=by
  have:2 ^ 52*2 ^ (p-base).toNat<=m*2 ^ (p-base).toNat:=Nat.mul_le_mul_right _ (by omega)
  rw [Nat.pow_add]; omega
 have X:=Ww s
 have V:=Ae4 q
 have u:T≠0:=by
  have:=Nat.pow_pos (n:=52+(p-base).toNat) (show 0<2 by decide); omega
 obtain ⟨m3,B,z,R,N,c3⟩:=Tw T base (base+T.log2) u rfl (by omega) (by omega)
 refine ⟨double.nearest false T base,m3,B,?_,z,R,N,by omega,by omega⟩
 show ((double.read w).sum (double.read (floatOfInt .f64 y))).map double.write=_
 rw [hw,x]
 have l:¬((T:Int)=0):=by omega
 have k:decide ((T:Int)<0)=false:=Aq (by omega)
 simp only [Datum.sum,hb,t1,if_neg l,k,Option.map_some,Int.natAbs_natCast,Format.write]
theorem Awi {b m N:Nat} {p:Int} (g:double.read b = .number false m p) (i:(Datum.number false m p).toInt .zero=some (N:Int)) (h:N<=9223372036854775808):floatToIntVal .f64 b .u64=some (N:Int):=by
 have hd:FloatKind.f64.decode b = .number false m p:=g
 have f:IntKind.u64.min=0:=by decide
 have c:IntKind.u64.max=18446744073709551615:=by decide
 unfold floatToIntVal
 rw [hd,i]
 simp only [f,c]
 rw [if_pos ⟨by omega,by omega⟩]
theorem Awj (w:Nat) (m:Nat) (p:Int) (hw:double.read w = .number false m p) (R:4503599627370496<=m) (M:m<9007199254740992) (L:7<=p) (J:p<=39) (z:Int) (h0:1000000000<=z) (h1:z<1000000000000000000) :
  ∃(w':Nat) (n:Int),floatBits .quo .f64 w (floatOfInt .f64 z)=some w'/\floatToIntVal .f64 w' .u64=some n/\0<=n/\n<=9223372036854775808:=by
 have U:z.natAbs.log2<=59:=Ww (by simp; omega)
 have S:29<=z.natAbs.log2:=Ae4 (by simp; omega)
 obtain ⟨f,c,u,a1,a2,a3⟩:=Tw z.natAbs 0 (z.natAbs.log2) (by omega) (by omega) (by omega) (by omega)
 have D:m.log2=52:=Aat (by omega) (by omega)
 have y:f.log2=52:=Aat (by omega) (by omega)
 generalize hq:m*2 ^ 54 / f=q
 generalize l:((m*2 ^ 54 % f != 0).toNat)=s
 have E:s<=1:=by rw [<-l]; exact Bool.toNat_le _
 have I:q<2 ^ 55:=by rw [<-hq]; exact (Nat.div_lt_iff_lt_mul (by omega)).2 (by omega)
 have G:2 ^ 53<=q:=by rw [<-hq]; exact (Nat.le_div_iff_mul_le (by omega)).2 (by omega)
 have B:(2*q+s).log2<=55:=Ww (by omega)
 have A:54<=(2*q+s).log2:=Ae4 (by omega)
 obtain ⟨m4,b,x,Z,X,Y⟩:=Tw (2*q+s) (p-c-(54:Nat)-1) (p-c-(54:Nat)-1+(2*q+s).log2) (by omega) rfl (by omega) (by omega)
 have j:(Datum.number false m p).quotient (double.fractionBits+2) (Datum.number false f c)=some (.number false (2*q+s) (p-c-(54:Nat)-1)):=by
  have i:¬f=0:=by omega
  have fb:double.fractionBits+2=54:=rfl
  simp only [Datum.quotient,if_neg i,fb,D,y,Nat.shiftLeft_eq,Nat.add_sub_cancel,hq,l,Bool.xor_self]
 have hb:m4*2 ^ b.toNat<=9223372036854775808:=by
  have k:b<=10\/(b=11/\m4=4503599627370496):=by omega
  rcases k with h | ⟨rfl,rfl⟩
  .have:2 ^ b.toNat<=2 ^ 10:=Nat.pow_le_pow_right (by decide) (by omega)
   have:=Nat.mul_le_mul (Nat.le_of_lt X) this
   omega
  .decide
 obtain ⟨N,V,g⟩:∃N:Nat,(Datum.number false m4 b).toInt .zero=some (N:Int)/\N<=9223372036854775808:=by
  refine ⟨(m4 <<< b.toNat) / (1 <<< min (-b).toNat ((m4 <<< b.toNat).log2+2)),?_,?_⟩
  .simp only [Datum.toInt,Datum.integral,Toward.cut,signed,Bool.false_eq_true,if_false,Nat.shiftLeft_zero,Bool.toNat_false,Nat.add_zero]
  .rw [Nat.shiftLeft_eq m4]
   exact Nat.le_trans (Nat.div_le_self _ _) hb
 refine ⟨double.nearest false (2*q+s) (p-c-(54:Nat)-1),(N:Int),?_,?_,by omega,by omega⟩
 .have e:floatBits .quo .f64 w (floatOfInt .f64 z)=((double.read w).quotient (double.fractionBits+2) (double.read (floatOfInt .f64 z))).map double.write:=rfl
  rw [e,hw,Ae3 z (by omega),u,j]
  simp only [Option.map_some,Format.write]
 .exact Awi x V g
theorem Awk (r n:Nat) (h2:2<=Bd n) (E:Bd r<=Bd n+1) (G:Bd n<1099511627776):∃d:Nat,Vz (Ae r) (Ae n)=some (d:Int)/\d<1000000000:=by
 unfold Vz
 unfold Bd at h2 E G
 have c:n≠0:=by rintro rfl; rw [Fi] at h2; simp at h2
 by_cases V:(Ae r).length<(Ae n).length
 .exact ⟨0,by rw [Al (by omega)]; rfl,by decide⟩
 .rw [Aq (by omega),cond_false]
  have y:Ac (((Ae n).length:Int)-1)=(((Ae n).length-1:Nat):Int):=by rw [Ac,Bx] <;> omega
  have u:Ac (((Ae n).length:Int)-2)=(((Ae n).length-2:Nat):Int):=by rw [Ac,Bx] <;> omega
  have i1:(Ae n).length-1<(Ae n).length:=by omega
  have i2:(Ae n).length-2<(Ae n).length:=by omega
  have h:(Ae n).length-1<(Ae r).length:=by omega
  have g:(Ae n).length-2<(Ae r).length:=by omega
  have t1:=(Ee n).get i1
  have t2:=(Ee n).get i2
  have M:=(Ee r).get h
  have L:=(Ee r).get g
  have i:(Ae n)[(Ae n).length-1]≠0:=by
   have:=(Aai n).2 (Hq c)
   rwa [List.getLast_eq_getElem] at this
  rw [y,u,Dp rfl i1,Ad,Dp rfl i2,Ad,Dp rfl h,Ad,Dp rfl g,Ad]
  generalize (Ae n)[(Ae n).length-1]=a1 at *
  generalize (Ae n)[(Ae n).length-2]=a2 at *
  generalize (Ae r)[(Ae n).length-1]=b1 at *
  generalize (Ae r)[(Ae n).length-2]=b2 at *
  have l:Ax (Ax (Ax b1*1000000000)+Ax b2)=b1*1000000000+b2:=by
   rw [show Ax b1=b1 from C7 (by omega) (by omega),show Ax b2=b2 from C7 (by omega) (by omega),show Ax (b1*1000000000)=b1*1000000000 from C7 (by omega) (by omega)]
   exact C7 (by omega) (by omega)
  have j:Ax (Ax (Ax a1*1000000000)+Ax a2)=a1*1000000000+a2:=by
   rw [show Ax a1=a1 from C7 (by omega) (by omega),show Ax a2=a2 from C7 (by omega) (by omega),show Ax (a1*1000000000)=a1*1000000000 from C7 (by omega) (by omega)]
   exact C7 (by omega) (by omega)
  rw [l,j]
  by_cases X:(Ae r).length=(Ae n).length
  .rw [Es (by omega),cond_true,J4 (by omega) (by omega) (by omega),Ad]
   have R:0<=(b1*1000000000+b2) / (a1*1000000000+a2):=Int.ediv_nonneg (by omega) (by omega)
   have N:(b1*1000000000+b2) / (a1*1000000000+a2)<1000000000:=Int.ediv_lt_of_lt_mul (by omega) (by omega)
   exact ⟨((b1*1000000000+b2) / (a1*1000000000+a2)).toNat,by congr 1; omega,by omega⟩
  .have hk:(Ae n).length<(Ae r).length:=by omega
   have b:r≠0:=by rintro rfl; rw [Fi] at hk; simp at hk
   have J:=(Ee r).get hk
   have f:(Ae r)[(Ae n).length]≠0:=by
    have:=(Aai r).2 (Hq b)
    rw [List.getLast_eq_getElem] at this
    have e:(Ae r).length-1=(Ae n).length:=by omega
    simpa [e] using this
   rw [Cv (by omega),cond_false,Dp rfl hk,Ad]
   generalize (Ae r)[(Ae n).length]=x at *
   obtain ⟨s,m3,A,f1,f2,f3,f4,f5,f6⟩:=Awg x (by omega) (by omega)
   obtain ⟨q,m4,z,g1,g2,g3,g4,g5,g6⟩:=Awh s m3 A f2 f3 f4 f5 f6 (b1*1000000000+b2) (by omega) (by omega)
   obtain ⟨I,k,D,B,U,S⟩:=Awj q m4 z g2 g3 g4 g5 g6 (a1*1000000000+a2) (by omega) (by omega)
   rw [f1,Ad,g1,Ad,D,Ad,B,Ad,show Ax (k+2)=k+2 from C7 (by omega) (by omega)]
   by_cases hc:(999999999:Int)<k+2
   .exact ⟨999999999,by rw [if_pos hc]; rfl,by decide⟩
   .exact ⟨(k+2).toNat,by rw [if_neg hc]; congr 1; omega,by omega⟩
end Go.Ab
namespace Go.Ab
open Go
theorem Awl (x r:Nat):Bd (x % 1000000000+1000000000*r)<=Bd r+1:=by
 apply Je
 have:=Mp r
 rw [Nat.pow_succ]
 omega
set_option maxHeartbeats 1000000 in
theorem Ae5 (m n:Nat) (hm:Bd m<137438953472) (hn:Bd n<137438953472) (D:n≠0):P6 (Ae m) (Ae n)=some (Ae (m / n),Ae (m % n)):=by
 unfold P6
 rw [Aaq,Q5 m n (by omega) (by omega),Ad]
 have af:=hm
 have ae:=hn
 unfold Bd at hm hn
 by_cases l:m<n
 .rw [show Eh m n = -1 by rw [Eh,if_pos l],Al (by decide:(-1:Int)<0),cond_true,Q7 _ (by omega),Ad,Avw (Aai m),Nat.div_eq_of_lt l,Nat.mod_eq_of_lt l,Fi]
 .rw [Aq (show ¬Eh m n<0 by rw [Eh,if_neg l]; split <;> decide),cond_false]
  have a8:(Ae n).length≠0:=fun e=>Hq D (List.length_eq_zero_iff.1 e)
  by_cases h1:(Ae n).length=1
  .rw [Es (by omega:((Ae n).length:Int)=1),cond_true]
   have B:n<1000000000:=by
    have:=Mp n
    rw [show Bd n=1 from h1] at this
    simpa using this
   have Y:Ae n = [(n:Int)]:=by
    rw [Lq D,Nat.div_eq_of_lt B,Fi,Nat.mod_eq_of_lt B]
   rw [Y,show Ag [(n:Int)] 0=some (n:Int) from rfl,Ad,show Ax (n:Int)=n from C7 (by omega) (by omega),Awb m n (by omega) (by omega) (by omega),Ad]
   have a7:m % n<n:=Nat.mod_lt _ (by omega)
   rw [Alk,Tu (m % n) (by omega),Ad]
  .rw [Cv (by omega:((Ae n).length:Int)≠1),cond_false]
   have hw:Ac (((Ae m).length:Int)-1)=((Ae m).length:Int)-1:=by rw [Ac,Bx] <;> omega
   rw [Is rfl rfl (Nat.le_refl _) (by omega) (by omega),hw]
   simp only [Ad]
   have ha:=Ee m
   refine Ho (fun (r,i,q)=>∃(k R:Nat),r=Ae R/\i=(k:Int)-1/\k<=(Ae m).length/\R<n/\q.length=(Ae m).length/\Bw q/\Ai (q.drop k)*n+R=Ai ((Ae m).drop k))
    (fun (_,i,_)=>(i+1).toNat) (fun (r,q)=>∃R:Nat,r=Ae R/\R<n/\q.length=(Ae m).length/\Bw q/\Ai q*n+R=m)
    ⟨(Ae m).length,0,by rw [Fi],rfl,Nat.le_refl _,by omega,by simp,Bw.replicate _,by simp [Ai]⟩ ?_ ?_
   .rintro ⟨r,i,q⟩ ⟨k,R,rfl,rfl,hk,J,u,g,A⟩
    cases k with
    | zero=>exact .inr ⟨(Ae R,q),by simp,R,rfl,J,u,g,by simpa [Eu] using A⟩
    | succ j=>
     have hj:j<(Ae m).length:=by omega
     have E:j<q.length:=by omega
     have hx:=ha.get hj
     obtain ⟨x,y⟩:∃x:Nat,(Ae m)[j]=(x:Int):=⟨(Ae m)[j].toNat,by omega⟩
     have L:x<1000000000:=by omega
     have e0:((j+1:Nat):Int)-1=(j:Int):=by omega
     have e1:decide ((j:Int)>=0)=true:=Al (by omega)
     have Z:Bd R<=Bd n:=Gn (by omega)
     have ac:Bd (x+1000000000*R)<=Bd R+1:=by
      have:=Awl x R
      rwa [Nat.mod_eq_of_lt L] at this
     have ah:(Ae R).length<=(Ae n).length:=Z
     have G:I6 ((x:Int)::Ae R)=some (Ae (x+1000000000*R)):=by
      rw [Q7 _ (by simp; omega)]
      congr 1
      refine J6 ?_ ?_
      .intro d hd
       rcases List.mem_cons.1 hd with rfl | hd
       .omega
       .exact Ee R d hd
      .simp only [Ai,Eu]; omega
     obtain ⟨d0,U,ag⟩:=Awk (x+1000000000*R) n (by unfold Bd; omega) (by omega) (by omega)
     generalize a6:x+1000000000*R=f at *
     have ab:f<1000000000*n:=by omega
     have s:∀d:Nat,d<18446744073709551616->M8 (d:Int)=some (Ae d)/\Mj (Ae n) (Ae d)=some (Ae (n*d)):=by
      intro d hd
      have:=Q4 hd
      exact ⟨by rw [Alk,Tu d hd],Aas n d (by omega) (by omega)⟩
     have I:∀d:Nat,d<18446744073709551616->Og (Ae (n*d)) (Ae f)=some (Eh (n*d) f):=by
      intro d hd
      have h3:=Q4 hd
      have h4:=Gp n d
      rw [Aaq,Q5 _ _ (by omega) (by omega)]
     simp only [e0,e1,cond_true,Dp rfl hj,y,Ad,Dj (show ([(x:Int)].length+(Ae R).length)*4<=_ by simp; omega),List.singleton_append,G,U]
     refine .inl (Aae (Fb (fun d=>∃e:Nat,d=e/\e<=d0) (fun d=>d.toNat) (fun d=>∃e:Nat,d=e/\e<=d0/\n*e<=f) ⟨d0,rfl,Nat.le_refl _⟩ ?_ ?_))
     .rintro d ⟨e,rfl,he⟩
      by_cases X:e=0
      .subst X
       exact .inr ⟨0,rfl,0,rfl,by omega,by simp⟩
      .obtain ⟨m1,m2⟩:=s e (by omega)
       simp only [Al (by omega:(e:Int)>0),cond_true,m1,m2,I e (by omega),Ad]
       by_cases hc:f<n*e
       .refine .inl ⟨((e-1:Nat):Int),?_,⟨e-1,rfl,by omega⟩,by simp; omega⟩
        rw [show Eh (n*e) f=1 by rw [Eh,if_neg (by omega),if_pos hc],show decide ((1:Int)>0)=true from rfl,cond_true,show Ax ((e:Int)-1)=((e-1:Nat):Int) by rw [Ax,C7] <;> omega]
       .refine .inr ⟨(e:Int),?_,e,rfl,he,by omega⟩
        rw [Aq (show ¬Eh (n*e) f>0 by rw [Eh,if_neg hc]; split <;> decide),cond_false]
     .rintro d ⟨e,rfl,he,N⟩
      obtain ⟨m1,m2⟩:=s e (by omega)
      simp only [m1,m2,Ad,Aar f (n*e) (by omega) N]
      refine Fb (fun (r,d)=>∃(c b:Nat),r=Ae c/\d=b/\n*b+c=f) (fun (r,_)=>(Ai r).toNat) (fun (r,d)=>∃(c b:Nat),r=Ae c/\d=b/\n*b+c=f/\c<n) ⟨f-n*e,e,rfl,rfl,by omega⟩ ?_ ?_
      .rintro ⟨r,d⟩ ⟨c,b,rfl,rfl,M⟩
       have aa:Bd c<=Bd f:=Gn (by omega)
       have V:b<1000000000:=by
        rcases Nat.lt_or_ge b 1000000000 with h | h
        .exact h
        .exfalso
         have:n*1000000000<=n*b:=Nat.mul_le_mul_left n h
         omega
       simp only [Aaq,Q5 c n (by omega) (by omega),Ad]
       by_cases hc:c<n
       .refine .inr ⟨(Ae c,(b:Int)),?_,c,b,rfl,rfl,M,hc⟩
        rw [Aq (show ¬Eh c n>=0 by rw [Eh,if_pos hc]; decide),cond_false]
       .refine .inl ⟨(Ae (c-n),((b+1:Nat):Int)),?_,⟨c-n,b+1,rfl,rfl,?_⟩,?_⟩
        .rw [Al (show Eh c n>=0 by rw [Eh,if_neg hc]; split <;> decide),cond_true,Aar c n (by omega) (by omega),Ad,show Ax ((b:Int)+1)=((b+1:Nat):Int) by rw [Ax,C7] <;> omega]
        .rw [Nat.mul_add]; omega
        .simp only [Eu]; omega
      .rintro ⟨r,d⟩ ⟨c,b,rfl,rfl,M,a1⟩
       have V:b<1000000000:=by
        rcases Nat.lt_or_ge b 1000000000 with h | h
        .exact h
        .exfalso
         have:n*1000000000<=n*b:=Nat.mul_le_mul_left n h
         omega
       have w1:Cf (b:Int)=b:=Ff (by omega) (by omega)
       have w8:Ac ((j:Int)-1)=(j:Int)-1:=by rw [Ac,Bx] <;> omega
       refine ⟨_,by simp only [Dp rfl E,Ad,w1,w8,Fq rfl],(Ae c,(j:Int)-1,q.set j (b:Int)),rfl,⟨j,c,rfl,rfl,by omega,a1,by simpa using u,g.set _ (by omega) (by omega),?_⟩,by simp⟩
       have d1:(q.set j (b:Int)).drop j=(b:Int)::q.drop (j+1):=by
        rw [List.drop_eq_getElem_cons (by simpa using E),List.drop_set_of_lt (by omega)]; simp
       rw [d1,List.drop_eq_getElem_cons hj,y]
       simp only [Ai]
       rw [<-A]
       have:((n*b+c:Nat):Int)=((x+1000000000*R:Nat):Int):=by rw [M,a6]
       simp only [Int.natCast_add,Int.natCast_mul] at this
       grind
   .rintro ⟨r,q⟩ ⟨R,rfl,J,u,g,A⟩
    dsimp only
    have ad:=F8 g.u32
    obtain ⟨Q,hQ⟩:∃Q:Nat,Ai q=Q:=⟨(Ai q).toNat,by omega⟩
    rw [hQ] at A
    have z:Q*n+R=m:=by
     have:((Q*n+R:Nat):Int)=(m:Int):=by simp only [Int.natCast_add,Int.natCast_mul]; exact A
     omega
    have hd:m / n=Q:=by rw [<-z,Nat.mul_comm,Nat.mul_add_div (by omega),Nat.div_eq_of_lt J]; rfl
    have S:m % n=R:=by rw [<-z,Nat.mul_comm,Nat.mul_add_mod,Nat.mod_eq_of_lt J]
    rw [Q7 q (by omega),Ad,J6 g hQ,hd,S]
theorem Awm (m n:Nat) (hm:Bd m<137438953472) (g:Bd n<137438953472):Vp (Ae m) (Ae n)=some (Ae (Nat.gcd m n)):=by
 unfold Vp
 refine Ho (fun (a,b)=>∃x y:Nat,a=Ae x/\b=Ae y/\Bd x<137438953472/\Bd y<137438953472/\Nat.gcd x y=Nat.gcd m n) (fun (_,b)=>(Ai b).toNat)
  (fun r=>r=Ae (Nat.gcd m n)) ⟨m,n,rfl,rfl,hm,g,rfl⟩ ?_ (by rintro e rfl; rfl)
 rintro ⟨a,b⟩ ⟨x,y,rfl,rfl,hx,hy,f⟩
 by_cases c:y=0
 .subst c
  refine .inr ⟨Ae x,by rw [Fi]; rfl,?_⟩
  rw [<-f,Nat.gcd_zero_right]
 .have h:(Ae y).length≠0:=fun e=>Hq c (List.length_eq_zero_iff.1 e)
  have i:decide (((Ae y).length:Int)>0)=true:=Al (by omega)
  refine .inl ⟨(Ae y,Ae (x % y)),?_,⟨y,x % y,rfl,rfl,hy,by have:=Gn (Nat.mod_le x y); omega,?_⟩,?_⟩
  .simp only [i,cond_true,Ae5 x y hx hy c,Ad]
  .rw [<-f,Nat.gcd_comm y,<-Nat.gcd_rec,Nat.gcd_comm]
  .simp only [Eu]
   have:=Nat.mod_lt x (by omega:y>0)
   omega
end Go.Ab
namespace Go.Ab
open Go
def O3 (b:Bool) (n d:Nat):Ak:=if d=0 then ⟨false,[],[1]⟩ else Bt b n d
theorem Ae6 {n:Nat} (h:n≠0):(Ae n).length≠0:=fun e=>Hq h (List.length_eq_zero_iff.1 e)
theorem All (c:Bool) (a b:List Int) (ha:J5 a) (hb:J5 b) (s:a.length<137438953400) (q:b.length<137438953400):Lh c a b=some (O3 c (Ai a).toNat (Ai b).toNat):=by
 unfold Lh
 have h1:=Aap ha
 have h2:=Aap hb
 rw [Alj a ha (by omega),Ad,Alj b hb (by omega),Ad]
 generalize (Ai a).toNat=n at *
 generalize (Ai b).toNat=d at *
 by_cases g:n=0
 .subst g
  have:O3 c 0 d=⟨false,[],[1]⟩:=by unfold O3; split <;> simp [Bt]
  rw [this,Fi]; rfl
 .have k:=Ae6 g
  by_cases hd:d=0
  .subst hd
   simp only [Cv (by omega:((Ae n).length:Int)≠0),cond_false,Fi,Ad]
   rfl
  .have l:=Ae6 hd
   have f:Nat.gcd n d≠0:=by have:=Nat.gcd_pos_of_pos_left d (by omega:0<n); omega
   have x:Bd (Nat.gcd n d)<=Bd n:=Gn (Nat.gcd_le_left d (by omega:0<n))
   simp only [Cv (by omega:((Ae n).length:Int)≠0),cond_false,Cv (by omega:((Ae d).length:Int)≠0),Ad,Awm n d (by omega) (by omega)]
   rw [O3,if_neg hd,Bt,if_neg g]
   have key:(bif (((Ae (Nat.gcd n d)).length:Int) != (1:Int)) then some true else ((Ag (Ae (Nat.gcd n d)) 0).bind fun j=>some (j != (1:Int))))=some (decide (Nat.gcd n d≠1)):=by
    have h3:=Aex (Nat.gcd n d)
    unfold Ql at h3
    by_cases u:(Ae (Nat.gcd n d)).length=1
    .rw [Es (by omega:((Ae (Nat.gcd n d)).length:Int)=1),cond_true] at h3
     rw [Fc (by omega:((Ae (Nat.gcd n d)).length:Int)=1),cond_false]
     cases i:Ag (Ae (Nat.gcd n d)) 0 with
     | none=>rw [i] at h3; cases h3
     | some v=>
      rw [i] at h3
      simp only [Ad] at h3 ⊢
      have h3:=Option.some.inj h3
      congr 1
      rw [bne,h3]; simp
    .rw [Cv (by omega:((Ae (Nat.gcd n d)).length:Int)≠1),cond_false] at h3
     rw [Et (by omega:((Ae (Nat.gcd n d)).length:Int)≠1),cond_true]
     have h3:=Option.some.inj h3
     have:Nat.gcd n d≠1:=by simpa using h3.symm
     rw [Al this]
   rw [key,Ad]
   by_cases h:Nat.gcd n d=1
   .rw [Aq (by simpa using h),cond_false,h]; simp
   .rw [Al h,cond_true,Ae5 n _ (by omega) (by omega) f,Ad,Ae5 d _ (by omega) (by omega) f,Ad]
theorem Awn (a:Ak):O3 a.Neg (Ai a.Num).toNat (Ai a.Den).toNat=Bt (sv a) (nv a) (dv a):=by
 unfold O3 sv nv dv
 by_cases b:(Ai a.Num).toNat=0
 .simp [b,Bt]
 .by_cases hd:(Ai a.Den).toNat=0
  .simp [hd,Bt]
  .simp [b,hd]
theorem Ae7 (a:Ak) (k:Nat) (h:RB k a) (hk:k<137438953400):S8 a=some (Bt (sv a) (nv a) (dv a)):=by
 unfold S8
 have:=h.nl
 have:=h.dl
 rw [All _ _ _ h.num h.den (by omega) (by omega),Ad,Awn]
theorem Ae8 (s:Bool) (n d:Nat) (hd:d≠0):(Bt s n d).Num=Ae (nv (Bt s n d))/\(Bt s n d).Den=Ae (dv (Bt s n d))/\(Bt s n d).Neg=sv (Bt s n d):=by
 obtain ⟨h1,h2,h3,c⟩:=Wv s n d hd
 rw [h1,h2]
 by_cases h0:n=0
 .subst h0
  rw [c rfl,Wu]
  have b:d / Nat.gcd 0 d=1:=by rw [Nat.gcd_zero_left]; exact Nat.div_self (by omega)
  rw [b,Nat.zero_div,Fi,Wt]; exact ⟨rfl,rfl,rfl⟩
 .rw [h3 h0]; simp [Bt,h0]
theorem Aau (a:Ak):∃g:Nat,g≠0/\nv a=g*nv (Bt (sv a) (nv a) (dv a))/\dv a=g*dv (Bt (sv a) (nv a) (dv a))/\sv (Bt (sv a) (nv a) (dv a))=sv a:=by
 obtain ⟨h1,h2,h3,b⟩:=Wv (sv a) (nv a) (dv a) (E6 a)
 have hd:=E6 a
 have c:0<Nat.gcd (nv a) (dv a):=Nat.gcd_pos_of_pos_right _ (by omega)
 refine ⟨Nat.gcd (nv a) (dv a),by omega,?_,?_,?_⟩
 .rw [h1]; exact (Nat.mul_div_cancel' (Nat.gcd_dvd_left _ _)).symm
 .rw [h2]; exact (Nat.mul_div_cancel' (Nat.gcd_dvd_right _ _)).symm
 .by_cases h0:nv a=0
  .rw [b h0]
   unfold nv at h0
   unfold sv
   split at h0
   .rename_i hc; rw [if_pos hc]
   .omega
  .exact h3 h0
theorem Awo (s:Bool) (n d:Nat) (h:d≠0):O3 s n d=Bt s n d:=by rw [O3,if_neg h]
theorem Ae9 (b:Bool) (n d:Nat) (f:Bd n<137438953400) (hd:Bd d<137438953400) (c:d≠0):Lh b (Ae n) (Ae d)=some (Bt b n d):=by
 unfold Bd at f hd
 rw [All b _ _ (Ee n).u32 (Ee d).u32 f hd,Eu,Eu,Int.toNat_natCast,Int.toNat_natCast,Awo _ _ _ c]
theorem Alm {k:Nat} {a:Ak} (h:RB k a):RB (k+1) (Bt (sv a) (nv a) (dv a)):=Lr _ _ _ _ h.nv h.dv (by omega)
theorem Aln {k:Nat} {a:Ak} (h:RB k a):Bd (nv (Bt (sv a) (nv a) (dv a)))<=k+1/\Bd (dv (Bt (sv a) (nv a) (dv a)))<=k+1:=by
 obtain ⟨g,b,h1,h2,_⟩:=Aau a
 have a1:=h.nv
 have a2:=h.dv
 refine ⟨Nat.le_trans (Gn ?_) a1,Nat.le_trans (Gn ?_) a2⟩
 .exact Nat.le_trans (Nat.le_mul_of_pos_left _ (by omega)) (Nat.le_of_eq h1.symm)
 .exact Nat.le_trans (Nat.le_mul_of_pos_left _ (by omega)) (Nat.le_of_eq h2.symm)
theorem Awp (l:Bool) (c j:Nat) (k:Bool) (b i g h:Nat) (y:g≠0) (x:h≠0):H5 l (g*c) (g*j) k (h*b) (h*i)=g*h*H5 l c j k b i/\Jg l (g*c) (g*j) k (h*b) (h*i)=Jg l c j k b i:=by
 have u:g*c*(h*i)=g*h*(c*i):=by grind
 have s:h*b*(g*j)=g*h*(b*j):=by grind
 have hc:(g*h*(b*j)<=g*h*(c*i))↔(b*j<=c*i):=Nat.mul_le_mul_left_iff (Nat.mul_pos (by omega) (by omega))
 unfold H5 Jg
 rw [u,s]
 by_cases q:l=k
 .simp only [if_pos q]
  exact ⟨by rw [Nat.mul_add],trivial⟩
 .simp only [if_neg q]
  by_cases f:b*j<=c*i
  .simp only [if_pos f,if_pos (hc.2 f)]
   exact ⟨by rw [Nat.mul_sub],trivial⟩
  .simp only [if_neg f,if_neg (fun h=>f (hc.1 h))]
   exact ⟨by rw [Nat.mul_sub],trivial⟩
theorem Awq (a b:Ak) (j k:Nat) (ha:RB j a) (hb:RB k b) (hj:j<34359738368) (hk:k<34359738368) :
  Vo a b=some (Bt (Jg (sv a) (nv a) (dv a) (sv b) (nv b) (dv b)) (H5 (sv a) (nv a) (dv a) (sv b) (nv b) (dv b)) (dv a*dv b)):=by
 unfold Vo
 rw [Ae7 a j ha (by omega),Ad,Ae7 b k hb (by omega),Ad]
 obtain ⟨g,q,a1,a2,a3⟩:=Aau a
 obtain ⟨h,l,b1,b2,B⟩:=Aau b
 obtain ⟨f1,f2,f3⟩:=Ae8 (sv a) (nv a) (dv a) (E6 a)
 obtain ⟨A,y,x⟩:=Ae8 (sv b) (nv b) (dv b) (E6 b)
 obtain ⟨I,G⟩:=Aln ha
 obtain ⟨E,D⟩:=Aln hb
 rw [f1,f2,f3,A,y,x,a3,B]
 generalize hc:Bt (sv a) (nv a) (dv a)=c at *
 generalize hd:Bt (sv b) (nv b) (dv b)=d at *
 have m1:=Gp (nv c) (dv d)
 have m2:=Gp (nv d) (dv c)
 have m3:=Gp (dv c) (dv d)
 have m4:=Ts (nv c*dv d) (nv d*dv c)
 have m5:=Gn (Nat.sub_le (nv c*dv d) (nv d*dv c))
 have m6:=Gn (Nat.sub_le (nv d*dv c) (nv c*dv d))
 have z:dv c*dv d≠0:=Nat.mul_ne_zero (E6 c) (E6 d)
 obtain ⟨u,s⟩:=Awp (sv a) (nv c) (dv c) (sv b) (nv d) (dv d) g h q l
 rw [a1,a2,b1,b2,u,s,show g*dv c*(h*dv d)=g*h*(dv c*dv d) by grind,Q6 _ _ _ _ (Nat.mul_ne_zero q l)]
 rw [Aas _ _ (by omega) (by omega),Ad,Aas _ _ (by omega) (by omega),Ad,Aas _ _ (by omega) (by omega),Ad]
 unfold Jg H5
 by_cases i:sv a=sv b
 .have e:(sv a==sv b)=true:=by rw [i]; exact beq_self_eq_true _
  rw [e,cond_true,Awd _ _ (by omega) (by omega),Ad,Ae9 _ _ _ (by omega) (by omega) z,Ad,if_pos i,if_pos i]
 .have e:(sv a==sv b)=false:=by simpa using i
  rw [e,cond_false,Aaq,Q5 _ _ (by omega) (by omega),Ad,if_neg i,if_neg i]
  by_cases f:nv d*dv c<=nv c*dv d
  .rw [Al (show Eh (nv c*dv d) (nv d*dv c)>=0 by rw [Eh,if_neg (by omega)]; split <;> decide),cond_true,Aar _ _ (by omega) f,Ad,Ae9 _ _ _ (by omega) (by omega) z,Ad,if_pos f,if_pos f]
  .rw [Aq (show ¬Eh (nv c*dv d) (nv d*dv c)>=0 by rw [Eh,if_pos (by omega)]; decide),cond_false,Aar _ _ (by omega) (by omega),Ad,Ae9 _ _ _ (by omega) (by omega) z,Ad,if_neg f,if_neg f]
theorem Awr (a:Ak) (k:Nat) (h:RB k a) (hk:k<137438953400):Vn a=some (H4 (sv a) (nv a)):=by
 unfold Vn
 rw [Ae7 a k h hk,Ad]
 obtain ⟨g,b,a1,a2,a3⟩:=Aau a
 obtain ⟨f1,f2,f3⟩:=Ae8 (sv a) (nv a) (dv a) (E6 a)
 rw [f1,f3,a3,H4]
 by_cases h0:nv a=0
 .have:nv (Bt (sv a) (nv a) (dv a))=0:=by
   rw [h0] at a1
   rcases Nat.mul_eq_zero.1 a1.symm with h | h
   .exact (b h).elim
   .rw [h0]; exact h
  rw [this,Fi,if_pos h0]; rfl
 .have:nv (Bt (sv a) (nv a) (dv a))≠0:=by
   intro e; rw [e,Nat.mul_zero] at a1; exact h0 a1
  have:=Ae6 this
  rw [Cv (by omega),cond_false,if_neg h0]
  cases sv a <;> rfl
end Go.Ab
namespace Go.Ab
open Go
theorem Aav (s:Bool) (n d:Nat) (hd:d≠0):∃g:Nat,g≠0/\n=g*nv (Bt s n d)/\d=g*dv (Bt s n d)/\(n≠0->sv (Bt s n d)=s)/\(n=0->sv (Bt s n d)=false):=by
 obtain ⟨h1,h2,h3,b⟩:=Wv s n d hd
 have c:0<Nat.gcd n d:=Nat.gcd_pos_of_pos_right _ (by omega)
 exact ⟨Nat.gcd n d,by omega,by rw [h1]; exact (Nat.mul_div_cancel' (Nat.gcd_dvd_left _ _)).symm,by rw [h2]; exact (Nat.mul_div_cancel' (Nat.gcd_dvd_right _ _)).symm,h3,b⟩
theorem Aws (s t:Bool) (n d m e:Nat) (hd:d≠0) (l:e≠0):Bt (sv (Bt s n d) != sv (Bt t m e)) (nv (Bt s n d)*nv (Bt t m e)) (dv (Bt s n d)*dv (Bt t m e))=Bt (s != t) (n*m) (d*e):=by
 obtain ⟨g,k,a1,a2,a3,_⟩:=Aav s n d hd
 obtain ⟨h,j,b1,b2,u,_⟩:=Aav t m e l
 have q:Bt (s != t) (n*m) (d*e)=Bt (sv (Bt s n d) != sv (Bt t m e)) (n*m) (d*e):=by
  apply Alh
  intro b
  have i:n≠0:=fun e=>b (by rw [e]; simp)
  have hm:m≠0:=fun e=>b (by rw [e]; simp)
  rw [a3 i,u hm]
 rw [q]
 generalize Bt s n d=c at *
 generalize Bt t m e=f at *
 rw [a1,a2,b1,b2,show g*nv c*(h*nv f)=g*h*(nv c*nv f) by grind,show g*dv c*(h*dv f)=g*h*(dv c*dv f) by grind,Q6 _ _ _ _ (Nat.mul_ne_zero k j)]
def F2 (n:Nat):Nat->Nat
 | 0=>1
 | k+1=>F2 n k*(n-k)
def fct:Nat->Nat
 | 0=>1
 | k+1=>fct k*(k+1)
theorem Aaw:∀k,fct k≠0
 | 0=>by decide
 | k+1=>Nat.mul_ne_zero (Aaw k) (by omega)
theorem Awt {n k:Nat} (h:n<k):F2 n k=0:=by
 induction k with
 | zero=>omega
 | succ k ih=>
  simp only [F2]
  rcases Nat.lt_or_ge n k with h' | h'
  .rw [ih h']; simp
  .have:n-k=0:=by omega
   rw [this]; simp
theorem Awu (n k:Nat) (b:n<1000000000):Bd (F2 n k)<=k+1:=by
 induction k with
 | zero=>simp [F2,Mr]
 | succ k ih=>
  have h1:=Gp (F2 n k) (n-k)
  have h2:Bd (n-k)<=1:=Je (by simp; omega)
  simp only [F2]; omega
theorem Awv (k:Nat) (hk:k<1000000000):Bd (fct k)<=k+1:=by
 induction k with
 | zero=>simp [fct,Mr]
 | succ k ih=>
  have h1:=Gp (fct k) (k+1)
  have h2:Bd (k+1)<=1:=Je (by simp; omega)
  simp only [fct]
  have:=ih (by omega)
  omega
theorem Alo {n:Nat} (h:n<1000000000):Bd n<=1:=Je (by simpa using h)
theorem Aww (n k:Nat) (b:n<1000000000) (hk:k<=64):RB (k+1) (Bt false (F2 n k) (fct k)) :=
 Lr _ _ _ _ (Awu n k b) (Awv k (by omega)) (by omega)
theorem Alp (a:Ak):Ak.mk a.Neg a.Num a.Den=a:=by cases a; rfl
theorem Alq (n k:Nat) (z:n<1000000000) (hk:k<=64):Ti (n:Int) (k:Int)=some (Bt false (F2 n k) (fct k)):=by
 unfold Ti
 have A:Ep 1=some (Bt false (F2 n 0) (fct 0)):=Tv 1 (by decide) (by decide)
 rw [A,Ad]
 refine Ho (fun (i,s,b,c)=>∃q:Nat,i=q/\q<=k/\q<=n/\Ak.mk s b c=Bt false (F2 n q) (fct q)) (fun (i,_,_,_)=>k-i.toNat)
  (fun e=>match e with | .inl r=>r=Bt false (F2 n k) (fct k) | .inr (s,b,c)=>Ak.mk s b c=Bt false (F2 n k) (fct k)) ⟨0,rfl,by omega,by omega,Alp _⟩ ?_ ?_
 .rintro ⟨i,s,b,c⟩ ⟨q,rfl,hq,y,ha⟩
  rcases Nat.lt_or_ge q k with h | h
  .simp only [Al (by omega:(q:Int)<(k:Int)),cond_true]
   by_cases u:n=q
   .subst u
    refine .inr ⟨.inl (Bt false 0 1),?_,?_⟩
    .rw [Es rfl,cond_true,Tv 0 (by decide) (by decide)]; rfl
    .show Bt false 0 1=_
     rw [Awt h,Wu,Wu]
   .have l:Ac ((n:Int)-(q:Int))=((n-q:Nat):Int):=by rw [Ac,Bx] <;> omega
    have j:Ac ((q:Int)+1)=((q+1:Nat):Int):=J7 h (by omega)
    have x:Qw ((n-q:Nat):Int) ((q+1:Nat):Int)=some (Bt false (n-q) (q+1)):=by
     rw [Av9 _ _ (by omega) (by omega) (by omega) (by omega) (by omega),Aq (by omega:¬((n-q:Nat):Int)<0),Aq (by omega:¬((q+1:Nat):Int)<0)]; rfl
    have g:RB 1 (Bt false (n-q) (q+1)):=Lr _ _ _ _ (Alo (by omega)) (Alo (by omega)) (by omega)
    have hm:=Ae1 _ _ _ _ (Aww n q z (by omega)) g (by omega) (by omega)
    rw [Aws false false (F2 n q) (fct q) (n-q) (q+1) (Aaw q) (by omega)] at hm
    refine .inl ⟨(((q+1:Nat):Int),(Bt false (F2 n (q+1)) (fct (q+1))).Neg,(Bt false (F2 n (q+1)) (fct (q+1))).Num,(Bt false (F2 n (q+1)) (fct (q+1))).Den),?_,⟨q+1,rfl,by omega,by omega,Alp _⟩,by simp; omega⟩
    rw [Cv (by omega),cond_false,l,j,x,Ad,ha,hm,Ad]; rfl
  .have:q=k:=by omega
   subst this
   refine .inr ⟨.inr (s,b,c),by simp,ha⟩
 .rintro (e | ⟨s,b,c⟩) f
  .simp only at f ⊢; rw [f]
  .simp only at f ⊢; rw [f]
end Go.Ab
namespace Go.Ab
open Go
mutual
def B8:Aj->Nat
 | ⟨_,_,l⟩=>1+C3 l
def C3:List Aj->Nat
 | []=>0
 | x::xs=>B8 x+C3 xs
end
theorem Kw (t:Aj):B8 t=1+C3 t.Args:=by cases t; simp only [B8]
theorem Tx (t:Aj):1<=B8 t:=by rw [Kw]; omega
theorem Lt {l:List Aj} {a:Aj} (h:a∈l):B8 a<=C3 l:=by
 induction l with
 | nil=>cases h
 | cons x xs ih=>
  simp only [C3]
  rcases List.mem_cons.1 h with rfl | h
  .omega
  .have:=ih h; omega
theorem Ms (l:List Aj):l.length<=C3 l:=by
 induction l with
 | nil=>simp
 | cons x xs ih=>simp only [C3,List.length_cons]; have:=Tx x; omega
theorem Aax (l m:List Aj):C3 (l++m)=C3 l+C3 m:=by
 induction l with
 | nil=>simp [C3]
 | cons x xs ih=>simp only [List.cons_append,C3,ih]; omega
def Kx (data:List A9) (vars k n:Int) (len:Nat):Bool :=
 if k=1\/k=2\/k=3 then n==0&&len==0
 else if k=4 then decide (0<=n)&&decide (n<vars)&&len==0
 else if k=5 then decide (0<=n)&&(match data[n.toNat]? with | some d=>(len:Int)==d.Vars | none=>false)
 else if k=6 then n==0&&decide (2<=len)&&decide (len<=6)
 else if k=7\/k=8 then n==0&&len==1
 else if k=9 then n==0&&decide (1<=len)&&decide (len<=7)
 else false
mutual
def F9 (data:List A9) (vars:Int):Aj->Bool
 | ⟨k,n,l⟩=>Kx data vars k n l.length&&Fr data vars l
def Fr (data:List A9) (vars:Int):List Aj->Bool
 | []=>true
 | x::xs=>F9 data vars x&&Fr data vars xs
end
theorem Afa (data:List A9) (vars:Int) (t:Aj):F9 data vars t=(Kx data vars t.Kind t.Num t.Args.length&&Fr data vars t.Args):=by cases t; simp only [F9]
theorem Awx {α:Type} (l:List α) (n:Nat):((l.length:Int)==(n:Int))=(l.length==n):=by
 by_cases h:l.length=n
 .subst h; simp
 .rw [Cv (by omega)]; simp [h]
theorem Awy (k:Nat) (t:Aj) (data:List A9) (vars left:Int) (h1:1<=left) (h2:left<=1000) :
  Lj (k+1) t ⟨data,vars,left⟩=bif Kx data vars t.Kind t.Num t.Args.length then ((Tn k t.Args ⟨data,vars,left-1⟩).bind fun v12=>some ((!v12.1),v12.2)) else some (false,⟨data,vars,left-1⟩):=by
 have hw:Ac (left-1)=left-1:=Bx (by omega) (by omega)
 have b:¬left-1<0:=by omega
 rw [Lj]
 simp only [hw,Aq b,cond_false]
 generalize g:(Tn k t.Args ⟨data,vars,left-1⟩).bind (fun v12=>some ((!v12.1),v12.2))=X
 generalize f:(some (false,⟨data,vars,left-1⟩):Option (Bool×Fy))=Y
 unfold Kx Ag
 generalize t.Args.length=len
 generalize t.Kind=c
 generalize t.Num=n
 cases hd:data[n.toNat]? <;> simp only [Bool.cond_eq_ite,Avt,Ad,Option.bind_none,hd] <;> grind
theorem Afb {l:List Aj} {j:Nat} (h:j<l.length):C3 (l.take (j+1))=C3 (l.take j)+B8 l[j]:=by
 rw [List.take_succ_eq_append_getElem h,Aax]; simp [C3]
theorem Alr (data:List A9) (vars:Int) (l m:List Aj):Fr data vars (l++m)=(Fr data vars l&&Fr data vars m):=by
 induction l with
 | nil=>simp [Fr]
 | cons x xs ih=>simp only [List.cons_append,Fr,ih,Bool.and_assoc]
theorem Als (data:List A9) (vars:Int) {l:List Aj} {j:Nat} (h:j<l.length):Fr data vars (l.take (j+1))=(Fr data vars (l.take j)&&F9 data vars l[j]):=by
 rw [List.take_succ_eq_append_getElem h,Alr]; simp [Fr]
theorem Afc (l:List Aj) (j:Nat):C3 (l.take j)<=C3 l:=by
 have:=Aax (l.take j) (l.drop j)
 rw [List.take_append_drop] at this; omega
theorem Awz (data:List A9) (vars:Int) (l:List Aj) (j:Nat) (h:Fr data vars l=true):Fr data vars (l.take j)=true:=by
 have:=Alr data vars (l.take j) (l.drop j)
 rw [List.take_append_drop,h] at this
 have:=this.symm
 simp only [C9] at this
 exact this.1
theorem Aw0 (data:List A9) (vars:Int) (k:Nat) (l:List Aj) (c:Nat) (G:l.length<1099511627776)
  (ih:∀(a:Aj),a∈l->∀f:Nat,f<=c->∃g:Int,Lj k a ⟨data,vars,f⟩=some (F9 data vars a&&decide (B8 a<=f),⟨data,vars,g⟩)/\((F9 data vars a&&decide (B8 a<=f))=true->g=(f:Int)-B8 a)) :
  ∃p:Int×Int,Wo (k+2) l ⟨data,vars,c⟩=some (p.1,⟨data,vars,p.2⟩)/\((Fr data vars l&&decide (C3 l<=c))=true->p.1 = -1/\p.2=(c:Int)-C3 l)/\((Fr data vars l&&decide (C3 l<=c))=false->0<=p.1):=by
 rw [Wo]
 refine Aaf (fun p:Int×Int=>(p.1,Fy.mk data vars p.2)) (Fb
  (fun (v3,v4,v5,s)=>∃j:Nat,v3=j/\j<=l.length/\v4=data/\v5=vars/\Fr data vars (l.take j)=true/\C3 (l.take j)<=c/\s=(c:Int)-C3 (l.take j))
  (fun (v3,_,_,_)=>l.length-v3.toNat)
  (fun z=>match z with | .inl (i,b)=>0<=i/\(∃g,b=⟨data,vars,g⟩)/\(Fr data vars l&&decide (C3 l<=c))=false | .inr (v4,v5,s)=>v4=data/\v5=vars/\(Fr data vars l&&decide (C3 l<=c))=true/\s=(c:Int)-C3 l)
  ⟨0,rfl,by omega,rfl,rfl,rfl,by simp [C3],by simp [C3]⟩ ?_ ?_)
 .rintro ⟨v3,v4,v5,s⟩ ⟨j,rfl,hj,rfl,rfl,x,A,rfl⟩
  rcases Nat.lt_or_ge j l.length with h | h
  .obtain ⟨u,y⟩:∃u:Nat,(c:Int)-C3 (l.take j)=u/\u<=c:=⟨c-C3 (l.take j),by omega,by omega⟩
   obtain ⟨g,E,D⟩:=ih l[j] (List.getElem_mem h) u y.2
   simp only [Al (by omega:(j:Int)<(l.length:Int)),cond_true,Dp rfl h,Ad,V1,y.1,E]
   cases hb:(F9 v4 v5 l[j]&&decide (B8 l[j]<=u)) with
   | true=>
    have I:=D hb
    simp only [C9,decide_eq_true_eq] at hb
    refine .inl ⟨(((j+1:Nat):Int),v4,v5,g),?_,⟨j+1,rfl,by omega,rfl,rfl,?_,?_,?_⟩,by simp; omega⟩
    .simp only [D6,cond_false]
     rw [show Ac ((j:Int)+1)=((j+1:Nat):Int) by rw [Ac,Bx] <;> omega]
    .rw [Als _ _ h,x,hb.1]; rfl
    .rw [Afb h]; omega
    .show g=_
     rw [Afb h]; omega
   | false=>
    refine .inr ⟨.inl ((j:Int),⟨v4,v5,g⟩),by simp,by omega,⟨g,rfl⟩,?_⟩
    cases q:(Fr v4 v5 l&&decide (C3 l<=c)) with
    | false=>rfl
    | true=>
     exfalso
     simp only [C9,decide_eq_true_eq] at q
     have a1:=Awz v4 v5 l (j+1) q.1
     rw [Als _ _ h] at a1
     simp only [C9] at a1
     have a2:=Afc l (j+1)
     rw [Afb h] at a2
     rw [a1.2,Bool.true_and,decide_eq_false_iff_not] at hb
     omega
  .have:j=l.length:=by omega
   subst this
   rw [List.take_length] at *
   refine .inr ⟨.inr (v4,v5,(c:Int)-C3 l),by simp,rfl,rfl,by simp [x,A],rfl⟩
 .rintro (⟨i,b⟩ | ⟨v4,v5,s⟩) B
  .obtain ⟨a1,⟨g,rfl⟩,a3⟩:=B
   exact ⟨_,rfl,(i,g),rfl,(fun h=>by rw [a3] at h; cases h),fun _=>a1⟩
  .obtain ⟨rfl,rfl,a3,rfl⟩:=B
   exact ⟨_,rfl,(-1,_),rfl,fun _=>⟨rfl,rfl⟩,fun h=>by rw [a3] at h; cases h⟩
theorem Aw1 (data:List A9) (vars:Int):∀(left:Nat) (t:Aj) (k:Nat),left<=200->4*left+4<=k->B8 t<1099511627776 ->
  ∃f:Int,Lj k t ⟨data,vars,left⟩=some (F9 data vars t&&decide (B8 t<=left),⟨data,vars,f⟩)/\((F9 data vars t&&decide (B8 t<=left))=true->f=(left:Int)-B8 t):=by
 intro left
 induction left using Nat.strongRecOn with
 | _ left s=>
  intro t k B hk ht
  have hp:=Tx t
  obtain ⟨g,rfl⟩:∃g,k=g+1:=⟨k-1,by omega⟩
  cases left with
  | zero=>
   refine ⟨-1,?_,fun h=>by simp at h; omega⟩
   rw [Lj]
   have hd:decide (B8 t<=0)=false:=Aq (by omega)
   rw [hd,Bool.and_false]
   rfl
  | succ b=>
   rw [Awy g t data vars ((b+1:Nat):Int) (by omega) (by omega)]
   have z:((b+1:Nat):Int)-1=(b:Int):=by omega
   rw [z,Afa]
   cases A:Kx data vars t.Kind t.Num t.Args.length with
   | false=>exact ⟨b,by simp,fun h=>by simp at h⟩
   | true=>
    obtain ⟨q,rfl⟩:∃q,g=q+3:=⟨g-3,by omega⟩
    have j:=Kw t
    have x:=Ms t.Args
    obtain ⟨⟨i,f⟩,h1,h2,h3⟩:=Aw0 data vars q t.Args b (by omega) (fun a ha c y=>by
     have:=Lt ha
     exact s c (by omega) a q (by omega) (by omega) (by omega))
    have l:decide (B8 t<=b+1)=decide (C3 t.Args<=b):=by
     rw [j]; congr 1; simp only [eq_iff_iff]; omega
    simp only [cond_true,Tn,h1,Ad,Bool.true_and,l]
    refine ⟨f,?_,fun h=>?_⟩
    .cases hb:(Fr data vars t.Args&&decide (C3 t.Args<=b)) with
     | true=>
      have u:i = -1:=(h2 hb).1
      rw [Aq (by omega:¬i>=0)]; rfl
     | false=>
      have u:0<=i:=h3 hb
      rw [Al (by omega:i>=0)]; rfl
    .have u:f=(b:Int)-C3 t.Args:=(h2 h).2
     rw [u,j]; omega
theorem Wx (data:List A9) (t:Aj) (vars:Int) (ht:B8 t<1099511627776):Od data t vars=some (F9 data vars t&&decide (B8 t<=200)):=by
 unfold Od
 obtain ⟨b,h1,_⟩:=Aw1 data vars 200 t 4000000 (by decide) (by decide) ht
 have h1:Lj 4000000 t ⟨data,vars,200⟩=_:=h1
 rw [h1]; rfl
end Go.Ab
namespace Go.Ab
open Go
def Q8 (a:Aj) (i:Int):Bool:=a.Kind==4&&a.Num==i&&a.Args.length==0
def Alt (l:List Aj):Bool:=l.zipIdx.all fun q=>Q8 q.1 q.2
def Jh (t:Aj) (d vars:Int):Bool:=t.Kind==5&&t.Num==d&&(t.Args.length:Int)==vars&&Alt t.Args
def Iw (data:List A9) (d c:Int):List Bool :=
 match Ag data d with
 | none=>[]
 | some x=>match Ag x.Cons c with
  | none=>[]
  | some y=>y.Args.map fun t=>Jh t d x.Vars
theorem J8 {α:Type} {l:List α} {i:Int} {x:α} (h:Ag l i=some x):0<=i/\i<l.length/\l[i.toNat]? = some x/\x∈l:=by
 unfold Ag at h
 split at h
 .have h1:i.toNat<l.length:=Fd h
  exact ⟨by assumption,by omega,h,Ct h⟩
 .cases h
theorem Wy {α:Type} {l:List α} {i:Int} (h:Ag l i=none):i<0\/(l.length:Int)<=i:=by
 unfold Ag at h
 split at h
 .rw [List.getElem?_eq_none_iff] at h
  right; omega
 .left; omega
theorem Aw2 {R:Type} (data:List A9) (d c:Int) (F:A9->Nm->Option R) (z:R) (X:Option R)
  (f:X=((bif (decide (d<(0:Int))) then some true else bif (decide (d>=(data.length:Int))) then some true else bif (decide (c<(0:Int))) then some true else
   (Ag data d).bind fun b=>some (decide (c>=(b.Cons.length:Int))):Option Bool).bind fun v2=>bif v2 then some z else (Ag data d).bind fun v3=>(Ag v3.Cons c).bind fun v4=>F v3 v4)) :
  X=match Ag data d with
   | none=>some z
   | some x=>match Ag x.Cons c with
    | none=>some z
    | some y=>F x y:=by
 subst f
 cases hx:Ag data d with
 | none=>
  rcases Wy hx with h | h
  .simp only [Al h,cond_true,Ad]
  .by_cases h':d<0
   .simp only [Al h',cond_true,Ad]
   .simp only [Aq h',Al (show d>=(data.length:Int) from h),cond_true,cond_false,Ad]
 | some x=>
  obtain ⟨a1,a2,_,_⟩:=J8 hx
  simp only [Aq (by omega:¬d<0),Aq (by omega:¬d>=(data.length:Int)),cond_false,Ad]
  cases hy:Ag x.Cons c with
  | none=>
   rcases Wy hy with h | h
   .simp only [Al h,cond_true,Ad]
   .by_cases h':c<0
    .simp only [Al h',cond_true,Ad]
    .simp only [Aq h',Al (show c>=(x.Cons.length:Int) from h),cond_true,cond_false,Ad]
  | some y=>
   obtain ⟨b1,b2,_,_⟩:=J8 hy
   simp only [Aq (by omega:¬c<0),Aq (by omega:¬c>=(x.Cons.length:Int)),cond_false,Ad]
def Aw3 (l:List Aj):Prop:=l.length<=4194304/\∀a∈l,a.Args.length<=4194304
def Wz (data:List A9):Prop:=∀x∈data,∀y∈x.Cons,Aw3 y.Args
theorem Afd {α:Type} (l m:List α) (y x:α) (i:Int) (n:Nat) (h:i=n) (b:n=l.length):Cr (l++y::m) i x=l++x::m:=by
 rw [Fq h]; subst b; simp
theorem Afe {α:Type} (l m:List α) (y:α) (i:Int) (n:Nat) (h:i=n) (b:n=l.length):Ag (l++y::m) i=some y:=by
 rw [Cj h]; subst b; simp
theorem Aw4 (l:List Aj) (k f:List Bool) (i:Int) (n:Nat) (b:Bool) (h:i=n) (s:n=k.length) (A:l.length<1099511627776) {R:Type} {J:Int×List Bool->Option R} {r:R}
  (z:J ((l.length:Int),k++(b&&Alt l)::f)=some r) :
  (Am (S:=(Int×(List Bool))) (E:=(Int×(List Bool))) (fun (c,g)=>
   bif (decide (c<(l.length:Int))) then (
   (Ag l c).bind fun v44=>
   bif (v44.Kind != (4:Int)) then (
   (Ag g i).bind fun v46=>
   some (.inl ((Ac (c+1)),(Cr g i false)))
   )
   else (
   bif (v44.Num != c) then (
   (Ag g i).bind fun y=>
   some (.inl ((Ac (c+1)),(Cr g i false)))
   )
   else (
   bif (decide ((v44.Args.length:Int)>(0:Int))) then (
   (Ag g i).bind fun u=>
   some (.inl ((Ac (c+1)),(Cr g i false)))
   )
   else (
   some (.inl ((Ac (c+1)),g))
   )
   )
   )
   )
   else (
   some (.inr (c,g))
   )
    ) (0,k++b::f)).bind J=some r:=by
 refine Iu l (fun j=>((j:Int),k++(b&&(l.take j).zipIdx.all (fun q=>Q8 q.1 q.2))::f)) (by simp) (by omega) ?_ ?_
 .intro j x hj hx h1 h2 h3
  have e:(l.take (j+1)).zipIdx.all (fun q=>Q8 q.1 q.2)=((l.take j).zipIdx.all (fun q=>Q8 q.1 q.2)&&Q8 x j):=by
   rw [Dk hx,List.zipIdx_append,List.all_append]; simp [Nat.min_eq_left (Nat.le_of_lt hj)]
  simp only [h1,h2,h3,cond_true,Ad,Afe k f _ i n h s,Afd k f _ _ i n h s,e]
  unfold Q8
  by_cases g1:x.Kind=4
  .by_cases g2:x.Num=j
   .by_cases g3:x.Args.length=0
    .rw [Aq (by omega)]; simp [g1,g2,g3]
    .rw [Al (by omega)]
     have:(x.Args.length==0)=false:=by simpa using g3
     simp [g1,g2,this]
   .simp [g1,g2,Et g2]
  .simp [g1,Et g1]
 .intro h1
  refine ⟨_,by simp only [h1]; rfl,?_⟩
  rw [List.take_length]
  exact z
theorem Alu (data:List A9) (d c:Int) (hd:Wz data):Te data d c=some (Iw data d c):=by
 unfold Te
 rw [Aw2 data d c (fun v3 v4=>_) [] _ rfl]
 unfold Iw
 cases hx:Ag data d with
 | none=>rfl
 | some x=>
  cases hy:Ag x.Cons c with
  | none=>simp only [hy]
  | some y=>
   simp only [hy]
   have f:=hd x (J8 hx).2.2.2 y (J8 hy).2.2.2
   have g:=f.1
   rw [Is (n:=y.Args.length) (c:=y.Args.length) rfl rfl (by omega) (by omega) (by omega),Ad]
   refine Iu y.Args (fun j=>((j:Int),((y.Args.take j).map fun t=>Jh t d x.Vars)++List.replicate (y.Args.length-j) false)) rfl (by omega) ?_ ?_
   .intro j t hj ht h1 h2 h3
    obtain ⟨m,hm⟩:∃m,y.Args.length-j=m+1:=⟨y.Args.length-j-1,by omega⟩
    have h:y.Args.length-(j+1)=m:=by omega
    have b:j=((y.Args.take j).map fun t=>Jh t d x.Vars).length:=by simp; omega
    simp only [h1,h2,cond_true,Ad,hm,h,List.replicate_succ,Dk ht,List.map_append,List.map_cons,List.map_nil,List.append_assoc,List.cons_append,List.nil_append,
     Afe _ _ _ (j:Int) j rfl b,Afd _ _ _ _ (j:Int) j rfl b]
    have hb:(bif t.Kind==5 then bif t.Num==d then some (List.map (fun t=>Jh t d x.Vars) (List.take j y.Args)++((t.Args.length:Int)==x.Vars)::List.replicate m false)
       else some (List.map (fun t=>Jh t d x.Vars) (List.take j y.Args)++false::List.replicate m false)
      else some (List.map (fun t=>Jh t d x.Vars) (List.take j y.Args)++false::List.replicate m false))=some (List.map (fun t=>Jh t d x.Vars) (List.take j y.Args)++(t.Kind==5&&t.Num==d&&((t.Args.length:Int)==x.Vars))::List.replicate m false):=by
     cases t.Kind==5 <;> cases t.Num==d <;> simp
    rw [hb,Ad]
    refine Aw4 t.Args _ _ (j:Int) j _ rfl b (by have:=f.2 t (Ct ht); omega) ?_
    rw [h3]; rfl
   .intro h1
    exact ⟨_,by simp only [h1]; rfl,by simp⟩
mutual
def mnt (d:Int):Aj->Bool
 | ⟨k,n,l⟩=>(k==5&&n==d)||Nn d l
def Nn (d:Int):List Aj->Bool
 | []=>false
 | x::xs=>mnt d x||Nn d xs
end
theorem Aw5 (d:Int) (t:Aj):mnt d t=((t.Kind==5&&t.Num==d)||Nn d t.Args):=by cases t; simp only [mnt]
theorem Aw6 (d:Int) (l:List Aj):Nn d l=l.any (mnt d):=by
 induction l with
 | nil=>rfl
 | cons x xs ih=>simp only [Nn,ih,List.any_cons]
theorem Aw7 (d:Int):∀(n:Nat) (t:Aj) (k:Nat),B8 t<=n->4*n+4<=k->n<1099511627776->Qk k t d=some (mnt d t):=by
 intro n
 induction n with
 | zero=>intro t k h; have:=Tx t; omega
 | succ n ih=>
  intro t k h hk l
  obtain ⟨k,rfl⟩:∃c,k=c+4:=⟨k-4,by omega⟩
  have f:=Kw t
  have b:=Ms t.Args
  have key:Tm (k+3) t.Args d=some (Nn d t.Args):=by
   rw [Tm,Z6]
   rw [Aw6]
   refine Ak8 (Aer t.Args (mnt d) (by omega) ?_ (fun h=>by simp only [h]; rfl) (fun _=>rfl) rfl) (fun i g=>by rw [g])
   intro j x hx h1 h2 h3
   have hm:=Lt hx
   simp only [h1,h2,h3,cond_true,Ad,Wf,ih x k (by omega) (by omega) (by omega)]
  rw [Qk,key,Aw5]
  cases t.Kind==5 <;> cases t.Num==d <;> simp
end Go.Ab
namespace Go.Ab
open Go
theorem Aw8 (data:List A9) (v:Int) (l:List Aj):Fr data v l=l.all (F9 data v):=by
 induction l with
 | nil=>rfl
 | cons x xs ih=>simp only [Fr,ih,List.all_cons]
theorem Aw9 (data:List A9) (d:Nat) (v k n:Int) (len:Nat):(Kx (data.take (d+1)) v k n len && !(k==5&&n==(d:Int)))=Kx (data.take d) v k n len:=by
 by_cases hk:k=5
 .subst hk
  unfold Kx
  simp only [beq_self_eq_true,Bool.true_and,List.getElem?_take]
  by_cases b:n=d
  .subst b; simp
  .by_cases h0:0<=n
   .have e:(n==(d:Int))=false:=Cv b
    rcases Nat.lt_or_ge n.toNat d with h | h
    .simp [h,e,show n.toNat<d+1 by omega]
    .simp [e,show ¬n.toNat<d by omega,show ¬n.toNat<d+1 by omega]
   .simp [h0]
 .have e:(k==(5:Int))=false:=Cv hk
  simp only [e,Bool.false_and,Bool.not_false,Bool.and_true,Kx,hk,if_false]
mutual
theorem Alv (data:List A9) (d:Nat) (v:Int):∀t:Aj,(F9 (data.take (d+1)) v t && !mnt d t)=F9 (data.take d) v t
 | ⟨k,n,l⟩=>by
  have h1:=Alw data d v l
  have h2:=Aw9 data d v k n l.length
  simp only [F9,mnt]
  rw [<-h1,<-h2]
  cases Kx (data.take (d+1)) v k n l.length <;> cases (k==5&&n==(d:Int)) <;> cases Fr (data.take (d+1)) v l <;> simp
theorem Alw (data:List A9) (d:Nat) (v:Int):∀l:List Aj,(Fr (data.take (d+1)) v l && !Nn d l)=Fr (data.take d) v l
 | []=>by simp [Fr,Nn]
 | x::xs=>by
  have h1:=Alv data d v x
  have h2:=Alw data d v xs
  simp only [Fr,Nn]
  rw [<-h1,<-h2]
  cases F9 (data.take (d+1)) v x <;> cases mnt d x <;> cases Fr (data.take (d+1)) v xs <;> simp
end
theorem Alx:∀l:List Aj,(∀a∈l,a.Args.length=0)->C3 l=l.length
 | [],_=>rfl
 | x::xs,h=>by
  have h1:=h x (by simp)
  simp only [C3,List.length_cons]
  rw [Alx xs (fun a ha=>h a (by simp [ha])),Kw,List.length_eq_zero_iff.1 h1]
  simp only [C3]; omega
theorem Aly {data:List A9} {d:Nat} {x:A9} (hx:data[d]? = some x) (g:x.Vars<=6) {t:Aj} (h:Jh t d x.Vars=true):F9 (data.take (d+1)) x.Vars t=true/\B8 t<=200:=by
 unfold Jh at h
 simp only [C9,beq_iff_eq] at h
 obtain ⟨⟨⟨h1,h2⟩,h3⟩,f⟩:=h
 have ha:∀a∈t.Args,∃i:Nat,i<t.Args.length/\a.Kind=4/\a.Num=i/\a.Args.length=0:=by
  intro a ha
  obtain ⟨i,c⟩:=List.getElem?_of_mem ha
  have:=Jf f c
  simp only [Q8,C9,beq_iff_eq] at this
  exact ⟨i,Fd c,this.1.1,this.1.2,this.2⟩
 refine ⟨?_,?_⟩
 .rw [Afa,Aw8,C9]
  constructor
  .rw [h1,h2]
   unfold Kx
   simp [hx,h3]
  .rw [List.all_eq_true]
   intro a b
   obtain ⟨i,i1,i2,i3,i4⟩:=ha a b
   rw [Afa,i2,i3,i4,List.length_eq_zero_iff.1 i4]
   unfold Kx
   simp [Fr]; omega
 .rw [Kw,Alx _ (fun a h=>(ha a h).choose_spec.2.2.2)]
  omega
def Q9 (data:List A9) (d:Nat) (v:Int) (t:Aj):Bool:=Jh t d v||(F9 (data.take d) v t&&decide (B8 t<=200))
theorem Axa {data:List A9} {d:Nat} {x:A9} (hx:data[d]? = some x) (b:x.Vars<=6) (t:Aj):((F9 (data.take (d+1)) x.Vars t&&decide (B8 t<=200))&&(Jh t d x.Vars || !mnt d t))=Q9 data d x.Vars t:=by
 unfold Q9
 cases h:Jh t d x.Vars with
 | true=>
  obtain ⟨h1,h2⟩:=Aly hx b h
  rw [h1,Al h2]; rfl
 | false=>
  rw [<-Alv data d x.Vars t]
  cases F9 (data.take (d+1)) x.Vars t <;> cases decide (B8 t<=200) <;> simp
def SzD (data:List A9):Prop:=∀x∈data,x.Cons.length<=1048576/\∀y∈x.Cons,C3 y.Args<=1048576
theorem SzD.short {data:List A9} (h:SzD data):Wz data:=fun x hx y hy=>by
 have h1:=(h x hx).2 y hy
 have h2:=Ms y.Args
 refine ⟨by omega,fun a ha=>?_⟩
 have h3:=Lt ha
 have c:=Kw a
 have b:=Ms a.Args
 omega
theorem Axb {data:List A9} (g:SzD data) (d c:Nat) {x:A9} {y:Nm} (hx:data[d]? = some x) (hy:x.Cons[c]? = some y) (q:x.Vars<=6) (hd:data.length<=1048576) :
  Oj data d c=some (decide (y.Args.length<=6)&&y.Args.all (Q9 data d x.Vars)):=by
 have b:=Fd hx
 have l:=(g x (Ct hx)).2 y (Ct hy)
 unfold Oj
 rw [Cj rfl hx,Ad,Cj rfl hy,Ad,Alu data d c g.short]
 by_cases k:y.Args.length<=6
 .rw [Aq (by omega:¬(y.Args.length:Int)>6),Al k]
  simp only [cond_false,Bool.true_and,Ad]
  refine (Ig y.Args (Q9 data d x.Vars) (fun j=>(j:Int)) rfl (by omega) (rt:=true) (rf:=false) ?_ ?_).trans (by rw [Kv])
  .intro j t ht h1 h2 h3
   have s:=Lt (Ct ht)
   have u:Ag (Iw data d c) (j:Int)=some (Jh t d x.Vars):=by
    unfold Iw
    simp only [Cj rfl hx,Cj rfl hy]
    rw [Cj rfl]
    simp [ht]
   simp only [h1,h2,h3,cond_true,Ad,show Ac ((d:Int)+1)=((d+1:Nat):Int) from Db b (by omega),Aag rfl (show d+1<=data.length from b),Cj rfl hx,
    Wx (data.take (d+1)) t x.Vars (by omega),u]
   rw [<-Axa hx q t]
   cases i:(F9 (data.take (d+1)) x.Vars t&&decide (B8 t<=200)) with
   | false=>exact ⟨(fun h=>by cases h),fun _=>⟨.inl false,rfl,rfl⟩⟩
   | true=>
    have f:B8 t<=200:=by simp only [C9,decide_eq_true_eq] at i; exact i.2
    simp only [D6,cond_false,Bool.true_and]
    cases z:Jh t d x.Vars with
    | true=>exact ⟨fun _=>rfl,fun h=>by cases h⟩
    | false=>
     simp only [Bool.not_false,cond_true,Aw7 d 200 t 4000000 f (by omega) (by omega),Ad,Bool.false_or]
     cases mnt d t with
     | true=>exact ⟨(fun h=>by cases h),fun _=>⟨.inl false,rfl,rfl⟩⟩
     | false=>exact ⟨fun _=>rfl,fun h=>by cases h⟩
  .intro h
   exact ⟨.inr (),by simp only [h]; rfl,rfl⟩
 .rw [Al (by omega:(y.Args.length:Int)>6),Aq k]; rfl
end Go.Ab
namespace Go.Ab
open Go
def bI (s:ByteArray) (i:Nat):Int:=if h:i<s.size then (s[i].toNat:Int) else 0
def loI (c:Int):Bool:=decide (97<=c)&&decide (c<=122)
def upI (c:Int):Bool:=decide (65<=c)&&decide (c<=90)
def diI (c:Int):Bool:=decide (48<=c)&&decide (c<=57)
def wiI (c:Int):Bool:=loI c||upI c||diI c||c==95
def Hf (s:ByteArray):Prop:=1<=s.size/\s.size<=24/\upI (bI s 0)=true/\∀i,i<s.size->wiI (bI s i)=true
theorem No {s:ByteArray} {i:Int} {n:Nat} (b:i=n) (h:n<s.size):∃c:UInt8,Hy s i=some c/\(c.toNat:Int)=bI s n:=by
 subst b
 refine ⟨s[n],?_,?_⟩
 .unfold Hy
  rw [if_pos (by omega),show ((n:Int)).toNat=n from rfl]
  simp [h]
 .unfold bI; simp [h]
theorem W0 {s:ByteArray} {a b j:Nat} (hb:b<=s.size) (h:a+j<b):bI (s.extract a b) j=bI s (a+j):=by
 unfold bI
 have h1:j<(s.extract a b).size:=by rw [ByteArray.size_extract]; omega
 rw [dif_pos h1,dif_pos (by omega),ByteArray.getElem_extract]
theorem W1 {s:ByteArray} {lo c:Int} {a b:Nat} (h1:lo=a) (h2:c=b) (h3:a<=b) (f:b<=s.size):Fo s lo c=some (s.extract a b):=by
 subst h1; subst h2; unfold Fo; rw [if_pos (by omega)]; rfl
theorem Alz {a b:ByteArray} (h:a.toList=b.toList):a=b:=by
 rw [ByteArray.toList_eq,ByteArray.toList_eq] at h
 have:a.data=b.data:=Array.toList_inj.1 h
 cases a; cases b; simp at this; subst this; rfl
theorem Al0 (a b:ByteArray):(a.toList==b.toList)=decide (a=b):=by
 by_cases h:a=b
 .subst h; simp
 .rw [Aq h]
  cases hb:(a.toList==b.toList) with
  | false=>rfl
  | true=>exact absurd (Alz (by simpa using hb)) h
theorem Al1 (c:Int):Tk c=some (loI c):=by unfold Tk loI; by_cases h:(97:Int)<=c <;> simp [h]
theorem Al2 (c:Int):Qt c=some (upI c):=by unfold Qt upI; by_cases h:(65:Int)<=c <;> simp [h]
theorem Aay (c:Int):Oq c=some (diI c):=by unfold Oq diI; by_cases h:(48:Int)<=c <;> simp [h]
theorem Al3 (c:Int):Tl c=some (wiI c):=by
 unfold Tl wiI
 rw [Al1,Al2,Aay]
 simp only [Ad]
 cases loI c <;> cases upI c <;> cases diI c <;> rfl
theorem Aff {S E:Type} {step:S->Option (S⊕E)} (s:ByteArray) (p:Int->Bool) (b:Nat->S) (f:Nat->E) (lo:Nat)
  (h1:∀j,lo<=j->j<s.size->p (bI s j)=true->step (b j)=some (.inl (b (j+1)))) (h2:∀j,lo<=j->j<s.size->p (bI s j)=false->step (b j)=some (.inr (f j))) (h3:step (b s.size)=some (.inr (f s.size))) :
  ∀(m i:Nat),lo<=i->i+m=s.size->∃n,i<=n/\n<=s.size/\(∀j,i<=j->j<n->p (bI s j)=true)/\(n<s.size->p (bI s n)=false)/\Am step (b i)=some (f n):=by
 intro m
 induction m with
 | zero=>
  intro i _ g
  have:i=s.size:=by omega
  subst this
  exact ⟨s.size,by omega,by omega,fun j _ _=>by omega,fun h=>by omega,D0 h3⟩
 | succ m ih=>
  intro i c g
  cases hp:p (bI s i) with
  | true=>
   obtain ⟨n,a1,a2,a3,a4,a5⟩:=ih (i+1) (by omega) (by omega)
   refine ⟨n,by omega,a2,fun j b1 b2=>?_,a4,by rw [Ha (h1 i c (by omega) hp)]; exact a5⟩
   rcases Nat.lt_or_ge i j with h | h
   .exact a3 j h b2
   .have:j=i:=by omega
    subst this; exact hp
  | false=>exact ⟨i,by omega,by omega,fun j _ _=>by omega,fun _=>hp,D0 (h2 i c (by omega) hp)⟩
theorem Axc (s:ByteArray) (k:s.size<1099511627776):∃n,n<=s.size/\(∀j,j<n->wiI (bI s j)=true)/\(n<s.size->wiI (bI s n)=false)/\Wj s=some (s.extract 0 n):=by
 have H:=Aff (step:=fun v3:Int=>bif (decide (v3<(s.size:Int))) then ((Hy s v3).bind fun h=>(Tl (h.toNat:Int)).bind fun v5=>bif v5 then some (.inl (Ac (v3+1))) else some (.inr v3)) else some (.inr v3))
  s wiI (fun j=>(j:Int)) (fun j=>(j:Int)) 0 (fun j _ hj hp=>by
   obtain ⟨c,g,f⟩:=No (s:=s) (i:=(j:Int)) rfl hj
   simp only [Al (by omega:(j:Int)<(s.size:Int)),cond_true,g,Ad,f,Al3,hp,Db hj (by omega)]) (fun j _ hj hp=>by
   obtain ⟨c,g,f⟩:=No (s:=s) (i:=(j:Int)) rfl hj
   simp only [Al (by omega:(j:Int)<(s.size:Int)),cond_true,g,Ad,f,Al3,hp,cond_false]) (by simp) s.size 0 (by omega) (by omega)
 obtain ⟨n,_,a2,a3,a4,a5⟩:=H
 refine ⟨n,a2,fun j hj=>a3 j (by omega) hj,a4,?_⟩
 unfold Wj
 have a5:Am _ (0:Int)=some (n:Int):=a5
 rw [a5,Ad,W1 (lo:=0) (a:=0) (b:=n) rfl rfl (by omega) a2]; rfl
theorem Axd (s:ByteArray) (k:s.size<1099511627776):∃n,n<=s.size/\(∀j,j<n->diI (bI s j)=true)/\(n<s.size->diI (bI s n)=false)/\Z5 s=some (s.extract 0 n):=by
 have H:=Aff (step:=fun v3:Int=>bif (decide (v3<(s.size:Int))) then ((Hy s v3).bind fun h=>(Oq (h.toNat:Int)).bind fun v5=>bif v5 then some (.inl (Ac (v3+1))) else some (.inr v3)) else some (.inr v3))
  s diI (fun j=>(j:Int)) (fun j=>(j:Int)) 0 (fun j _ hj hp=>by
   obtain ⟨c,g,f⟩:=No (s:=s) (i:=(j:Int)) rfl hj
   simp only [Al (by omega:(j:Int)<(s.size:Int)),cond_true,g,Ad,f,Aay,hp,Db hj (by omega)]) (fun j _ hj hp=>by
   obtain ⟨c,g,f⟩:=No (s:=s) (i:=(j:Int)) rfl hj
   simp only [Al (by omega:(j:Int)<(s.size:Int)),cond_true,g,Ad,f,Aay,hp,cond_false]) (by simp) s.size 0 (by omega) (by omega)
 obtain ⟨n,_,a2,a3,a4,a5⟩:=H
 refine ⟨n,a2,fun j hj=>a3 j (by omega) hj,a4,?_⟩
 unfold Z5
 have a5:Am _ (0:Int)=some (n:Int):=a5
 rw [a5,Ad,W1 (lo:=0) (a:=0) (b:=n) rfl rfl (by omega) a2]; rfl
theorem Ty {R:Type} {c:Bool} {X Y:Option R} {Q:R->Prop} (h1:∃r,X=some r/\Q r) (h2:∃r,Y=some r/\Q r):∃r,(bif c then X else Y)=some r/\Q r:=by cases c <;> assumption
theorem Afg {A R:Type} {X:Option A} {f:A->Option R} {Q:R->Prop} (P:A->Prop) (h1:∃a,X=some a/\P a) (h2:∀a,P a->∃r,f a=some r/\Q r):∃r,X.bind f=some r/\Q r:=by
 obtain ⟨a,e,h⟩:=h1
 rw [e]; exact h2 a h
theorem Axe (s:ByteArray):∃b,Wk s=some b/\True:=by
 unfold Wk
 repeat' first | refine Ty ?_ ?_ | exact ⟨_,rfl,trivial⟩
theorem Axf (s:ByteArray) (h1:1<=s.size):∃r,Wm s=some r/\(r.size<=s.size):=by
 have g:Fo s 0 1=some (s.extract 0 1):=W1 rfl rfl (by omega) h1
 have c:(s.extract 0 1).size<=s.size:=by rw [ByteArray.size_extract]; omega
 unfold Wm
 refine Afg (fun z=>∀r,z = .inl r->r.size<=s.size) ?_ ?_
 .by_cases h2:2<=s.size
  .have f:Fo s 0 2=some (s.extract 0 2):=W1 rfl rfl (by omega) h2
   have b:∀r,(Sum.inl (s.extract 0 2):ByteArray⊕Unit) = .inl r->r.size<=s.size:=by rintro r ⟨⟩; rw [ByteArray.size_extract]; omega
   simp only [f,Ad]
   repeat' first | refine Ty ?_ ?_ | with_reducible exact ⟨_,rfl,b⟩ | exact ⟨_,rfl,fun r h=>by cases h⟩
  .rw [Aq (by omega)]
   exact ⟨_,rfl,fun r h=>by cases h⟩
 .rintro (r | u) i
  .exact ⟨_,rfl,i r rfl⟩
  .simp only [g,Ad]
   have h0:(ByteArray.mk #[]).size<=s.size:=Nat.zero_le _
   repeat' first | refine Ty ?_ ?_ | with_reducible exact ⟨_,rfl,c⟩ | with_reducible exact ⟨_,rfl,h0⟩
theorem Axg (s:ByteArray) (g:s.size<1099511627776):∃b,Wl s=some b/\True:=by
 unfold Wl
 refine Fb (fun (_,i)=>∃j:Nat,i=j/\j<=s.size) (fun (_,i)=>s.size-i.toNat) (fun _=>True) ⟨0,rfl,by omega⟩ ?_ ?_
 .rintro ⟨v,i⟩ ⟨j,rfl,hj⟩
  rcases Nat.lt_or_ge j s.size with h | h
  .obtain ⟨c,f,_⟩:=No (s:=s) (i:=(j:Int)) rfl h
   simp only [Al (by omega:(j:Int)<(s.size:Int)),cond_true,f,Ad,Db h (by omega)]
   cases decide (Ac (Ac (v*10)+Ac (wu8 ((c.toNat:Int)-48)))>1000000) with
   | true=>exact .inr ⟨_,rfl,trivial⟩
   | false=>exact .inl ⟨_,rfl,⟨j+1,rfl,by omega⟩,by simp; omega⟩
  .have:j=s.size:=by omega
   subst this
   exact .inr ⟨.inr (),by simp,trivial⟩
 .rintro (r | u) _ <;> exact ⟨_,rfl,trivial⟩
theorem Axh (s:ByteArray) (i:Nat) (J:i<s.size) (S:s.size<1099511627776) :
  ∃r,We s i=some r/\(r.2=0->1<=r.1.Text.size/\i+r.1.Text.size<=s.size/\(r.1.Kind=2->Hf r.1.Text))/\(Hf s->i=0->r=(⟨2,s,0⟩,0)):=by
 obtain ⟨c,N,M⟩:=No (s:=s) (i:=(i:Int)) rfl J
 have u:Fo s (i:Int) (s.size:Int)=some (s.extract i s.size):=W1 rfl rfl (by omega) (by omega)
 have I:(s.extract i s.size).size=s.size-i:=by rw [ByteArray.size_extract]; omega
 have x:bI (s.extract i s.size) 0=bI s i:=W0 (by omega) (by omega)
 unfold We
 simp only [N,Ad,M,Al1,Al2,Aay,u]
 have hw:(bif loI (bI s i) then some true else some (upI (bI s i)))=some (loI (bI s i)||upI (bI s i)):=by cases loI (bI s i) <;> rfl
 rw [hw]
 simp only [Ad]
 cases l:(loI (bI s i)||upI (bI s i)) with
 | true=>
  obtain ⟨n,G,D,y,n4⟩:=Axc (s.extract i s.size) (by omega)
  have A:1<=n:=by
   rcases Nat.eq_zero_or_pos n with h | h
   .subst h
    have:=y (by omega)
    rw [x] at this
    unfold wiI at this
    rw [l] at this; cases this
   .exact h
  have hx:(s.extract i s.size).extract 0 n=s.extract i (i+n):=by rw [ByteArray.extract_extract]; congr 1; omega
  have q:(s.extract i (i+n)).size=n:=by rw [ByteArray.size_extract]; omega
  rw [hx] at n4
  simp only [cond_true,n4,Ad,q]
  have g:Hf s->i=0->n=s.size:=by
   intro hu h0
   rcases Nat.lt_or_ge n s.size with h | h
   .have:=y (by omega)
    rw [W0 (by omega) (by omega),hu.2.2.2 _ (by omega)] at this; cases this
   .omega
  by_cases L:n<=24
  .rw [Aq (by omega)]
   cases k:upI (bI s i) with
   | true=>
    refine ⟨_,rfl,fun _=>⟨?_,?_,fun _=>⟨?_,?_,?_,?_⟩⟩,?_⟩
    .show 1<=(s.extract i (i+n)).size; omega
    .show i+(s.extract i (i+n)).size<=s.size; omega
    .show 1<=(s.extract i (i+n)).size; omega
    .show (s.extract i (i+n)).size<=24; omega
    .show upI (bI (s.extract i (i+n)) 0)=true
     rw [W0 (by omega) (by omega)]; exact k
    .show ∀j,j<(s.extract i (i+n)).size->wiI (bI (s.extract i (i+n)) j)=true
     intro j hj
     rw [W0 (by omega) (by omega)]
     have:=D j (by omega)
     rw [W0 (by omega) (by omega)] at this; exact this
    .intro hu h0
     have:=g hu h0
     subst h0; subst this
     rw [Nat.zero_add,ByteArray.extract_zero_size]; rfl
   | false=>
    obtain ⟨b,hb,_⟩:=Axe (s.extract i (i+n))
    simp only [cond_false,hb,Ad]
    have f:Hf s->i=0->False:=by
     intro hu h0
     subst h0
     rw [hu.2.2.1] at k; cases k
    cases b with
    | true=>exact ⟨_,rfl,fun _=>⟨by show 1<=(s.extract i (i+n)).size; omega,by show i+(s.extract i (i+n)).size<=s.size; omega,fun h=>by cases h⟩,fun hu h0=>(f hu h0).elim⟩
    | false=>exact ⟨_,rfl,fun _=>⟨by show 1<=(s.extract i (i+n)).size; omega,by show i+(s.extract i (i+n)).size<=s.size; omega,fun h=>by cases h⟩,fun hu h0=>(f hu h0).elim⟩
  .rw [Al (by omega)]
   refine ⟨_,rfl,(fun h=>by cases h),fun hu h0=>?_⟩
   have:=g hu h0
   have:=hu.2.1
   omega
 | false=>
  have f:Hf s->i=0->False:=by
   intro hu h0
   subst h0
   rw [hu.2.2.1,Bool.or_true] at l; cases l
  simp only [cond_false]
  cases hd:diI (bI s i) with
  | true=>
   obtain ⟨n,G,D,y,n4⟩:=Axd (s.extract i s.size) (by omega)
   have A:1<=n:=by
    rcases Nat.eq_zero_or_pos n with h | h
    .subst h
     have:=y (by omega)
     rw [x,hd] at this; cases this
    .exact h
   have hx:(s.extract i s.size).extract 0 n=s.extract i (i+n):=by rw [ByteArray.extract_extract]; congr 1; omega
   have q:(s.extract i (i+n)).size=n:=by rw [ByteArray.size_extract]; omega
   rw [hx] at n4
   obtain ⟨b,hb,_⟩:=Axg (s.extract i (i+n)) (by omega)
   simp only [cond_true,n4,Ad,hb]
   refine Afg (fun _=>True) ?_ ?_
   .exact Ty ⟨_,rfl,trivial⟩ ⟨_,rfl,trivial⟩
   .intro v _
    refine Ty ⟨_,rfl,(fun h=>by cases h),fun hu h0=>(f hu h0).elim⟩ (Ty ⟨_,rfl,(fun h=>by cases h),fun hu h0=>(f hu h0).elim⟩ ⟨_,rfl,fun _=>⟨?_,?_,fun h=>by cases h⟩,fun hu h0=>(f hu h0).elim⟩)
    .show 1<=(s.extract i (i+n)).size; omega
    .show i+(s.extract i (i+n)).size<=s.size; omega
  | false=>
   obtain ⟨r,E,R⟩:=Axf (s.extract i s.size) (by omega)
   simp only [cond_false,E,Ad]
   rw [Al0]
   by_cases z:r=ByteArray.mk #[]
   .rw [Al z]
    exact ⟨_,rfl,(fun h=>by cases h),fun hu h0=>(f hu h0).elim⟩
   .rw [Aq z]
    refine ⟨_,rfl,fun _=>⟨?_,?_,fun h=>by cases h⟩,fun hu h0=>(f hu h0).elim⟩
    .show 1<=r.size
     rcases Nat.eq_zero_or_pos r.size with h | h
     .have B:r.data.toList.length=0:=by simpa using h
      exact absurd (Alz (by rw [ByteArray.toList_eq,List.length_eq_zero_iff.1 B,ByteArray.toList_eq])) z
     .exact h
    .show i+r.size<=s.size; omega
theorem Axi (c:Int):Wd c=some (c==9||c==10||c==13||c==32):=by
 unfold Wd
 cases c==9 <;> cases c==10 <;> cases c==13 <;> rfl
theorem Al4 (s:ByteArray) (U:s.size<1099511627776):∃b,Qa s=some b/\(b=true↔Hf s):=by
 unfold Qa Zt
 by_cases q:(s.size:Int)>16384
 .rw [Al q]
  refine ⟨false,rfl,by simp; rintro ⟨_,h,_⟩; omega⟩
 rw [Aq q]
 simp only [cond_false]
 refine Afg (fun r:List H3×Int×Int=>(r.2.2≠0/\¬Hf s)\/(r.2.2=0/\∃o e,r.1=o++[e]/\(∀t∈o,t.Kind=2->Hf t.Text)/\(Hf s->o = [⟨2,s,0⟩]))) ?_ ?_
 .refine Fb (fun (v26,f)=>∃i:Nat,v26=i/\i<=s.size/\f.length<=i/\(∀t∈f,t.Kind=2->Hf t.Text)/\(Hf s->(i=0/\f = [])\/(i=s.size/\f = [⟨2,s,0⟩])))
   (fun (v26,_)=>s.size-v26.toNat)
   (fun z=>match z with | .inl o=>o.length<=16384/\(∀t∈o,t.Kind=2->Hf t.Text)/\(Hf s->o = [⟨2,s,0⟩]) | .inr (_,_,e)=>e≠0/\¬Hf s)
   ⟨0,rfl,by omega,by simp,by simp,fun _=>.inl ⟨rfl,rfl⟩⟩ ?_ ?_
  .rintro ⟨v,o⟩ ⟨i,rfl,hi,ho,hk,hu⟩
   rcases Nat.lt_or_ge i s.size with h | h
   .obtain ⟨c,G,E⟩:=No (s:=s) (i:=(i:Int)) rfl h
    have g:Hf s->i=0/\o = []:=fun u=>by
     rcases hu u with h' | h'
     .exact h'
     .omega
    simp only [Al (by omega:(i:Int)<(s.size:Int)),cond_true,G,Ad,E,Axi]
    cases J:(bI s i==9||bI s i==10||bI s i==13||bI s i==32) with
    | true=>
     have k:¬Hf s:=by
      intro u
      have h0:=(g u).1
      subst h0
      have:=u.2.2.1
      simp only [upI,C9,decide_eq_true_eq] at this
      simp only [Bool.or_eq_true,beq_iff_eq] at J
      omega
     exact .inl ⟨(((i+1:Nat):Int),o),by simp only [cond_true]; rw [Db h (by omega)],⟨i+1,rfl,by omega,(by show o.length<=i+1; omega),hk,fun u=>(k u).elim⟩,by simp; omega⟩
    | false=>
     simp only [cond_false]
     cases B:(bI s i==35) with
     | true=>
      have k:¬Hf s:=by
       intro u
       have h0:=(g u).1
       subst h0
       have:=u.2.2.1
       simp only [upI,C9,decide_eq_true_eq] at this
       simp only [beq_iff_eq] at B
       omega
      simp only [cond_true]
      obtain ⟨n,n1,n2,n3,n4,I⟩:=Aff (step:=fun v32:Int=>bif (decide (v32<(s.size:Int))) then ((Hy s v32).bind fun L=>bif ((L.toNat:Int)==(10:Int)) then some (.inr (.inl v32)) else some (.inl (Ac (v32+1)))) else some (.inr (.inr v32)))
       s (fun c=>!(c==10)) (fun j=>(j:Int)) (fun j=>if j<s.size then Sum.inl (j:Int) else Sum.inr (j:Int)) 0 (fun j _ hj hp=>by
        obtain ⟨c,G,E⟩:=No (s:=s) (i:=(j:Int)) rfl hj
        simp only [Bool.not_eq_true'] at hp
        simp only [Al (by omega:(j:Int)<(s.size:Int)),cond_true,G,Ad,E,hp,Db hj (by omega),cond_false]) (fun j _ hj hp=>by
        obtain ⟨c,G,E⟩:=No (s:=s) (i:=(j:Int)) rfl hj
        simp only [Bool.not_eq_false'] at hp
        simp only [Al (by omega:(j:Int)<(s.size:Int)),cond_true,G,Ad,E,hp,if_pos hj]) (by simp) (s.size-i) i (by omega) (by omega)
      have V:i<n:=by
       rcases Nat.lt_or_ge i n with h' | h'
       .exact h'
       .have:n=i:=by omega
        subst this
        have:=n4 h
        simp only [beq_iff_eq] at B
        rw [B] at this; cases this
      have I:Am _ (i:Int)=_:=I
      rw [I,Ad]
      rcases Nat.lt_or_ge n s.size with h' | h'
      .rw [if_pos h']
       exact .inl ⟨((n:Int),o),rfl,⟨n,rfl,by omega,(by show o.length<=n; omega),hk,fun u=>(k u).elim⟩,by simp; omega⟩
      .rw [if_neg (by omega)]
       exact .inr ⟨.inl o,rfl,by omega,hk,fun u=>(k u).elim⟩
     | false=>
      obtain ⟨r,S,R,M⟩:=Axh s i h U
      simp only [cond_false,S,Ad]
      by_cases D:r.2=0
      .obtain ⟨a1,a2,a3⟩:=R D
       simp only [Fc D,cond_false]
       rw [Dj (by simp; omega),Ad]
       refine .inl ⟨(((i+r.1.Text.size:Nat):Int),o++[r.1]),?_,⟨i+r.1.Text.size,rfl,a2,by simp; omega,?_,?_⟩,by simp; omega⟩
       .rw [show Ac ((i:Int)+(r.1.Text.size:Int))=((i+r.1.Text.size:Nat):Int) by rw [Ac,Bx] <;> omega]
       .intro t ht
        rcases List.mem_append.1 ht with h' | h'
        .exact hk t h'
        .simp at h'; subst h'; exact a3
       .intro u
        obtain ⟨b1,b2⟩:=g u
        have:=M u b1
        subst b1; subst b2; subst this
        exact .inr ⟨by simp,rfl⟩
      .simp only [Et D,cond_true]
       refine .inr ⟨_,rfl,D,fun u=>?_⟩
       rw [M u (g u).1] at D
       exact D rfl
   .have:i=s.size:=by omega
    subst this
    refine .inr ⟨.inl o,by simp,by omega,hk,fun u=>?_⟩
    rcases hu u with ⟨h',_⟩ | ⟨_,h'⟩
    .have:=u.1; omega
    .exact h'
  .rintro (o | ⟨l,p,e⟩) N
   .obtain ⟨Z,z2,z3⟩:=N
    simp only
    rw [Dj (by simp; omega),Ad]
    exact ⟨_,rfl,.inr ⟨rfl,o,_,rfl,z2,z3⟩⟩
   .exact ⟨_,rfl,.inl N⟩
 .rintro ⟨l,p,e⟩ (⟨h1,h2⟩ | ⟨h1,o,t,h2,h3,A⟩)
  .simp only at h1
   simp only [Cv h1,cond_false]
   exact ⟨_,rfl,by simp [h2]⟩
  .simp only at h1 h2
   subst h1; subst h2
   simp only [beq_self_eq_true,cond_true]
   match o,h3,A with
   | [],_,A=>exact ⟨false,by simp,by simp; intro u; cases A u⟩
   | [x],h3,A=>
    have Y:Ag ([x]++[t]) 0=some x:=rfl
    simp only [Y,Ad,Al0]
    have X:((([x]++[t]).length:Int)==2)=true:=rfl
    simp only [X,cond_true]
    by_cases hx:x.Kind=2
    .simp only [Es hx,cond_true]
     refine ⟨_,rfl,?_⟩
     rw [decide_eq_true_iff]
     constructor
     .intro h; rw [<-h]; exact h3 x (by simp) hx
     .intro u; have:=A u; simp at this; rw [this]
    .simp only [Cv hx,cond_false]
     refine ⟨_,rfl,?_⟩
     simp only [Bool.false_eq_true,false_iff]
     intro u; have:=A u; simp at this; rw [this] at hx; exact hx rfl
   | x::y::ys,_,A=>
    refine ⟨false,?_,by simp; intro u; have:=A u; simp at this⟩
    rw [Cv]
    .rfl
    .simp; omega
end Go.Ab
namespace Go.Ab
open Go
end Go.Ab
namespace Go.Ab
open Go
def Aaz (data:List A9) (d:Nat) (v:Int) (y:Nm):Prop:=Hf y.Name/\y.Args.length<=6/\y.Args.all (Q9 data d v)=true
def Afh (data:List A9) (d:Nat) (x:A9):Prop:=0<=x.Vars/\x.Vars<=6/\1<=x.Cons.length/\x.Cons.length<=8/\Hf x.Name/\∀y∈x.Cons,Aaz data d x.Vars y
def Ih (x:A9):List ByteArray:=x.Cons.map (·.Name)
def Mt (data:List A9):Prop:=data.length<=12/\(∀d x,data[d]? = some x->Afh data d x)/\(data.map (·.Name)).Nodup/\(data.flatMap Ih).Nodup
structure DSz (data:List A9):Prop where
 len:data.length<=1048576
 sz:SzD data
 nm:∀x∈data,x.Name.size<=1048576
 cn:∀x∈data,∀y∈x.Cons,y.Name.size<=1048576
theorem O4 (a b:ByteArray):(a==b)=true↔a=b:=by
 constructor
 .intro h
  cases a with | mk a=>cases b with | mk b=>
  have:a=b:=by exact eq_of_beq h
  rw [this]
 .rintro rfl
  cases a with | mk a=>exact beq_self_eq_true a
def Ji (o:List (ByteArray×Bool)) (L:List ByteArray):Prop:=(∀p∈o,p.2=true)/\∀s,El o s=true↔s∈L
theorem Ji.nil:Ji [] []:=⟨by simp,by simp [El]⟩
theorem Ji.get {o:List (ByteArray×Bool)} {L:List ByteArray} (h:Ji o L) {s:ByteArray} (b:El o s=true):Gx o s false=true:=by
 unfold Gx
 unfold El at b
 rw [List.any_eq_true] at b
 obtain ⟨p,g,f⟩:=b
 cases c:o.find? (fun p=>s==p.1) with
 | none=>exact absurd f (by have:=List.find?_eq_none.1 c p g; simpa using this)
 | some q=>exact h.1 q (List.mem_of_find?_eq_some c)
theorem Axj (o:List (ByteArray×Bool)) (s t:ByteArray) (v:Bool):El (Fa o s v) t=(El o t||t==s):=by
 induction o with
 | nil=>simp [Fa,El]
 | cons p o ih=>
  unfold Fa
  cases hp:(s==p.1) with
  | true=>
   have:s=p.1:=(O4 _ _).1 hp
   subst this
   simp only [cond_true,El,List.any_cons]
   cases t==p.1 <;> simp
  | false=>
   simp only [El,List.any_cons] at ih ⊢
   simp only [cond_false,List.any_cons,ih,Bool.or_assoc]
theorem Ji.put {o:List (ByteArray×Bool)} {L:List ByteArray} (h:Ji o L) (s:ByteArray):Ji (Fa o s true) (L++[s]):=by
 refine ⟨?_,fun t=>?_⟩
 .have:∀o:List (ByteArray×Bool),(∀p∈o,p.2=true)->∀p∈Fa o s true,p.2=true:=by
   intro o
   induction o with
   | nil=>intro _ p hp; simp [Fa] at hp; rw [hp]
   | cons q o ih=>
    intro b p hp
    unfold Fa at hp
    cases hq:(s==q.1) with
    | true=>
     rw [hq] at hp
     simp only [cond_true,List.mem_cons] at hp
     rcases hp with rfl | hp
     .rfl
     .exact b p (by simp [hp])
    | false=>
     rw [hq] at hp
     simp only [cond_false,List.mem_cons] at hp
     rcases hp with rfl | hp
     .exact b _ (by simp)
     .exact ih (fun p hp=>b p (by simp [hp])) p hp
  exact this o h.1
 .rw [Axj,Bool.or_eq_true,h.2 t,O4]; simp
theorem Axk (x:A9) {c:Nat} {y:Nm} (hy:x.Cons[c]? = some y):Ih x=(x.Cons.take c).map (·.Name)++y.Name::(x.Cons.drop (c+1)).map (·.Name):=by
 have h:=List.take_append_drop c x.Cons
 have hc:=Fd hy
 have e:x.Cons.drop c=y::x.Cons.drop (c+1):=by
  rw [List.drop_eq_getElem_cons hc]
  rw [B7 hc] at hy
  rw [Option.some.inj hy]
 unfold Ih
 conv=>lhs; rw [<-h,e]
 simp
theorem Al5 {L m:List ByteArray} {s:ByteArray} (h:(L++s::m).Nodup):s ∉ L:=by
 rw [List.nodup_append] at h
 intro b
 exact h.2.2 s b s (by simp) rfl
theorem Al6 {L:List ByteArray} {s:ByteArray} (h:L.Nodup) (c:s ∉ L):(L++[s]).Nodup:=by
 rw [List.nodup_append]
 refine ⟨h,by simp,?_⟩
 intro a ha b hb
 simp at hb; subst hb
 intro e; subst e; exact c ha
theorem Axl {data:List A9} (s:DSz data) {d:Nat} {x:A9} (hx:data[d]? = some x) (I:x.Vars<=6) (o:List (ByteArray×Bool)) (L:List ByteArray) (hm:Ji o L) (M:L.Nodup) :
  ∃z,Am (S:=(Int×(List (ByteArray×Bool)))) (E:=(Bool⊕(Int×(List (ByteArray×Bool))))) (fun (f,g)=>
    bif (decide (f<(x.Cons.length:Int))) then (
    (Ag x.Cons f).bind fun v54=>
    (Qa v54.Name).bind fun A=>
    bif (!A) then some (.inr (.inl false))
    else (
    bif (El g v54.Name) then (
    bif (Gx g v54.Name (false:Bool)) then some (.inr (.inl false))
    else (
    (Oj data d f).bind fun u=>
    bif (!u) then some (.inr (.inl false))
    else some (.inl ((Ac (f+1)),(Fa g v54.Name true)))))
    else (
    (Oj data d f).bind fun v58=>
    bif (!v58) then some (.inr (.inl false))
    else some (.inl ((Ac (f+1)),(Fa g v54.Name true))))))
    else some (.inr (.inr (f,g)))) (0,o)=some z /\
   match z with
   | .inl r=>r=false/\¬((∀y∈x.Cons,Aaz data d x.Vars y)/\(L++Ih x).Nodup)
   | .inr (_,o')=>(∀y∈x.Cons,Aaz data d x.Vars y)/\(L++Ih x).Nodup/\Ji o' (L++Ih x):=by
 have hxm:=Ct hx
 have J:=(s.sz x hxm).1
 refine I2 (fun (f,g)=>∃c:Nat,f=c/\c<=x.Cons.length/\(∀y∈x.Cons.take c,Aaz data d x.Vars y)/\(L++(x.Cons.take c).map (·.Name)).Nodup/\Ji g (L++(x.Cons.take c).map (·.Name)))
  (fun (f,_)=>x.Cons.length-f.toNat) _ ?_ _ ⟨0,rfl,by omega,by simp,by simpa using M,by simpa using hm⟩
 rintro ⟨v,g⟩ ⟨c,rfl,hc,h1,h2,h3⟩
 rcases Nat.lt_or_ge c x.Cons.length with h | h
 .have hy:x.Cons[c]? = some x.Cons[c]:=B7 h
  generalize x.Cons[c]=y at hy
  have l:=Ct hy
  obtain ⟨b,b1,b2⟩:=Al4 y.Name (by have:=s.cn x hxm y l; omega)
  have ht:=Dk hy
  have D:L++Ih x=(L++(x.Cons.take c).map (·.Name))++y.Name::(x.Cons.drop (c+1)).map (·.Name):=by rw [Axk x hy]; simp
  simp only [Al (by omega:(c:Int)<(x.Cons.length:Int)),cond_true,Cj rfl hy,Ad,b1,Axb s.sz d c hx hy I s.len,Db h (by omega)]
  cases b with
  | false=>
   refine .inr ⟨.inl false,rfl,rfl,fun k=>?_⟩
   have:=b2.2 (k.1 y l).1; cases this
  | true=>
   simp only [D6,cond_false]
   cases j:El g y.Name with
   | true=>
    simp only [cond_true,h3.get j]
    refine .inr ⟨.inl false,rfl,rfl,fun k=>?_⟩
    rw [D] at k
    exact Al5 k.2 ((h3.2 _).1 j)
   | false=>
    simp only [cond_false]
    cases i:(decide (y.Args.length<=6)&&y.Args.all (Q9 data d x.Vars)) with
    | false=>
     refine .inr ⟨.inl false,rfl,rfl,fun k=>?_⟩
     have:=k.1 y l
     rw [this.2.2,Al this.2.1] at i; cases i
    | true=>
     simp only [C9,decide_eq_true_eq] at i
     have B:y.Name ∉ L++(x.Cons.take c).map (·.Name):=fun k=>by rw [(h3.2 _).2 k] at j; cases j
     have e:L++(x.Cons.take (c+1)).map (·.Name)=(L++(x.Cons.take c).map (·.Name))++[y.Name]:=by rw [ht]; simp
     refine .inl ⟨_,rfl,⟨c+1,rfl,by omega,?_,?_,?_⟩,by simp; omega⟩
     .intro G q
      rw [ht] at q
      rcases List.mem_append.1 q with h' | h'
      .exact h1 G h'
      .simp at h'; subst h'; exact ⟨b2.1 rfl,i.1,i.2⟩
     .rw [e]; exact Al6 h2 B
     .rw [e]; exact h3.put _
 .have:c=x.Cons.length:=by omega
  subst this
  rw [List.take_length] at h1 h2 h3
  exact .inr ⟨.inr ((x.Cons.length:Int),g),by simp,h1,h2,h3⟩
theorem Axm {data:List A9} {d:Nat} {x:A9} (hx:data[d]? = some x):data.flatMap Ih=((data.take d).flatMap Ih++Ih x)++(data.drop (d+1)).flatMap Ih/\data.map (·.Name)=(data.take d).map (·.Name)++x.Name::(data.drop (d+1)).map (·.Name):=by
 have h:=List.take_append_drop d data
 have hc:=Fd hx
 have e:data.drop d=x::data.drop (d+1):=by
  rw [List.drop_eq_getElem_cons hc]
  rw [B7 hc] at hx
  rw [Option.some.inj hx]
 constructor
 .conv=>lhs; rw [<-h,e]
  simp [List.flatMap_append]
 .conv=>lhs; rw [<-h,e]
  simp
theorem Axn {data:List A9} (j:DSz data):∃b,Vr data=some b/\(b=true↔Mt data):=by
 have G:=j.len
 unfold Vr
 rcases Nat.lt_or_ge 12 data.length with h12 | h12
 .rw [Al (by omega)]
  exact ⟨false,rfl,by simp; intro h; have:=h.1; omega⟩
 rw [Aq (by omega)]
 simp only [cond_false]
 refine Fb (fun (v31,f,g)=>∃d:Nat,v31=d/\d<=data.length/\(∀k x,k<d->data[k]? = some x->Afh data k x)/\((data.take d).map (·.Name)).Nodup/\((data.take d).flatMap Ih).Nodup/\Ji f ((data.take d).map (·.Name))/\Ji g ((data.take d).flatMap Ih))
  (fun (v31,_,_)=>data.length-v31.toNat) (fun z=>match z with | .inl r=>r=false/\¬Mt data | .inr _=>Mt data) ⟨0,rfl,by omega,by intro k x h; omega,by simp,by simp,by simpa using Ji.nil,by simpa using Ji.nil⟩ ?_ ?_
 .rintro ⟨v,f,g⟩ ⟨d,rfl,hd,h1,h2,h3,B,V⟩
  rcases Nat.lt_or_ge d data.length with h | h
  .have hx:data[d]? = some data[d]:=B7 h
   generalize data[d]=x at hx
   have hxm:=Ct hx
   obtain ⟨b,b1,b2⟩:=Al4 x.Name (by have:=j.nm x hxm; omega)
   obtain ⟨f1,f2⟩:=Axm hx
   simp only [Al (by omega:(d:Int)<(data.length:Int)),cond_true,Cj rfl hx,Ad,b1]
   have bad:∀(y:¬Afh data d x),∃e:Bool⊕((List (ByteArray×Bool))×(List (ByteArray×Bool))),(some (Sum.inr (Sum.inl false)):Option ((Int×(List (ByteArray×Bool))×(List (ByteArray×Bool)))⊕(Bool⊕((List (ByteArray×Bool))×(List (ByteArray×Bool))))))=some (.inr e)/\(match e with | .inl r=>r=false/\¬Mt data | .inr _=>Mt data) :=
    fun y=>⟨.inl false,rfl,rfl,fun c=>y (c.2.1 d x hx)⟩
   cases b with
   | false=>
    exact .inr (bad fun c=>by have:=b2.2 c.2.2.2.2.1; cases this)
   | true=>
    simp only [D6,cond_false]
    cases i:El f x.Name with
    | true=>
     simp only [cond_true,B.get i,Ad]
     refine .inr ⟨.inl false,rfl,rfl,fun c=>?_⟩
     have:=c.2.2.1
     rw [f2] at this
     exact Al5 this ((B.2 _).1 i)
    | false=>
     simp only [cond_false]
     by_cases q:x.Vars<0
     .simp only [Al q,cond_true,Ad]
      exact .inr (bad fun c=>by have:=c.1; omega)
     by_cases u:x.Vars>6
     .simp only [Aq q,Al u,cond_true,cond_false,Ad]
      exact .inr (bad fun c=>by have:=c.2.1; omega)
     simp only [Aq q,Aq u,cond_false,Ad]
     by_cases s:(x.Cons.length:Int)<1
     .simp only [Al s,cond_true,Ad]
      exact .inr (bad fun c=>by have:=c.2.2.1; omega)
     by_cases A:(x.Cons.length:Int)>8
     .simp only [Aq s,Al A,cond_true,cond_false,Ad]
      exact .inr (bad fun c=>by have:=c.2.2.2.1; omega)
     simp only [Aq s,Aq A,cond_false,Ad]
     obtain ⟨z,L,z2⟩:=Axl j hx (by omega) g _ V h3
     rw [L,Ad]
     match z,z2 with
     | .inl r,z2=>
      obtain ⟨rfl,z2⟩:=z2
      refine .inr ⟨.inl false,rfl,rfl,fun c=>z2 ⟨(c.2.1 d x hx).2.2.2.2.2,?_⟩⟩
      have:=c.2.2.2
      rw [f1] at this
      exact (List.nodup_append.1 this).1
     | .inr (v60,D),z2=>
      obtain ⟨R,N,M⟩:=z2
      have ht:=Dk hx
      have E:x.Name ∉ (data.take d).map (·.Name):=fun c=>by rw [(B.2 _).2 c] at i; cases i
      have J:(data.take (d+1)).map (·.Name)=(data.take d).map (·.Name)++[x.Name]:=by rw [ht]; simp
      have I:(data.take (d+1)).flatMap Ih=(data.take d).flatMap Ih++Ih x:=by rw [ht]; simp [List.flatMap_append]
      refine .inl ⟨(((d+1:Nat):Int),Fa f x.Name true,D),by simp only [Db h (by omega)],⟨d+1,rfl,by omega,?_,?_,?_,?_,?_⟩,by simp; omega⟩
      .intro k S U l
       rcases Nat.lt_or_ge k d with h' | h'
       .exact h1 k S h' l
       .have:k=d:=by omega
        subst this
        rw [hx] at l; cases l
        exact ⟨by omega,by omega,by omega,by omega,b2.1 rfl,R⟩
      .rw [J]; exact Al6 h2 E
      .rw [I]; exact N
      .rw [J]; exact B.put _
      .rw [I]; exact M
  .have:d=data.length:=by omega
   subst this
   rw [List.take_length] at h2 h3
   exact .inr ⟨.inr (f,g),by simp,h12,fun d x hx=>h1 d x (Fd hx) hx,h2,h3⟩
 .rintro (r | ⟨o,o'⟩) j
  .obtain ⟨rfl,j⟩:=j
   exact ⟨false,rfl,by simp [j]⟩
  .exact ⟨true,rfl,by simpa using j⟩
theorem Al7 {data:List A9} (c:DSz data):∃b,Vc data=some b/\(b=true↔Mt data):=by
 obtain ⟨b,h1,h2⟩:=Axn c
 refine ⟨b,?_,h2⟩
 unfold Vc
 rw [h1,Ad]
 cases b with
 | false=>rfl
 | true=>rfl
end Go.Ab
namespace Go.Ab
open Go
theorem SzD.args {data:List A9} (h:SzD data) {x:A9} (hx:x∈data) {y:Nm} (hy:y∈x.Cons) {t:Aj} (ht:t∈y.Args):B8 t<=1048576/\t.Args.length<=1048576/\y.Args.length<=1048576:=by
 have h1:=(h x hx).2 y hy
 have h3:=Lt ht
 have f:=Kw t
 have c:=Ms t.Args
 have b:=Ms y.Args
 omega
end Go.Ab
namespace Go.Ab
open Go
def isV (σ:List Aj) (k n:Int):Bool:=k==4&&decide (0<=n)&&decide (n<(σ.length:Int))
mutual
def Dn (σ:List Aj):Aj->Aj
 | ⟨k,n,l⟩=>match (if isV σ k n then σ[n.toNat]? else none) with
  | some s=>s
  | none=>⟨k,n,Nq σ l⟩
def Nq (σ:List Aj):List Aj->List Aj
 | []=>[]
 | x::xs=>Dn σ x::Nq σ xs
end
theorem Axo (σ l:List Aj):Nq σ l=l.map (Dn σ):=by
 induction l with
 | nil=>rfl
 | cons x xs ih=>simp only [Nq,ih,List.map_cons]
theorem Afi {σ:List Aj} {k n:Int} (h:isV σ k n=true):∃s,σ[n.toNat]? = some s/\Ag σ n=some s/\s∈σ:=by
 simp only [isV,C9,decide_eq_true_eq] at h
 have b:n.toNat < σ.length:=by omega
 refine ⟨σ[n.toNat],B7 b,?_,List.getElem_mem b⟩
 unfold Ag
 rw [if_pos (by omega),B7 b]
theorem Afj {σ:List Aj} {t s:Aj} (h:isV σ t.Kind t.Num=true) (b:σ[t.Num.toNat]? = some s):Dn σ t=s:=by
 cases t; simp only [Dn] at *; simp [h,b]
theorem Al8 {σ:List Aj} {t:Aj} (h:isV σ t.Kind t.Num=false):Dn σ t=⟨t.Kind,t.Num,t.Args.map (Dn σ)⟩:=by
 cases t; simp only [Dn] at *; simp [h,Axo]
mutual
theorem Al9:∀t:Aj,Dn [] t=t
 | ⟨k,n,l⟩=>by
  have hv:isV [] k n=false:=by
   unfold isV
   by_cases h:0<=n
   .rw [Aq (by simp; omega:¬n<(([]:List Aj).length:Int))]; simp
   .rw [Aq h]; simp
  simp only [Dn,hv,Ama l]; rfl
theorem Ama:∀l:List Aj,Nq [] l=l
 | []=>rfl
 | x::xs=>by simp only [Nq,Al9 x,Ama xs]
end
mutual
theorem Amb (σ:List Aj) (M:Nat) (hM:1<=M) (hσ:∀s∈σ,B8 s<=M):∀t:Aj,B8 (Dn σ t)<=B8 t*M
 | ⟨k,n,l⟩=>by
  cases hv:isV σ k n with
  | true=>
   obtain ⟨s,h1,_,h3⟩:=Afi hv
   rw [Afj (t:=⟨k,n,l⟩) hv h1]
   have:=hσ s h3
   have h2:=Tx ⟨k,n,l⟩
   calc B8 s<=1*M:=by omega
    _<=_:=Nat.mul_le_mul_right M h2
  | false=>
   have:=Amc σ M hM hσ l
   simp only [Dn,hv,B8]
   simp only [Bool.false_eq_true,if_false,B8]
   rw [Nat.add_mul]; omega
theorem Amc (σ:List Aj) (M:Nat) (hM:1<=M) (hσ:∀s∈σ,B8 s<=M):∀l:List Aj,C3 (Nq σ l)<=C3 l*M
 | []=>by simp [Nq,C3]
 | x::xs=>by
  have h1:=Amb σ M hM hσ x
  have h2:=Amc σ M hM hσ xs
  simp only [Nq,C3]
  rw [Nat.add_mul]; omega
end
theorem Amd (σ:List Aj) (t:Aj):(bif t.Kind==(4:Int) then bif decide (t.Num>=(0:Int)) then some (decide (t.Num<(σ.length:Int))) else some false else some false)=some (isV σ t.Kind t.Num):=by
 unfold isV
 cases t.Kind==4 <;> simp
 by_cases h:0<=t.Num <;> simp [h]
theorem Axp:∀(k:Nat) (t:Aj) (σ:List Aj) (M:Nat),(∀s∈σ,B8 s<=M)->B8 t+M+1<=k->k<1099511627776->Ot k t σ=some (Dn σ t):=by
 intro k
 induction k with
 | zero=>intro t σ M _ h; omega
 | succ k ih=>
  intro t σ M c h hk
  have g:=Kw t
  have f:=Ms t.Args
  rw [Ot]
  rw [show (show Option Bool from bif t.Kind==(4:Int) then bif decide (t.Num>=(0:Int)) then some (decide (t.Num<(σ.length:Int))) else some false else some false)=some (isV σ t.Kind t.Num) from Amd σ t,Ad]
  cases b:isV σ t.Kind t.Num with
  | true=>
   obtain ⟨s,h1,h2,h3⟩:=Afi b
   have:=c s h3
   simp only [cond_true,h2,Ad,Afj b h1,ih s [] 0 (by simp) (by omega) (by omega),Al9]
  | false=>
   rw [Al8 b]
   simp only [cond_false]
   refine Iu t.Args (fun j=>((j:Int),(t.Args.take j).map (Dn σ))) rfl (by omega) ?_ ?_
   .intro j x hj hx h1 h2 h3
    have:=Lt (Ct hx)
    simp only [h1,h2,h3,cond_true,Ad,ih x σ M c (by omega) (by omega)]
    rw [Dj (by simp; omega),Ad,Dk hx]; simp
   .intro h1
    exact ⟨t.Args.map (Dn σ),by simp,rfl⟩
theorem Axq:∀(k:Nat) (t:Aj),B8 t<=k->B8 t<1099511627776->Qu k t=some (B8 t:Int):=by
 intro k
 induction k with
 | zero=>intro t h; have:=Tx t; omega
 | succ k ih=>
  intro t h ht
  have b:=Kw t
  have c:=Ms t.Args
  rw [Qu]
  refine Iu t.Args (fun j=>(1+(C3 (t.Args.take j):Int),(j:Int))) rfl (by omega) ?_ ?_
  .intro j x hj hx h1 h2 h3
   have hm:=Lt (Ct hx)
   have f:=Afc t.Args (j+1)
   have e:C3 (t.Args.take (j+1))=C3 (t.Args.take j)+B8 x:=by rw [Dk hx,Aax]; simp [C3]
   simp only [h1,h2,h3,cond_true,Ad,ih x (by omega) (by omega)]
   rw [show Ac (1+(C3 (t.Args.take j):Int)+(B8 x:Int))=1+(C3 (t.Args.take (j+1)):Int) by rw [e,Ac,Bx] <;> omega]
  .intro h1
   exact ⟨1+(C3 t.Args:Int),by simp,by rw [b]; simp⟩
theorem Axr (σ:List Aj) (M:Nat) (G:1<=M) (u:M<=1048576) (A:∀s∈σ,B8 s<=M):∀(k:Nat) (t:Aj),B8 t<=k->B8 t<=1048576 ->
  ∃v:Nat,Qv k t (σ.map fun s=>(B8 s:Int))=some (v:Int)/\v<=B8 (Dn σ t)/\((v=B8 (Dn σ t))\/200<v):=by
 intro k
 induction k with
 | zero=>intro t h; have:=Tx t; omega
 | succ k ih=>
  intro t h ht
  have B:=Kw t
  have z:=Ms t.Args
  have l:∀x,B8 x<=1048576->B8 (Dn σ x)<=1099511627776:=fun x hx=>by
   have:=Amb σ M G A x
   have:B8 x*M<=1048576*1048576:=Nat.mul_le_mul hx u
   omega
  rw [Qv]
  rw [show (show Option Bool from bif t.Kind==(4:Int) then bif decide (t.Num>=(0:Int)) then some (decide (t.Num<((σ.map fun s=>(B8 s:Int)).length:Int))) else some false else some false)=some (isV σ t.Kind t.Num) by rw [List.length_map]; exact Amd σ t,Ad]
  cases f:isV σ t.Kind t.Num with
  | true=>
   obtain ⟨s,h1,h2,h3⟩:=Afi f
   have E:Ag (σ.map fun s=>(B8 s:Int)) t.Num=some (B8 s:Int):=by
    have:=J8 h2
    rw [Cj (n:=t.Num.toNat) (by omega)]
    simp [h1]
   simp only [cond_true,E,Ad,Afj f h1]
   exact ⟨B8 s,rfl,Nat.le_refl _,.inl rfl⟩
  | false=>
   have y:=l t ht
   rw [Al8 f] at y ⊢
   simp only [cond_false]
   have g:B8 ⟨t.Kind,t.Num,t.Args.map (Dn σ)⟩=1+C3 (t.Args.map (Dn σ)):=by simp only [B8]
   rw [g] at y ⊢
   refine Aaf (fun v:Nat=>(v:Int)) (Fb (fun (n,i)=>∃j:Nat,i=j/\j<=t.Args.length/\n=1+(C3 ((t.Args.map (Dn σ)).take j):Int)) (fun (_,i)=>t.Args.length-i.toNat)
    (fun n=>∃v:Nat,n=v/\v<=1+C3 (t.Args.map (Dn σ))/\(v=1+C3 (t.Args.map (Dn σ))\/200<v)) ⟨0,rfl,by omega,by simp [C3]⟩ ?_ ?_)
   .rintro ⟨n,i⟩ ⟨j,rfl,hj,q⟩
    have q:n=_:=q
    subst q
    rcases Nat.lt_or_ge j t.Args.length with h' | h'
    .have hx:t.Args[j]? = some t.Args[j]:=B7 h'
     generalize t.Args[j]=x at hx
     have hm:=Lt (Ct hx)
     obtain ⟨v,b,v2,v3⟩:=ih x (by omega) (by omega)
     have c:(t.Args.map (Dn σ))[j]? = some (Dn σ x):=by simp [hx]
     have e:C3 ((t.Args.map (Dn σ)).take (j+1))=C3 ((t.Args.map (Dn σ)).take j)+B8 (Dn σ x):=by rw [Dk c,Aax]; simp [C3]
     have D:=Afc (t.Args.map (Dn σ)) (j+1)
     have I:Ac (1+(C3 ((t.Args.map (Dn σ)).take j):Int)+(v:Int))=((1+C3 ((t.Args.map (Dn σ)).take j)+v:Nat):Int):=by rw [Ac,Bx] <;> omega
     simp only [Al (by omega:(j:Int)<(t.Args.length:Int)),cond_true,Cj rfl hx,Ad,b,Db h' (by omega),I]
     by_cases hb:1+C3 ((t.Args.map (Dn σ)).take j)+v>200
     .rw [Al (by omega)]
      exact .inr ⟨_,rfl,_,rfl,by omega,.inr hb⟩
     .rw [Aq (by omega)]
      refine .inl ⟨_,rfl,⟨j+1,rfl,by omega,?_⟩,by simp; omega⟩
      have:v=B8 (Dn σ x):=by omega
      subst this
      rw [e]; omega
    .have:j=t.Args.length:=by omega
     subst this
     refine .inr ⟨_,by simp; rfl,1+C3 (t.Args.map (Dn σ)),?_,by omega,.inl rfl⟩
     rw [List.take_of_length_le (by simp)]; omega
   .rintro n ⟨v,rfl,b,v2⟩
    exact ⟨_,rfl,v,rfl,b,v2⟩
def O5 (data:List A9) (t:Aj) (c:Int):Option (List Aj) :=
 if t.Kind=5 then
  match Ag data t.Num with
  | none=>none
  | some x=>if (t.Args.length:Int)=x.Vars then
    match Ag x.Cons c with
    | none=>none
    | some y=>if (y.Args.map (Dn t.Args)).all (fun a=>decide (B8 a<=200)) then some (y.Args.map (Dn t.Args)) else none
   else none
 else none
def okL (o:Option (List Aj)):List Aj×Bool:=match o with | none=>([],false) | some l=>(l,true)
def Szv (data:List A9):Prop:=∀x∈data,∀y∈x.Cons,y.Args.length<=6/\∀a∈y.Args,B8 a<=200
theorem Mt.szv {data:List A9} (h:Mt data):Szv data:=by
 intro x hx y hy
 obtain ⟨d,hd⟩:=List.getElem?_of_mem hx
 have h1:=h.2.1 d x hd
 obtain ⟨_,c,b⟩:=h1.2.2.2.2.2 y hy
 refine ⟨c,fun a ha=>?_⟩
 have:=List.all_eq_true.1 b a ha
 unfold Q9 at this
 rw [Bool.or_eq_true] at this
 rcases this with h' | h'
 .exact (Aly hd h1.2.1 h').2
 .simp only [C9,decide_eq_true_eq] at h'; exact h'.2
end Go.Ab
namespace Go.Ab
open Go
theorem Axs {data:List A9} (B:Szv data) (t:Aj) (ht:B8 t<=200) (c:Int):Wg data t c=some (okL (O5 data t c)):=by
 have D:=Kw t
 have u:=Ms t.Args
 unfold Wg O5
 by_cases hk:t.Kind=5
 .simp only [Fc hk,cond_false,if_pos hk]
  cases hx:Ag data t.Num with
  | none=>
   rcases Wy hx with h | h
   .simp only [Al h,cond_true,Ad,okL]
   .by_cases h':t.Num<0
    .simp only [Al h',cond_true,Ad,okL]
    .simp only [Aq h',Al (show t.Num>=(data.length:Int) from h),cond_true,cond_false,Ad,okL]
  | some x=>
   obtain ⟨a1,a2,_,hxm⟩:=J8 hx
   simp only [Aq (by omega:¬t.Num<0),Aq (by omega:¬t.Num>=(data.length:Int)),cond_false,Ad]
   by_cases g:(t.Args.length:Int)=x.Vars
   .simp only [Fc g,cond_false,if_pos g]
    cases hy:Ag x.Cons c with
    | none=>
     rcases Wy hy with h | h
     .simp only [Al h,cond_true,Ad,okL]
     .by_cases h':c<0
      .simp only [Al h',cond_true,Ad,okL]
      .simp only [Aq h',Al (show c>=(x.Cons.length:Int) from h),cond_true,cond_false,Ad,okL]
    | some y=>
     obtain ⟨b1,b2,_,k⟩:=J8 hy
     obtain ⟨G,b⟩:=B x hxm y k
     simp only [Aq (by omega:¬c<0),Aq (by omega:¬c>=(x.Cons.length:Int)),cond_false,Ad]
     rw [Is (n:=t.Args.length) (c:=t.Args.length) rfl rfl (by omega) (by omega) (by omega),Ad]
     refine Iu t.Args (fun j=>((j:Int),((t.Args.take j).map fun s=>(B8 s:Int))++List.replicate (t.Args.length-j) 0)) rfl (by omega) ?_ ?_
     .intro j s hj i h1 h2 h3
      have:=Lt (Ct i)
      obtain ⟨m,hm⟩:∃m,t.Args.length-j=m+1:=⟨t.Args.length-j-1,by omega⟩
      have E:t.Args.length-(j+1)=m:=by omega
      have l:j=((t.Args.take j).map fun s=>(B8 s:Int)).length:=by simp; omega
      simp only [h1,h2,h3,cond_true,Ad,Axq 4000000 s (by omega) (by omega),hm,E,List.replicate_succ,Afe _ _ _ (j:Int) j rfl l,Afd _ _ _ _ (j:Int) j rfl l,Dk i]
      simp
     .intro h1
      refine ⟨t.Args.map fun s=>(B8 s:Int),by simp,?_⟩
      have q:∀s∈t.Args,B8 s<=200:=fun s i=>by have:=Lt i; omega
      refine (Ig (rt:=(y.Args.map (Dn t.Args),true)) (rf:=([],false)) y.Args (fun a=>decide (B8 (Dn t.Args a)<=200)) (fun j=>(j:Int)) rfl (by omega) ?_ ?_).trans ?_
      .intro j a ha h1 h2 h3
       have A:=b a (Ct ha)
       obtain ⟨v,z,v2,v3⟩:=Axr t.Args 200 (by omega) (by omega) q 4000000 a (by omega) (by omega)
       simp only [h1,h2,h3,cond_true,Ad,z]
       by_cases hb:B8 (Dn t.Args a)<=200
       .rw [Al hb,Aq (by omega)]
        exact ⟨fun _=>rfl,fun h=>by cases h⟩
       .rw [Aq hb,Al (by omega)]
        exact ⟨(fun h=>by cases h),fun _=>⟨_,rfl,rfl⟩⟩
      .intro h1
       refine ⟨.inr (),by simp,?_⟩
       simp only
       refine Iu y.Args (fun j=>((j:Int),(y.Args.take j).map (Dn t.Args))) rfl (by omega) ?_ ?_
       .intro j a hj ha h1 h2 h3
        have A:=b a (Ct ha)
        simp only [h1,h2,h3,cond_true,Ad,Axp 4000000 a t.Args 200 q (by omega) (by omega)]
        rw [Dj (by simp; omega),Ad,Dk ha]; simp
       .intro h1
        exact ⟨y.Args.map (Dn t.Args),by simp,rfl⟩
      .rw [List.all_map]
       cases f:y.Args.all ((fun a=>decide (B8 a<=200)) ∘ Dn t.Args) with
       | true=>rw [if_pos rfl]; rw [show (y.Args.all fun a=>decide (B8 (Dn t.Args a)<=200))=true from f]; rfl
       | false=>rw [show (y.Args.all fun a=>decide (B8 (Dn t.Args a)<=200))=false from f]; rfl
   .simp only [Et g,cond_true,Ad,if_neg g,okL]
 .simp only [Et hk,cond_true,Ad,if_neg hk,okL]
theorem Afk {data:List A9} {t:Aj} {c:Int} {l:List Aj} (h:O5 data t c=some l) :
  ∃x y,t.Kind=5/\Ag data t.Num=some x/\(t.Args.length:Int)=x.Vars/\Ag x.Cons c=some y/\l=y.Args.map (Dn t.Args)/\∀a∈l,B8 a<=200:=by
 unfold O5 at h
 by_cases hk:t.Kind=5
 .rw [if_pos hk] at h
  cases hx:Ag data t.Num with
  | none=>rw [hx] at h; cases h
  | some x=>
   rw [hx] at h
   simp only at h
   by_cases f:(t.Args.length:Int)=x.Vars
   .rw [if_pos f] at h
    cases hy:Ag x.Cons c with
    | none=>rw [hy] at h; cases h
    | some y=>
     rw [hy] at h
     simp only at h
     by_cases b:(y.Args.map (Dn t.Args)).all (fun a=>decide (B8 a<=200))=true
     .rw [if_pos b] at h
      cases h
      refine ⟨x,y,hk,rfl,f,hy,rfl,fun a ha=>?_⟩
      have:=List.all_eq_true.1 b a ha
      simpa using this
     .rw [if_neg b] at h; cases h
   .rw [if_neg f] at h; cases h
 .rw [if_neg hk] at h; cases h
def Jj (l:List Aj) (r:List Bool):List Aj:=((l.zip r).filter fun p=>!p.2).map (·.1)
def Lu (data:List A9) (t:Aj) (c:Int):Option (List Aj):=(O5 data t c).map fun l=>Jj l (Iw data t.Num c)
theorem Axt {data:List A9} {t:Aj} {c:Int} {l:List Aj} (h:O5 data t c=some l):(Iw data t.Num c).length=l.length:=by
 obtain ⟨x,y,_,hx,_,hy,rfl,_⟩:=Afk h
 unfold Iw
 simp only [hx,hy,List.length_map]
theorem Axu {l:List Aj} {r:List Bool} {j:Nat} {a:Aj} {b:Bool} (h1:l[j]? = some a) (h2:r[j]? = some b):Jj (l.take (j+1)) (r.take (j+1))=Jj (l.take j) (r.take j)++bif b then [] else [a]:=by
 unfold Jj
 have f:=Fd h1
 have c:=Fd h2
 rw [Dk h1,Dk h2,List.zip_append (by simp; omega)]
 cases b <;> simp
theorem Axv (l:List Aj) (r:List Bool):(Jj l r).length<=l.length:=by
 unfold Jj
 rw [List.length_map]
 refine Nat.le_trans (List.length_filter_le _ _) ?_
 rw [List.length_zip]; omega
theorem Axw {data:List A9} {t:Aj} {c:Int} {l:List Aj} (h:Lu data t c=some l):(∀a∈l,B8 a<=200)/\∃x,Ag data t.Num=some x/\0<=c/\c<x.Cons.length:=by
 unfold Lu at h
 cases b:O5 data t c with
 | none=>rw [b] at h; cases h
 | some m=>
  rw [b] at h
  cases h
  obtain ⟨x,y,_,hx,_,hy,_,g⟩:=Afk b
  refine ⟨fun a ha=>?_,x,hx,(J8 hy).1,(J8 hy).2.1⟩
  unfold Jj at ha
  obtain ⟨p,f,rfl⟩:=List.mem_map.1 ha
  exact g _ (List.of_mem_zip (List.mem_filter.1 f).1).1
end Go.Ab
namespace Go.Ab
open Go
mutual
def Dm:Bs->Nat
 | ⟨_,l⟩=>1+Fu l
def Fu:List Bs->Nat
 | []=>0
 | x::xs=>Dm x+Fu xs
end
theorem Hg (t:Bs):Dm t=1+Fu t.Kids:=by cases t; simp only [Dm]
theorem Ra {l:List Bs} {a:Bs} (h:a∈l):Dm a<=Fu l:=by
 induction l with
 | nil=>cases h
 | cons x xs ih=>
  simp only [Fu]
  rcases List.mem_cons.1 h with rfl | h
  .omega
  .have:=ih h; omega
theorem Tz (l:List Bs):l.length<=Fu l:=by
 induction l with
 | nil=>simp
 | cons x xs ih=>simp only [Fu,List.length_cons]; have:=Hg x; omega
mutual
def Ix (data:List A9):Bs->Aj->Option Nat
 | ⟨n,kids⟩,t=>
  if t.Kind=6 then (if n=0 then Ga data kids t.Args else none)
  else if t.Kind=7 then (if 0<=n/\n<=6/\kids.length=0 then some n.toNat else none)
  else if t.Kind=5 then (if n=0 then J9 data kids t else none)
  else if n=0/\kids.length=0 then some 0 else none
def Ga (data:List A9):List Bs->List Aj->Option Nat
 | [],[]=>some 0
 | i::is,t::ts=>(Ix data i t).bind fun a=>(Ga data is ts).map (a + ·)
 | [],_::_=>none
 | _::_,[]=>none
def J9 (data:List A9):List Bs->Aj->Option Nat
 | [],_=>some 0
 | ⟨n,kids⟩::es,t=>(Lu data t n).bind fun ts=>(Ga data kids ts).bind fun a=>(J9 data es t).map (1+a + ·)
end
theorem Ame (data:List A9) (i:Bs) (t:Aj):Ix data i t=if t.Kind=6 then (if i.Num=0 then Ga data i.Kids t.Args else none)
  else if t.Kind=7 then (if 0<=i.Num/\i.Num<=6/\i.Kids.length=0 then some i.Num.toNat else none)
  else if t.Kind=5 then (if i.Num=0 then J9 data i.Kids t else none)
  else if i.Num=0/\i.Kids.length=0 then some 0 else none:=by cases i; simp only [Ix]
theorem Amf (data:List A9) (e:Bs) (es:List Bs) (t:Aj):J9 data (e::es) t=(Lu data t e.Num).bind fun ts=>(Ga data e.Kids ts).bind fun a=>(J9 data es t).map (1+a + ·):=by cases e; simp only [J9]
theorem Afl (data:List A9) (i:Bs) (b:List Bs) (t:Aj) (ts:List Aj):Ga data (i::b) (t::ts)=(Ix data i t).bind fun a=>(Ga data b ts).map (a + ·):=by simp only [Ga]
theorem Amg (data:List A9):∀(b:List Bs) (ts:List Aj),ts.length≠b.length->Ga data b ts=none
 | [],[],h=>absurd rfl h
 | i::b,t::ts,h=>by rw [Afl,Amg data b ts (by simpa using h)]; cases Ix data i t <;> rfl
 | [],_::_,_=>by simp only [Ga]
 | _::_,[],_=>by simp only [Ga]
def Jk (o:Option Nat):Int:=match o with | some d=>if d<=6 then (d:Int) else -1 | none => -1
theorem Amh {d:Nat} (h:d<=6):Jk (some d)=d:=by simp [Jk,h]
theorem Afm {d:Nat} (h:6<d):Jk (some d) = -1:=by simp only [Jk]; rw [if_neg (by omega)]
theorem Axx (o:Option Nat):(Jk o = -1/\∀d,o=some d->6<d)\/∃d,o=some d/\d<=6/\Jk o=d:=by
 cases o with
 | none=>exact .inl ⟨rfl,fun d h=>by cases h⟩
 | some d=>
  rcases Nat.lt_or_ge 6 d with h | h
  .exact .inl ⟨Afm h,fun e b=>by cases b; exact h⟩
  .exact .inr ⟨d,rfl,h,Amh h⟩
theorem Axy {o:Option Nat} (h:∀d,o=some d->6<d):Jk o = -1:=by
 cases o with
 | none=>rfl
 | some d=>exact Afm (h d rfl)
theorem Iy {α:Type} {l:List α} {j:Nat} {x:α} (h:l[j]? = some x):l.drop j=x::l.drop (j+1):=by
 have hj:=Fd h
 rw [List.drop_eq_getElem_cons hj]
 rw [B7 hj] at h
 rw [Option.some.inj h]
end Go.Ab
namespace Go.Ab
open Go
end Go.Ab
namespace Go.Ab
open Go
def I64 (n:Int):Prop:= -9223372036854775808<=n/\n<=9223372036854775807
def ti (n:Int):List Int:=(Lib.itoa n).map fun c=>(c.toNat:Int)
def Nr (c:Int):Bool:=c==45||(decide (48<=c)&&decide (c<=57))
theorem T0 {d:Nat} (h:d<10):(UInt8.ofNat (48+d)).toNat=48+d:=by
 rw [UInt8.toNat_ofNat']; omega
theorem Aa0:∀(n u:Nat),u<=n->∀c∈Lib.decDigits u,48<=c.toNat/\c.toNat<=57:=by
 intro n
 induction n with
 | zero=>
  intro u hu c hc
  rw [Lib.decDigits,dif_pos (by omega)] at hc
  simp only [List.mem_singleton] at hc
  subst hc; rw [T0 (by omega)]; omega
 | succ n ih=>
  intro u hu c hc
  rw [Lib.decDigits] at hc
  split at hc
  .simp only [List.mem_singleton] at hc
   subst hc; rw [T0 (by omega)]; omega
  .rcases List.mem_append.1 hc with h | h
   .exact ih (u / 10) (by omega) c h
   .simp only [List.mem_singleton] at h
    subst h; rw [T0 (by omega)]; omega
def Aa1 (l:List UInt8):Nat:=l.foldl (fun a c=>10*a+(c.toNat-48)) 0
theorem Ami:∀(n u:Nat),u<=n->Aa1 (Lib.decDigits u)=u:=by
 intro n
 induction n with
 | zero=>
  intro u hu
  rw [Lib.decDigits,dif_pos (by omega)]
  simp only [Aa1,List.foldl_cons,List.foldl_nil]
  rw [T0 (by omega)]; omega
 | succ n ih=>
  intro u hu
  rw [Lib.decDigits]
  split
  .simp only [Aa1,List.foldl_cons,List.foldl_nil]
   rw [T0 (by omega)]; omega
  .have:=ih (u / 10) (by omega)
   unfold Aa1 at *
   rw [List.foldl_append,this]
   simp only [List.foldl_cons,List.foldl_nil]
   rw [T0 (by omega)]; omega
theorem Amj {u v:Nat} (h:Lib.decDigits u=Lib.decDigits v):u=v:=by
 rw [<-Ami u u (Nat.le_refl _),h,Ami v v (Nat.le_refl _)]
theorem Axz (u:Nat):Lib.decDigits u≠[]:=by
 rw [Lib.decDigits]; split <;> simp
theorem Ax0 {m n:Int} (h:Lib.itoa m=Lib.itoa n):m=n:=by
 have b:∀u v:Nat,45::Lib.decDigits u≠Lib.decDigits v:=by
  intro u v e
  have:=Aa0 v v (Nat.le_refl _) 45 (by rw [<-e]; simp)
  exact absurd this (by decide)
 unfold Lib.itoa at h
 split at h <;> split at h
 .have:=Amj (List.cons.inj h).2; omega
 .exact absurd h (b _ _)
 .exact absurd h.symm (b _ _)
 .have:=Amj h; omega
theorem Gz (n:Int):∀c∈ti n,Nr c=true:=by
 intro c hc
 unfold ti at hc
 obtain ⟨b,hb,rfl⟩:=List.mem_map.1 hc
 have key:b=45\/(48<=b.toNat/\b.toNat<=57):=by
  unfold Lib.itoa at hb
  split at hb
  .rcases List.mem_cons.1 hb with h | h
   .exact .inl h
   .exact .inr (Aa0 _ _ (Nat.le_refl _) b h)
  .exact .inr (Aa0 _ _ (Nat.le_refl _) b hb)
 unfold Nr
 rcases key with rfl | ⟨h1,h2⟩
 .decide
 .rw [Bool.or_eq_true,C9,decide_eq_true_eq,decide_eq_true_eq]; right; omega
theorem Afn (n:Int):ti n≠[]:=by
 unfold ti Lib.itoa
 split
 .simp
 .simpa using Axz _
theorem Rb {m n:Int} (h:ti m=ti n):m=n:=by
 unfold ti at h
 have:∀l m:List UInt8,l.map (fun c=>(c.toNat:Int))=m.map (fun c=>(c.toNat:Int))->l=m:=by
  intro l
  induction l with
  | nil=>intro m h; cases m with | nil=>rfl | cons=>simp at h
  | cons x xs ih=>
   intro m h
   cases m with
   | nil=>simp at h
   | cons y ys=>
    simp only [List.map_cons,List.cons.injEq] at h
    rw [ih ys h.2,UInt8.toNat.inj (by omega:x.toNat=y.toNat)]
 exact Ax0 (this _ _ h)
theorem Lv {n:Int} (h:I64 n):(ti n).length<=21:=by
 unfold ti; rw [List.length_map]; exact Lib.itoa_length_le n h.1 h.2
def O6 (X:List Int):Prop:=∀c m,X=c::m->Nr c=false/\c≠40
def Ka (X:List Int):Prop:=∀c m,X=c::m->Nr c=false
theorem Ns:∀(a b X Y:List Int),(∀c∈a,Nr c=true)->(∀c∈b,Nr c=true)->Ka X->Ka Y->a++X=b++Y->a=b/\X=Y
 | [],[],_,_,_,_,_,_,h=>⟨rfl,h⟩
 | [],y::b,X,Y,_,hb,g,_,h=>by
  have:=g y (b++Y) h
  rw [hb y (by simp)] at this; cases this
 | x::a,[],X,Y,ha,_,_,f,h=>by
  have:=f x (a++X) h.symm
  rw [ha x (by simp)] at this; cases this
 | x::a,y::b,X,Y,ha,hb,g,f,h=>by
  simp only [List.cons_append,List.cons.injEq] at h
  obtain ⟨j,i⟩:=Ns a b X Y (fun c hc=>ha c (by simp [hc])) (fun c hc=>hb c (by simp [hc])) g f h.2
  exact ⟨by rw [h.1,j],i⟩
mutual
def wx:Bs->List Int
 | ⟨n,kids⟩=>ti n++(if kids.length=0 then [] else 40::(wxs kids++[41]))
def wxs:List Bs->List Int
 | []=>[]
 | x::xs=>wx x++44::wxs xs
end
theorem Afo (i:Bs):wx i=ti i.Num++(if i.Kids.length=0 then [] else 40::(wxs i.Kids++[41])):=by cases i; simp only [wx]
theorem Amk (l m:List Bs):wxs (l++m)=wxs l++wxs m:=by
 induction l with
 | nil=>simp [wxs]
 | cons x xs ih=>simp only [List.cons_append,wxs,ih,List.append_assoc]
theorem Aml (b:List Bs) (X:List Int) (f:O6 X):Ka ((if b.length=0 then [] else 40::(wxs b++[41]))++X):=by
 intro c m h
 by_cases hk:b.length=0
 .rw [if_pos hk,List.nil_append] at h
  exact (f c m h).1
 .rw [if_neg hk,List.cons_append] at h
  cases h; decide
theorem Amm (X:List Int):O6 (44::X):=by intro c m h; cases h; exact ⟨by decide,by decide⟩
theorem Amn:O6 []:=by intro c m h; cases h
mutual
theorem Afp:∀(i j:Bs) (X Y:List Int),O6 X->O6 Y->wx i++X=wx j++Y->i=j/\X=Y
 | ⟨n,k⟩,⟨n',k'⟩,X,Y,hX,hY,h=>by
  simp only [wx,List.append_assoc] at h
  obtain ⟨e1,e2⟩:=Ns _ _ _ _ (Gz n) (Gz n') (Aml k X hX) (Aml k' Y hY) h
  have e1:=Rb e1
  subst e1
  by_cases hk:k.length=0
  .by_cases hk':k'.length=0
   .rw [if_pos hk,if_pos hk'] at e2
    rw [List.length_eq_zero_iff.1 hk,List.length_eq_zero_iff.1 hk']
    exact ⟨rfl,e2⟩
   .rw [if_pos hk,if_neg hk',List.nil_append,List.cons_append] at e2
    exact absurd rfl (hX _ _ e2).2
  .by_cases hk':k'.length=0
   .rw [if_neg hk,if_pos hk',List.nil_append,List.cons_append] at e2
    exact absurd rfl (hY _ _ e2.symm).2
   .rw [if_neg hk,if_neg hk',List.cons_append,List.cons_append,List.append_assoc,List.append_assoc] at e2
    obtain ⟨e3,e4⟩:=Amo k k' X Y hX hY (List.cons.inj e2).2
    rw [e3]; exact ⟨rfl,e4⟩
theorem Amo:∀(l m:List Bs) (X Y:List Int),O6 X->O6 Y->wxs l++([41]++X)=wxs m++([41]++Y)->l=m/\X=Y
 | [],[],X,Y,_,_,h=>by
  simp only [wxs,List.nil_append,List.cons_append,List.cons.injEq,true_and] at h
  exact ⟨rfl,h⟩
 | [],y::ys,X,Y,_,_,h=>by
  exfalso
  cases ht:ti y.Num with
  | nil=>exact Afn _ ht
  | cons c r=>
   have hc:=Gz y.Num c (by rw [ht]; simp)
   simp only [wxs,Afo y,ht,List.nil_append,List.cons_append,List.cons.injEq] at h
   rw [<-h.1] at hc; exact absurd hc (by decide)
 | x::xs,[],X,Y,_,_,h=>by
  exfalso
  cases ht:ti x.Num with
  | nil=>exact Afn _ ht
  | cons c r=>
   have hc:=Gz x.Num c (by rw [ht]; simp)
   simp only [wxs,Afo x,ht,List.nil_append,List.cons_append,List.cons.injEq] at h
   rw [h.1] at hc; exact absurd hc (by decide)
 | x::xs,y::ys,X,Y,hX,hY,h=>by
  simp only [wxs,List.append_assoc,List.cons_append] at h
  obtain ⟨e1,e2⟩:=Afp x y _ _ (Amm _) (Amm _) h
  obtain ⟨e3,e4⟩:=Amo xs ys X Y hX hY (by simpa using e2)
  exact ⟨by rw [e1,e3],e4⟩
end
mutual
def iR:Bs->Prop
 | ⟨n,l⟩=>I64 n/\iRs l
def iRs:List Bs->Prop
 | []=>True
 | x::xs=>iR x/\iRs xs
end
theorem Ax1 (i:Bs):iR i↔I64 i.Num/\iRs i.Kids:=by cases i; simp only [iR]
theorem Ax2 {l:List Bs} (h:iRs l) {a:Bs} (ha:a∈l):iR a:=by
 induction l with
 | nil=>cases ha
 | cons x xs ih=>
  simp only [iRs] at h
  rcases List.mem_cons.1 ha with rfl | ha
  .exact h.1
  .exact ih h.2 ha
mutual
theorem Afq:∀i:Bs,iR i->(wx i).length+1<=24*Dm i
 | ⟨n,l⟩,h=>by
  simp only [iR] at h
  have h1:=Aa2 l h.2
  have h2:=Lv h.1
  simp only [wx,Dm,List.length_append]
  by_cases hl:l.length=0
  .rw [if_pos hl]; simp; omega
  .rw [if_neg hl]; simp; omega
theorem Aa2:∀l:List Bs,iRs l->(wxs l).length<=24*Fu l
 | [],_=>by simp [wxs,Fu]
 | x::xs,h=>by
  simp only [iRs] at h
  have h1:=Afq x h.1
  have h2:=Aa2 xs h.2
  have h3:=Hg x
  simp only [wxs,Fu,List.length_append,List.length_cons]; omega
end
theorem Amp (l m:List Bs):Fu (l++m)=Fu l+Fu m:=by
 induction l with
 | nil=>simp [Fu]
 | cons x xs ih=>simp only [List.cons_append,Fu,ih]; omega
theorem Ax3 (l m:List Bs):iRs (l++m)↔iRs l/\iRs m:=by
 induction l with
 | nil=>simp [iRs]
 | cons x xs ih=>simp only [List.cons_append,iRs,ih,and_assoc]
theorem Afr {n:Int} (h:I64 n):M2 n=some ⟨(Lib.itoa n).toArray⟩:=by unfold M2; rw [if_pos (show _/\_ from h)]
theorem Ax4 (n:Int):Lf ⟨(Lib.itoa n).toArray⟩=ti n:=by unfold Lf ti; simp
theorem Ax5:∀(k:Nat) (i:Bs) (b:List Int),Dm i<=k->iR i->b.length+24*Dm i<=1099511627776->Qb k i b=some (b++wx i):=by
 intro k
 induction k with
 | zero=>intro i b h; have:=Hg i; omega
 | succ k ih=>
  intro i b h c hb
  have D:=Hg i
  have A:=Tz i.Kids
  have c:=(Ax1 i).1 c
  have B:=Lv c.1
  rw [Qb,Afo]
  simp only [He,Afr c.1,Ad,Fz,To,Ax4]
  rw [Dj (by omega)]
  simp only [Ad]
  by_cases h0:i.Kids.length=0
  .rw [Aq (by omega),if_pos h0]; simp
  .rw [Al (by omega),if_neg h0]
   simp only [cond_true,Tf,To,Ad]
   rw [Dj (by simp; omega),Ad]
   have g:=Aa2 i.Kids c.2
   have l:∀j,(wxs (i.Kids.take j)).length<=24*Fu i.Kids:=fun j=>by
    have:=Amk (i.Kids.take j) (i.Kids.drop j)
    rw [List.take_append_drop] at this
    rw [this,List.length_append] at g; omega
   refine Iu i.Kids (fun j=>((j:Int),b++ti i.Num++[40]++wxs (i.Kids.take j))) (by simp [wxs]) (by omega) ?_ ?_
   .intro j x hj hx h1 h2 h3
    have hm:=Ra (Ct hx)
    have f:=Ax2 c.2 (Ct hx)
    have z:=Afq x f
    have q:=l (j+1)
    have e:wxs (i.Kids.take (j+1))=wxs (i.Kids.take j)++(wx x++[44]):=by rw [Dk hx,Amk]; simp [wxs]
    rw [e] at q
    simp only [List.length_append,List.length_cons,List.length_nil] at q
    simp only [h1,h2,h3,cond_true,Ad]
    have y:Fu (i.Kids.take j)+Dm x<=Fu i.Kids:=by
     have s:=Amp (i.Kids.take (j+1)) (i.Kids.drop (j+1))
     rw [List.take_append_drop,Dk hx,Amp] at s
     simp only [Fu] at s; omega
    have u:(wxs (i.Kids.take j)).length<=24*Fu (i.Kids.take j):=Aa2 _ (by
     have:=(Ax3 (i.Kids.take j) (i.Kids.drop j)).1 (by rw [List.take_append_drop]; exact c.2)
     exact this.1)
    rw [ih x _ (by omega) f (by simp; omega)]
    simp only [Ad]
    rw [Dj (by simp; omega),e]
    simp
   .intro h1
    refine ⟨b++ti i.Num++[40]++wxs i.Kids,by simp,?_⟩
    rw [Dj (by simp; omega)]
    simp
def H6 (v:Int) (i:Bs):List Int:=118::(ti v++58::wx i)
def G0 (v:Int) (i:Bs):ByteArray:=⟨(D5 (H6 v i)).toArray⟩
mutual
theorem Amq:∀i:Bs,∀c∈wx i,0<=c/\c<256
 | ⟨n,l⟩,c,h=>by
  simp only [wx,List.mem_append] at h
  rcases h with h | h
  .have:=Gz n c h
   simp only [Nr,Bool.or_eq_true,C9,beq_iff_eq,decide_eq_true_eq] at this
   omega
  .by_cases hl:l.length=0
   .rw [if_pos hl] at h; cases h
   .rw [if_neg hl] at h
    simp only [List.mem_cons,List.mem_append,List.not_mem_nil,or_false] at h
    rcases h with h | h | h
    .omega
    .exact Amr l c h
    .omega
theorem Amr:∀l:List Bs,∀c∈wxs l,0<=c/\c<256
 | [],c,h=>by simp [wxs] at h
 | x::xs,c,h=>by
  simp only [wxs,List.mem_append,List.mem_cons] at h
  rcases h with h | h | h
  .exact Amq x c h
  .omega
  .exact Amr xs c h
end
theorem Aa3 (v:Int) (i:Bs):∀c∈H6 v i,0<=c/\c<256:=by
 intro c h
 simp only [H6,List.mem_cons,List.mem_append] at h
 rcases h with h | h | h | h
 .omega
 .have:=Gz v c h
  simp only [Nr,Bool.or_eq_true,C9,beq_iff_eq,decide_eq_true_eq] at this
  omega
 .omega
 .exact Amq i c h
theorem Afs:∀l m:List Int,(∀c∈l,0<=c/\c<256)->(∀c∈m,0<=c/\c<256)->D5 l=D5 m->l=m
 | [],[],_,_,_=>rfl
 | [],_::_,_,_,h=>by simp [D5] at h
 | _::_,[],_,_,h=>by simp [D5] at h
 | x::xs,y::ys,h1,h2,h=>by
  simp only [D5,List.map_cons,List.cons.injEq] at h
  have hx:=h1 x (by simp)
  have hy:=h2 y (by simp)
  have e:x.toNat=y.toNat:=by
   have:=congrArg UInt8.toNat h.1
   rw [UInt8.toNat_ofNat',UInt8.toNat_ofNat'] at this
   omega
  rw [Afs xs ys (fun c hc=>h1 c (by simp [hc])) (fun c hc=>h2 c (by simp [hc])) h.2,show x=y by omega]
theorem Ams {v w:Int} {i j:Bs} (h:G0 v i=G0 w j):v=w/\i=j:=by
 unfold G0 at h
 have h1:(D5 (H6 v i)).toArray=(D5 (H6 w j)).toArray:=by injection h
 have h2:D5 (H6 v i)=D5 (H6 w j):=by simpa using congrArg Array.toList h1
 have h3:=Afs _ _ (Aa3 v i) (Aa3 w j) h2
 simp only [H6,List.cons.injEq,true_and] at h3
 have b:∀X:List Int,Ka (58::X):=fun X c m e=>by cases e; decide
 obtain ⟨k,g⟩:=Ns _ _ _ _ (Gz v) (Gz w) (b _) (b _) h3
 obtain ⟨f,_⟩:=Afp i j [] [] Amn Amn (by simpa using (List.cons.inj g).2)
 exact ⟨Rb k,f⟩
theorem Ax6 (l:List UInt8):Lf ⟨l.toArray⟩=l.map fun b=>(b.toNat:Int):=by unfold Lf; simp
theorem Aft (v:Int) (i:Bs) (c:I64 v) (g:iR i) (q:Dm i<=1048576):J0 v i=some (G0 v i):=by
 have l:=Lv c
 have f:(Lib.itoa v).length=(ti v).length:=by unfold ti; simp
 unfold J0
 have k:E4 (ByteArray.mk #[118]) ⟨(Lib.itoa v).toArray⟩=some ⟨(118::Lib.itoa v).toArray⟩:=by
  unfold E4
  rw [if_pos]
  .congr 1
  .show 1+(Lib.itoa v).toArray.size<=9223372036854775807
   rw [List.size_toArray]; omega
 have j:E4 ⟨(118::Lib.itoa v).toArray⟩ (ByteArray.mk #[58])=some ⟨(118::(Lib.itoa v++[58])).toArray⟩:=by
  unfold E4
  rw [if_pos]
  .congr 1
  .show (118::Lib.itoa v).toArray.size+1<=9223372036854775807
   rw [List.size_toArray,List.length_cons]; omega
 simp only [He,Afr c,Ad,k,j,Hn,V3,Ax6]
 rw [Dj (by simp; omega)]
 simp only [Ad]
 rw [Ax5 4000000 i _ (by omega) g (by simp; omega)]
 simp only [Ad,J1]
 have h:([]++(118::(Lib.itoa v++[58])).map fun b=>(b.toNat:Int))++wx i=H6 v i:=by
  unfold H6 ti; simp
 rw [h]
 unfold Uw G0
 rw [if_pos (Aa3 v i)]; rfl
end Go.Ab
