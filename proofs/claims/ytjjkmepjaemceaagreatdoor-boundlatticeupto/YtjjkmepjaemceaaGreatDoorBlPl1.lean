/- Plain laws: what the plain functions answer. -/
import Derived.Test.YtjjkmepjaemceaaGreatDoorBlPl0
namespace Go.Ab
open Go Ieee
theorem Aoq (n d:Nat):∃c,Toward.even.cut false n d=c/\(n / 2 ^ d<=c)/\c<=n / 2 ^ d+1/\(n % 2 ^ d=0->c=n / 2 ^ d):=by
 refine ⟨_,rfl,?_⟩
 unfold Toward.cut
 simp only [Nat.shiftLeft_eq,Nat.one_mul]
 by_cases hd:d<=n.log2+2
 .rw [Nat.min_eq_left hd]
  generalize h2:2 ^ d=g
  have h:0<g:=by rw [<-h2]; exact Nat.pow_pos (by decide)
  refine ⟨by omega,?_,fun h0=>?_⟩
  .have:=Bool.toNat_le (decide (g<2*(n % g))||(g==2*(n % g)&&n / g % 2==1))
   omega
  .rw [h0]
   have h1:decide (g<2*0)=false:=by simp
   have h3:(g==2*0)=false:=by simp; omega
   rw [h1,h3]; rfl
 .rw [Nat.min_eq_right (by omega)]
  have b:n<2 ^ (n.log2+1):=Nat.lt_log2_self
  have h:2 ^ (n.log2+2)=2*2 ^ (n.log2+1):=by rw [Nat.pow_succ]; omega
  have f:2 ^ (n.log2+2)<=2 ^ d:=Nat.pow_le_pow_right (by decide) (by omega)
  have l:n / 2 ^ (n.log2+2)=0:=Nat.div_eq_of_lt (by omega)
  have k:n % 2 ^ (n.log2+2)=n:=Nat.mod_eq_of_lt (by omega)
  have j:n / 2 ^ d=0:=Nat.div_eq_of_lt (by omega)
  have i:n % 2 ^ d=n:=Nat.mod_eq_of_lt (by omega)
  rw [l,k,j,i]
  have h1:decide (2 ^ (n.log2+2)<2*n)=false:=by simp; omega
  have h3:(2 ^ (n.log2+2)==2*n)=false:=by simp; omega
  rw [h1,h3]
  exact ⟨by simp,by simp,fun _=>rfl⟩
theorem Qw (f:Nat) (place e:Int) (u:f≠0) (E:place+f.log2=e) (h1 : -1000<=e) (h2:e<=900) :
  ∃(m:Nat) (p:Int),double.read (double.nearest false f place) = .number false m p/\4503599627370496<=m/\m<9007199254740992/\(p=e-52\/(p=e-51/\m=4503599627370496)):=by
 have g:max (place+f.log2-(double.fractionBits:Int)) double.leastPlace=e-52:=by
  have a:(double.fractionBits:Int)=52:=rfl
  have b:double.leastPlace = -1074:=by decide
  rw [a,b,E]; omega
 have hw:double.nearest false f place=min ((e-52+1074).toNat*4503599627370496+Toward.even.cut false (f <<< (place-(e-52)).toNat) ((e-52)-place).toNat) (2047*4503599627370496):=by
  unfold Format.nearest
  rw [if_neg u]
  simp only [g]
  have b:double.leastPlace = -1074:=by decide
  have c:double.binade=4503599627370496:=by decide
  have d:double.infRung=2047*4503599627370496:=by decide
  rw [b,c,d]
  unfold Format.word
  simp only [Bool.false_eq_true,if_false]
  congr 3
 have hk:4503599627370496<=Toward.even.cut false (f <<< (place-(e-52)).toNat) ((e-52)-place).toNat/\Toward.even.cut false (f <<< (place-(e-52)).toNat) ((e-52)-place).toNat<=9007199254740992:=by
  obtain ⟨c,hc,s,q,i⟩:=Aoq (f <<< (place-(e-52)).toNat) ((e-52)-place).toNat
  rw [hc]
  have D:2 ^ f.log2<=f:=Nat.log2_self_le u
  have B:f<2 ^ (f.log2+1):=Nat.lt_log2_self
  rw [Nat.shiftLeft_eq] at s q i
  rcases Int.le_total place (e-52) with h | h
  .have z:(place-(e-52)).toNat=0:=by omega
   rw [z,Nat.pow_zero,Nat.mul_one] at s q i
   have hd:f.log2=52+((e-52)-place).toNat:=by omega
   have hp:2 ^ f.log2=4503599627370496*2 ^ ((e-52)-place).toNat:=by rw [hd,Nat.pow_add]
   have l:2 ^ (f.log2+1)=9007199254740992*2 ^ ((e-52)-place).toNat:=by rw [Nat.pow_succ,hp]; omega
   have hpos:0<2 ^ ((e-52)-place).toNat:=Nat.pow_pos (by decide)
   have a1:4503599627370496<=f / 2 ^ ((e-52)-place).toNat:=(Nat.le_div_iff_mul_le hpos).2 (by omega)
   have a2:f / 2 ^ ((e-52)-place).toNat<9007199254740992:=(Nat.div_lt_iff_lt_mul hpos).2 (by omega)
   omega
  .have z:((e-52)-place).toNat=0:=by omega
   rw [z,Nat.pow_zero,Nat.div_one] at s q i
   have I:=i (Nat.mod_one _)
   have hd:52=f.log2+(place-(e-52)).toNat:=by omega
   have hp:2 ^ f.log2*2 ^ (place-(e-52)).toNat=4503599627370496:=by rw [<-Nat.pow_add,<-hd]
   have l:2 ^ (f.log2+1)*2 ^ (place-(e-52)).toNat=9007199254740992:=by rw [Nat.pow_succ,Nat.mul_right_comm,hp]
   have hpos:0<2 ^ (place-(e-52)).toNat:=Nat.pow_pos (by decide)
   have a1:=Nat.mul_le_mul_right (2 ^ (place-(e-52)).toNat) D
   have a2:=Nat.mul_lt_mul_of_pos_right B hpos
   omega
 generalize Toward.even.cut false (f <<< (place-(e-52)).toNat) ((e-52)-place).toNat=c at *
 obtain ⟨t,ht⟩:∃t:Nat,(e-52+1074).toNat=t/\t<=1922/\(t:Int)=e+1022:=⟨_,rfl,by omega,by omega⟩
 rw [ht.1] at hw
 rw [Nat.min_eq_left (by omega)] at hw
 rw [hw]
 have b:double.leastPlace = -1074:=by decide
 have G:double.binade=4503599627370496:=by decide
 have d:double.infRung=2047*4503599627370496:=by decide
 have x:double.signWeight=9223372036854775808:=by decide
 unfold Format.read
 rw [b,G,d,x]
 have A:(t*4503599627370496+c) / 9223372036854775808=0:=Nat.div_eq_of_lt (by omega)
 have y:(t*4503599627370496+c) % 9223372036854775808=t*4503599627370496+c:=Nat.mod_eq_of_lt (by omega)
 simp only [A,y]
 rw [if_neg (by omega),if_pos (by omega)]
 by_cases hc:c<9007199254740992
 .refine ⟨c,e-52,?_,hk.1,hc,.inl rfl⟩
  have k:(t*4503599627370496+c) % 4503599627370496=c-4503599627370496:=by omega
  have j:(t*4503599627370496+c) / 4503599627370496=t+1:=by omega
  rw [k,j,show 4503599627370496+(c-4503599627370496)=c by omega,show (-1074:Int)+((t+1-1:Nat):Int)=e-52 by omega]; rfl
 .have hc:c=9007199254740992:=by omega
  subst hc
  refine ⟨4503599627370496,e-51,?_,by decide,by decide,.inr ⟨rfl,rfl⟩⟩
  have k:(t*4503599627370496+9007199254740992) % 4503599627370496=0:=by omega
  have j:(t*4503599627370496+9007199254740992) / 4503599627370496=t+2:=by omega
  rw [k,j,Nat.add_zero,show (-1074:Int)+((t+2-1:Nat):Int)=e-51 by omega]; rfl
theorem Aaz (v:Int) (h:0<=v):floatOfInt .f64 v=double.nearest false v.natAbs 0:=by
 have e:decide (v<0)=false:=Al (by omega)
 show double.nearest (decide (v<0)) v.natAbs 0=_
 rw [e]
theorem Aor:double.read 4876203697187506176 = .number false 7812500000000000 7:=by decide
theorem Wx {n k:Nat} (h1:2 ^ k<=n) (h2:n<2 ^ (k+1)):n.log2=k:=(Nat.log2_eq_iff (by have:=Nat.pow_pos (n:=k) (show 0<2 by decide); omega)).2 ⟨h1,h2⟩
theorem Tz {n k:Nat} (h:n<2 ^ (k+1)):n.log2<=k:=by
 by_cases h0:n=0
 .subst h0; simp
 .have:=(Nat.log2_lt h0).2 h; omega
theorem Aa0 {n k:Nat} (h:2 ^ k<=n):k<=n.log2:=(Nat.le_log2 (by have:=Nat.pow_pos (n:=k) (show 0<2 by decide); omega)).2 h
theorem Aos (x:Int) (h0:1<=x) (h1:x<1000000000):∃(w:Nat) (m:Nat) (p:Int),floatBits .mul .f64 (floatOfInt .f64 x) 4876203697187506176=some w/\double.read w = .number false m p/\4503599627370496<=m/\m<9007199254740992/\7<=p/\(p<=37\/(p=38/\m=4503599627370496)):=by
 have l:x.natAbs.log2<=29:=Tz (by simp; omega)
 obtain ⟨m1,b,g,a1,a2,a3⟩:=Qw x.natAbs 0 (x.natAbs.log2) (by omega) (by omega) (by omega) (by omega)
 have c:(m1*7812500000000000).log2=104\/((m1*7812500000000000).log2=105/\m1≠4503599627370496):=by
  have b1:2 ^ 104<=m1*7812500000000000:=by omega
  have b2:m1*7812500000000000<2 ^ 106:=by omega
  rcases Nat.lt_or_ge (m1*7812500000000000) (2 ^ 105) with h | h
  .exact .inl (Wx b1 h)
  .exact .inr ⟨Wx h b2,by rintro rfl; omega⟩
 obtain ⟨m2,i,f,k,j,q⟩:=Qw (m1*7812500000000000) (b+7) (b+7+(m1*7812500000000000).log2) (by omega) rfl (by omega) (by omega)
 refine ⟨double.nearest false (m1*7812500000000000) (b+7),m2,i,?_,f,k,j,by omega,by omega⟩
 show ((double.read (floatOfInt .f64 x)).product (double.read 4876203697187506176)).map double.write=_
 rw [Aaz x (by omega),g,Aor]; rfl
theorem Aot (w:Nat) (m:Nat) (p:Int) (hw:double.read w = .number false m p) (M:4503599627370496<=m) (L:m<9007199254740992) (I:7<=p) (j:p<=37\/(p=38/\m=4503599627370496)) (y:Int) (h0:0<=y) (h1:y<1000000000000000000) :
  ∃(w':Nat) (g:Nat) (f:Int),floatBits .add .f64 w (floatOfInt .f64 y)=some w'/\double.read w' = .number false g f/\4503599627370496<=g/\g<9007199254740992/\7<=f/\f<=39:=by
 obtain ⟨c,b,x,V,U⟩:∃(c:Nat) (b:Int),double.read (floatOfInt .f64 y) = .number false c b/\b<=8/\c<9007199254740992/\-1074<=b:=by
  rw [Aaz y h0]
  by_cases hy:y.natAbs=0
  .rw [hy]; exact ⟨0,-1074,by decide,by decide,by decide,by decide⟩
  .have Z:y.natAbs.log2<=59:=Tz (by simp; omega)
   obtain ⟨m1,D,A,a1,a2,a3⟩:=Qw y.natAbs 0 (y.natAbs.log2) hy (by omega) (by omega) (by omega)
   exact ⟨m1,D,A,by omega,a2,by omega⟩
 generalize hb:min p b=base
 have ht:∃T:Nat,signed false m (p-base).toNat+signed false c (b-base).toNat=(T:Int)/\T=m*2 ^ (p-base).toNat+c*2 ^ (b-base).toNat:=by
  refine ⟨m <<< (p-base).toNat+c <<< (b-base).toNat,rfl,by rw [Nat.shiftLeft_eq,Nat.shiftLeft_eq]⟩
 obtain ⟨T,t1,t2⟩:=ht
 have G:0<2 ^ (p-base).toNat:=Nat.pow_pos (by decide)
 have i:2 ^ (b-base).toNat<=2 ^ (8-base).toNat:=Nat.pow_le_pow_right (by decide) (by omega)
 have J:m*2 ^ (p-base).toNat<=2 ^ (90-base).toNat:=by
  rcases j with h | ⟨rfl,rfl⟩
  .have e:2 ^ (90-base).toNat=2 ^ (p-base).toNat*2 ^ (90-p).toNat:=by rw [<-Nat.pow_add]; congr 1; omega
   have e2:2 ^ 53<=2 ^ (90-p).toNat:=Nat.pow_le_pow_right (by decide) (by omega)
   rw [e,Nat.mul_comm]
   exact Nat.mul_le_mul_left _ (by omega)
  .have e:2 ^ (90-base).toNat=2 ^ (38-base).toNat*2 ^ 52:=by rw [<-Nat.pow_add]; congr 1; omega
   rw [e,Nat.mul_comm]; omega
 have E:c*2 ^ (b-base).toNat<2 ^ (90-base).toNat:=by
  have e:2 ^ (90-base).toNat=2 ^ (8-base).toNat*2 ^ 82:=by rw [<-Nat.pow_add]; congr 1; omega
  have e3:c*2 ^ (b-base).toNat<=c*2 ^ (8-base).toNat:=Nat.mul_le_mul_left _ i
  have N:0<2 ^ (8-base).toNat:=Nat.pow_pos (by decide)
  have e5:c*2 ^ (8-base).toNat<2 ^ 82*2 ^ (8-base).toNat:=Nat.mul_lt_mul_of_pos_right (by omega) N
  rw [e,Nat.mul_comm (2 ^ (8-base).toNat)]; omega
 have s:T<2 ^ ((90-base).toNat+1):=by rw [Nat.pow_succ]; omega
 have q:2 ^ (52+(p-base).toNat)<=T:=by
  have:2 ^ 52*2 ^ (p-base).toNat<=m*2 ^ (p-base).toNat:=Nat.mul_le_mul_right _ (by omega)
  rw [Nat.pow_add]; omega
 have Y:=Tz s
 have X:=Aa0 q
 have u:T≠0:=by
  have:=Nat.pow_pos (n:=52+(p-base).toNat) (show 0<2 by decide); omega
 obtain ⟨m3,B,z,S,R,c3⟩:=Qw T base (base+T.log2) u rfl (by omega) (by omega)
 refine ⟨double.nearest false T base,m3,B,?_,z,S,R,by omega,by omega⟩
 show ((double.read w).sum (double.read (floatOfInt .f64 y))).map double.write=_
 rw [hw,x]
 have l:¬((T:Int)=0):=by omega
 have k:decide ((T:Int)<0)=false:=Al (by omega)
 simp only [Datum.sum,hb,t1,if_neg l,k,Option.map_some,Int.natAbs_natCast,Format.write]
theorem Aou {b m N:Nat} {p:Int} (g:double.read b = .number false m p) (i:(Datum.number false m p).toInt .zero=some (N:Int)) (h:N<=9223372036854775808):floatToIntVal .f64 b .u64=some (N:Int):=by
 have hd:FloatKind.f64.decode b = .number false m p:=g
 have f:IntKind.u64.min=0:=by decide
 have c:IntKind.u64.max=18446744073709551615:=by decide
 unfold floatToIntVal
 rw [hd,i]
 simp only [f,c]
 rw [if_pos ⟨by omega,by omega⟩]
theorem Aov (w:Nat) (m:Nat) (p:Int) (hw:double.read w = .number false m p) (R:4503599627370496<=m) (M:m<9007199254740992) (L:7<=p) (J:p<=39) (z:Int) (h0:1000000000<=z) (h1:z<1000000000000000000) :
  ∃(w':Nat) (n:Int),floatBits .quo .f64 w (floatOfInt .f64 z)=some w'/\floatToIntVal .f64 w' .u64=some n/\0<=n/\n<=9223372036854775808:=by
 have U:z.natAbs.log2<=59:=Tz (by simp; omega)
 have S:29<=z.natAbs.log2:=Aa0 (by simp; omega)
 obtain ⟨f,c,u,a1,a2,a3⟩:=Qw z.natAbs 0 (z.natAbs.log2) (by omega) (by omega) (by omega) (by omega)
 have D:m.log2=52:=Wx (by omega) (by omega)
 have y:f.log2=52:=Wx (by omega) (by omega)
 generalize hq:m*2 ^ 54 / f=q
 generalize l:((m*2 ^ 54 % f != 0).toNat)=s
 have E:s<=1:=by rw [<-l]; exact Bool.toNat_le _
 have I:q<2 ^ 55:=by rw [<-hq]; exact (Nat.div_lt_iff_lt_mul (by omega)).2 (by omega)
 have G:2 ^ 53<=q:=by rw [<-hq]; exact (Nat.le_div_iff_mul_le (by omega)).2 (by omega)
 have B:(2*q+s).log2<=55:=Tz (by omega)
 have A:54<=(2*q+s).log2:=Aa0 (by omega)
 obtain ⟨m4,b,x,c1,Y,Z⟩:=Qw (2*q+s) (p-c-(54:Nat)-1) (p-c-(54:Nat)-1+(2*q+s).log2) (by omega) rfl (by omega) (by omega)
 have j:(Datum.number false m p).quotient (double.fractionBits+2) (Datum.number false f c)=some (.number false (2*q+s) (p-c-(54:Nat)-1)):=by
  have i:¬f=0:=by omega
  have X:double.fractionBits+2=54:=rfl
  simp only [Datum.quotient,if_neg i,X,D,y,Nat.shiftLeft_eq,Nat.add_sub_cancel,hq,l,Bool.xor_self]
 have hb:m4*2 ^ b.toNat<=9223372036854775808:=by
  have k:b<=10\/(b=11/\m4=4503599627370496):=by omega
  rcases k with h | ⟨rfl,rfl⟩
  .have:2 ^ b.toNat<=2 ^ 10:=Nat.pow_le_pow_right (by decide) (by omega)
   have:=Nat.mul_le_mul (Nat.le_of_lt Y) this
   omega
  .decide
 obtain ⟨N,V,g⟩:∃N:Nat,(Datum.number false m4 b).toInt .zero=some (N:Int)/\N<=9223372036854775808:=by
  refine ⟨(m4 <<< b.toNat) / (1 <<< min (-b).toNat ((m4 <<< b.toNat).log2+2)),?_,?_⟩
  .simp only [Datum.toInt,Datum.integral,Toward.cut,signed,Bool.false_eq_true,if_false,Nat.shiftLeft_zero,Bool.toNat_false,Nat.add_zero]
  .rw [Nat.shiftLeft_eq m4]
   exact Nat.le_trans (Nat.div_le_self _ _) hb
 refine ⟨double.nearest false (2*q+s) (p-c-(54:Nat)-1),(N:Int),?_,?_,by omega,by omega⟩
 .have e:floatBits .quo .f64 w (floatOfInt .f64 z)=((double.read w).quotient (double.fractionBits+2) (double.read (floatOfInt .f64 z))).map double.write:=rfl
  rw [e,hw,Aaz z (by omega),u,j]
  simp only [Option.map_some,Format.write]
 .exact Aou x V g
theorem Aow (r n:Nat) (h2:2<=Bd n) (E:Bd r<=Bd n+1) (G:Bd n<1099511627776):∃d:Nat,Sx (Ae r) (Ae n)=some (d:Int)/\d<1000000000:=by
 unfold Sx
 unfold Bd at h2 E G
 have c:n≠0:=by rintro rfl; rw [Ee] at h2; simp at h2
 by_cases V:(Ae r).length<(Ae n).length
 .exact ⟨0,by rw [Ak (by omega)]; rfl,by decide⟩
 .rw [Al (by omega),cond_false]
  have y:Ad (((Ae n).length:Int)-1)=(((Ae n).length-1:Nat):Int):=by rw [Ad,Bt] <;> omega
  have u:Ad (((Ae n).length:Int)-2)=(((Ae n).length-2:Nat):Int):=by rw [Ad,Bt] <;> omega
  have i1:(Ae n).length-1<(Ae n).length:=by omega
  have i2:(Ae n).length-2<(Ae n).length:=by omega
  have h:(Ae n).length-1<(Ae r).length:=by omega
  have g:(Ae n).length-2<(Ae r).length:=by omega
  have t1:=(Dj n).get i1
  have t2:=(Dj n).get i2
  have M:=(Dj r).get h
  have L:=(Dj r).get g
  have i:(Ae n)[(Ae n).length-1]≠0:=by
   have:=(Wl n).2 (Gk c)
   rwa [List.getLast_eq_getElem] at this
  rw [y,u,Cq rfl i1,Ac,Cq rfl i2,Ac,Cq rfl h,Ac,Cq rfl g,Ac]
  generalize (Ae n)[(Ae n).length-1]=a1 at *
  generalize (Ae n)[(Ae n).length-2]=a2 at *
  generalize (Ae r)[(Ae n).length-1]=b1 at *
  generalize (Ae r)[(Ae n).length-2]=b2 at *
  have l:Au (Au (Au b1*1000000000)+Au b2)=b1*1000000000+b2:=by
   rw [show Au b1=b1 from Cf (by omega) (by omega),show Au b2=b2 from Cf (by omega) (by omega),show Au (b1*1000000000)=b1*1000000000 from Cf (by omega) (by omega)]
   exact Cf (by omega) (by omega)
  have j:Au (Au (Au a1*1000000000)+Au a2)=a1*1000000000+a2:=by
   rw [show Au a1=a1 from Cf (by omega) (by omega),show Au a2=a2 from Cf (by omega) (by omega),show Au (a1*1000000000)=a1*1000000000 from Cf (by omega) (by omega)]
   exact Cf (by omega) (by omega)
  rw [l,j]
  by_cases X:(Ae r).length=(Ae n).length
  .rw [Eh (by omega),cond_true,Ih (by omega) (by omega) (by omega),Ac]
   have R:0<=(b1*1000000000+b2) / (a1*1000000000+a2):=Int.ediv_nonneg (by omega) (by omega)
   have N:(b1*1000000000+b2) / (a1*1000000000+a2)<1000000000:=Int.ediv_lt_of_lt_mul (by omega) (by omega)
   exact ⟨((b1*1000000000+b2) / (a1*1000000000+a2)).toNat,by congr 1; omega,by omega⟩
  .have hk:(Ae n).length<(Ae r).length:=by omega
   have b:r≠0:=by rintro rfl; rw [Ee] at hk; simp at hk
   have J:=(Dj r).get hk
   have f:(Ae r)[(Ae n).length]≠0:=by
    have:=(Wl r).2 (Gk b)
    rw [List.getLast_eq_getElem] at this
    have e:(Ae r).length-1=(Ae n).length:=by omega
    simpa [e] using this
   rw [Ci (by omega),cond_false,Cq rfl hk,Ac]
   generalize (Ae r)[(Ae n).length]=x at *
   obtain ⟨s,m3,A,f1,f2,f3,f4,f5,f6⟩:=Aos x (by omega) (by omega)
   obtain ⟨q,m4,z,g1,g2,g3,g4,g5,g6⟩:=Aot s m3 A f2 f3 f4 f5 f6 (b1*1000000000+b2) (by omega) (by omega)
   obtain ⟨I,k,D,B,U,S⟩:=Aov q m4 z g2 g3 g4 g5 g6 (a1*1000000000+a2) (by omega) (by omega)
   rw [f1,Ac,g1,Ac,D,Ac,B,Ac,show Au (k+2)=k+2 from Cf (by omega) (by omega)]
   by_cases hc:(999999999:Int)<k+2
   .exact ⟨999999999,by rw [if_pos hc]; rfl,by decide⟩
   .exact ⟨(k+2).toNat,by rw [if_neg hc]; congr 1; omega,by omega⟩
end Go.Ab
namespace Go.Ab
open Go
theorem Aox (x r:Nat):Bd (x % 1000000000+1000000000*r)<=Bd r+1:=by
 apply Km
 have:=Kl r
 rw [Nat.pow_succ]
 omega
set_option maxHeartbeats 1000000 in
theorem Aa1 (m n:Nat) (hm:Bd m<137438953472) (hn:Bd n<137438953472) (D:n≠0):Nw (Ae m) (Ae n)=some (Ae (m / n),Ae (m % n)):=by
 unfold Nw
 rw [Wv,Ot m n (by omega) (by omega),Ac]
 have af:=hm
 have ae:=hn
 unfold Bd at hm hn
 by_cases l:m<n
 .rw [show D1 m n = -1 by rw [D1,if_pos l],Ak (by decide:(-1:Int)<0),cond_true,Ov _ (by omega),Ac,An7 (Wl m),Nat.div_eq_of_lt l,Nat.mod_eq_of_lt l,Ee]
 .rw [Al (show ¬D1 m n<0 by rw [D1,if_neg l]; split <;> decide),cond_false]
  have a8:(Ae n).length≠0:=fun e=>Gk D (List.length_eq_zero_iff.1 e)
  by_cases h1:(Ae n).length=1
  .rw [Eh (by omega:((Ae n).length:Int)=1),cond_true]
   have B:n<1000000000:=by
    have:=Kl n
    rw [show Bd n=1 from h1] at this
    simpa using this
   have Y:Ae n = [(n:Int)]:=by
    rw [Jw D,Nat.div_eq_of_lt B,Ee,Nat.mod_eq_of_lt B]
   rw [Y,show Af [(n:Int)] 0=some (n:Int) from rfl,Ac,show Au (n:Int)=n from Cf (by omega) (by omega),Aon m n (by omega) (by omega) (by omega),Ac]
   have a7:m % n<n:=Nat.mod_lt _ (by omega)
   rw [Agp,Qs (m % n) (by omega),Ac]
  .rw [Ci (by omega:((Ae n).length:Int)≠1),cond_false]
   have hw:Ad (((Ae m).length:Int)-1)=((Ae m).length:Int)-1:=by rw [Ad,Bt] <;> omega
   rw [Jv rfl rfl (Nat.le_refl _) (by omega) (by omega),hw]
   simp only [Ac]
   have ha:=Dj m
   refine F5 (fun (r,i,q)=>∃(k R:Nat),r=Ae R/\i=(k:Int)-1/\k<=(Ae m).length/\R<n/\q.length=(Ae m).length/\Bf q/\Ai (q.drop k)*n+R=Ai ((Ae m).drop k))
    (fun (_,i,_)=>(i+1).toNat) (fun (r,q)=>∃R:Nat,r=Ae R/\R<n/\q.length=(Ae m).length/\Bf q/\Ai q*n+R=m)
    ⟨(Ae m).length,0,by rw [Ee],rfl,Nat.le_refl _,by omega,by simp,Bf.replicate _,by simp [Ai]⟩ ?_ ?_
   .rintro ⟨r,i,q⟩ ⟨k,R,rfl,rfl,hk,J,u,g,A⟩
    cases k with
    | zero=>exact .inr ⟨(Ae R,q),by simp,R,rfl,J,u,g,by simpa [Dw] using A⟩
    | succ j=>
     have hj:j<(Ae m).length:=by omega
     have E:j<q.length:=by omega
     have hx:=ha.get hj
     obtain ⟨x,y⟩:∃x:Nat,(Ae m)[j]=(x:Int):=⟨(Ae m)[j].toNat,by omega⟩
     have L:x<1000000000:=by omega
     have e0:((j+1:Nat):Int)-1=(j:Int):=by omega
     have e1:decide ((j:Int)>=0)=true:=Ak (by omega)
     have Z:Bd R<=Bd n:=Gz (by omega)
     have ac:Bd (x+1000000000*R)<=Bd R+1:=by
      have:=Aox x R
      rwa [Nat.mod_eq_of_lt L] at this
     have ah:(Ae R).length<=(Ae n).length:=Z
     have G:Hy ((x:Int)::Ae R)=some (Ae (x+1000000000*R)):=by
      rw [Ov _ (by simp; omega)]
      congr 1
      refine Ii ?_ ?_
      .intro d hd
       rcases List.mem_cons.1 hd with rfl | hd
       .omega
       .exact Dj R d hd
      .simp only [Ai,Dw]; omega
     obtain ⟨d0,U,ag⟩:=Aow (x+1000000000*R) n (by unfold Bd; omega) (by omega) (by omega)
     generalize a6:x+1000000000*R=f at *
     have ab:f<1000000000*n:=by omega
     have s:∀d:Nat,d<18446744073709551616->K2 (d:Int)=some (Ae d)/\Iw (Ae n) (Ae d)=some (Ae (n*d)):=by
      intro d hd
      have:=Wp hd
      exact ⟨by rw [Agp,Qs d hd],Qv n d (by omega) (by omega)⟩
     have I:∀d:Nat,d<18446744073709551616->L6 (Ae (n*d)) (Ae f)=some (D1 (n*d) f):=by
      intro d hd
      have h3:=Wp hd
      have h4:=Gl n d
      rw [Wv,Ot _ _ (by omega) (by omega)]
     simp only [e0,e1,cond_true,Cq rfl hj,y,Ac,Cs (show ([(x:Int)].length+(Ae R).length)*4<=_ by simp; omega),List.singleton_append,G,U]
     refine .inl (Wh (Eb (fun d=>∃e:Nat,d=e/\e<=d0) (fun d=>d.toNat) (fun d=>∃e:Nat,d=e/\e<=d0/\n*e<=f) ⟨d0,rfl,Nat.le_refl _⟩ ?_ ?_))
     .rintro d ⟨e,rfl,he⟩
      by_cases X:e=0
      .subst X
       exact .inr ⟨0,rfl,0,rfl,by omega,by simp⟩
      .obtain ⟨m1,m2⟩:=s e (by omega)
       simp only [Ak (by omega:(e:Int)>0),cond_true,m1,m2,I e (by omega),Ac]
       by_cases hc:f<n*e
       .refine .inl ⟨((e-1:Nat):Int),?_,⟨e-1,rfl,by omega⟩,by simp; omega⟩
        rw [show D1 (n*e) f=1 by rw [D1,if_neg (by omega),if_pos hc],show decide ((1:Int)>0)=true from rfl,cond_true,show Au ((e:Int)-1)=((e-1:Nat):Int) by rw [Au,Cf] <;> omega]
       .refine .inr ⟨(e:Int),?_,e,rfl,he,by omega⟩
        rw [Al (show ¬D1 (n*e) f>0 by rw [D1,if_neg hc]; split <;> decide),cond_false]
     .rintro d ⟨e,rfl,he,N⟩
      obtain ⟨m1,m2⟩:=s e (by omega)
      simp only [m1,m2,Ac,Ww f (n*e) (by omega) N]
      refine Eb (fun (r,d)=>∃(c b:Nat),r=Ae c/\d=b/\n*b+c=f) (fun (r,_)=>(Ai r).toNat) (fun (r,d)=>∃(c b:Nat),r=Ae c/\d=b/\n*b+c=f/\c<n) ⟨f-n*e,e,rfl,rfl,by omega⟩ ?_ ?_
      .rintro ⟨r,d⟩ ⟨c,b,rfl,rfl,M⟩
       have aa:Bd c<=Bd f:=Gz (by omega)
       have V:b<1000000000:=by
        rcases Nat.lt_or_ge b 1000000000 with h | h
        .exact h
        .exfalso
         have:n*1000000000<=n*b:=Nat.mul_le_mul_left n h
         omega
       simp only [Wv,Ot c n (by omega) (by omega),Ac]
       by_cases hc:c<n
       .refine .inr ⟨(Ae c,(b:Int)),?_,c,b,rfl,rfl,M,hc⟩
        rw [Al (show ¬D1 c n>=0 by rw [D1,if_pos hc]; decide),cond_false]
       .refine .inl ⟨(Ae (c-n),((b+1:Nat):Int)),?_,⟨c-n,b+1,rfl,rfl,?_⟩,?_⟩
        .rw [Ak (show D1 c n>=0 by rw [D1,if_neg hc]; split <;> decide),cond_true,Ww c n (by omega) (by omega),Ac,show Au ((b:Int)+1)=((b+1:Nat):Int) by rw [Au,Cf] <;> omega]
        .rw [Nat.mul_add]; omega
        .simp only [Dw]; omega
      .rintro ⟨r,d⟩ ⟨c,b,rfl,rfl,M,a1⟩
       have V:b<1000000000:=by
        rcases Nat.lt_or_ge b 1000000000 with h | h
        .exact h
        .exfalso
         have:n*1000000000<=n*b:=Nat.mul_le_mul_left n h
         omega
       have w1:Br (b:Int)=b:=Ec (by omega) (by omega)
       have w8:Ad ((j:Int)-1)=(j:Int)-1:=by rw [Ad,Bt] <;> omega
       refine ⟨_,by simp only [Cq rfl E,Ac,w1,w8,F6 rfl],(Ae c,(j:Int)-1,q.set j (b:Int)),rfl,⟨j,c,rfl,rfl,by omega,a1,by simpa using u,g.set _ (by omega) (by omega),?_⟩,by simp⟩
       have d1:(q.set j (b:Int)).drop j=(b:Int)::q.drop (j+1):=by
        rw [List.drop_eq_getElem_cons (by simpa using E),List.drop_set_of_lt (by omega)]; simp
       rw [d1,List.drop_eq_getElem_cons hj,y]
       simp only [Ai]
       rw [<-A]
       have:((n*b+c:Nat):Int)=((x+1000000000*R:Nat):Int):=by rw [M,a6]
       simp only [Int.natCast_add,Int.natCast_mul] at this
       grind
   .rintro ⟨r,q⟩ ⟨R,rfl,J,u,g,A⟩
    dsimp only
    have ad:=E5 g.u32
    obtain ⟨Q,hQ⟩:∃Q:Nat,Ai q=Q:=⟨(Ai q).toNat,by omega⟩
    rw [hQ] at A
    have z:Q*n+R=m:=by
     have:((Q*n+R:Nat):Int)=(m:Int):=by simp only [Int.natCast_add,Int.natCast_mul]; exact A
     omega
    have hd:m / n=Q:=by rw [<-z,Nat.mul_comm,Nat.mul_add_div (by omega),Nat.div_eq_of_lt J]; rfl
    have S:m % n=R:=by rw [<-z,Nat.mul_comm,Nat.mul_add_mod,Nat.mod_eq_of_lt J]
    rw [Ov q (by omega),Ac,Ii g hQ,hd,S]
theorem Aoy (m n:Nat) (h:Bd m<137438953472) (g:Bd n<137438953472):Sm (Ae m) (Ae n)=some (Ae (Nat.gcd m n)):=by
 unfold Sm
 refine F5 (fun (a,b)=>∃x y:Nat,a=Ae x/\b=Ae y/\Bd x<137438953472/\Bd y<137438953472/\Nat.gcd x y=Nat.gcd m n) (fun (_,b)=>(Ai b).toNat)
  (fun r=>r=Ae (Nat.gcd m n)) ⟨m,n,rfl,rfl,h,g,rfl⟩ ?_ (by rintro e rfl; rfl)
 rintro ⟨a,b⟩ ⟨x,y,rfl,rfl,hx,hy,f⟩
 by_cases c:y=0
 .subst c
  refine .inr ⟨Ae x,by rw [Ee]; rfl,?_⟩
  rw [<-f,Nat.gcd_zero_right]
 .have i:(Ae y).length≠0:=fun e=>Gk c (List.length_eq_zero_iff.1 e)
  have j:decide (((Ae y).length:Int)>0)=true:=Ak (by omega)
  refine .inl ⟨(Ae y,Ae (x % y)),?_,⟨y,x % y,rfl,rfl,hy,by have:=Gz (Nat.mod_le x y); omega,?_⟩,?_⟩
  .simp only [j,cond_true,Aa1 x y hx hy c,Ac]
  .rw [<-f,Nat.gcd_comm y,<-Nat.gcd_rec,Nat.gcd_comm]
  .simp only [Dw]
   have:=Nat.mod_lt x (by omega:y>0)
   omega
end Go.Ab
namespace Go.Ab
open Go
def Lc (b:Bool) (n d:Nat):A3:=if d=0 then ⟨false,[],[1]⟩ else Bv b n d
theorem Aa2 {n:Nat} (h:n≠0):(Ae n).length≠0:=fun e=>Gk h (List.length_eq_zero_iff.1 e)
theorem Aa3 (c:Bool) (a b:List Int) (ha:I1 a) (hb:I1 b) (q:a.length<137438953400) (l:b.length<137438953400):Ie c a b=some (Lc c (Ai a).toNat (Ai b).toNat):=by
 unfold Ie
 have h1:=Wt ha
 have h2:=Wt hb
 rw [Ago a ha (by omega),Ac,Ago b hb (by omega),Ac]
 generalize (Ai a).toNat=n at *
 generalize (Ai b).toNat=d at *
 by_cases g:n=0
 .subst g
  have:Lc c 0 d=⟨false,[],[1]⟩:=by unfold Lc; split <;> simp [Bv]
  rw [this,Ee]; rfl
 .have j:=Aa2 g
  by_cases hd:d=0
  .subst hd
   simp only [Ci (by omega:((Ae n).length:Int)≠0),cond_false,Ee,Ac]
   rfl
  .have k:=Aa2 hd
   have f:Nat.gcd n d≠0:=by have:=Nat.gcd_pos_of_pos_left d (by omega:0<n); omega
   have u:Bd (Nat.gcd n d)<=Bd n:=Gz (Nat.gcd_le_left d (by omega:0<n))
   simp only [Ci (by omega:((Ae n).length:Int)≠0),cond_false,Ci (by omega:((Ae d).length:Int)≠0),Ac,Aoy n d (by omega) (by omega)]
   rw [Lc,if_neg hd,Bv,if_neg g]
   have key:(bif (((Ae (Nat.gcd n d)).length:Int) != (1:Int)) then some true else ((Af (Ae (Nat.gcd n d)) 0).bind fun i=>some (i != (1:Int))))=some (decide (Nat.gcd n d≠1)):=by
    have h3:=Aav (Nat.gcd n d)
    unfold N7 at h3
    by_cases s:(Ae (Nat.gcd n d)).length=1
    .rw [Eh (by omega:((Ae (Nat.gcd n d)).length:Int)=1),cond_true] at h3
     rw [Cz (by omega:((Ae (Nat.gcd n d)).length:Int)=1),cond_false]
     cases hi:Af (Ae (Nat.gcd n d)) 0 with
     | none=>rw [hi] at h3; cases h3
     | some v=>
      rw [hi] at h3
      simp only [Ac] at h3 ⊢
      have h3:=Option.some.inj h3
      congr 1
      rw [bne,h3]; simp
    .rw [Ci (by omega:((Ae (Nat.gcd n d)).length:Int)≠1),cond_false] at h3
     rw [Cv (by omega:((Ae (Nat.gcd n d)).length:Int)≠1),cond_true]
     have h3:=Option.some.inj h3
     have:Nat.gcd n d≠1:=by simpa using h3.symm
     rw [Ak this]
   rw [key,Ac]
   by_cases h:Nat.gcd n d=1
   .rw [Al (by simpa using h),cond_false,h]; simp
   .rw [Ak h,cond_true,Aa1 n _ (by omega) (by omega) f,Ac,Aa1 d _ (by omega) (by omega) f,Ac]
theorem Aoz (a:A3):Lc a.Neg (Ai a.Num).toNat (Ai a.Den).toNat=Bv (sv a) (nv a) (dv a):=by
 unfold Lc sv nv dv
 by_cases b:(Ai a.Num).toNat=0
 .simp [b,Bv]
 .by_cases hd:(Ai a.Den).toNat=0
  .simp [hd,Bv]
  .simp [b,hd]
theorem Qx (a:A3) (k:Nat) (h:RB k a) (hk:k<137438953400):Kg a=some (Bv (sv a) (nv a) (dv a)):=by
 unfold Kg
 have:=h.nl
 have:=h.dl
 rw [Aa3 _ _ _ h.num h.den (by omega) (by omega),Ac,Aoz]
theorem T0 (s:Bool) (n d:Nat) (hd:d≠0):(Bv s n d).Num=Ae (nv (Bv s n d))/\(Bv s n d).Den=Ae (dv (Bv s n d))/\(Bv s n d).Neg=sv (Bv s n d):=by
 obtain ⟨h1,h2,h3,c⟩:=Wu s n d hd
 rw [h1,h2]
 by_cases h0:n=0
 .subst h0
  rw [c rfl,Tx]
  have b:d / Nat.gcd 0 d=1:=by rw [Nat.gcd_zero_left]; exact Nat.div_self (by omega)
  rw [b,Nat.zero_div,Ee,Tw]; exact ⟨rfl,rfl,rfl⟩
 .rw [h3 h0]; simp [Bv,h0]
theorem Qy (a:A3):∃g:Nat,g≠0/\nv a=g*nv (Bv (sv a) (nv a) (dv a))/\dv a=g*dv (Bv (sv a) (nv a) (dv a))/\sv (Bv (sv a) (nv a) (dv a))=sv a:=by
 obtain ⟨h1,h2,h3,b⟩:=Wu (sv a) (nv a) (dv a) (De a)
 have hd:=De a
 have c:0<Nat.gcd (nv a) (dv a):=Nat.gcd_pos_of_pos_right _ (by omega)
 refine ⟨Nat.gcd (nv a) (dv a),by omega,?_,?_,?_⟩
 .rw [h1]; exact (Nat.mul_div_cancel' (Nat.gcd_dvd_left _ _)).symm
 .rw [h2]; exact (Nat.mul_div_cancel' (Nat.gcd_dvd_right _ _)).symm
 .by_cases h0:nv a=0
  .rw [b h0]
   unfold nv at h0
   unfold sv
   split at h0
   .rename_i hc; rw [if_pos hc]
   .omega
  .exact h3 h0
theorem Ao0 (s:Bool) (n d:Nat) (h:d≠0):Lc s n d=Bv s n d:=by rw [Lc,if_neg h]
theorem Wy (b:Bool) (n d:Nat) (f:Bd n<137438953400) (hd:Bd d<137438953400) (c:d≠0):Ie b (Ae n) (Ae d)=some (Bv b n d):=by
 unfold Bd at f hd
 rw [Aa3 b _ _ (Dj n).u32 (Dj d).u32 f hd,Dw,Dw,Int.toNat_natCast,Int.toNat_natCast,Ao0 _ _ _ c]
theorem Agq {k:Nat} {a:A3} (h:RB k a):RB (k+1) (Bv (sv a) (nv a) (dv a)):=Qu _ _ _ _ h.nv h.dv (by omega)
theorem Wz {k:Nat} {a:A3} (h:RB k a):Bd (nv (Bv (sv a) (nv a) (dv a)))<=k+1/\Bd (dv (Bv (sv a) (nv a) (dv a)))<=k+1:=by
 obtain ⟨g,b,h1,h2,_⟩:=Qy a
 have a1:=h.nv
 have a2:=h.dv
 refine ⟨Nat.le_trans (Gz ?_) a1,Nat.le_trans (Gz ?_) a2⟩
 .exact Nat.le_trans (Nat.le_mul_of_pos_left _ (by omega)) (Nat.le_of_eq h1.symm)
 .exact Nat.le_trans (Nat.le_mul_of_pos_left _ (by omega)) (Nat.le_of_eq h2.symm)
theorem Ao1 (a b:A3) (j k:Nat) (ha:RB j a) (hb:RB k b) (hj:j<34359738368) (hk:k<34359738368):R3 a b=some (Bv (sv a != sv b) (nv a*nv b) (dv a*dv b)):=by
 unfold R3
 rw [Qx a j ha (by omega),Ac,Qx b k hb (by omega),Ac]
 obtain ⟨g,i,a1,a2,a3⟩:=Qy a
 obtain ⟨h,f,b1,b2,u⟩:=Qy b
 obtain ⟨f1,f2,f3⟩:=T0 (sv a) (nv a) (dv a) (De a)
 obtain ⟨s,q,l⟩:=T0 (sv b) (nv b) (dv b) (De b)
 obtain ⟨B,A⟩:=Wz ha
 obtain ⟨y,x⟩:=Wz hb
 rw [f1,f2,f3,s,q,l,a3,u]
 generalize hc:Bv (sv a) (nv a) (dv a)=c at *
 generalize hd:Bv (sv b) (nv b) (dv b)=d at *
 have m1:=Gl (nv c) (nv d)
 have m2:=Gl (dv c) (dv d)
 have z:dv c*dv d≠0:=Nat.mul_ne_zero (De c) (De d)
 rw [Qv _ _ (by omega) (by omega),Ac,Qv _ _ (by omega) (by omega),Ac,Wy _ _ _ (by omega) (by omega) z,Ac]
 rw [a1,a2,b1,b2,show g*nv c*(h*nv d)=g*h*(nv c*nv d) by grind,show g*dv c*(h*dv d)=g*h*(dv c*dv d) by grind,Ty _ _ _ _ (Nat.mul_ne_zero i f)]
theorem Ao2 (l:Bool) (c j:Nat) (k:Bool) (b i g h:Nat) (y:g≠0) (x:h≠0):Hq l (g*c) (g*j) k (h*b) (h*i)=g*h*Hq l c j k b i/\Ko l (g*c) (g*j) k (h*b) (h*i)=Ko l c j k b i:=by
 have u:g*c*(h*i)=g*h*(c*i):=by grind
 have s:h*b*(g*j)=g*h*(b*j):=by grind
 have hc:(g*h*(b*j)<=g*h*(c*i))↔(b*j<=c*i):=Nat.mul_le_mul_left_iff (Nat.mul_pos (by omega) (by omega))
 unfold Hq Ko
 rw [u,s]
 by_cases q:l=k
 .simp only [if_pos q]
  exact ⟨by rw [Nat.mul_add],trivial⟩
 .simp only [if_neg q]
  by_cases f:b*j<=c*i
  .simp only [if_pos f,if_pos (hc.2 f)]
   exact ⟨by rw [Nat.mul_sub],trivial⟩
  .simp only [if_neg f,if_neg (fun h=>f (hc.1 h))]
   exact ⟨by rw [Nat.mul_sub],trivial⟩
theorem Agr (a b:A3) (j k:Nat) (ha:RB j a) (hb:RB k b) (hj:j<34359738368) (hk:k<34359738368) :
  Nr a b=some (Bv (Ko (sv a) (nv a) (dv a) (sv b) (nv b) (dv b)) (Hq (sv a) (nv a) (dv a) (sv b) (nv b) (dv b)) (dv a*dv b)):=by
 unfold Nr
 rw [Qx a j ha (by omega),Ac,Qx b k hb (by omega),Ac]
 obtain ⟨g,q,a1,a2,a3⟩:=Qy a
 obtain ⟨h,l,b1,b2,B⟩:=Qy b
 obtain ⟨f1,f2,f3⟩:=T0 (sv a) (nv a) (dv a) (De a)
 obtain ⟨A,y,x⟩:=T0 (sv b) (nv b) (dv b) (De b)
 obtain ⟨I,G⟩:=Wz ha
 obtain ⟨E,D⟩:=Wz hb
 rw [f1,f2,f3,A,y,x,a3,B]
 generalize hc:Bv (sv a) (nv a) (dv a)=c at *
 generalize hd:Bv (sv b) (nv b) (dv b)=d at *
 have m1:=Gl (nv c) (dv d)
 have m2:=Gl (nv d) (dv c)
 have m3:=Gl (dv c) (dv d)
 have m4:=Aao (nv c*dv d) (nv d*dv c)
 have m5:=Gz (Nat.sub_le (nv c*dv d) (nv d*dv c))
 have m6:=Gz (Nat.sub_le (nv d*dv c) (nv c*dv d))
 have z:dv c*dv d≠0:=Nat.mul_ne_zero (De c) (De d)
 obtain ⟨u,s⟩:=Ao2 (sv a) (nv c) (dv c) (sv b) (nv d) (dv d) g h q l
 rw [a1,a2,b1,b2,u,s,show g*dv c*(h*dv d)=g*h*(dv c*dv d) by grind,Ty _ _ _ _ (Nat.mul_ne_zero q l)]
 rw [Qv _ _ (by omega) (by omega),Ac,Qv _ _ (by omega) (by omega),Ac,Qv _ _ (by omega) (by omega),Ac]
 unfold Ko Hq
 by_cases i:sv a=sv b
 .have e:(sv a==sv b)=true:=by rw [i]; exact beq_self_eq_true _
  rw [e,cond_true,Aop _ _ (by omega) (by omega),Ac,Wy _ _ _ (by omega) (by omega) z,Ac,if_pos i,if_pos i]
 .have e:(sv a==sv b)=false:=by simpa using i
  rw [e,cond_false,Wv,Ot _ _ (by omega) (by omega),Ac,if_neg i,if_neg i]
  by_cases f:nv d*dv c<=nv c*dv d
  .rw [Ak (show D1 (nv c*dv d) (nv d*dv c)>=0 by rw [D1,if_neg (by omega)]; split <;> decide),cond_true,Ww _ _ (by omega) f,Ac,Wy _ _ _ (by omega) (by omega) z,Ac,if_pos f,if_pos f]
  .rw [Al (show ¬D1 (nv c*dv d) (nv d*dv c)>=0 by rw [D1,if_pos (by omega)]; decide),cond_false,Ww _ _ (by omega) (by omega),Ac,Wy _ _ _ (by omega) (by omega) z,Ac,if_neg f,if_neg f]
theorem Aa4 (a:A3) (k:Nat) (h:RB k a) (hk:k<137438953400):Ns a=some (D4 (sv a) (nv a)):=by
 unfold Ns
 rw [Qx a k h hk,Ac]
 obtain ⟨g,b,a1,a2,a3⟩:=Qy a
 obtain ⟨f1,f2,f3⟩:=T0 (sv a) (nv a) (dv a) (De a)
 rw [f1,f3,a3,D4]
 by_cases h0:nv a=0
 .have:nv (Bv (sv a) (nv a) (dv a))=0:=by
   rw [h0] at a1
   rcases Nat.mul_eq_zero.1 a1.symm with h | h
   .exact (b h).elim
   .rw [h0]; exact h
  rw [this,Ee,if_pos h0]; rfl
 .have:nv (Bv (sv a) (nv a) (dv a))≠0:=by
   intro e; rw [e,Nat.mul_zero] at a1; exact h0 a1
  have:=Aa2 this
  rw [Ci (by omega),cond_false,if_neg h0]
  cases sv a <;> rfl
theorem Ao3 (a:A3) (k:Nat) (h:RB k a) (hk:k<137438953400):Se a=some (Bv (!sv a) (nv a) (dv a)):=by
 unfold Se
 have:=h.nl
 have:=h.dl
 rw [Aa3 _ _ _ h.num h.den (by omega) (by omega),Ac]
 congr 1
 unfold Lc sv nv dv
 by_cases b:(Ai a.Num).toNat=0
 .simp [b,Bv]
 .by_cases hd:(Ai a.Den).toNat=0
  .simp [hd,Bv]
  .simp [b,hd]
theorem Ao4 (a:A3) (k:Nat) (h:RB k a) (hk:k<8589934592):Pn a a=some 0:=by
 unfold Pn Vq
 have h1:=h.nv
 have h2:=h.dv
 have u:=Ao3 a k h (by omega)
 have i:RB (k+1) (Bv (!sv a) (nv a) (dv a)):=Qu _ _ _ _ h1 h2 (by omega)
 obtain ⟨j,q,l,A⟩:=Wu (!sv a) (nv a) (dv a) (De a)
 rw [u,Ac,Agr a _ k (k+1) h i (by omega) (by omega),Ac,Ac]
 generalize hc:Bv (!sv a) (nv a) (dv a)=c at *
 have B:0<Nat.gcd (nv a) (dv a):=Nat.gcd_pos_of_pos_right _ (by have:=De a; omega)
 have y:nv a=Nat.gcd (nv a) (dv a)*nv c:=by rw [j]; exact (Nat.mul_div_cancel' (Nat.gcd_dvd_left _ _)).symm
 have z:dv a=Nat.gcd (nv a) (dv a)*dv c:=by rw [q]; exact (Nat.mul_div_cancel' (Nat.gcd_dvd_right _ _)).symm
 have b:Hq (sv a) (nv a) (dv a) (sv c) (nv c) (dv c)=0:=by
  by_cases h0:nv a=0
  .have:nv c=0:=by rw [j,h0]; simp
   unfold Hq
   rw [h0,this]
   split
   .simp
   .split <;> simp
  .have s:sv a≠sv c:=by rw [l h0]; cases sv a <;> decide
   have:nv c*dv a=nv a*dv c:=by
    generalize Nat.gcd (nv a) (dv a)=g at *
    rw [y,z]; grind
   unfold Hq
   rw [if_neg s,this,if_pos (Nat.le_refl _),Nat.sub_self]
 rw [b,Tx]
 have f:RB 1 ⟨false,[],[1]⟩:=by
  refine ⟨(fun _ h=>by cases h),(fun x h=>?_),by simp,by simp⟩
  simp at h; subst h; decide
 rw [Aa4 _ 1 f (by decide)]
 rfl
end Go.Ab
namespace Go.Ab
open Go
theorem Ags (s:Bool) (n d:Nat) (hd:d≠0):∃g:Nat,g≠0/\n=g*nv (Bv s n d)/\d=g*dv (Bv s n d)/\(n≠0->sv (Bv s n d)=s)/\(n=0->sv (Bv s n d)=false):=by
 obtain ⟨h1,h2,h3,b⟩:=Wu s n d hd
 have c:0<Nat.gcd n d:=Nat.gcd_pos_of_pos_right _ (by omega)
 exact ⟨Nat.gcd n d,by omega,by rw [h1]; exact (Nat.mul_div_cancel' (Nat.gcd_dvd_left _ _)).symm,by rw [h2]; exact (Nat.mul_div_cancel' (Nat.gcd_dvd_right _ _)).symm,h3,b⟩
end Go.Ab
namespace Go.Ab
open Go
mutual
def A8:Ah->Nat
 | ⟨_,_,l⟩=>1+B5 l
def B5:List Ah->Nat
 | []=>0
 | x::xs=>A8 x+B5 xs
end
theorem F7 (t:Ah):A8 t=1+B5 t.Args:=by cases t; simp only [A8]
theorem Kp (t:Ah):1<=A8 t:=by rw [F7]; omega
theorem Gm {l:List Ah} {a:Ah} (h:a∈l):A8 a<=B5 l:=by
 induction l with
 | nil=>cases h
 | cons x xs ih=>
  simp only [B5]
  rcases List.mem_cons.1 h with rfl | h
  .omega
  .have:=ih h; omega
theorem Hr (l:List Ah):l.length<=B5 l:=by
 induction l with
 | nil=>simp
 | cons x xs ih=>simp only [B5,List.length_cons]; have:=Kp x; omega
theorem W0 (l m:List Ah):B5 (l++m)=B5 l+B5 m:=by
 induction l with
 | nil=>simp [B5]
 | cons x xs ih=>simp only [List.cons_append,B5,ih]; omega
def Ij (data:List As) (vars k n:Int) (len:Nat):Bool :=
 if k=1\/k=2\/k=3 then n==0&&len==0
 else if k=4 then decide (0<=n)&&decide (n<vars)&&len==0
 else if k=5 then decide (0<=n)&&(match data[n.toNat]? with | some d=>(len:Int)==d.Vars | none=>false)
 else if k=6 then n==0&&decide (2<=len)&&decide (len<=6)
 else if k=7\/k=8 then n==0&&len==1
 else if k=9 then n==0&&decide (1<=len)&&decide (len<=7)
 else false
mutual
def Ef (data:List As) (vars:Int):Ah->Bool
 | ⟨k,n,l⟩=>Ij data vars k n l.length&&Dn data vars l
def Dn (data:List As) (vars:Int):List Ah->Bool
 | []=>true
 | x::xs=>Ef data vars x&&Dn data vars xs
end
theorem W1 (data:List As) (vars:Int) (t:Ah):Ef data vars t=(Ij data vars t.Kind t.Num t.Args.length&&Dn data vars t.Args):=by cases t; simp only [Ef]
theorem Agt {α:Type} (l:List α) (n:Nat):((l.length:Int)==(n:Int))=(l.length==n):=by
 by_cases h:l.length=n
 .subst h; simp
 .rw [Ci (by omega)]; simp [h]
theorem Ao5 (k:Nat) (t:Ah) (data:List As) (vars left:Int) (h1:1<=left) (h2:left<=1000) :
  Jr (k+1) t ⟨data,vars,left⟩=bif Ij data vars t.Kind t.Num t.Args.length then ((Qm k t.Args ⟨data,vars,left-1⟩).bind fun v12=>some ((!v12.1),v12.2)) else some (false,⟨data,vars,left-1⟩):=by
 have hw:Ad (left-1)=left-1:=Bt (by omega) (by omega)
 have b:¬left-1<0:=by omega
 rw [Jr]
 simp only [hw,Al b,cond_false]
 generalize g:(Qm k t.Args ⟨data,vars,left-1⟩).bind (fun v12=>some ((!v12.1),v12.2))=X
 generalize f:(some (false,⟨data,vars,left-1⟩):Option (Bool×Et))=Y
 unfold Ij Af
 generalize t.Args.length=len
 generalize t.Kind=c
 generalize t.Num=n
 cases hd:data[n.toNat]? <;> simp only [Bool.cond_eq_ite,Aaj,Ac,Option.bind_none,hd] <;> grind
theorem T1 {l:List Ah} {j:Nat} (h:j<l.length):B5 (l.take (j+1))=B5 (l.take j)+A8 l[j]:=by
 rw [List.take_succ_eq_append_getElem h,W0]; simp [B5]
theorem Agu (data:List As) (vars:Int) (l m:List Ah):Dn data vars (l++m)=(Dn data vars l&&Dn data vars m):=by
 induction l with
 | nil=>simp [Dn]
 | cons x xs ih=>simp only [List.cons_append,Dn,ih,Bool.and_assoc]
theorem W2 (data:List As) (vars:Int) {l:List Ah} {j:Nat} (h:j<l.length):Dn data vars (l.take (j+1))=(Dn data vars (l.take j)&&Ef data vars l[j]):=by
 rw [List.take_succ_eq_append_getElem h,Agu]; simp [Dn]
theorem T2 (l:List Ah) (j:Nat):B5 (l.take j)<=B5 l:=by
 have:=W0 (l.take j) (l.drop j)
 rw [List.take_append_drop] at this; omega
theorem Agv (data:List As) (vars:Int) (l:List Ah) (j:Nat) (h:Dn data vars l=true):Dn data vars (l.take j)=true:=by
 have:=Agu data vars (l.take j) (l.drop j)
 rw [List.take_append_drop,h] at this
 have:=this.symm
 simp only [C9] at this
 exact this.1
theorem Ao6 (data:List As) (vars:Int) (k:Nat) (l:List Ah) (c:Nat) (G:l.length<1099511627776)
  (ih:∀(a:Ah),a∈l->∀f:Nat,f<=c->∃g:Int,Jr k a ⟨data,vars,f⟩=some (Ef data vars a&&decide (A8 a<=f),⟨data,vars,g⟩)/\((Ef data vars a&&decide (A8 a<=f))=true->g=(f:Int)-A8 a)) :
  ∃p:Int×Int,Tp (k+2) l ⟨data,vars,c⟩=some (p.1,⟨data,vars,p.2⟩)/\((Dn data vars l&&decide (B5 l<=c))=true->p.1 = -1/\p.2=(c:Int)-B5 l)/\((Dn data vars l&&decide (B5 l<=c))=false->0<=p.1):=by
 rw [Tp]
 refine Wi (fun p:Int×Int=>(p.1,Et.mk data vars p.2)) (Eb
  (fun (v3,v4,v5,s)=>∃j:Nat,v3=j/\j<=l.length/\v4=data/\v5=vars/\Dn data vars (l.take j)=true/\B5 (l.take j)<=c/\s=(c:Int)-B5 (l.take j))
  (fun (v3,_,_,_)=>l.length-v3.toNat)
  (fun z=>match z with | .inl (i,b)=>0<=i/\(∃g,b=⟨data,vars,g⟩)/\(Dn data vars l&&decide (B5 l<=c))=false | .inr (v4,v5,s)=>v4=data/\v5=vars/\(Dn data vars l&&decide (B5 l<=c))=true/\s=(c:Int)-B5 l)
  ⟨0,rfl,by omega,rfl,rfl,rfl,by simp [B5],by simp [B5]⟩ ?_ ?_)
 .rintro ⟨v3,v4,v5,s⟩ ⟨j,rfl,hj,rfl,rfl,x,A,rfl⟩
  rcases Nat.lt_or_ge j l.length with h | h
  .obtain ⟨u,y⟩:∃u:Nat,(c:Int)-B5 (l.take j)=u/\u<=c:=⟨c-B5 (l.take j),by omega,by omega⟩
   obtain ⟨g,E,D⟩:=ih l[j] (List.getElem_mem h) u y.2
   simp only [Ak (by omega:(j:Int)<(l.length:Int)),cond_true,Cq rfl h,Ac,S6,y.1,E]
   cases hb:(Ef v4 v5 l[j]&&decide (A8 l[j]<=u)) with
   | true=>
    have I:=D hb
    simp only [C9,decide_eq_true_eq] at hb
    refine .inl ⟨(((j+1:Nat):Int),v4,v5,g),?_,⟨j+1,rfl,by omega,rfl,rfl,?_,?_,?_⟩,by simp; omega⟩
    .simp only [bnt,cond_false]
     rw [show Ad ((j:Int)+1)=((j+1:Nat):Int) by rw [Ad,Bt] <;> omega]
    .rw [W2 _ _ h,x,hb.1]; rfl
    .rw [T1 h]; omega
    .show g=_
     rw [T1 h]; omega
   | false=>
    refine .inr ⟨.inl ((j:Int),⟨v4,v5,g⟩),by simp,by omega,⟨g,rfl⟩,?_⟩
    cases q:(Dn v4 v5 l&&decide (B5 l<=c)) with
    | false=>rfl
    | true=>
     exfalso
     simp only [C9,decide_eq_true_eq] at q
     have a1:=Agv v4 v5 l (j+1) q.1
     rw [W2 _ _ h] at a1
     simp only [C9] at a1
     have a2:=T2 l (j+1)
     rw [T1 h] at a2
     rw [a1.2,Bool.true_and,decide_eq_false_iff_not] at hb
     omega
  .have:j=l.length:=by omega
   subst this
   rw [List.take_length] at *
   refine .inr ⟨.inr (v4,v5,(c:Int)-B5 l),by simp,rfl,rfl,by simp [x,A],rfl⟩
 .rintro (⟨i,b⟩ | ⟨v4,v5,s⟩) B
  .obtain ⟨a1,⟨g,rfl⟩,a3⟩:=B
   exact ⟨_,rfl,(i,g),rfl,(fun h=>by rw [a3] at h; cases h),fun _=>a1⟩
  .obtain ⟨rfl,rfl,a3,rfl⟩:=B
   exact ⟨_,rfl,(-1,_),rfl,fun _=>⟨rfl,rfl⟩,fun h=>by rw [a3] at h; cases h⟩
theorem Ao7 (data:List As) (vars:Int):∀(left:Nat) (t:Ah) (k:Nat),left<=200->4*left+4<=k->A8 t<1099511627776 ->
  ∃f:Int,Jr k t ⟨data,vars,left⟩=some (Ef data vars t&&decide (A8 t<=left),⟨data,vars,f⟩)/\((Ef data vars t&&decide (A8 t<=left))=true->f=(left:Int)-A8 t):=by
 intro left
 induction left using Nat.strongRecOn with
 | _ left s=>
  intro t k B hk ht
  have hp:=Kp t
  obtain ⟨g,rfl⟩:∃g,k=g+1:=⟨k-1,by omega⟩
  cases left with
  | zero=>
   refine ⟨-1,?_,fun h=>by simp at h; omega⟩
   rw [Jr]
   have hd:decide (A8 t<=0)=false:=Al (by omega)
   rw [hd,Bool.and_false]
   rfl
  | succ b=>
   rw [Ao5 g t data vars ((b+1:Nat):Int) (by omega) (by omega)]
   have z:((b+1:Nat):Int)-1=(b:Int):=by omega
   rw [z,W1]
   cases A:Ij data vars t.Kind t.Num t.Args.length with
   | false=>exact ⟨b,by simp,fun h=>by simp at h⟩
   | true=>
    obtain ⟨q,rfl⟩:∃q,g=q+3:=⟨g-3,by omega⟩
    have j:=F7 t
    have x:=Hr t.Args
    obtain ⟨⟨i,f⟩,h1,h2,h3⟩:=Ao6 data vars q t.Args b (by omega) (fun a ha c y=>by
     have:=Gm ha
     exact s c (by omega) a q (by omega) (by omega) (by omega))
    have l:decide (A8 t<=b+1)=decide (B5 t.Args<=b):=by
     rw [j]; congr 1; simp only [eq_iff_iff]; omega
    simp only [cond_true,Qm,h1,Ac,Bool.true_and,l]
    refine ⟨f,?_,fun h=>?_⟩
    .cases hb:(Dn data vars t.Args&&decide (B5 t.Args<=b)) with
     | true=>
      have u:i = -1:=(h2 hb).1
      rw [Al (by omega:¬i>=0)]; rfl
     | false=>
      have u:0<=i:=h3 hb
      rw [Ak (by omega:i>=0)]; rfl
    .have u:f=(b:Int)-B5 t.Args:=(h2 h).2
     rw [u,j]; omega
theorem T3 (data:List As) (t:Ah) (vars:Int) (ht:A8 t<1099511627776):K5 data t vars=some (Ef data vars t&&decide (A8 t<=200)):=by
 unfold K5
 obtain ⟨b,h1,_⟩:=Ao7 data vars 200 t 4000000 (by decide) (by decide) ht
 have h1:Jr 4000000 t ⟨data,vars,200⟩=_:=h1
 rw [h1]; rfl
theorem Agw:∀(k:Nat) (t:Ah),A8 t<=k->A8 t<1099511627776->K8 k t=some (A8 t:Int):=by
 intro k
 induction k with
 | zero=>intro t h; have:=Kp t; omega
 | succ k ih=>
  intro t h ht
  have c:=F7 t
  have f:=Hr t.Args
  rw [K8]
  refine F5 (fun (n,i)=>∃j:Nat,i=j/\j<=t.Args.length/\n=1+(B5 (t.Args.take j):Int)) (fun (_,i)=>t.Args.length-i.toNat) (fun n=>n=(A8 t:Int)) ⟨0,rfl,by omega,by simp [B5]⟩ ?_ (by rintro n rfl; rfl)
  rintro ⟨n,i⟩ ⟨j,rfl,hj,rfl⟩
  rcases Nat.lt_or_ge j t.Args.length with h' | h'
  .have l:=Gm (List.getElem_mem h')
   have g:=T2 t.Args j
   have b:=T2 t.Args (j+1)
   rw [T1 h'] at b
   refine .inl ⟨(1+(B5 (t.Args.take (j+1)):Int),((j+1:Nat):Int)),?_,⟨j+1,rfl,by omega,rfl⟩,by simp; omega⟩
   simp only [Ak (by omega:(j:Int)<(t.Args.length:Int)),cond_true,Cq rfl h',Ac,ih t.Args[j] (by omega) (by omega)]
   rw [show Ad ((j:Int)+1)=((j+1:Nat):Int) by rw [Ad,Bt] <;> omega,show Ad (1+(B5 (t.Args.take j):Int)+(A8 t.Args[j]:Int))=1+(B5 (t.Args.take (j+1)):Int) by rw [T1 h',Ad,Bt] <;> omega]
  .have:j=t.Args.length:=by omega
   subst this
   exact .inr ⟨1+(B5 t.Args:Int),by simp,by rw [c]; omega⟩
theorem Ao8 (data:List As) (vars:Int):∀(k:Nat) (t:Ah),A8 t<=k->A8 t<1099511627776->Mb k data t vars=some (Ef data vars t):=by
 intro k
 induction k with
 | zero=>intro t h; have:=Kp t; omega
 | succ k ih=>
  intro t h ht
  have A:=F7 t
  have l:=Hr t.Args
  have c:(Ao (S:=Int) (E:=(Bool⊕Unit)) (fun v8=>bif (decide (v8<(t.Args.length:Int))) then ((Af t.Args v8).bind fun v9=>(Mb k data v9 vars).bind fun x=>bif (!x) then some (.inr (.inl false)) else some (.inl (Ad (v8+1)))) else some (.inr (.inr ()))) 0).bind (fun z=>match z with | .inl y=>some y | .inr _=>some true)=some (Dn data vars t.Args):=by
   refine F5 (fun i=>∃j:Nat,i=j/\j<=t.Args.length/\Dn data vars (t.Args.take j)=true) (fun i=>t.Args.length-i.toNat)
    (fun z=>match z with | .inl r=>r=Dn data vars t.Args | .inr _=>Dn data vars t.Args=true) ⟨0,rfl,by omega,by simp [Dn]⟩ ?_ ?_
   .rintro i ⟨j,rfl,hj,f⟩
    rcases Nat.lt_or_ge j t.Args.length with h' | h'
    .have I:=Gm (List.getElem_mem h')
     simp only [Ak (by omega:(j:Int)<(t.Args.length:Int)),cond_true,Cq rfl h',Ac,ih t.Args[j] (by omega) (by omega)]
     cases hb:Ef data vars t.Args[j] with
     | true=>
      refine .inl ⟨((j+1:Nat):Int),?_,⟨j+1,rfl,by omega,by rw [W2 _ _ h',f,hb]; rfl⟩,by simp; omega⟩
      simp only [bnt,cond_false]
      rw [show Ad ((j:Int)+1)=((j+1:Nat):Int) by rw [Ad,Bt] <;> omega]
     | false=>
      refine .inr ⟨.inl false,by simp,?_⟩
      show false=_
      cases q:Dn data vars t.Args with
      | false=>rfl
      | true=>
       have a1:=Agv data vars t.Args (j+1) q
       rw [W2 _ _ h',hb,Bool.and_false] at a1; cases a1
    .have:j=t.Args.length:=by omega
     subst this
     rw [List.take_length] at f
     exact .inr ⟨.inr (),by simp,f⟩
   .rintro (r | u) s
    .simp only at s ⊢; rw [s]
    .simp only at s ⊢; rw [s]
  rw [Mb,W1]
  refine Eq.trans (b:=Option.bind _ (fun z:Bool⊕Unit=>match z with | .inl D=>some D | .inr _=>some (Dn data vars t.Args))) (An4 ?_) ?_
  .rintro (r | u)
   .rfl
   .exact c
  have g:t.Args.length=0->Dn data vars t.Args=true:=by
   intro e; rw [List.length_eq_zero_iff.1 e]; rfl
  unfold Ij Af
  clear c ih h ht A l
  generalize Dn data vars t.Args=X at *
  generalize t.Args.length=len at *
  generalize t.Kind=G
  generalize t.Num=n
  by_cases B:len=0
  .have hx:=g B
   subst B; subst hx
   cases hd:data[n.toNat]? <;> simp only [Bool.cond_eq_ite,Aaj,Ac,Option.bind_none,hd] <;> grind
  .have h0:((len:Int)==0)=false:=Ci (by omega)
   have h1:(len==0)=false:=by simpa using B
   have h2:((len:Int) != 1)=(!(len==1)):=by
    by_cases h:len=1
    .subst h; rfl
    .rw [Cv (by omega)]; simp [h]
   cases hd:data[n.toNat]? <;> simp only [h0,h1,h2,Bool.cond_eq_ite,Aaj,Ac,Option.bind_none,hd,Bool.and_false,Bool.false_and] <;> grind
theorem Aa5 (data:List As) (t:Ah) (vars:Int) (ht:A8 t<=4000000):K4 data t vars=some (Ef data vars t&&decide (A8 t<=200)):=by
 unfold K4
 rw [Agw 4000000 t ht (by omega),Ac,Ao8 data vars 4000000 t ht (by omega)]
 by_cases h:A8 t<=200
 .rw [Ak (by omega:(A8 t:Int)<=200),Ak h]; simp
 .rw [Al (by omega:¬(A8 t:Int)<=200),Al h]; simp
end Go.Ab
namespace Go.Ab
open Go
def Ld (a:Ah) (i:Int):Bool:=a.Kind==4&&a.Num==i&&a.Args.length==0
def Agx (l:List Ah):Bool:=l.zipIdx.all fun q=>Ld q.1 q.2
def Gn (t:Ah) (d vars:Int):Bool:=t.Kind==5&&t.Num==d&&(t.Args.length:Int)==vars&&Agx t.Args
theorem Agy (t:Ah) (d vars:Int) (ht:t.Args.length<1099511627776):K7 t d vars=some (Gn t d vars):=by
 unfold K7 Gn
 by_cases h1:t.Kind=5
 .by_cases h2:t.Num=d
  .by_cases h3:(t.Args.length:Int)=vars
   .simp only [Cz h1,Cz h2,Cz h3,cond_false,Ac,Eh h1,Eh h2,Eh h3,Bool.true_and]
    refine (Oq t.Args (fun q=>Ld q.1 q.2) (fun j=>(j:Int)) rfl (by omega) (rt:=true) (rf:=false) ?_ ?_).trans (by rw [Lb]; rfl)
    .intro j x hx _ hd hi hw
     simp only [hd,hi,hw,cond_true,Ac,Ld]
     constructor
     .intro h
      simp only [C9,beq_iff_eq] at h
      simp [h.1.1,h.1.2,h.2]
     .intro h
      by_cases g1:x.Kind=4
      .by_cases g2:x.Num=j
       .by_cases g3:x.Args.length=0
        .simp [g1,g2,g3] at h
        .exact ⟨.inl false,by simp only [Cz g1,Cz g2,cond_false]; rw [Ak (by omega)]; rfl,rfl⟩
       .exact ⟨.inl false,by simp only [Cz g1,Cv g2,cond_false]; rfl,rfl⟩
      .exact ⟨.inl false,by simp only [Cv g1]; rfl,rfl⟩
    .intro hd _
     exact ⟨.inr (),by simp only [hd]; rfl,rfl⟩
   .simp only [Cz h1,Cz h2,Cv h3,cond_false,cond_true,Ac,Ci h3,Bool.and_false,Bool.false_and]
  .simp only [Cz h1,Cv h2,cond_false,cond_true,Ac,Ci h2,Bool.and_false,Bool.false_and]
 .simp only [Cv h1,cond_true,Ac,Ci h1,Bool.false_and]
def Fo (data:List As) (d c:Int):List Bool :=
 match Af data d with
 | none=>[]
 | some x=>match Af x.Cons c with
  | none=>[]
  | some y=>y.Args.map fun t=>Gn t d x.Vars
theorem E6 {α:Type} {l:List α} {i:Int} {x:α} (h:Af l i=some x):0<=i/\i<l.length/\l[i.toNat]? = some x/\x∈l:=by
 unfold Af at h
 split at h
 .have h1:i.toNat<l.length:=Em h
  exact ⟨by assumption,by omega,h,B3 h⟩
 .cases h
theorem Mw {α:Type} {l:List α} {i:Int} (h:Af l i=none):i<0\/(l.length:Int)<=i:=by
 unfold Af at h
 split at h
 .rw [List.getElem?_eq_none_iff] at h
  right; omega
 .left; omega
theorem Agz {R:Type} (data:List As) (d c:Int) (F:As->Ig->Option R) (z:R) (X:Option R)
  (f:X=((bif (decide (d<(0:Int))) then some true else bif (decide (d>=(data.length:Int))) then some true else bif (decide (c<(0:Int))) then some true else
   (Af data d).bind fun b=>some (decide (c>=(b.Cons.length:Int))):Option Bool).bind fun v2=>bif v2 then some z else (Af data d).bind fun v3=>(Af v3.Cons c).bind fun v4=>F v3 v4)) :
  X=match Af data d with
   | none=>some z
   | some x=>match Af x.Cons c with
    | none=>some z
    | some y=>F x y:=by
 subst f
 cases hx:Af data d with
 | none=>
  rcases Mw hx with h | h
  .simp only [Ak h,cond_true,Ac]
  .by_cases h':d<0
   .simp only [Ak h',cond_true,Ac]
   .simp only [Al h',Ak (show d>=(data.length:Int) from h),cond_true,cond_false,Ac]
 | some x=>
  obtain ⟨a1,a2,_,_⟩:=E6 hx
  simp only [Al (by omega:¬d<0),Al (by omega:¬d>=(data.length:Int)),cond_false,Ac]
  cases hy:Af x.Cons c with
  | none=>
   rcases Mw hy with h | h
   .simp only [Ak h,cond_true,Ac]
   .by_cases h':c<0
    .simp only [Ak h',cond_true,Ac]
    .simp only [Al h',Ak (show c>=(x.Cons.length:Int) from h),cond_true,cond_false,Ac]
  | some y=>
   obtain ⟨b1,b2,_,_⟩:=E6 hy
   simp only [Al (by omega:¬c<0),Al (by omega:¬c>=(x.Cons.length:Int)),cond_false,Ac]
def Ao9 (l:List Ah):Prop:=l.length<=4194304/\∀a∈l,a.Args.length<=4194304
def Jx (data:List As):Prop:=∀x∈data,∀y∈x.Cons,Ao9 y.Args
theorem Apa (data:List As) (d c:Int) (hd:Jx data):Z3 data d c=some (Fo data d c):=by
 unfold Z3
 rw [Agz data d c (fun v4 v5=>_) [] _ rfl]
 unfold Fo
 cases hx:Af data d with
 | none=>rfl
 | some x=>
  cases hy:Af x.Cons c with
  | none=>simp only [hy]
  | some y=>
   simp only [hy]
   have b:=hd x (E6 hx).2.2.2 y (E6 hy).2.2.2
   refine Fm y.Args (fun j=>((j:Int),(y.Args.take j).map fun t=>Gn t d x.Vars)) rfl (by have:=b.1; omega) ?_ ?_
   .intro j t hj ht h1 h2 h3
    simp only [h1,h2,cond_true,Ac,Agy t d x.Vars (by have:=b.2 t (B3 ht); omega)]
    rw [Cs (by simp; have:=b.1; omega),Ac,h3,C5 ht,List.map_append]; rfl
   .intro h1
    exact ⟨_,by simp only [h1]; rfl,by simp⟩
theorem Apb (data:List As) (d c:Int) (hd:Jx data):Aae data d c=some (Fo data d c):=Apa data d c hd
theorem Aa6 {α:Type} (l m:List α) (y x:α) (i:Int) (n:Nat) (h:i=n) (b:n=l.length):Cx (l++y::m) i x=l++x::m:=by
 rw [F6 h]; subst b; simp
theorem Aa7 {α:Type} (l m:List α) (y:α) (i:Int) (n:Nat) (h:i=n) (b:n=l.length):Af (l++y::m) i=some y:=by
 rw [Ch h]; subst b; simp
theorem Apc (l:List Ah) (k f:List Bool) (i:Int) (n:Nat) (b:Bool) (h:i=n) (u:n=k.length) (B:l.length<1099511627776) {R:Type} {J:Int×List Bool->Option R} {r:R}
  (A:J ((l.length:Int),k++(b&&Agx l)::f)=some r) :
  (Ao (S:=(Int×(List Bool))) (E:=(Int×(List Bool))) (fun (c,g)=>
   bif (decide (c<(l.length:Int))) then (
   (Af l c).bind fun s=>
   bif (s.Kind != (4:Int)) then (
   (Af g i).bind fun v46=>
   some (.inl ((Ad (c+1)),(Cx g i false)))
   )
   else (
   bif (s.Num != c) then (
   (Af g i).bind fun z=>
   some (.inl ((Ad (c+1)),(Cx g i false)))
   )
   else (
   bif (decide ((s.Args.length:Int)>(0:Int))) then (
   (Af g i).bind fun y=>
   some (.inl ((Ad (c+1)),(Cx g i false)))
   )
   else (
   some (.inl ((Ad (c+1)),g))
   )
   )
   )
   )
   else (
   some (.inr (c,g))
   )
    ) (0,k++b::f)).bind J=some r:=by
 refine Fm l (fun j=>((j:Int),k++(b&&(l.take j).zipIdx.all (fun q=>Ld q.1 q.2))::f)) (by simp) (by omega) ?_ ?_
 .intro j x hj hx h1 h2 h3
  have e:(l.take (j+1)).zipIdx.all (fun q=>Ld q.1 q.2)=((l.take j).zipIdx.all (fun q=>Ld q.1 q.2)&&Ld x j):=by
   rw [C5 hx,List.zipIdx_append,List.all_append]; simp [Nat.min_eq_left (Nat.le_of_lt hj)]
  simp only [h1,h2,h3,cond_true,Ac,Aa7 k f _ i n h u,Aa6 k f _ _ i n h u,e]
  unfold Ld
  by_cases g1:x.Kind=4
  .by_cases g2:x.Num=j
   .by_cases g3:x.Args.length=0
    .rw [Al (by omega)]; simp [g1,g2,g3]
    .rw [Ak (by omega)]
     have:(x.Args.length==0)=false:=by simpa using g3
     simp [g1,g2,this]
   .simp [g1,g2,Cv g2]
  .simp [g1,Cv g1]
 .intro h1
  refine ⟨_,by simp only [h1]; rfl,?_⟩
  rw [List.take_length]
  exact A
theorem Ag0 (data:List As) (d c:Int) (hd:Jx data):Ny data d c=some (Fo data d c):=by
 unfold Ny
 rw [Agz data d c (fun v3 v4=>_) [] _ rfl]
 unfold Fo
 cases hx:Af data d with
 | none=>rfl
 | some x=>
  cases hy:Af x.Cons c with
  | none=>simp only [hy]
  | some y=>
   simp only [hy]
   have f:=hd x (E6 hx).2.2.2 y (E6 hy).2.2.2
   have g:=f.1
   rw [Jv (n:=y.Args.length) (c:=y.Args.length) rfl rfl (by omega) (by omega) (by omega),Ac]
   refine Fm y.Args (fun j=>((j:Int),((y.Args.take j).map fun t=>Gn t d x.Vars)++List.replicate (y.Args.length-j) false)) rfl (by omega) ?_ ?_
   .intro j t hj ht h1 h2 h3
    obtain ⟨m,h⟩:∃m,y.Args.length-j=m+1:=⟨y.Args.length-j-1,by omega⟩
    have i:y.Args.length-(j+1)=m:=by omega
    have b:j=((y.Args.take j).map fun t=>Gn t d x.Vars).length:=by simp; omega
    simp only [h1,h2,cond_true,Ac,h,i,List.replicate_succ,C5 ht,List.map_append,List.map_cons,List.map_nil,List.append_assoc,List.cons_append,List.nil_append,
     Aa7 _ _ _ (j:Int) j rfl b,Aa6 _ _ _ _ (j:Int) j rfl b]
    have hb:(bif t.Kind==5 then bif t.Num==d then some (List.map (fun t=>Gn t d x.Vars) (List.take j y.Args)++((t.Args.length:Int)==x.Vars)::List.replicate m false)
       else some (List.map (fun t=>Gn t d x.Vars) (List.take j y.Args)++false::List.replicate m false)
      else some (List.map (fun t=>Gn t d x.Vars) (List.take j y.Args)++false::List.replicate m false))=some (List.map (fun t=>Gn t d x.Vars) (List.take j y.Args)++(t.Kind==5&&t.Num==d&&((t.Args.length:Int)==x.Vars))::List.replicate m false):=by
     cases t.Kind==5 <;> cases t.Num==d <;> simp
    rw [hb,Ac]
    refine Apc t.Args _ _ (j:Int) j _ rfl b (by have:=f.2 t (B3 ht); omega) ?_
    rw [h3]; rfl
   .intro h1
    exact ⟨_,by simp only [h1]; rfl,by simp⟩
mutual
def mnt (d:Int):Ah->Bool
 | ⟨k,n,l⟩=>(k==5&&n==d)||Lf d l
def Lf (d:Int):List Ah->Bool
 | []=>false
 | x::xs=>mnt d x||Lf d xs
end
theorem Apd (d:Int) (t:Ah):mnt d t=((t.Kind==5&&t.Num==d)||Lf d t.Args):=by cases t; simp only [mnt]
theorem Ape (d:Int) (l:List Ah):Lf d l=l.any (mnt d):=by
 induction l with
 | nil=>rfl
 | cons x xs ih=>simp only [Lf,ih,List.any_cons]
theorem Apf (d:Int):∀(n:Nat) (t:Ah) (k:Nat),A8 t<=n->4*n+4<=k->n<1099511627776->Og k t d=some (mnt d t):=by
 intro n
 induction n with
 | zero=>intro t k h; have:=Kp t; omega
 | succ n ih=>
  intro t k h hk g
  obtain ⟨k,rfl⟩:∃c,k=c+4:=⟨k-4,by omega⟩
  have f:=F7 t
  have b:=Hr t.Args
  have key:Ql (k+3) t.Args d=some (Lf d t.Args):=by
   rw [Ql,Wc]
   rw [Ape]
   refine Tu (Aaq t.Args (mnt d) (by omega) ?_ (fun h=>by simp only [h]; rfl) (fun _=>rfl) rfl) (fun i hi=>by rw [hi])
   intro j x hx h1 h2 h3
   have l:=Gm hx
   simp only [h1,h2,h3,cond_true,Ac,Tj,ih x k (by omega) (by omega) (by omega)]
  rw [Og,key,Apd]
  cases t.Kind==5 <;> cases t.Num==d <;> simp
end Go.Ab
namespace Go.Ab
open Go
theorem Apg (data:List As) (v:Int) (l:List Ah):Dn data v l=l.all (Ef data v):=by
 induction l with
 | nil=>rfl
 | cons x xs ih=>simp only [Dn,ih,List.all_cons]
theorem Aph (data:List As) (d:Nat) (v k n:Int) (len:Nat):(Ij (data.take (d+1)) v k n len && !(k==5&&n==(d:Int)))=Ij (data.take d) v k n len:=by
 by_cases hk:k=5
 .subst hk
  unfold Ij
  simp only [beq_self_eq_true,Bool.true_and,List.getElem?_take]
  by_cases b:n=d
  .subst b; simp
  .by_cases h0:0<=n
   .have e:(n==(d:Int))=false:=Ci b
    rcases Nat.lt_or_ge n.toNat d with h | h
    .simp [h,e,show n.toNat<d+1 by omega]
    .simp [e,show ¬n.toNat<d by omega,show ¬n.toNat<d+1 by omega]
   .simp [h0]
 .have e:(k==(5:Int))=false:=Ci hk
  simp only [e,Bool.false_and,Bool.not_false,Bool.and_true,Ij,hk,if_false]
mutual
theorem Ag1 (data:List As) (d:Nat) (v:Int):∀t:Ah,(Ef (data.take (d+1)) v t && !mnt d t)=Ef (data.take d) v t
 | ⟨k,n,l⟩=>by
  have h1:=Ag2 data d v l
  have h2:=Aph data d v k n l.length
  simp only [Ef,mnt]
  rw [<-h1,<-h2]
  cases Ij (data.take (d+1)) v k n l.length <;> cases (k==5&&n==(d:Int)) <;> cases Dn (data.take (d+1)) v l <;> simp
theorem Ag2 (data:List As) (d:Nat) (v:Int):∀l:List Ah,(Dn (data.take (d+1)) v l && !Lf d l)=Dn (data.take d) v l
 | []=>by simp [Dn,Lf]
 | x::xs=>by
  have h1:=Ag1 data d v x
  have h2:=Ag2 data d v xs
  simp only [Dn,Lf]
  rw [<-h1,<-h2]
  cases Ef (data.take (d+1)) v x <;> cases mnt d x <;> cases Dn (data.take (d+1)) v xs <;> simp
end
theorem Ag3:∀l:List Ah,(∀a∈l,a.Args.length=0)->B5 l=l.length
 | [],_=>rfl
 | x::xs,h=>by
  have h1:=h x (by simp)
  simp only [B5,List.length_cons]
  rw [Ag3 xs (fun a ha=>h a (by simp [ha])),F7,List.length_eq_zero_iff.1 h1]
  simp only [B5]; omega
theorem Ag4 {data:List As} {d:Nat} {x:As} (hx:data[d]? = some x) (f:x.Vars<=6) {t:Ah} (h:Gn t d x.Vars=true):Ef (data.take (d+1)) x.Vars t=true/\A8 t<=200:=by
 unfold Gn at h
 simp only [C9,beq_iff_eq] at h
 obtain ⟨⟨⟨h1,h2⟩,h3⟩,c⟩:=h
 have ha:∀a∈t.Args,∃i:Nat,i<t.Args.length/\a.Kind=4/\a.Num=i/\a.Args.length=0:=by
  intro a ha
  obtain ⟨i,hi⟩:=List.getElem?_of_mem ha
  have:=G0 c hi
  simp only [Ld,C9,beq_iff_eq] at this
  exact ⟨i,Em hi,this.1.1,this.1.2,this.2⟩
 refine ⟨?_,?_⟩
 .rw [W1,Apg,C9]
  constructor
  .rw [h1,h2]
   unfold Ij
   simp [hx,h3]
  .rw [List.all_eq_true]
   intro a b
   obtain ⟨i,i1,i2,i3,i4⟩:=ha a b
   rw [W1,i2,i3,i4,List.length_eq_zero_iff.1 i4]
   unfold Ij
   simp [Dn]; omega
 .rw [F7,Ag3 _ (fun a h=>(ha a h).choose_spec.2.2.2)]
  omega
def Hs (data:List As) (d:Nat) (v:Int) (t:Ah):Bool:=Gn t d v||(Ef (data.take d) v t&&decide (A8 t<=200))
theorem Api {data:List As} {d:Nat} {x:As} (hx:data[d]? = some x) (b:x.Vars<=6) (t:Ah):((Ef (data.take (d+1)) x.Vars t&&decide (A8 t<=200))&&(Gn t d x.Vars || !mnt d t))=Hs data d x.Vars t:=by
 unfold Hs
 cases h:Gn t d x.Vars with
 | true=>
  obtain ⟨h1,h2⟩:=Ag4 hx b h
  rw [h1,Ak h2]; rfl
 | false=>
  rw [<-Ag1 data d x.Vars t]
  cases Ef (data.take (d+1)) x.Vars t <;> cases decide (A8 t<=200) <;> simp
def SzD (data:List As):Prop:=∀x∈data,x.Cons.length<=1048576/\∀y∈x.Cons,B5 y.Args<=1048576
theorem SzD.short {data:List As} (h:SzD data):Jx data:=fun x hx y hy=>by
 have h1:=(h x hx).2 y hy
 have h2:=Hr y.Args
 refine ⟨by omega,fun a ha=>?_⟩
 have h3:=Gm ha
 have c:=F7 a
 have b:=Hr a.Args
 omega
theorem Apj {data:List As} (g:SzD data) (d c:Nat) {x:As} {y:Ig} (hx:data[d]? = some x) (hy:x.Cons[c]? = some y) (q:x.Vars<=6) (hd:data.length<=1048576) :
  Mk data d c=some (decide (y.Args.length<=6)&&y.Args.all (Hs data d x.Vars)):=by
 have b:=Em hx
 have l:=(g x (B3 hx)).2 y (B3 hy)
 unfold Mk
 rw [Ch rfl hx,Ac,Ch rfl hy,Ac,Ag0 data d c g.short]
 by_cases k:y.Args.length<=6
 .rw [Al (by omega:¬(y.Args.length:Int)>6),Ak k]
  simp only [cond_false,Bool.true_and,Ac]
  refine (Ms y.Args (Hs data d x.Vars) (fun j=>(j:Int)) rfl (by omega) (rt:=true) (rf:=false) ?_ ?_).trans (by rw [Lb])
  .intro j t ht h1 h2 h3
   have s:=Gm (B3 ht)
   have u:Af (Fo data d c) (j:Int)=some (Gn t d x.Vars):=by
    unfold Fo
    simp only [Ch rfl hx,Ch rfl hy]
    rw [Ch rfl]
    simp [ht]
   simp only [h1,h2,h3,cond_true,Ac,show Ad ((d:Int)+1)=((d+1:Nat):Int) from Dk b (by omega),Wj rfl (show d+1<=data.length from b),Ch rfl hx,
    T3 (data.take (d+1)) t x.Vars (by omega),u]
   rw [<-Api hx q t]
   cases i:(Ef (data.take (d+1)) x.Vars t&&decide (A8 t<=200)) with
   | false=>exact ⟨(fun h=>by cases h),fun _=>⟨.inl false,rfl,rfl⟩⟩
   | true=>
    have f:A8 t<=200:=by simp only [C9,decide_eq_true_eq] at i; exact i.2
    simp only [bnt,cond_false,Bool.true_and]
    cases z:Gn t d x.Vars with
    | true=>exact ⟨fun _=>rfl,fun h=>by cases h⟩
    | false=>
     simp only [Bool.not_false,cond_true,Apf d 200 t 4000000 f (by omega) (by omega),Ac,Bool.false_or]
     cases mnt d t with
     | true=>exact ⟨(fun h=>by cases h),fun _=>⟨.inl false,rfl,rfl⟩⟩
     | false=>exact ⟨fun _=>rfl,fun h=>by cases h⟩
  .intro h
   exact ⟨.inr (),by simp only [h]; rfl,rfl⟩
 .rw [Ak (by omega:(y.Args.length:Int)>6),Al k]; rfl
end Go.Ab
namespace Go.Ab
open Go
def bI (s:ByteArray) (i:Nat):Int:=if h:i<s.size then (s[i].toNat:Int) else 0
def loI (c:Int):Bool:=decide (97<=c)&&decide (c<=122)
def upI (c:Int):Bool:=decide (65<=c)&&decide (c<=90)
def diI (c:Int):Bool:=decide (48<=c)&&decide (c<=57)
def wiI (c:Int):Bool:=loI c||upI c||diI c||c==95
def Dx (s:ByteArray):Prop:=1<=s.size/\s.size<=24/\upI (bI s 0)=true/\∀i,i<s.size->wiI (bI s i)=true
theorem F8 {s:ByteArray} {i:Int} {n:Nat} (hi:i=n) (h:n<s.size):∃c:UInt8,D0 s i=some c/\(c.toNat:Int)=bI s n:=by
 subst hi
 refine ⟨s[n],?_,?_⟩
 .unfold D0
  rw [if_pos (by omega),show ((n:Int)).toNat=n from rfl]
  simp [h]
 .unfold bI; simp [h]
theorem Ow {s:ByteArray} {a b j:Nat} (hb:b<=s.size) (h:a+j<b):bI (s.extract a b) j=bI s (a+j):=by
 unfold bI
 have h1:j<(s.extract a b).size:=by rw [ByteArray.size_extract]; omega
 rw [dif_pos h1,dif_pos (by omega),ByteArray.getElem_extract]
theorem Kq {s:ByteArray} {lo hi:Int} {a b:Nat} (h1:lo=a) (h2:hi=b) (h3:a<=b) (c:b<=s.size):C7 s lo hi=some (s.extract a b):=by
 subst h1; subst h2; unfold C7; rw [if_pos (by omega)]; rfl
theorem Ag5 {a b:ByteArray} (h:a.toList=b.toList):a=b:=by
 rw [ByteArray.toList_eq,ByteArray.toList_eq] at h
 have:a.data=b.data:=Array.toList_inj.1 h
 cases a; cases b; simp at this; subst this; rfl
theorem W3 (a b:ByteArray):(a.toList==b.toList)=decide (a=b):=by
 by_cases h:a=b
 .subst h; simp
 .rw [Al h]
  cases hb:(a.toList==b.toList) with
  | false=>rfl
  | true=>exact absurd (Ag5 (by simpa using hb)) h
theorem Aa8 (c:Int):Qh c=some (loI c):=by unfold Qh loI; by_cases h:(97:Int)<=c <;> simp [h]
theorem Aa9 (c:Int):Ok c=some (upI c):=by unfold Ok upI; by_cases h:(65:Int)<=c <;> simp [h]
theorem T5 (c:Int):Mm c=some (diI c):=by unfold Mm diI; by_cases h:(48:Int)<=c <;> simp [h]
theorem Ag6 (c:Int):Qi c=some (wiI c):=by
 unfold Qi wiI
 rw [Aa8,Aa9,T5]
 simp only [Ac]
 cases loI c <;> cases upI c <;> cases diI c <;> rfl
theorem Apk (c:Int):Tb c=some (loI c):=Aa8 c
theorem Apl (c:Int):P8 c=some (upI c):=Aa9 c
theorem Apm (c:Int):P9 c=some (diI c):=T5 c
theorem Qz {S E:Type} {step:S->Option (S⊕E)} (s:ByteArray) (p:Int->Bool) (b:Nat->S) (f:Nat->E) (lo:Nat)
  (h1:∀j,lo<=j->j<s.size->p (bI s j)=true->step (b j)=some (.inl (b (j+1)))) (h2:∀j,lo<=j->j<s.size->p (bI s j)=false->step (b j)=some (.inr (f j))) (h3:step (b s.size)=some (.inr (f s.size))) :
  ∀(m i:Nat),lo<=i->i+m=s.size->∃n,i<=n/\n<=s.size/\(∀j,i<=j->j<n->p (bI s j)=true)/\(n<s.size->p (bI s n)=false)/\Ao step (b i)=some (f n):=by
 intro m
 induction m with
 | zero=>
  intro i _ hi
  have:i=s.size:=by omega
  subst this
  exact ⟨s.size,by omega,by omega,fun j _ _=>by omega,fun h=>by omega,Ey h3⟩
 | succ m ih=>
  intro i c hi
  cases hp:p (bI s i) with
  | true=>
   obtain ⟨n,a1,a2,a3,a4,a5⟩:=ih (i+1) (by omega) (by omega)
   refine ⟨n,by omega,a2,fun j b1 b2=>?_,a4,by rw [Jk (h1 i c (by omega) hp)]; exact a5⟩
   rcases Nat.lt_or_ge i j with h | h
   .exact a3 j h b2
   .have:j=i:=by omega
    subst this; exact hp
  | false=>exact ⟨i,by omega,by omega,fun j _ _=>by omega,fun _=>hp,Ey (h2 i c (by omega) hp)⟩
theorem Apn (s:ByteArray) (k:s.size<1099511627776):∃n,n<=s.size/\(∀j,j<n->wiI (bI s j)=true)/\(n<s.size->wiI (bI s n)=false)/\Tk s=some (s.extract 0 n):=by
 have H:=Qz (step:=fun v3:Int=>bif (decide (v3<(s.size:Int))) then ((D0 s v3).bind fun h=>(Qi (h.toNat:Int)).bind fun v5=>bif v5 then some (.inl (Ad (v3+1))) else some (.inr v3)) else some (.inr v3))
  s wiI (fun j=>(j:Int)) (fun j=>(j:Int)) 0 (fun j _ hj hp=>by
   obtain ⟨c,g,f⟩:=F8 (s:=s) (i:=(j:Int)) rfl hj
   simp only [Ak (by omega:(j:Int)<(s.size:Int)),cond_true,g,Ac,f,Ag6,hp,Dk hj (by omega)]) (fun j _ hj hp=>by
   obtain ⟨c,g,f⟩:=F8 (s:=s) (i:=(j:Int)) rfl hj
   simp only [Ak (by omega:(j:Int)<(s.size:Int)),cond_true,g,Ac,f,Ag6,hp,cond_false]) (by simp) s.size 0 (by omega) (by omega)
 obtain ⟨n,_,a2,a3,a4,a5⟩:=H
 refine ⟨n,a2,fun j hj=>a3 j (by omega) hj,a4,?_⟩
 unfold Tk
 have a5:Ao _ (0:Int)=some (n:Int):=a5
 rw [a5,Ac,Kq (lo:=0) (a:=0) (b:=n) rfl rfl (by omega) a2]; rfl
theorem Apo (s:ByteArray) (k:s.size<1099511627776):∃n,n<=s.size/\(∀j,j<n->diI (bI s j)=true)/\(n<s.size->diI (bI s n)=false)/\Wb s=some (s.extract 0 n):=by
 have H:=Qz (step:=fun v3:Int=>bif (decide (v3<(s.size:Int))) then ((D0 s v3).bind fun h=>(Mm (h.toNat:Int)).bind fun v5=>bif v5 then some (.inl (Ad (v3+1))) else some (.inr v3)) else some (.inr v3))
  s diI (fun j=>(j:Int)) (fun j=>(j:Int)) 0 (fun j _ hj hp=>by
   obtain ⟨c,g,f⟩:=F8 (s:=s) (i:=(j:Int)) rfl hj
   simp only [Ak (by omega:(j:Int)<(s.size:Int)),cond_true,g,Ac,f,T5,hp,Dk hj (by omega)]) (fun j _ hj hp=>by
   obtain ⟨c,g,f⟩:=F8 (s:=s) (i:=(j:Int)) rfl hj
   simp only [Ak (by omega:(j:Int)<(s.size:Int)),cond_true,g,Ac,f,T5,hp,cond_false]) (by simp) s.size 0 (by omega) (by omega)
 obtain ⟨n,_,a2,a3,a4,a5⟩:=H
 refine ⟨n,a2,fun j hj=>a3 j (by omega) hj,a4,?_⟩
 unfold Wb
 have a5:Ao _ (0:Int)=some (n:Int):=a5
 rw [a5,Ac,Kq (lo:=0) (a:=0) (b:=n) rfl rfl (by omega) a2]; rfl
theorem Ox {R:Type} {c:Bool} {X Y:Option R} {Q:R->Prop} (h1:∃r,X=some r/\Q r) (h2:∃r,Y=some r/\Q r):∃r,(bif c then X else Y)=some r/\Q r:=by cases c <;> assumption
theorem T6 {A R:Type} {X:Option A} {f:A->Option R} {Q:R->Prop} (P:A->Prop) (h1:∃a,X=some a/\P a) (h2:∀a,P a->∃r,f a=some r/\Q r):∃r,X.bind f=some r/\Q r:=by
 obtain ⟨a,e,h⟩:=h1
 rw [e]; exact h2 a h
theorem App (s:ByteArray):∃b,Tl s=some b/\True:=by
 unfold Tl
 repeat' first | refine Ox ?_ ?_ | exact ⟨_,rfl,trivial⟩
theorem Apq (s:ByteArray) (h1:1<=s.size):∃r,Tn s=some r/\(r.size<=s.size):=by
 have g:C7 s 0 1=some (s.extract 0 1):=Kq rfl rfl (by omega) h1
 have c:(s.extract 0 1).size<=s.size:=by rw [ByteArray.size_extract]; omega
 unfold Tn
 refine T6 (fun z=>∀r,z = .inl r->r.size<=s.size) ?_ ?_
 .by_cases h2:2<=s.size
  .have f:C7 s 0 2=some (s.extract 0 2):=Kq rfl rfl (by omega) h2
   have b:∀r,(Sum.inl (s.extract 0 2):ByteArray⊕Unit) = .inl r->r.size<=s.size:=by rintro r ⟨⟩; rw [ByteArray.size_extract]; omega
   simp only [f,Ac]
   repeat' first | refine Ox ?_ ?_ | with_reducible exact ⟨_,rfl,b⟩ | exact ⟨_,rfl,fun r h=>by cases h⟩
  .rw [Al (by omega)]
   exact ⟨_,rfl,fun r h=>by cases h⟩
 .rintro (r | u) i
  .exact ⟨_,rfl,i r rfl⟩
  .simp only [g,Ac]
   have h0:(ByteArray.mk #[]).size<=s.size:=Nat.zero_le _
   repeat' first | refine Ox ?_ ?_ | with_reducible exact ⟨_,rfl,c⟩ | with_reducible exact ⟨_,rfl,h0⟩
theorem Apr (s:ByteArray) (g:s.size<1099511627776):∃b,Tm s=some b/\True:=by
 unfold Tm
 refine Eb (fun (_,i)=>∃j:Nat,i=j/\j<=s.size) (fun (_,i)=>s.size-i.toNat) (fun _=>True) ⟨0,rfl,by omega⟩ ?_ ?_
 .rintro ⟨v,i⟩ ⟨j,rfl,hj⟩
  rcases Nat.lt_or_ge j s.size with h | h
  .obtain ⟨c,f,_⟩:=F8 (s:=s) (i:=(j:Int)) rfl h
   simp only [Ak (by omega:(j:Int)<(s.size:Int)),cond_true,f,Ac,Dk h (by omega)]
   cases decide (Ad (Ad (v*10)+Ad (wu8 ((c.toNat:Int)-48)))>1000000) with
   | true=>exact .inr ⟨_,rfl,trivial⟩
   | false=>exact .inl ⟨_,rfl,⟨j+1,rfl,by omega⟩,by simp; omega⟩
  .have:j=s.size:=by omega
   subst this
   exact .inr ⟨.inr (),by simp,trivial⟩
 .rintro (r | u) _ <;> exact ⟨_,rfl,trivial⟩
theorem Aps (s:ByteArray) (i:Nat) (hi:i<s.size) (S:s.size<1099511627776) :
  ∃r,Ti s i=some r/\(r.2=0->1<=r.1.Text.size/\i+r.1.Text.size<=s.size/\(r.1.Kind=2->Dx r.1.Text))/\(Dx s->i=0->r=(⟨2,s,0⟩,0)):=by
 obtain ⟨c,N,M⟩:=F8 (s:=s) (i:=(i:Int)) rfl hi
 have x:C7 s (i:Int) (s.size:Int)=some (s.extract i s.size):=Kq rfl rfl (by omega) (by omega)
 have J:(s.extract i s.size).size=s.size-i:=by rw [ByteArray.size_extract]; omega
 have y:bI (s.extract i s.size) 0=bI s i:=Ow (by omega) (by omega)
 unfold Ti
 simp only [N,Ac,M,Aa8,Aa9,T5,x]
 have hw:(bif loI (bI s i) then some true else some (upI (bI s i)))=some (loI (bI s i)||upI (bI s i)):=by cases loI (bI s i) <;> rfl
 rw [hw]
 simp only [Ac]
 cases l:(loI (bI s i)||upI (bI s i)) with
 | true=>
  obtain ⟨n,I,E,z,q⟩:=Apn (s.extract i s.size) (by omega)
  have B:1<=n:=by
   rcases Nat.eq_zero_or_pos n with h | h
   .subst h
    have:=z (by omega)
    rw [y] at this
    unfold wiI at this
    rw [l] at this; cases this
   .exact h
  have hx:(s.extract i s.size).extract 0 n=s.extract i (i+n):=by rw [ByteArray.extract_extract]; congr 1; omega
  have u:(s.extract i (i+n)).size=n:=by rw [ByteArray.size_extract]; omega
  rw [hx] at q
  simp only [cond_true,q,Ac,u]
  have g:Dx s->i=0->n=s.size:=by
   intro hu h0
   rcases Nat.lt_or_ge n s.size with h | h
   .have:=z (by omega)
    rw [Ow (by omega) (by omega),hu.2.2.2 _ (by omega)] at this; cases this
   .omega
  by_cases L:n<=24
  .rw [Al (by omega)]
   cases k:upI (bI s i) with
   | true=>
    refine ⟨_,rfl,fun _=>⟨?_,?_,fun _=>⟨?_,?_,?_,?_⟩⟩,?_⟩
    .show 1<=(s.extract i (i+n)).size; omega
    .show i+(s.extract i (i+n)).size<=s.size; omega
    .show 1<=(s.extract i (i+n)).size; omega
    .show (s.extract i (i+n)).size<=24; omega
    .show upI (bI (s.extract i (i+n)) 0)=true
     rw [Ow (by omega) (by omega)]; exact k
    .show ∀j,j<(s.extract i (i+n)).size->wiI (bI (s.extract i (i+n)) j)=true
     intro j hj
     rw [Ow (by omega) (by omega)]
     have:=E j (by omega)
     rw [Ow (by omega) (by omega)] at this; exact this
    .intro hu h0
     have:=g hu h0
     subst h0; subst this
     rw [Nat.zero_add,ByteArray.extract_zero_size]; rfl
   | false=>
    obtain ⟨b,hb,_⟩:=App (s.extract i (i+n))
    simp only [cond_false,hb,Ac]
    have f:Dx s->i=0->False:=by
     intro hu h0
     subst h0
     rw [hu.2.2.1] at k; cases k
    cases b with
    | true=>exact ⟨_,rfl,fun _=>⟨by show 1<=(s.extract i (i+n)).size; omega,by show i+(s.extract i (i+n)).size<=s.size; omega,fun h=>by cases h⟩,fun hu h0=>(f hu h0).elim⟩
    | false=>exact ⟨_,rfl,fun _=>⟨by show 1<=(s.extract i (i+n)).size; omega,by show i+(s.extract i (i+n)).size<=s.size; omega,fun h=>by cases h⟩,fun hu h0=>(f hu h0).elim⟩
  .rw [Ak (by omega)]
   refine ⟨_,rfl,(fun h=>by cases h),fun hu h0=>?_⟩
   have:=g hu h0
   have:=hu.2.1
   omega
 | false=>
  have f:Dx s->i=0->False:=by
   intro hu h0
   subst h0
   rw [hu.2.2.1,Bool.or_true] at l; cases l
  simp only [cond_false]
  cases hd:diI (bI s i) with
  | true=>
   obtain ⟨n,I,E,z,q⟩:=Apo (s.extract i s.size) (by omega)
   have B:1<=n:=by
    rcases Nat.eq_zero_or_pos n with h | h
    .subst h
     have:=z (by omega)
     rw [y,hd] at this; cases this
    .exact h
   have hx:(s.extract i s.size).extract 0 n=s.extract i (i+n):=by rw [ByteArray.extract_extract]; congr 1; omega
   have u:(s.extract i (i+n)).size=n:=by rw [ByteArray.size_extract]; omega
   rw [hx] at q
   obtain ⟨b,hb,_⟩:=Apr (s.extract i (i+n)) (by omega)
   simp only [cond_true,q,Ac,hb]
   refine T6 (fun _=>True) ?_ ?_
   .exact Ox ⟨_,rfl,trivial⟩ ⟨_,rfl,trivial⟩
   .intro v _
    refine Ox ⟨_,rfl,(fun h=>by cases h),fun hu h0=>(f hu h0).elim⟩ (Ox ⟨_,rfl,(fun h=>by cases h),fun hu h0=>(f hu h0).elim⟩ ⟨_,rfl,fun _=>⟨?_,?_,fun h=>by cases h⟩,fun hu h0=>(f hu h0).elim⟩)
    .show 1<=(s.extract i (i+n)).size; omega
    .show i+(s.extract i (i+n)).size<=s.size; omega
  | false=>
   obtain ⟨r,G,R⟩:=Apq (s.extract i s.size) (by omega)
   simp only [cond_false,G,Ac]
   rw [W3]
   by_cases A:r=ByteArray.mk #[]
   .rw [Ak A]
    exact ⟨_,rfl,(fun h=>by cases h),fun hu h0=>(f hu h0).elim⟩
   .rw [Al A]
    refine ⟨_,rfl,fun _=>⟨?_,?_,fun h=>by cases h⟩,fun hu h0=>(f hu h0).elim⟩
    .show 1<=r.size
     rcases Nat.eq_zero_or_pos r.size with h | h
     .have D:r.data.toList.length=0:=by simpa using h
      exact absurd (Ag5 (by rw [ByteArray.toList_eq,List.length_eq_zero_iff.1 D,ByteArray.toList_eq])) A
     .exact h
    .show i+r.size<=s.size; omega
theorem Apt (c:Int):Th c=some (c==9||c==10||c==13||c==32):=by
 unfold Th
 cases c==9 <;> cases c==10 <;> cases c==13 <;> rfl
theorem Ag7 (s:ByteArray) (Y:s.size<1099511627776):∃b,N9 s=some b/\(b=true↔Dx s):=by
 unfold N9 V5
 by_cases A:(s.size:Int)>16384
 .rw [Ak A]
  refine ⟨false,rfl,by simp; rintro ⟨_,h,_⟩; omega⟩
 rw [Al A]
 simp only [cond_false]
 refine T6 (fun r:List Gy×Int×Int=>(r.2.2≠0/\¬Dx s)\/(r.2.2=0/\∃o e,r.1=o++[e]/\(∀t∈o,t.Kind=2->Dx t.Text)/\(Dx s->o = [⟨2,s,0⟩]))) ?_ ?_
 .refine Eb (fun (D,g)=>∃i:Nat,D=i/\i<=s.size/\g.length<=i/\(∀t∈g,t.Kind=2->Dx t.Text)/\(Dx s->(i=0/\g = [])\/(i=s.size/\g = [⟨2,s,0⟩])))
   (fun (D,_)=>s.size-D.toNat)
   (fun z=>match z with | .inl o=>o.length<=16384/\(∀t∈o,t.Kind=2->Dx t.Text)/\(Dx s->o = [⟨2,s,0⟩]) | .inr (_,_,e)=>e≠0/\¬Dx s)
   ⟨0,rfl,by omega,by simp,by simp,fun _=>.inl ⟨rfl,rfl⟩⟩ ?_ ?_
  .rintro ⟨v,o⟩ ⟨i,rfl,hi,ho,hk,hu⟩
   rcases Nat.lt_or_ge i s.size with h | h
   .obtain ⟨c,J,I⟩:=F8 (s:=s) (i:=(i:Int)) rfl h
    have k:Dx s->i=0/\o = []:=fun u=>by
     rcases hu u with h' | h'
     .exact h'
     .omega
    simp only [Ak (by omega:(i:Int)<(s.size:Int)),cond_true,J,Ac,I,Apt]
    cases M:(bI s i==9||bI s i==10||bI s i==13||bI s i==32) with
    | true=>
     have q:¬Dx s:=by
      intro u
      have h0:=(k u).1
      subst h0
      have:=u.2.2.1
      simp only [upI,C9,decide_eq_true_eq] at this
      simp only [Bool.or_eq_true,beq_iff_eq] at M
      omega
     exact .inl ⟨(((i+1:Nat):Int),o),by simp only [cond_true]; rw [Dk h (by omega)],⟨i+1,rfl,by omega,(by show o.length<=i+1; omega),hk,fun u=>(q u).elim⟩,by simp; omega⟩
    | false=>
     simp only [cond_false]
     cases E:(bI s i==35) with
     | true=>
      have q:¬Dx s:=by
       intro u
       have h0:=(k u).1
       subst h0
       have:=u.2.2.1
       simp only [upI,C9,decide_eq_true_eq] at this
       simp only [beq_iff_eq] at E
       omega
      simp only [cond_true]
      obtain ⟨n,n1,n2,n3,X,L⟩:=Qz (step:=fun f:Int=>bif (decide (f<(s.size:Int))) then ((D0 s f).bind fun N=>bif ((N.toNat:Int)==(10:Int)) then some (.inr (.inl f)) else some (.inl (Ad (f+1)))) else some (.inr (.inr f)))
       s (fun c=>!(c==10)) (fun j=>(j:Int)) (fun j=>if j<s.size then Sum.inl (j:Int) else Sum.inr (j:Int)) 0 (fun j _ hj hp=>by
        obtain ⟨c,J,I⟩:=F8 (s:=s) (i:=(j:Int)) rfl hj
        simp only [Bool.not_eq_true'] at hp
        simp only [Ak (by omega:(j:Int)<(s.size:Int)),cond_true,J,Ac,I,hp,Dk hj (by omega),cond_false]) (fun j _ hj hp=>by
        obtain ⟨c,J,I⟩:=F8 (s:=s) (i:=(j:Int)) rfl hj
        simp only [Bool.not_eq_false'] at hp
        simp only [Ak (by omega:(j:Int)<(s.size:Int)),cond_true,J,Ac,I,hp,if_pos hj]) (by simp) (s.size-i) i (by omega) (by omega)
      have Z:i<n:=by
       rcases Nat.lt_or_ge i n with h' | h'
       .exact h'
       .have:n=i:=by omega
        subst this
        have:=X h
        simp only [beq_iff_eq] at E
        rw [E] at this; cases this
      have L:Ao _ (i:Int)=_:=L
      rw [L,Ac]
      rcases Nat.lt_or_ge n s.size with h' | h'
      .rw [if_pos h']
       exact .inl ⟨((n:Int),o),rfl,⟨n,rfl,by omega,(by show o.length<=n; omega),hk,fun u=>(q u).elim⟩,by simp; omega⟩
      .rw [if_neg (by omega)]
       exact .inr ⟨.inl o,rfl,by omega,hk,fun u=>(q u).elim⟩
     | false=>
      obtain ⟨r,V,U,R⟩:=Aps s i h Y
      simp only [cond_false,V,Ac]
      by_cases G:r.2=0
      .obtain ⟨a1,a2,a3⟩:=U G
       simp only [Cz G,cond_false]
       rw [Cs (by simp; omega),Ac]
       refine .inl ⟨(((i+r.1.Text.size:Nat):Int),o++[r.1]),?_,⟨i+r.1.Text.size,rfl,a2,by simp; omega,?_,?_⟩,by simp; omega⟩
       .rw [show Ad ((i:Int)+(r.1.Text.size:Int))=((i+r.1.Text.size:Nat):Int) by rw [Ad,Bt] <;> omega]
       .intro t ht
        rcases List.mem_append.1 ht with h' | h'
        .exact hk t h'
        .simp at h'; subst h'; exact a3
       .intro u
        obtain ⟨b1,b2⟩:=k u
        have:=R u b1
        subst b1; subst b2; subst this
        exact .inr ⟨by simp,rfl⟩
      .simp only [Cv G,cond_true]
       refine .inr ⟨_,rfl,G,fun u=>?_⟩
       rw [R u (k u).1] at G
       exact G rfl
   .have:i=s.size:=by omega
    subst this
    refine .inr ⟨.inl o,by simp,by omega,hk,fun u=>?_⟩
    rcases hu u with ⟨h',_⟩ | ⟨_,h'⟩
    .have:=u.1; omega
    .exact h'
  .rintro (o | ⟨l,p,e⟩) S
   .obtain ⟨z1,z2,z3⟩:=S
    simp only
    rw [Cs (by simp; omega),Ac]
    exact ⟨_,rfl,.inr ⟨rfl,o,_,rfl,z2,z3⟩⟩
   .exact ⟨_,rfl,.inl S⟩
 .rintro ⟨l,p,e⟩ (⟨h1,h2⟩ | ⟨h1,o,t,h2,h3,B⟩)
  .simp only at h1
   simp only [Ci h1,cond_false]
   exact ⟨_,rfl,by simp [h2]⟩
  .simp only at h1 h2
   subst h1; subst h2
   simp only [beq_self_eq_true,cond_true]
   match o,h3,B with
   | [],_,B=>exact ⟨false,by simp,by simp; intro u; cases B u⟩
   | [x],h3,B=>
    have e0:Af ([x]++[t]) 0=some x:=rfl
    simp only [e0,Ac,W3]
    have e1:((([x]++[t]).length:Int)==2)=true:=rfl
    simp only [e1,cond_true]
    by_cases hx:x.Kind=2
    .simp only [Eh hx,cond_true]
     refine ⟨_,rfl,?_⟩
     rw [decide_eq_true_iff]
     constructor
     .intro h; rw [<-h]; exact h3 x (by simp) hx
     .intro u; have:=B u; simp at this; rw [this]
    .simp only [Ci hx,cond_false]
     refine ⟨_,rfl,?_⟩
     simp only [Bool.false_eq_true,false_iff]
     intro u; have:=B u; simp at this; rw [this] at hx; exact hx rfl
   | x::y::ys,_,B=>
    refine ⟨false,?_,by simp; intro u; have:=B u; simp at this⟩
    rw [Ci]
    .rfl
    .simp; omega
end Go.Ab
namespace Go.Ab
open Go
theorem Apu (s:ByteArray):∃b,V3 s=some b/\True:=by
 have key:∀(L:List ByteArray),L.length<1000->∃b,((Ao (S:=Int) (E:=(Bool⊕Unit)) (fun v2=>bif (decide (v2<(L.length:Int))) then ((Af L v2).bind fun v3=>bif (v3.toList==s.toList) then some (.inr (.inl true)) else some (.inl (Ad (v2+1)))) else some (.inr (.inr ()))) 0).bind fun z=>match z with | .inl c=>some c | .inr _=>some false)=some b/\True:=by
  intro L f
  refine ⟨_,Ms L (fun v=>!(v.toList==s.toList)) (fun j=>(j:Int)) rfl (by omega) (rt:=false) (rf:=true) ?_ ?_,trivial⟩
  .intro j x hx h1 h2 h3
   simp only [h1,h2,h3,cond_true,Ac]
   cases (x.toList==s.toList) with
   | true=>exact ⟨(fun h=>by cases h),fun _=>⟨_,rfl,rfl⟩⟩
   | false=>exact ⟨fun _=>rfl,fun h=>by cases h⟩
  .intro h; exact ⟨.inr (),by simp only [h]; rfl,rfl⟩
 exact key _ (by decide)
theorem Apv (s:ByteArray) (h1:1<=s.size) (T:ByteArray) (x:T.size<1000):∃r,((Ao (S:=Int) (E:=(Int⊕Unit)) (fun b=>bif (decide (b<(T.size:Int))) then ((D0 s 0).bind fun l=>(D0 T b).bind fun k=>bif ((l.toNat:Int)==(k.toNat:Int)) then some (.inr (.inl 1)) else some (.inl (Ad (b+1)))) else some (.inr (.inr ()))) 0).bind fun z=>match z with | .inl f=>some f | .inr _=>some 0)=some r/\(r=0\/(1<=r/\r<=s.size)):=by
 refine Eb (fun i=>∃j:Nat,i=j/\j<=T.size) (fun i=>T.size-i.toNat) (fun z=>∀r,z = .inl r->r=1) ⟨0,rfl,by omega⟩ ?_ ?_
 .rintro i ⟨j,rfl,hj⟩
  rcases Nat.lt_or_ge j T.size with h | h
  .obtain ⟨c,q,_⟩:=F8 (s:=T) (i:=(j:Int)) rfl h
   obtain ⟨d,d1,_⟩:=F8 (s:=s) (i:=0) (n:=0) rfl h1
   simp only [Ak (by omega:(j:Int)<(T.size:Int)),cond_true,q,d1,Ac,Dk h (by omega)]
   cases ((d.toNat:Int)==(c.toNat:Int)) with
   | true=>exact .inr ⟨_,rfl,fun r h=>by cases h; rfl⟩
   | false=>exact .inl ⟨_,rfl,⟨j+1,rfl,by omega⟩,by simp; omega⟩
  .have:j=T.size:=by omega
   subst this
   exact .inr ⟨.inr (),by simp,fun r h=>by cases h⟩
 .rintro (r | u) g
  .exact ⟨r,rfl,.inr (by have:=g r rfl; omega)⟩
  .exact ⟨0,rfl,.inl rfl⟩
theorem Apw (s:ByteArray) (h1:1<=s.size):∃r,Td s=some r/\(r=0\/(1<=r/\r<=s.size)):=by
 unfold Td
 refine T6 (fun b=>b=true->2<=s.size) ?_ ?_
 .by_cases h2:2<=s.size
  .have c:C7 s 0 2=some (s.extract 0 2):=Kq rfl rfl (by omega) h2
   simp only [c,Ac]
   repeat' first | refine Ox ?_ ?_ | exact ⟨_,rfl,fun _=>h2⟩
  .rw [Al (by omega)]
   exact ⟨_,rfl,fun h=>by cases h⟩
 .rintro b hb
  cases b with
  | true=>exact ⟨2,rfl,.inr ⟨by omega,by have:=hb rfl; omega⟩⟩
  | false=>exact Apv s h1 _ (by decide)
theorem Apx (s:ByteArray) (k:s.size<1099511627776):∃b,Tc s=some b/\True:=by
 unfold Tc
 refine Eb (fun (_,i)=>∃j:Nat,i=j/\j<=s.size) (fun (_,i)=>s.size-i.toNat) (fun _=>True) ⟨0,rfl,by omega⟩ ?_ ?_
 .rintro ⟨v,i⟩ ⟨j,rfl,hj⟩
  rcases Nat.lt_or_ge j s.size with h | h
  .obtain ⟨c,f,_⟩:=F8 (s:=s) (i:=(j:Int)) rfl h
   simp only [Ak (by omega:(j:Int)<(s.size:Int)),cond_true,f,Ac,Dk h (by omega)]
   cases decide (Ad (Ad (v*10)+Ad (wu8 ((c.toNat:Int)-48)))>1000000) with
   | true=>exact .inr ⟨_,rfl,trivial⟩
   | false=>exact .inl ⟨_,rfl,⟨j+1,rfl,by omega⟩,by simp; omega⟩
  .have:j=s.size:=by omega
   subst this
   exact .inr ⟨.inr v,by simp,trivial⟩
 .rintro (⟨r,g⟩ | u) _ <;> exact ⟨_,rfl,trivial⟩
theorem Ag8 (s:ByteArray) (hs:s.size<1099511627776):∃b,Nz s=some b/\(b=true↔Dx s):=by
 unfold Nz V1
 by_cases N:(s.size:Int)>16384
 .rw [Ak N]
  refine ⟨false,rfl,by simp; rintro ⟨_,h,_⟩; omega⟩
 rw [Al N]
 simp only [cond_false]
 refine T6 (fun r:List Hm×Int×Int=>(r.2.2≠0/\¬Dx s)\/(r.2.2=0/\∃o e,r.1=o++[e]/\(∀t∈o,t.Kind=2->Dx t.Text)/\(Dx s->o = [⟨2,s,0⟩]))) ?_ ?_
 .refine Eb (fun (U,M)=>∃i:Nat,U=i/\i<=s.size/\M.length<=i/\(∀t∈M,t.Kind=2->Dx t.Text)/\(Dx s->(i=0/\M = [])\/(i=s.size/\M = [⟨2,s,0⟩])))
   (fun (U,_)=>s.size-U.toNat)
   (fun z=>match z with | .inr o=>o.length<=16384/\(∀t∈o,t.Kind=2->Dx t.Text)/\(Dx s->o = [⟨2,s,0⟩]) | .inl (_,_,e)=>e≠0/\¬Dx s)
   ⟨0,rfl,by omega,by simp,by simp,fun _=>.inl ⟨rfl,rfl⟩⟩ ?_ ?_
  .rintro ⟨v,o⟩ ⟨i,rfl,hi,ho,hk,hu⟩
   rcases Nat.lt_or_ge i s.size with h | h
   .obtain ⟨c,E,D⟩:=F8 (s:=s) (i:=(i:Int)) rfl h
    have B:Dx s->i=0/\o = []:=fun u=>by
     rcases hu u with h' | h'
     .exact h'
     .omega
    have f:∀j:Nat,i<=j->j<=s.size->Ad ((i:Int)+((j:Int)-(i:Int)))=(j:Int):=fun j _ _=>by rw [Ad,Bt] <;> omega
    have a6:(bif bI s i==9 then some true else bif bI s i==10 then some true else bif bI s i==13 then some true else some (bI s i==32))=some (bI s i==9||bI s i==10||bI s i==13||bI s i==32):=by
     cases bI s i==9 <;> cases bI s i==10 <;> cases bI s i==13 <;> rfl
    have hw:(bif loI (bI s i) then some true else some (upI (bI s i)))=some (loI (bI s i)||upI (bI s i)):=by cases loI (bI s i) <;> rfl
    simp only [Ak (by omega:(i:Int)<(s.size:Int)),cond_true,E,Ac,D,a6,Apk,Apl,Apm,hw]
    cases a6:(bI s i==9||bI s i==10||bI s i==13||bI s i==32) with
    | true=>
     have k:¬Dx s:=by
      intro u
      have h0:=(B u).1
      subst h0
      have:=u.2.2.1
      simp only [upI,C9,decide_eq_true_eq] at this
      simp only [Bool.or_eq_true,beq_iff_eq] at a6
      omega
     exact .inl ⟨(((i+1:Nat):Int),o),by simp only [cond_true]; rw [Dk h (by omega)],⟨i+1,rfl,by omega,(by show o.length<=i+1; omega),hk,fun u=>(k u).elim⟩,by simp; omega⟩
    | false=>
     simp only [cond_false]
     cases Y:(bI s i==35) with
     | true=>
      have k:¬Dx s:=by
       intro u
       have h0:=(B u).1
       subst h0
       have:=u.2.2.1
       simp only [upI,C9,decide_eq_true_eq] at this
       simp only [beq_iff_eq] at Y
       omega
      simp only [cond_true]
      obtain ⟨n,n1,J,n3,n4,I⟩:=Qz (step:=fun G:Int=>bif (decide (G<(s.size:Int))) then ((D0 s G).bind fun ak=>bif ((ak.toNat:Int) != (10:Int)) then some (.inl (Ad (G+1))) else some (.inr G)) else some (.inr G))
       s (fun c=>c != 10) (fun j=>(j:Int)) (fun j=>(j:Int)) 0 (fun j _ hj hp=>by
        obtain ⟨c,E,D⟩:=F8 (s:=s) (i:=(j:Int)) rfl hj
        simp only [Ak (by omega:(j:Int)<(s.size:Int)),cond_true,E,Ac,D,hp,Dk hj (by omega)]) (fun j _ hj hp=>by
        obtain ⟨c,E,D⟩:=F8 (s:=s) (i:=(j:Int)) rfl hj
        simp only [Ak (by omega:(j:Int)<(s.size:Int)),cond_true,E,Ac,D,hp,cond_false]) (by simp) (s.size-i) i (by omega) (by omega)
      have am:i<n:=by
       rcases Nat.lt_or_ge i n with h' | h'
       .exact h'
       .have:n=i:=by omega
        subst this
        have:=n4 h
        simp only [beq_iff_eq] at Y
        rw [Y] at this; cases this
      have I:Ao _ (i:Int)=_:=I
      rw [I,Ac]
      exact .inl ⟨((n:Int),o),rfl,⟨n,rfl,by omega,(by show o.length<=n; omega),hk,fun u=>(k u).elim⟩,by simp; omega⟩
     | false=>
      simp only [cond_false]
      cases Z:(loI (bI s i)||upI (bI s i)) with
      | true=>
       simp only [cond_true]
       obtain ⟨n,n1,J,n3,n4,I⟩:=Qz (step:=fun g:Int=>bif (decide ((Ad ((i:Int)+g))<(s.size:Int))) then ((D0 s (Ad ((i:Int)+g))).bind fun aj=>(some (loI (aj.toNat:Int))).bind fun ac=>
         bif ac then some (.inl (Ad (g+1))) else ((D0 s (Ad ((i:Int)+g))).bind fun ai=>(some (upI (ai.toNat:Int))).bind fun ab=>bif ab then some (.inl (Ad (g+1))) else
         ((D0 s (Ad ((i:Int)+g))).bind fun ah=>(some (diI (ah.toNat:Int))).bind fun aa=>bif aa then some (.inl (Ad (g+1))) else ((D0 s (Ad ((i:Int)+g))).bind fun ag=>bif ((ag.toNat:Int)==(95:Int)) then some (.inl (Ad (g+1))) else some (.inr g))))) else some (.inr g))
        s wiI (fun j=>(j:Int)-(i:Int)) (fun j=>(j:Int)-(i:Int)) i (fun j A hj hp=>by
         obtain ⟨c,E,D⟩:=F8 (s:=s) (i:=(j:Int)) rfl hj
         have e1:Ad ((j:Int)-(i:Int)+1)=((j+1:Nat):Int)-(i:Int):=by rw [Ad,Bt] <;> omega
         simp only [f j A (by omega),Ak (by omega:(j:Int)<(s.size:Int)),cond_true,E,Ac,D,e1]
         unfold wiI at hp
         revert hp
         cases loI (bI s j) <;> cases upI (bI s j) <;> cases diI (bI s j) <;> cases (bI s j==95) <;> simp) (fun j A hj hp=>by
         obtain ⟨c,E,D⟩:=F8 (s:=s) (i:=(j:Int)) rfl hj
         simp only [f j A (by omega),Ak (by omega:(j:Int)<(s.size:Int)),cond_true,E,Ac,D]
         unfold wiI at hp
         revert hp
         cases loI (bI s j) <;> cases upI (bI s j) <;> cases diI (bI s j) <;> cases (bI s j==95) <;> simp) (by
         simp only [f s.size hi (by omega)]; simp) (s.size-(i+1)) (i+1) (by omega) (by omega)
       have e0:((i+1:Nat):Int)-(i:Int)=1:=by omega
       simp only [e0] at I
       simp only [Ac] at I
       rw [I,Ac]
       have q:C7 s (i:Int) (Ad ((i:Int)+((n:Int)-(i:Int))))=some (s.extract i n):=by rw [f n (by omega) J]; exact Kq rfl rfl (by omega) J
       have a7:(s.extract i n).size=n-i:=by rw [ByteArray.size_extract]; omega
       have a8:∀j,i<=j->j<n->wiI (bI s j)=true:=fun j a1 a2=>by
        rcases Nat.lt_or_ge i j with h' | h'
        .exact n3 j h' a2
        .have:j=i:=by omega
         subst this; unfold wiI; rw [Z]; rfl
       have L:Dx s->n=s.size:=by
        intro u
        rcases Nat.lt_or_ge n s.size with h' | h'
        .have:=n4 h'
         rw [u.2.2.2 _ h'] at this; cases this
        .omega
       by_cases ao:n-i<=24
       .rw [Al (by omega)]
        simp only [cond_false]
        cases X:upI (bI s i) with
        | true=>
         simp only [cond_true,Ac,q]
         rw [Cs (by simp; omega),Ac,f n (by omega) J]
         refine .inl ⟨_,rfl,⟨n,rfl,J,by simp; omega,?_,?_⟩,by simp; omega⟩
         .intro t ht
          rcases List.mem_append.1 ht with h' | h'
          .exact hk t h'
          .simp only [List.mem_singleton] at h'
           subst h'
           intro _
           refine ⟨?_,?_,?_,?_⟩
           .show 1<=(s.extract i n).size; omega
           .show (s.extract i n).size<=24; omega
           .show upI (bI (s.extract i n) 0)=true
            rw [Ow (by omega) (by omega)]; exact X
           .show ∀j,j<(s.extract i n).size->wiI (bI (s.extract i n) j)=true
            intro j hj
            rw [Ow (by omega) (by omega)]
            exact a8 _ (by omega) (by omega)
         .intro u
          obtain ⟨b1,b2⟩:=B u
          have hf:=L u
          subst b1; subst b2; subst hf
          rw [ByteArray.extract_zero_size]
          exact .inr ⟨rfl,rfl⟩
        | false=>
         obtain ⟨b,hb,_⟩:=Apu (s.extract i n)
         have k:¬Dx s:=by
          intro u
          have h0:=(B u).1
          subst h0
          rw [u.2.2.1] at X; cases X
         have ae:∃V:Int,(bif b then some 4 else some 1:Option Int)=some V/\V≠2:=by cases b <;> exact ⟨_,rfl,by decide⟩
         obtain ⟨V,k1,k2⟩:=ae
         simp only [cond_false,Ac,q,hb,k1]
         rw [Cs (by simp; omega),Ac,f n (by omega) J]
         refine .inl ⟨_,rfl,⟨n,rfl,J,by simp; omega,?_,fun u=>(k u).elim⟩,by simp; omega⟩
         intro t ht
         rcases List.mem_append.1 ht with h' | h'
         .exact hk t h'
         .simp only [List.mem_singleton] at h'
          subst h'
          intro h'; exact absurd h' k2
       .rw [Ak (by omega)]
        refine .inr ⟨_,rfl,(by show (9:Int)≠0; decide),fun u=>?_⟩
        have:=L u
        have:=u.2.1
        have:=(B u).1
        omega
      | false=>
       have k:¬Dx s:=by
        intro u
        have h0:=(B u).1
        subst h0
        rw [u.2.2.1,Bool.or_true] at Z; cases Z
       have R:∀(n:Nat) (V:Int),i<n->n<=s.size->V≠2->∃s':Int×List Hm,(Bx 32 o [(Hm.mk V (s.extract i n) i)]).bind (fun ad=>(some (Sum.inl ((n:Int),ad)):Option ((Int×List Hm)⊕((List Hm×Int×Int)⊕List Hm))))=some (.inl s') /\
         (∃j:Nat,s'.1=j/\j<=s.size/\s'.2.length<=j/\(∀t∈s'.2,t.Kind=2->Dx t.Text)/\(Dx s->(j=0/\s'.2 = [])\/(j=s.size/\s'.2 = [⟨2,s,0⟩])))/\s.size-s'.1.toNat<s.size-i:=by
        intro n V a1 a2 a3
        rw [Cs (by simp; omega),Ac]
        refine ⟨_,rfl,⟨n,rfl,a2,by simp; omega,?_,fun u=>(k u).elim⟩,by simp; omega⟩
        intro t ht
        rcases List.mem_append.1 ht with h' | h'
        .exact hk t h'
        .simp only [List.mem_singleton] at h'
         subst h'
         intro h'; exact absurd h' a3
       simp only [cond_false]
       cases hd:diI (bI s i) with
       | true=>
        simp only [cond_true]
        obtain ⟨n,n1,J,n3,n4,I⟩:=Qz (step:=fun v85:Int=>bif (decide ((Ad ((i:Int)+v85))<(s.size:Int))) then ((D0 s (Ad ((i:Int)+v85))).bind fun af=>(some (diI (af.toNat:Int))).bind fun v87=>
          bif v87 then some (.inl (Ad (v85+1))) else some (.inr v85)) else some (.inr v85))
         s diI (fun j=>(j:Int)-(i:Int)) (fun j=>(j:Int)-(i:Int)) i (fun j A hj hp=>by
          obtain ⟨c,E,D⟩:=F8 (s:=s) (i:=(j:Int)) rfl hj
          have e1:Ad ((j:Int)-(i:Int)+1)=((j+1:Nat):Int)-(i:Int):=by rw [Ad,Bt] <;> omega
          simp only [f j A (by omega),Ak (by omega:(j:Int)<(s.size:Int)),cond_true,E,Ac,D,e1,hp]) (fun j A hj hp=>by
          obtain ⟨c,E,D⟩:=F8 (s:=s) (i:=(j:Int)) rfl hj
          simp only [f j A (by omega),Ak (by omega:(j:Int)<(s.size:Int)),cond_true,E,Ac,D,hp,cond_false]) (by
          simp only [f s.size hi (by omega)]; simp) (s.size-(i+1)) (i+1) (by omega) (by omega)
        have e0:((i+1:Nat):Int)-(i:Int)=1:=by omega
        simp only [e0] at I
        simp only [Ac] at I
        rw [I,Ac]
        have q:C7 s (i:Int) (n:Int)=some (s.extract i n):=Kq rfl rfl (by omega) J
        have a7:(s.extract i n).size=n-i:=by rw [ByteArray.size_extract]; omega
        obtain ⟨b,hb,_⟩:=Apx (s.extract i n) (by omega)
        obtain ⟨b',hb'⟩:∃b':Bool,(bif decide ((n:Int)-(i:Int)>1) then some (bI s i==48) else some false)=some b':=by cases decide ((n:Int)-(i:Int)>1) <;> exact ⟨_,rfl⟩
        simp only [hb',Ac,q,hb,f n (by omega) J]
        cases b' with
        | true=>exact .inr ⟨_,rfl,(by show (2:Int)≠0; decide),k⟩
        | false=>
         simp only [cond_false]
         cases b.2 with
         | true=>exact .inl (R n 3 (by omega) J (by decide))
         | false=>exact .inr ⟨_,rfl,(by show (9:Int)≠0; decide),k⟩
       | false=>
        have q:C7 s (i:Int) (s.size:Int)=some (s.extract i s.size):=Kq rfl rfl (by omega) (by omega)
        have a7:(s.extract i s.size).size=s.size-i:=by rw [ByteArray.size_extract]; omega
        obtain ⟨r,r1,r2⟩:=Apw (s.extract i s.size) (by omega)
        simp only [cond_false,q,Ac,r1]
        by_cases h0:r=0
        .subst h0
         exact .inr ⟨_,rfl,(by show (2:Int)≠0; decide),k⟩
        .simp only [Ci h0,cond_false]
         obtain ⟨m,hm⟩:∃m:Nat,r=m:=⟨r.toNat,by omega⟩
         subst hm
         have e1:Ad ((i:Int)+(m:Int))=((i+m:Nat):Int):=by rw [Ad,Bt] <;> omega
         rw [e1,Kq (s:=s) (lo:=(i:Int)) (hi:=((i+m:Nat):Int)) rfl rfl (by omega) (by omega),Ac]
         exact .inl (R (i+m) 5 (by omega) (by omega) (by decide))
   .have:i=s.size:=by omega
    subst this
    refine .inr ⟨.inr o,by simp,by omega,hk,fun u=>?_⟩
    rcases hu u with ⟨h',_⟩ | ⟨_,h'⟩
    .have:=u.1; omega
    .exact h'
  .rintro (⟨l,p,e⟩ | o) hz
   .exact ⟨_,rfl,.inl hz⟩
   .obtain ⟨z1,z2,z3⟩:=hz
    simp only
    rw [Cs (by simp; omega),Ac]
    exact ⟨_,rfl,.inr ⟨rfl,o,_,rfl,z2,z3⟩⟩
 .rintro ⟨l,p,e⟩ (⟨h1,h2⟩ | ⟨h1,o,t,h2,h3,S⟩)
  .simp only at h1
   simp only [Ci h1,cond_false]
   exact ⟨_,rfl,by simp [h2]⟩
  .simp only at h1 h2
   subst h1; subst h2
   simp only [beq_self_eq_true,cond_true]
   match o,h3,S with
   | [],_,S=>exact ⟨false,by simp,by simp; intro u; cases S u⟩
   | [x],h3,S=>
    have e0:Af ([x]++[t]) 0=some x:=rfl
    simp only [e0,Ac,W3]
    have e1:((([x]++[t]).length:Int)==2)=true:=rfl
    simp only [e1,cond_true]
    by_cases hx:x.Kind=2
    .simp only [Eh hx,cond_true]
     refine ⟨_,rfl,?_⟩
     rw [decide_eq_true_iff]
     constructor
     .intro h; rw [<-h]; exact h3 x (by simp) hx
     .intro u; have:=S u; simp at this; rw [this]
    .simp only [Ci hx,cond_false]
     refine ⟨_,rfl,?_⟩
     simp only [Bool.false_eq_true,false_iff]
     intro u; have:=S u; simp at this; rw [this] at hx; exact hx rfl
   | x::y::ys,_,S=>
    refine ⟨false,?_,by simp; intro u; have:=S u; simp at this⟩
    rw [Ci]
    .rfl
    .simp; omega
end Go.Ab
namespace Go.Ab
open Go
def Oy (data:List As) (d:Nat) (v:Int) (y:Ig):Prop:=Dx y.Name/\y.Args.length<=6/\y.Args.all (Hs data d v)=true
def Mx (data:List As) (d:Nat) (x:As):Prop:=0<=x.Vars/\x.Vars<=6/\1<=x.Cons.length/\x.Cons.length<=8/\Dx x.Name/\∀y∈x.Cons,Oy data d x.Vars y
def Ep (x:As):List ByteArray:=x.Cons.map (·.Name)
def G5 (data:List As):Prop:=data.length<=12/\(∀d x,data[d]? = some x->Mx data d x)/\(data.map (·.Name)).Nodup/\(data.flatMap Ep).Nodup
structure DSz (data:List As):Prop where
 len:data.length<=1048576
 sz:SzD data
 nm:∀x∈data,x.Name.size<=1048576
 cn:∀x∈data,∀y∈x.Cons,y.Name.size<=1048576
theorem Oz (a b:ByteArray):(a==b)=true↔a=b:=by
 constructor
 .intro h
  cases a with | mk a=>cases b with | mk b=>
  have:a=b:=by exact eq_of_beq h
  rw [this]
 .rintro rfl
  cases a with | mk a=>exact beq_self_eq_true a
def H6 (o:List (ByteArray×Bool)) (L:List ByteArray):Prop:=(∀p∈o,p.2=true)/\∀s,D6 o s=true↔s∈L
theorem H6.nil:H6 [] []:=⟨by simp,by simp [D6]⟩
theorem H6.get {o:List (ByteArray×Bool)} {L:List ByteArray} (h:H6 o L) {s:ByteArray} (b:D6 o s=true):Gw o s false=true:=by
 unfold Gw
 unfold D6 at b
 rw [List.any_eq_true] at b
 obtain ⟨p,g,f⟩:=b
 cases c:o.find? (fun p=>s==p.1) with
 | none=>exact absurd f (by have:=List.find?_eq_none.1 c p g; simpa using this)
 | some q=>exact h.1 q (List.mem_of_find?_eq_some c)
theorem Apy (o:List (ByteArray×Bool)) (s t:ByteArray) (v:Bool):D6 (Eg o s v) t=(D6 o t||t==s):=by
 induction o with
 | nil=>simp [Eg,D6]
 | cons p o ih=>
  unfold Eg
  cases hp:(s==p.1) with
  | true=>
   have:s=p.1:=(Oz _ _).1 hp
   subst this
   simp only [cond_true,D6,List.any_cons]
   cases t==p.1 <;> simp
  | false=>
   simp only [D6,List.any_cons] at ih ⊢
   simp only [cond_false,List.any_cons,ih,Bool.or_assoc]
theorem H6.put {o:List (ByteArray×Bool)} {L:List ByteArray} (h:H6 o L) (s:ByteArray):H6 (Eg o s true) (L++[s]):=by
 refine ⟨?_,fun t=>?_⟩
 .have:∀o:List (ByteArray×Bool),(∀p∈o,p.2=true)->∀p∈Eg o s true,p.2=true:=by
   intro o
   induction o with
   | nil=>intro _ p hp; simp [Eg] at hp; rw [hp]
   | cons q o ih=>
    intro b p hp
    unfold Eg at hp
    cases hq:(s==q.1) with
    | true=>
     rw [hq] at hp
     simp only [cond_true,List.mem_cons] at hp
     rcases hp with rfl | hp
     .rfl
     .exact b p (by simp [hp])
    | false=>
     rw [hq] at hp
     simp only [cond_false,List.mem_cons] at hp
     rcases hp with rfl | hp
     .exact b _ (by simp)
     .exact ih (fun p hp=>b p (by simp [hp])) p hp
  exact this o h.1
 .rw [Apy,Bool.or_eq_true,h.2 t,Oz]; simp
theorem Apz (x:As) {c:Nat} {y:Ig} (hy:x.Cons[c]? = some y):Ep x=(x.Cons.take c).map (·.Name)++y.Name::(x.Cons.drop (c+1)).map (·.Name):=by
 have h:=List.take_append_drop c x.Cons
 have hc:=Em hy
 have e:x.Cons.drop c=y::x.Cons.drop (c+1):=by
  rw [List.drop_eq_getElem_cons hc]
  rw [Cb hc] at hy
  rw [Option.some.inj hy]
 unfold Ep
 conv=>lhs; rw [<-h,e]
 simp
theorem Ag9 {L m:List ByteArray} {s:ByteArray} (h:(L++s::m).Nodup):s ∉ L:=by
 rw [List.nodup_append] at h
 intro b
 exact h.2.2 s b s (by simp) rfl
theorem Aba {L:List ByteArray} {s:ByteArray} (h:L.Nodup) (c:s ∉ L):(L++[s]).Nodup:=by
 rw [List.nodup_append]
 refine ⟨h,by simp,?_⟩
 intro a ha b hb
 simp at hb; subst hb
 intro e; subst e; exact c ha
theorem Ap0 {data:List As} (u:DSz data) {d:Nat} {x:As} (hx:data[d]? = some x) (M:x.Vars<=6) (o:List (ByteArray×Bool)) (L:List ByteArray) (N:H6 o L) (U:L.Nodup) :
  ∃z,Ao (S:=(Int×(List (ByteArray×Bool)))) (E:=(Bool⊕(Int×(List (ByteArray×Bool))))) (fun (f,g)=>
    bif (decide (f<(x.Cons.length:Int))) then (
    (Af x.Cons f).bind fun i=>
    (N9 i.Name).bind fun D=>
    bif (!D) then some (.inr (.inl false))
    else (
    bif (D6 g i.Name) then (
    bif (Gw g i.Name (false:Bool)) then some (.inr (.inl false))
    else (
    (Mk data d f).bind fun B=>
    bif (!B) then some (.inr (.inl false))
    else some (.inl ((Ad (f+1)),(Eg g i.Name true)))))
    else (
    (Mk data d f).bind fun A=>
    bif (!A) then some (.inr (.inl false))
    else some (.inl ((Ad (f+1)),(Eg g i.Name true))))))
    else some (.inr (.inr (f,g)))) (0,o)=some z /\
   match z with
   | .inl r=>r=false/\¬((∀y∈x.Cons,Oy data d x.Vars y)/\(L++Ep x).Nodup)
   | .inr (_,o')=>(∀y∈x.Cons,Oy data d x.Vars y)/\(L++Ep x).Nodup/\H6 o' (L++Ep x):=by
 have hxm:=B3 hx
 have R:=(u.sz x hxm).1
 refine Pm (fun (f,g)=>∃c:Nat,f=c/\c<=x.Cons.length/\(∀y∈x.Cons.take c,Oy data d x.Vars y)/\(L++(x.Cons.take c).map (·.Name)).Nodup/\H6 g (L++(x.Cons.take c).map (·.Name)))
  (fun (f,_)=>x.Cons.length-f.toNat) _ ?_ _ ⟨0,rfl,by omega,by simp,by simpa using U,by simpa using N⟩
 rintro ⟨v,g⟩ ⟨c,rfl,hc,h1,h2,h3⟩
 rcases Nat.lt_or_ge c x.Cons.length with h | h
 .have hy:x.Cons[c]? = some x.Cons[c]:=Cb h
  generalize x.Cons[c]=y at hy
  have q:=B3 hy
  obtain ⟨b,b1,b2⟩:=Ag7 y.Name (by have:=u.cn x hxm y q; omega)
  have ht:=C5 hy
  have I:L++Ep x=(L++(x.Cons.take c).map (·.Name))++y.Name::(x.Cons.drop (c+1)).map (·.Name):=by rw [Apz x hy]; simp
  simp only [Ak (by omega:(c:Int)<(x.Cons.length:Int)),cond_true,Ch rfl hy,Ac,b1,Apj u.sz d c hx hy M u.len,Dk h (by omega)]
  cases b with
  | false=>
   refine .inr ⟨.inl false,rfl,rfl,fun l=>?_⟩
   have:=b2.2 (l.1 y q).1; cases this
  | true=>
   simp only [bnt,cond_false]
   cases k:D6 g y.Name with
   | true=>
    simp only [cond_true,h3.get k]
    refine .inr ⟨.inl false,rfl,rfl,fun l=>?_⟩
    rw [I] at l
    exact Ag9 l.2 ((h3.2 _).1 k)
   | false=>
    simp only [cond_false]
    cases j:(decide (y.Args.length<=6)&&y.Args.all (Hs data d x.Vars)) with
    | false=>
     refine .inr ⟨.inl false,rfl,rfl,fun l=>?_⟩
     have:=l.1 y q
     rw [this.2.2,Ak this.2.1] at j; cases j
    | true=>
     simp only [C9,decide_eq_true_eq] at j
     have G:y.Name ∉ L++(x.Cons.take c).map (·.Name):=fun l=>by rw [(h3.2 _).2 l] at k; cases k
     have e:L++(x.Cons.take (c+1)).map (·.Name)=(L++(x.Cons.take c).map (·.Name))++[y.Name]:=by rw [ht]; simp
     refine .inl ⟨_,rfl,⟨c+1,rfl,by omega,?_,?_,?_⟩,by simp; omega⟩
     .intro J s
      rw [ht] at s
      rcases List.mem_append.1 s with h' | h'
      .exact h1 J h'
      .simp at h'; subst h'; exact ⟨b2.1 rfl,j.1,j.2⟩
     .rw [e]; exact Aba h2 G
     .rw [e]; exact h3.put _
 .have:c=x.Cons.length:=by omega
  subst this
  rw [List.take_length] at h1 h2 h3
  exact .inr ⟨.inr ((x.Cons.length:Int),g),by simp,h1,h2,h3⟩
theorem Ap1 {data:List As} {d:Nat} {x:As} (hx:data[d]? = some x):data.flatMap Ep=((data.take d).flatMap Ep++Ep x)++(data.drop (d+1)).flatMap Ep/\data.map (·.Name)=(data.take d).map (·.Name)++x.Name::(data.drop (d+1)).map (·.Name):=by
 have h:=List.take_append_drop d data
 have hc:=Em hx
 have e:data.drop d=x::data.drop (d+1):=by
  rw [List.drop_eq_getElem_cons hc]
  rw [Cb hc] at hx
  rw [Option.some.inj hx]
 constructor
 .conv=>lhs; rw [<-h,e]
  simp [List.flatMap_append]
 .conv=>lhs; rw [<-h,e]
  simp
theorem Ap2 {data:List As} (j:DSz data):∃b,Sr data=some b/\(b=true↔G5 data):=by
 have G:=j.len
 unfold Sr
 rcases Nat.lt_or_ge 12 data.length with h12 | h12
 .rw [Ak (by omega)]
  exact ⟨false,rfl,by simp; intro h; have:=h.1; omega⟩
 rw [Al (by omega)]
 simp only [cond_false]
 refine Eb (fun (v31,f,g)=>∃d:Nat,v31=d/\d<=data.length/\(∀k x,k<d->data[k]? = some x->Mx data k x)/\((data.take d).map (·.Name)).Nodup/\((data.take d).flatMap Ep).Nodup/\H6 f ((data.take d).map (·.Name))/\H6 g ((data.take d).flatMap Ep))
  (fun (v31,_,_)=>data.length-v31.toNat) (fun z=>match z with | .inl r=>r=false/\¬G5 data | .inr _=>G5 data) ⟨0,rfl,by omega,by intro k x h; omega,by simp,by simp,by simpa using H6.nil,by simpa using H6.nil⟩ ?_ ?_
 .rintro ⟨v,f,g⟩ ⟨d,rfl,hd,h1,h2,h3,B,X⟩
  rcases Nat.lt_or_ge d data.length with h | h
  .have hx:data[d]? = some data[d]:=Cb h
   generalize data[d]=x at hx
   have hxm:=B3 hx
   obtain ⟨b,b1,b2⟩:=Ag7 x.Name (by have:=j.nm x hxm; omega)
   obtain ⟨f1,f2⟩:=Ap1 hx
   simp only [Ak (by omega:(d:Int)<(data.length:Int)),cond_true,Ch rfl hx,Ac,b1]
   have bad:∀(y:¬Mx data d x),∃e:Bool⊕((List (ByteArray×Bool))×(List (ByteArray×Bool))),(some (Sum.inr (Sum.inl false)):Option ((Int×(List (ByteArray×Bool))×(List (ByteArray×Bool)))⊕(Bool⊕((List (ByteArray×Bool))×(List (ByteArray×Bool))))))=some (.inr e)/\(match e with | .inl r=>r=false/\¬G5 data | .inr _=>G5 data) :=
    fun y=>⟨.inl false,rfl,rfl,fun c=>y (c.2.1 d x hx)⟩
   cases b with
   | false=>
    exact .inr (bad fun c=>by have:=b2.2 c.2.2.2.2.1; cases this)
   | true=>
    simp only [bnt,cond_false]
    cases i:D6 f x.Name with
    | true=>
     simp only [cond_true,B.get i,Ac]
     refine .inr ⟨.inl false,rfl,rfl,fun c=>?_⟩
     have:=c.2.2.1
     rw [f2] at this
     exact Ag9 this ((B.2 _).1 i)
    | false=>
     simp only [cond_false]
     by_cases q:x.Vars<0
     .simp only [Ak q,cond_true,Ac]
      exact .inr (bad fun c=>by have:=c.1; omega)
     by_cases u:x.Vars>6
     .simp only [Al q,Ak u,cond_true,cond_false,Ac]
      exact .inr (bad fun c=>by have:=c.2.1; omega)
     simp only [Al q,Al u,cond_false,Ac]
     by_cases s:(x.Cons.length:Int)<1
     .simp only [Ak s,cond_true,Ac]
      exact .inr (bad fun c=>by have:=c.2.2.1; omega)
     by_cases A:(x.Cons.length:Int)>8
     .simp only [Al s,Ak A,cond_true,cond_false,Ac]
      exact .inr (bad fun c=>by have:=c.2.2.2.1; omega)
     simp only [Al s,Al A,cond_false,Ac]
     obtain ⟨z,L,z2⟩:=Ap0 j hx (by omega) g _ X h3
     rw [L,Ac]
     match z,z2 with
     | .inl r,z2=>
      obtain ⟨rfl,z2⟩:=z2
      refine .inr ⟨.inl false,rfl,rfl,fun c=>z2 ⟨(c.2.1 d x hx).2.2.2.2.2,?_⟩⟩
      have:=c.2.2.2
      rw [f1] at this
      exact (List.nodup_append.1 this).1
     | .inr (U,D),z2=>
      obtain ⟨R,N,M⟩:=z2
      have ht:=C5 hx
      have E:x.Name ∉ (data.take d).map (·.Name):=fun c=>by rw [(B.2 _).2 c] at i; cases i
      have J:(data.take (d+1)).map (·.Name)=(data.take d).map (·.Name)++[x.Name]:=by rw [ht]; simp
      have I:(data.take (d+1)).flatMap Ep=(data.take d).flatMap Ep++Ep x:=by rw [ht]; simp [List.flatMap_append]
      refine .inl ⟨(((d+1:Nat):Int),Eg f x.Name true,D),by simp only [Dk h (by omega)],⟨d+1,rfl,by omega,?_,?_,?_,?_,?_⟩,by simp; omega⟩
      .intro k S V l
       rcases Nat.lt_or_ge k d with h' | h'
       .exact h1 k S h' l
       .have:k=d:=by omega
        subst this
        rw [hx] at l; cases l
        exact ⟨by omega,by omega,by omega,by omega,b2.1 rfl,R⟩
      .rw [J]; exact Aba h2 E
      .rw [I]; exact N
      .rw [J]; exact B.put _
      .rw [I]; exact M
  .have:d=data.length:=by omega
   subst this
   rw [List.take_length] at h2 h3
   exact .inr ⟨.inr (f,g),by simp,h12,fun d x hx=>h1 d x (Em hx) hx,h2,h3⟩
 .rintro (r | ⟨o,o'⟩) j
  .obtain ⟨rfl,j⟩:=j
   exact ⟨false,rfl,by simp [j]⟩
  .exact ⟨true,rfl,by simpa using j⟩
theorem Aha {data:List As} (c:DSz data):∃b,Pw data=some b/\(b=true↔G5 data):=by
 obtain ⟨b,h1,h2⟩:=Ap2 c
 refine ⟨b,?_,h2⟩
 unfold Pw
 rw [h1,Ac]
 cases b with
 | false=>rfl
 | true=>rfl
end Go.Ab
namespace Go.Ab
open Go
theorem Ap3 {l:List ByteArray} {j:Nat} {x:ByteArray} (h:l[j]? = some x) (b:l.Nodup):∀i y,i<j->l[i]? = some y->y≠x:=by
 intro i y hi hy e
 subst e
 have h1:=Em h
 have h2:i<l.length:=by omega
 rw [Cb h1] at h
 rw [Cb h2] at hy
 have:=(List.nodup_iff_pairwise_ne.1 b)
 rw [List.pairwise_iff_getElem] at this
 exact this i j h2 h1 hi (by rw [Option.some.inj h,Option.some.inj hy])
theorem Ahb (l:List ByteArray) (N:l.length<1099511627776):∃b,P0 l=some b/\(b=false↔l.Nodup):=by
 unfold P0
 refine Eb (fun v=>∃i:Nat,v=i/\i<=l.length/\(l.take i).Nodup) (fun v=>l.length-v.toNat) (fun z=>match z with | .inl r=>r=true/\¬l.Nodup | .inr _=>l.Nodup) ⟨0,rfl,by omega,by simp⟩ ?_ ?_
 .rintro v ⟨i,rfl,hi,A⟩
  rcases Nat.lt_or_ge i l.length with h | h
  .have hx:l[i]? = some l[i]:=Cb h
   generalize l[i]=x at hx
   have G:(l.take i).length=i:=by simp; omega
   have D:∃z,Ao (S:=Int) (E:=(Bool⊕Int)) (fun v4=>bif (decide (v4<(i:Int))) then ((Af l (i:Int)).bind fun v5=>(Af l v4).bind fun L=>bif (v5.toList==L.toList) then some (.inr (.inl true)) else some (.inl (Ad (v4+1)))) else some (.inr (.inr v4))) 0=some z/\(match z with | .inl r=>r=true/\x∈l.take i | .inr _=>x ∉ l.take i):=by
    refine Pm (fun v4:Int=>∃j:Nat,v4=j/\j<=i/\∀k y,k<j->l[k]? = some y->y≠x) (fun v4=>i-v4.toNat) _ ?_ _ ⟨0,rfl,by omega,fun k y hk=>by omega⟩
    rintro v4 ⟨j,rfl,hj,g⟩
    rcases Nat.lt_or_ge j i with h' | h'
    .have hy:l[j]? = some l[j]:=Cb (by omega)
     generalize l[j]=y at hy
     simp only [Ak (by omega:(j:Int)<(i:Int)),cond_true,Ch rfl hx,Ch rfl hy,Ac,W3]
     by_cases c:x=y
     .rw [Ak c]
      refine .inr ⟨.inl true,rfl,rfl,?_⟩
      subst c
      exact B3 (i:=j) (by rw [List.getElem?_take_of_lt h']; exact hy)
     .rw [Al c]
      refine .inl ⟨((j+1:Nat):Int),by simp only [cond_false]; rw [Dk h' (by omega)],⟨j+1,rfl,by omega,?_⟩,by simp; omega⟩
      intro k J hk f
      rcases Nat.lt_or_ge k j with h'' | h''
      .exact g k J h'' f
      .have:k=j:=by omega
       subst this
       rw [hy] at f; cases f
       exact fun e=>c e.symm
    .have:j=i:=by omega
     subst this
     refine .inr ⟨.inr (j:Int),by simp,?_⟩
     intro q
     obtain ⟨k,hk⟩:=List.getElem?_of_mem q
     have B:=Em hk
     rw [List.getElem?_take_of_lt (by omega)] at hk
     exact g k x (by omega) hk rfl
   obtain ⟨z,I,z2⟩:=D
   simp only [Ak (by omega:(i:Int)<(l.length:Int)),cond_true]
   rw [I,Ac]
   match z,z2 with
   | .inl r,z2=>
    obtain ⟨rfl,z2⟩:=z2
    refine .inr ⟨.inl true,rfl,rfl,fun M=>?_⟩
    obtain ⟨k,hk⟩:=List.getElem?_of_mem z2
    have B:=Em hk
    rw [List.getElem?_take_of_lt (by omega)] at hk
    exact Ap3 hx M k x (by omega) hk rfl
   | .inr v8,z2=>
    refine .inl ⟨((i+1:Nat):Int),by simp only [Dk h (by omega)],⟨i+1,rfl,by omega,?_⟩,by simp; omega⟩
    rw [C5 hx]
    exact Aba A z2
  .have:i=l.length:=by omega
   subst this
   rw [List.take_length] at A
   exact .inr ⟨.inr (),by simp,A⟩
 .rintro (r | u) s
  .obtain ⟨rfl,s⟩:=s
   exact ⟨true,rfl,by simp [s]⟩
  .exact ⟨false,rfl,by simpa using s⟩
theorem SzD.args {data:List As} (h:SzD data) {x:As} (hx:x∈data) {y:Ig} (hy:y∈x.Cons) {t:Ah} (ht:t∈y.Args):A8 t<=1048576/\t.Args.length<=1048576/\y.Args.length<=1048576:=by
 have h1:=(h x hx).2 y hy
 have h3:=Gm ht
 have f:=F7 t
 have c:=Hr t.Args
 have b:=Hr y.Args
 omega
theorem Ap4 {data:List As} (q:DSz data) {d:Nat} {x:As} {y:Ig} (hx:data[d]? = some x) (hy:y∈x.Cons) :
  ∃z,Ao (S:=Int) (E:=(Bool⊕Int)) (fun b=>
    bif (decide (b<(y.Args.length:Int))) then (
    (Af y.Args b).bind fun f=>
    (K7 f d x.Vars).bind fun k=>
    bif k then some (.inl (Ad (b+1)))
    else (
    (Fd data 0 d).bind fun v218=>
    (K4 v218 f x.Vars).bind fun i=>
    bif (!i) then some (.inr (.inl false))
    else some (.inl (Ad (b+1)))))
    else some (.inr (.inr b))) 0=some z/\(match z with | .inl r=>r=false/\y.Args.all (Hs data d x.Vars)=false | .inr _=>y.Args.all (Hs data d x.Vars)=true):=by
 have hxm:=B3 hx
 have D:=Em hx
 have u:=q.len
 have G:y.Args.length<=1048576:=by have:=(q.sz x hxm).2 y hy; have:=Hr y.Args; omega
 refine Pm (fun v:Int=>∃j:Nat,v=j/\j<=y.Args.length/\(y.Args.take j).all (Hs data d x.Vars)=true) (fun v=>y.Args.length-v.toNat) _ ?_ _ ⟨0,rfl,by omega,by simp⟩
 rintro v ⟨j,rfl,hj,c⟩
 rcases Nat.lt_or_ge j y.Args.length with h | h
 .have ht:y.Args[j]? = some y.Args[j]:=Cb h
  generalize y.Args[j]=t at ht
  have l:=B3 ht
  obtain ⟨L,J,I⟩:=q.sz.args hxm hy l
  simp only [Ak (by omega:(j:Int)<(y.Args.length:Int)),cond_true,Ch rfl ht,Ac,Agy t d x.Vars (by omega),Wj rfl (show d<=data.length by omega),Aa5 (data.take d) t x.Vars (by omega),Dk h (by omega)]
  have g:Hs data d x.Vars t=true->(y.Args.take (j+1)).all (Hs data d x.Vars)=true:=fun B=>by
   rw [C5 ht,List.all_append,c]; simp [B]
  cases s:Gn t d x.Vars with
  | true=>exact .inl ⟨_,rfl,⟨j+1,rfl,by omega,g (by unfold Hs; rw [s]; rfl)⟩,by simp; omega⟩
  | false=>
   simp only [cond_false]
   cases A:(Ef (data.take d) x.Vars t&&decide (A8 t<=200)) with
   | true=>exact .inl ⟨_,rfl,⟨j+1,rfl,by omega,g (by unfold Hs; rw [A,s]; rfl)⟩,by simp; omega⟩
   | false=>
    refine .inr ⟨.inl false,rfl,rfl,?_⟩
    rw [List.all_eq_false]
    exact ⟨t,l,by unfold Hs; rw [A,s]; simp⟩
 .have:j=y.Args.length:=by omega
  subst this
  rw [List.take_length] at c
  exact .inr ⟨.inr (y.Args.length:Int),by simp,c⟩
theorem Ap5 {data:List As} (M:DSz data) {d:Nat} {x:As} (hx:data[d]? = some x) (Y:x.Cons.length<=8) (L:List ByteArray) (X:L.length<=1048576) :
  ∃z,Ao (S:=(Int×(List ByteArray))) (E:=(Bool⊕(Int×(List ByteArray)))) (fun (f,k)=>
   bif (decide (f<(x.Cons.length:Int))) then (
   (show Option Bool from
   (Af x.Cons f).bind fun A=>
   (Nz A.Name).bind fun v203=>
   bif (!v203) then some true
   else (
   (Af x.Cons f).bind fun u=>
   some (decide ((u.Args.length:Int)>(6:Int))))
   ).bind fun s=>
   bif s then some (.inr (.inl false))
   else (
   (Af x.Cons f).bind fun v206=>
   (Bx 16 k [v206.Name]).bind fun D=>
   (Af x.Cons f).bind fun v208=>
   (Ao (S:=Int) (E:=(Bool⊕Int)) (fun g=>
   bif (decide (g<(v208.Args.length:Int))) then (
   (Af v208.Args g).bind fun j=>
   (K7 j d x.Vars).bind fun q=>
   bif q then some (.inl (Ad (g+1)))
   else (
   (Fd data 0 d).bind fun v218=>
   (K4 v218 j x.Vars).bind fun l=>
   bif (!l) then some (.inr (.inl false))
   else some (.inl (Ad (g+1)))))
   else some (.inr (.inr g))) 0).bind fun z=>
   match z with
   | .inl B=>some (.inr (.inl B))
   | .inr J=>some (.inl ((Ad (f+1)),D))))
   else some (.inr (.inr (f,k)))) (0,L)=some z /\
   (match z with | .inl r=>r=false/\¬(∀y∈x.Cons,Oy data d x.Vars y) | .inr (_,o)=>(∀y∈x.Cons,Oy data d x.Vars y)/\o=L++Ep x):=by
 have hxm:=B3 hx
 refine Pm (fun (v,o)=>∃c:Nat,v=c/\c<=x.Cons.length/\(∀y∈x.Cons.take c,Oy data d x.Vars y)/\o=L++(x.Cons.take c).map (·.Name)) (fun (v,_)=>x.Cons.length-v.toNat) _ ?_ _ ⟨0,rfl,by omega,by simp,by simp⟩
 rintro ⟨v,o⟩ ⟨c,rfl,hc,h1,V⟩
 subst V
 rcases Nat.lt_or_ge c x.Cons.length with h | h
 .have hy:x.Cons[c]? = some x.Cons[c]:=Cb h
  generalize x.Cons[c]=y at hy
  have i:=B3 hy
  obtain ⟨b,b1,b2⟩:=Ag8 y.Name (by have:=M.cn x hxm y i; omega)
  obtain ⟨z,R,z2⟩:=Ap4 M hx i
  simp only [Ak (by omega:(c:Int)<(x.Cons.length:Int)),cond_true,Ch rfl hy,Ac,b1,Dk h (by omega)]
  rw [Cs (by simp; omega)]
  cases b with
  | false=>
   refine .inr ⟨.inl false,rfl,rfl,fun I=>?_⟩
   have:=b2.2 (I y i).1; cases this
  | true=>
   simp only [bnt,cond_false,Ac]
   by_cases N:(y.Args.length:Int)>6
   .rw [Ak N]
    refine .inr ⟨.inl false,rfl,rfl,fun I=>?_⟩
    have:=(I y i).2.1; omega
   .rw [Al N]
    simp only [cond_false]
    rw [R,Ac]
    match z,z2 with
    | .inl r,z2=>
     obtain ⟨rfl,z2⟩:=z2
     refine .inr ⟨.inl false,rfl,rfl,fun I=>?_⟩
     have:=(I y i).2.2
     rw [z2] at this; cases this
    | .inr w,z2=>
     refine .inl ⟨_,rfl,⟨c+1,rfl,by omega,?_,?_⟩,by simp; omega⟩
     .intro U G
      rw [C5 hy] at G
      rcases List.mem_append.1 G with h' | h'
      .exact h1 U h'
      .simp at h'; subst h'; exact ⟨b2.1 rfl,by omega,z2⟩
     .rw [C5 hy]; simp
 .have:c=x.Cons.length:=by omega
  subst this
  rw [List.take_length] at h1
  exact .inr ⟨.inr ((x.Cons.length:Int),L++Ep x),by simp [Ep],h1,rfl⟩
theorem Ap6 {data:List As} (D:DSz data):∃b,Sb data=some b/\(b=true↔G5 data):=by
 have J:=D.len
 unfold Sb
 rcases Nat.lt_or_ge 12 data.length with h12 | h12
 .rw [Ak (by omega)]
  exact ⟨false,rfl,by simp; intro h; have:=h.1; omega⟩
 rw [Al (by omega)]
 simp only [cond_false]
 have l:∀d,d<=data.length->(∀f x,f<d->data[f]? = some x->Mx data f x)->((data.take d).flatMap Ep).length<=8*d:=by
  intro d
  induction d with
  | zero=>intro _ _; simp
  | succ d ih=>
   intro hd h1
   have hx:data[d]? = some data[d]:=Cb (by omega)
   have:=ih (by omega) (fun f x E=>h1 f x (by omega))
   have X:=(h1 d _ (by omega) hx).2.2.2.1
   rw [C5 hx,List.flatMap_append,List.length_append]
   simp only [List.flatMap_cons,List.flatMap_nil,List.append_nil,Ep,List.length_map]
   omega
 refine Eb (fun (v,k,j)=>∃d:Nat,v=d/\d<=data.length/\(∀f x,f<d->data[f]? = some x->Mx data f x)/\k=(data.take d).map (·.Name)/\j=(data.take d).flatMap Ep)
  (fun (v,_,_)=>data.length-v.toNat) (fun z=>match z with | .inl r=>r=false/\¬G5 data | .inr (k,j)=>(∀d x,data[d]? = some x->Mx data d x)/\k=data.map (·.Name)/\j=data.flatMap Ep) ⟨0,rfl,by omega,by intro f x h; omega,by simp,by simp⟩ ?_ ?_
 .rintro ⟨v,k,j⟩ ⟨d,rfl,hd,h1,h2,h3⟩
  rcases Nat.lt_or_ge d data.length with h | h
  .have hx:data[d]? = some data[d]:=Cb h
   generalize data[d]=x at hx
   have hxm:=B3 hx
   obtain ⟨b,b1,b2⟩:=Ag8 x.Name (by have:=D.nm x hxm; omega)
   simp only [Ak (by omega:(d:Int)<(data.length:Int)),cond_true,Ch rfl hx,Ac,b1]
   have bad:∀(u:¬Mx data d x),∃e:Bool⊕((List ByteArray)×(List ByteArray)),(some (Sum.inr (Sum.inl false)):Option ((Int×(List ByteArray)×(List ByteArray))⊕(Bool⊕((List ByteArray)×(List ByteArray)))))=some (.inr e)/\(match e with | .inl r=>r=false/\¬G5 data | .inr (k,j)=>(∀d x,data[d]? = some x->Mx data d x)/\k=data.map (·.Name)/\j=data.flatMap Ep) :=
    fun u=>⟨.inl false,rfl,rfl,fun c=>u (c.2.1 d x hx)⟩
   by_cases g:x.Vars<0
   .simp only [Ak g,cond_true,Ac]
    exact .inr (bad fun c=>by have:=c.1; omega)
   by_cases i:x.Vars>6
   .simp only [Al g,Ak i,cond_true,cond_false,Ac]
    exact .inr (bad fun c=>by have:=c.2.1; omega)
   by_cases s:(x.Cons.length:Int)<1
   .simp only [Al g,Al i,Ak s,cond_false,cond_true,Ac]
    exact .inr (bad fun c=>by have:=c.2.2.1; omega)
   by_cases A:(x.Cons.length:Int)>8
   .simp only [Al g,Al i,Al s,Ak A,cond_true,cond_false,Ac]
    exact .inr (bad fun c=>by have:=c.2.2.2.1; omega)
   simp only [Al g,Al i,Al s,Al A,cond_false,Ac]
   cases b with
   | false=>exact .inr (bad fun c=>by have:=b2.2 c.2.2.2.2.1; cases this)
   | true=>
    have y:=l d hd h1
    rw [h2,h3]
    simp only [bnt,cond_false]
    rw [Cs (by simp; omega),Ac]
    obtain ⟨z,L,z2⟩:=Ap5 D hx (by omega) ((data.take d).flatMap Ep) (by omega)
    erw [L,Ac]
    match z,z2 with
    | .inl r,z2=>
     obtain ⟨rfl,z2⟩:=z2
     exact .inr (bad fun c=>z2 c.2.2.2.2.2)
    | .inr (S,U),z2=>
     obtain ⟨N,M⟩:=z2
     subst M
     have ht:=C5 hx
     refine .inl ⟨(((d+1:Nat):Int),(data.take d).map (·.Name)++[x.Name],(data.take d).flatMap Ep++Ep x),by simp only [Dk h (by omega)],⟨d+1,rfl,by omega,?_,?_,?_⟩,by simp; omega⟩
     .intro f R E q
      rcases Nat.lt_or_ge f d with h' | h'
      .exact h1 f R h' q
      .have:f=d:=by omega
       subst this
       rw [hx] at q; cases q
       exact ⟨by omega,by omega,by omega,by omega,b2.1 rfl,N⟩
     .rw [ht]; simp
     .rw [ht]; simp [List.flatMap_append]
  .have:d=data.length:=by omega
   subst this
   rw [List.take_length] at h2 h3
   exact .inr ⟨.inr (k,j),by simp,fun d x hx=>h1 d x (Em hx) hx,h2,h3⟩
 .rintro (r | ⟨k,j⟩) hp
  .obtain ⟨rfl,hp⟩:=hp
   exact ⟨false,rfl,by simp [hp]⟩
  .obtain ⟨I,rfl,rfl⟩:=hp
   have y:=l data.length (by omega) (fun d x _=>I d x)
   rw [List.take_length] at y
   obtain ⟨b,b1,b2⟩:=Ahb (data.map (·.Name)) (by simp; omega)
   obtain ⟨V,G,B⟩:=Ahb (data.flatMap Ep) (by omega)
   simp only [b1,Ac,G]
   cases b with
   | true=>exact ⟨false,rfl,by simp; intro c; have:=b2.2 c.2.2.1; cases this⟩
   | false=>
    cases V with
    | true=>exact ⟨false,rfl,by simp; intro c; have:=B.2 c.2.2.2; cases this⟩
    | false=>exact ⟨true,rfl,by simp; exact ⟨h12,I,b2.1 rfl,B.1 rfl⟩⟩
end Go.Ab
