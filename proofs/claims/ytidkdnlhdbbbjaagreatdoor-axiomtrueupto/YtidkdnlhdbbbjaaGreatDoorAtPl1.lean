/- Plain laws: what the plain functions answer. -/
import Derived.Test.YtidkdnlhdbbbjaaGreatDoorAtPl0
namespace Go.Ab
open Go Ieee
theorem Ax8 (n d:Nat):∃c,Toward.even.cut false n d=c/\(n / 2 ^ d<=c)/\c<=n / 2 ^ d+1/\(n % 2 ^ d=0->c=n / 2 ^ d):=by
 refine ⟨_,rfl,?_⟩
 unfold Toward.cut
 simp only [Nat.shiftLeft_eq,Nat.one_mul]
 by_cases hd:d<=n.log2+2
 .rw [Nat.min_eq_left hd]
  generalize h2:2 ^ d=g
  have h:0<g:=by rw [<-h2]; exact Nat.pow_pos (by decide)
  refine ⟨by omega,?_,fun h0=>?_⟩
  .have:=Bool.toNat_le (decide (g<2*(n % g))||(g==2*(n % g)&&n / g % 2==1))
   omega
  .rw [h0]
   have h1:decide (g<2*0)=false:=by simp
   have h3:(g==2*0)=false:=by simp; omega
   rw [h1,h3]; rfl
 .rw [Nat.min_eq_right (by omega)]
  have b:n<2 ^ (n.log2+1):=Nat.lt_log2_self
  have h:2 ^ (n.log2+2)=2*2 ^ (n.log2+1):=by rw [Nat.pow_succ]; omega
  have f:2 ^ (n.log2+2)<=2 ^ d:=Nat.pow_le_pow_right (by decide) (by omega)
  have l:n / 2 ^ (n.log2+2)=0:=Nat.div_eq_of_lt (by omega)
  have k:n % 2 ^ (n.log2+2)=n:=Nat.mod_eq_of_lt (by omega)
  have j:n / 2 ^ d=0:=Nat.div_eq_of_lt (by omega)
  have i:n % 2 ^ d=n:=Nat.mod_eq_of_lt (by omega)
  rw [l,k,j,i]
  have h1:decide (2 ^ (n.log2+2)<2*n)=false:=by simp; omega
  have h3:(2 ^ (n.log2+2)==2*n)=false:=by simp; omega
  rw [h1,h3]
  exact ⟨by simp,by simp,fun _=>rfl⟩
theorem Uc (f:Nat) (place e:Int) (u:f≠0) (E:place+f.log2=e) (h1 : -1000<=e) (h2:e<=900) :
  ∃(m:Nat) (p:Int),double.read (double.nearest false f place) = .number false m p/\4503599627370496<=m/\m<9007199254740992/\(p=e-52\/(p=e-51/\m=4503599627370496)):=by
 have g:max (place+f.log2-(double.fractionBits:Int)) double.leastPlace=e-52:=by
  have a:(double.fractionBits:Int)=52:=rfl
  have b:double.leastPlace = -1074:=by decide
  rw [a,b,E]; omega
 have hw:double.nearest false f place=min ((e-52+1074).toNat*4503599627370496+Toward.even.cut false (f <<< (place-(e-52)).toNat) ((e-52)-place).toNat) (2047*4503599627370496):=by
  unfold Format.nearest
  rw [if_neg u]
  simp only [g]
  have b:double.leastPlace = -1074:=by decide
  have c:double.binade=4503599627370496:=by decide
  have d:double.infRung=2047*4503599627370496:=by decide
  rw [b,c,d]
  unfold Format.word
  simp only [Bool.false_eq_true,if_false]
  congr 3
 have hk:4503599627370496<=Toward.even.cut false (f <<< (place-(e-52)).toNat) ((e-52)-place).toNat/\Toward.even.cut false (f <<< (place-(e-52)).toNat) ((e-52)-place).toNat<=9007199254740992:=by
  obtain ⟨c,hc,s,q,i⟩:=Ax8 (f <<< (place-(e-52)).toNat) ((e-52)-place).toNat
  rw [hc]
  have D:2 ^ f.log2<=f:=Nat.log2_self_le u
  have B:f<2 ^ (f.log2+1):=Nat.lt_log2_self
  rw [Nat.shiftLeft_eq] at s q i
  rcases Int.le_total place (e-52) with h | h
  .have z:(place-(e-52)).toNat=0:=by omega
   rw [z,Nat.pow_zero,Nat.mul_one] at s q i
   have hd:f.log2=52+((e-52)-place).toNat:=by omega
   have hp:2 ^ f.log2=4503599627370496*2 ^ ((e-52)-place).toNat:=by rw [hd,Nat.pow_add]
   have l:2 ^ (f.log2+1)=9007199254740992*2 ^ ((e-52)-place).toNat:=by rw [Nat.pow_succ,hp]; omega
   have hpos:0<2 ^ ((e-52)-place).toNat:=Nat.pow_pos (by decide)
   have a1:4503599627370496<=f / 2 ^ ((e-52)-place).toNat:=(Nat.le_div_iff_mul_le hpos).2 (by omega)
   have a2:f / 2 ^ ((e-52)-place).toNat<9007199254740992:=(Nat.div_lt_iff_lt_mul hpos).2 (by omega)
   omega
  .have z:((e-52)-place).toNat=0:=by omega
   rw [z,Nat.pow_zero,Nat.div_one] at s q i
   have I:=i (Nat.mod_one _)
   have hd:52=f.log2+(place-(e-52)).toNat:=by omega
   have hp:2 ^ f.log2*2 ^ (place-(e-52)).toNat=4503599627370496:=by rw [<-Nat.pow_add,<-hd]
   have l:2 ^ (f.log2+1)*2 ^ (place-(e-52)).toNat=9007199254740992:=by rw [Nat.pow_succ,Nat.mul_right_comm,hp]
   have hpos:0<2 ^ (place-(e-52)).toNat:=Nat.pow_pos (by decide)
   have a1:=Nat.mul_le_mul_right (2 ^ (place-(e-52)).toNat) D
   have a2:=Nat.mul_lt_mul_of_pos_right B hpos
   omega
 generalize Toward.even.cut false (f <<< (place-(e-52)).toNat) ((e-52)-place).toNat=c at *
 obtain ⟨t,ht⟩:∃t:Nat,(e-52+1074).toNat=t/\t<=1922/\(t:Int)=e+1022:=⟨_,rfl,by omega,by omega⟩
 rw [ht.1] at hw
 rw [Nat.min_eq_left (by omega)] at hw
 rw [hw]
 have b:double.leastPlace = -1074:=by decide
 have G:double.binade=4503599627370496:=by decide
 have d:double.infRung=2047*4503599627370496:=by decide
 have x:double.signWeight=9223372036854775808:=by decide
 unfold Format.read
 rw [b,G,d,x]
 have A:(t*4503599627370496+c) / 9223372036854775808=0:=Nat.div_eq_of_lt (by omega)
 have y:(t*4503599627370496+c) % 9223372036854775808=t*4503599627370496+c:=Nat.mod_eq_of_lt (by omega)
 simp only [A,y]
 rw [if_neg (by omega),if_pos (by omega)]
 by_cases hc:c<9007199254740992
 .refine ⟨c,e-52,?_,hk.1,hc,.inl rfl⟩
  have k:(t*4503599627370496+c) % 4503599627370496=c-4503599627370496:=by omega
  have j:(t*4503599627370496+c) / 4503599627370496=t+1:=by omega
  rw [k,j,show 4503599627370496+(c-4503599627370496)=c by omega,show (-1074:Int)+((t+1-1:Nat):Int)=e-52 by omega]; rfl
 .have hc:c=9007199254740992:=by omega
  subst hc
  refine ⟨4503599627370496,e-51,?_,by decide,by decide,.inr ⟨rfl,rfl⟩⟩
  have k:(t*4503599627370496+9007199254740992) % 4503599627370496=0:=by omega
  have j:(t*4503599627370496+9007199254740992) / 4503599627370496=t+2:=by omega
  rw [k,j,Nat.add_zero,show (-1074:Int)+((t+2-1:Nat):Int)=e-51 by omega]; rfl
theorem Af4 (v:Int) (h:0<=v):floatOfInt .f64 v=double.nearest false v.natAbs 0:=by
 have e:decide (v<0)=false:=Ar (by omega)
 show double.nearest (decide (v<0)) v.natAbs 0=_
 rw [e]
theorem Ax9:double.read 4876203697187506176 = .number false 7812500000000000 7:=by decide
theorem Abr {n k:Nat} (h1:2 ^ k<=n) (h2:n<2 ^ (k+1)):n.log2=k:=(Nat.log2_eq_iff (by have:=Nat.pow_pos (n:=k) (show 0<2 by decide); omega)).2 ⟨h1,h2⟩
theorem Xe {n k:Nat} (h:n<2 ^ (k+1)):n.log2<=k:=by
 by_cases h0:n=0
 .subst h0; simp
 .have:=(Nat.log2_lt h0).2 h; omega
theorem Af5 {n k:Nat} (h:2 ^ k<=n):k<=n.log2:=(Nat.le_log2 (by have:=Nat.pow_pos (n:=k) (show 0<2 by decide); omega)).2 h
theorem Aya (x:Int) (h0:1<=x) (h1:x<1000000000):∃(w:Nat) (m:Nat) (p:Int),floatBits .mul .f64 (floatOfInt .f64 x) 4876203697187506176=some w/\double.read w = .number false m p/\4503599627370496<=m/\m<9007199254740992/\7<=p/\(p<=37\/(p=38/\m=4503599627370496)):=by
 have l:x.natAbs.log2<=29:=Xe (by simp; omega)
 obtain ⟨m1,b,g,a1,a2,a3⟩:=Uc x.natAbs 0 (x.natAbs.log2) (by omega) (by omega) (by omega) (by omega)
 have c:(m1*7812500000000000).log2=104\/((m1*7812500000000000).log2=105/\m1≠4503599627370496):=by
  have b1:2 ^ 104<=m1*7812500000000000:=by omega
  have b2:m1*7812500000000000<2 ^ 106:=by omega
  rcases Nat.lt_or_ge (m1*7812500000000000) (2 ^ 105) with h | h
  .exact .inl (Abr b1 h)
  .exact .inr ⟨Abr h b2,by rintro rfl; omega⟩
 obtain ⟨m2,i,f,k,j,q⟩:=Uc (m1*7812500000000000) (b+7) (b+7+(m1*7812500000000000).log2) (by omega) rfl (by omega) (by omega)
 refine ⟨double.nearest false (m1*7812500000000000) (b+7),m2,i,?_,f,k,j,by omega,by omega⟩
 show ((double.read (floatOfInt .f64 x)).product (double.read 4876203697187506176)).map double.write=_
 rw [Af4 x (by omega),g,Ax9]; rfl
theorem Ayb (w:Nat) (m:Nat) (p:Int) (hw:double.read w = .number false m p) (M:4503599627370496<=m) (L:m<9007199254740992) (I:7<=p) (j:p<=37\/(p=38/\m=4503599627370496)) (y:Int) (h0:0<=y) (h1:y<1000000000000000000) :
  ∃(w':Nat) (g:Nat) (f:Int),floatBits .add .f64 w (floatOfInt .f64 y)=some w'/\double.read w' = .number false g f/\4503599627370496<=g/\g<9007199254740992/\7<=f/\f<=39:=by
 obtain ⟨c,b,x,V,U⟩:∃(c:Nat) (b:Int),double.read (floatOfInt .f64 y) = .number false c b/\b<=8/\c<9007199254740992/\-1074<=b:=by
  rw [Af4 y h0]
  by_cases hy:y.natAbs=0
  .rw [hy]; exact ⟨0,-1074,by decide,by decide,by decide,by decide⟩
  .have Z:y.natAbs.log2<=59:=Xe (by simp; omega)
   obtain ⟨m1,D,A,a1,a2,a3⟩:=Uc y.natAbs 0 (y.natAbs.log2) hy (by omega) (by omega) (by omega)
   exact ⟨m1,D,A,by omega,a2,by omega⟩
 generalize hb:min p b=base
 have ht:∃T:Nat,signed false m (p-base).toNat+signed false c (b-base).toNat=(T:Int)/\T=m*2 ^ (p-base).toNat+c*2 ^ (b-base).toNat:=by
  refine ⟨m <<< (p-base).toNat+c <<< (b-base).toNat,rfl,by rw [Nat.shiftLeft_eq,Nat.shiftLeft_eq]⟩
 obtain ⟨T,t1,t2⟩:=ht
 have G:0<2 ^ (p-base).toNat:=Nat.pow_pos (by decide)
 have i:2 ^ (b-base).toNat<=2 ^ (8-base).toNat:=Nat.pow_le_pow_right (by decide) (by omega)
 have J:m*2 ^ (p-base).toNat<=2 ^ (90-base).toNat:=by
  rcases j with h | ⟨rfl,rfl⟩
  .have e:2 ^ (90-base).toNat=2 ^ (p-base).toNat*2 ^ (90-p).toNat:=by rw [<-Nat.pow_add]; congr 1; omega
   have e2:2 ^ 53<=2 ^ (90-p).toNat:=Nat.pow_le_pow_right (by decide) (by omega)
   rw [e,Nat.mul_comm]
   exact Nat.mul_le_mul_left _ (by omega)
  .have e:2 ^ (90-base).toNat=2 ^ (38-base).toNat*2 ^ 52:=by rw [<-Nat.pow_add]; congr 1; omega
   rw [e,Nat.mul_comm]; omega
 have E:c*2 ^ (b-base).toNat<2 ^ (90-base).toNat:=by
  have e:2 ^ (90-base).toNat=2 ^ (8-base).toNat*2 ^ 82:=by rw [<-Nat.pow_add]; congr 1; omega
  have e3:c*2 ^ (b-base).toNat<=c*2 ^ (8-base).toNat:=Nat.mul_le_mul_left _ i
  have N:0<2 ^ (8-base).toNat:=Nat.pow_pos (by decide)
  have e5:c*2 ^ (8-base).toNat<2 ^ 82*2 ^ (8-base).toNat:=Nat.mul_lt_mul_of_pos_right (by omega) N
  rw [e,Nat.mul_comm (2 ^ (8-base).toNat)]; omega
 have s:T<2 ^ ((90-base).toNat+1):=by rw [Nat.pow_succ]; omega
 have q:2 ^ (52+(p-base).toNat)<=T:=by
  have:2 ^ 52*2 ^ (p-base).toNat<=m*2 ^ (p-base).toNat:=Nat.mul_le_mul_right _ (by omega)
  rw [Nat.pow_add]; omega
 have Y:=Xe s
 have X:=Af5 q
 have u:T≠0:=by
  have:=Nat.pow_pos (n:=52+(p-base).toNat) (show 0<2 by decide); omega
 obtain ⟨m3,B,z,S,R,c3⟩:=Uc T base (base+T.log2) u rfl (by omega) (by omega)
 refine ⟨double.nearest false T base,m3,B,?_,z,S,R,by omega,by omega⟩
 show ((double.read w).sum (double.read (floatOfInt .f64 y))).map double.write=_
 rw [hw,x]
 have l:¬((T:Int)=0):=by omega
 have k:decide ((T:Int)<0)=false:=Ar (by omega)
 simp only [Datum.sum,hb,t1,if_neg l,k,Option.map_some,Int.natAbs_natCast,Format.write]
theorem Ayc {b m N:Nat} {p:Int} (g:double.read b = .number false m p) (i:(Datum.number false m p).toInt .zero=some (N:Int)) (h:N<=9223372036854775808):floatToIntVal .f64 b .u64=some (N:Int):=by
 have hd:FloatKind.f64.decode b = .number false m p:=g
 have f:IntKind.u64.min=0:=by decide
 have c:IntKind.u64.max=18446744073709551615:=by decide
 unfold floatToIntVal
 rw [hd,i]
 simp only [f,c]
 rw [if_pos ⟨by omega,by omega⟩]
theorem Ayd (w:Nat) (m:Nat) (p:Int) (hw:double.read w = .number false m p) (R:4503599627370496<=m) (M:m<9007199254740992) (L:7<=p) (J:p<=39) (z:Int) (h0:1000000000<=z) (h1:z<1000000000000000000) :
  ∃(w':Nat) (n:Int),floatBits .quo .f64 w (floatOfInt .f64 z)=some w'/\floatToIntVal .f64 w' .u64=some n/\0<=n/\n<=9223372036854775808:=by
 have U:z.natAbs.log2<=59:=Xe (by simp; omega)
 have S:29<=z.natAbs.log2:=Af5 (by simp; omega)
 obtain ⟨f,c,u,a1,a2,a3⟩:=Uc z.natAbs 0 (z.natAbs.log2) (by omega) (by omega) (by omega) (by omega)
 have D:m.log2=52:=Abr (by omega) (by omega)
 have y:f.log2=52:=Abr (by omega) (by omega)
 generalize hq:m*2 ^ 54 / f=q
 generalize l:((m*2 ^ 54 % f != 0).toNat)=s
 have E:s<=1:=by rw [<-l]; exact Bool.toNat_le _
 have I:q<2 ^ 55:=by rw [<-hq]; exact (Nat.div_lt_iff_lt_mul (by omega)).2 (by omega)
 have G:2 ^ 53<=q:=by rw [<-hq]; exact (Nat.le_div_iff_mul_le (by omega)).2 (by omega)
 have B:(2*q+s).log2<=55:=Xe (by omega)
 have A:54<=(2*q+s).log2:=Af5 (by omega)
 obtain ⟨m4,b,x,c1,Y,Z⟩:=Uc (2*q+s) (p-c-(54:Nat)-1) (p-c-(54:Nat)-1+(2*q+s).log2) (by omega) rfl (by omega) (by omega)
 have j:(Datum.number false m p).quotient (double.fractionBits+2) (Datum.number false f c)=some (.number false (2*q+s) (p-c-(54:Nat)-1)):=by
  have i:¬f=0:=by omega
  have X:double.fractionBits+2=54:=rfl
  simp only [Datum.quotient,if_neg i,X,D,y,Nat.shiftLeft_eq,Nat.add_sub_cancel,hq,l,Bool.xor_self]
 have hb:m4*2 ^ b.toNat<=9223372036854775808:=by
  have k:b<=10\/(b=11/\m4=4503599627370496):=by omega
  rcases k with h | ⟨rfl,rfl⟩
  .have:2 ^ b.toNat<=2 ^ 10:=Nat.pow_le_pow_right (by decide) (by omega)
   have:=Nat.mul_le_mul (Nat.le_of_lt Y) this
   omega
  .decide
 obtain ⟨N,V,g⟩:∃N:Nat,(Datum.number false m4 b).toInt .zero=some (N:Int)/\N<=9223372036854775808:=by
  refine ⟨(m4 <<< b.toNat) / (1 <<< min (-b).toNat ((m4 <<< b.toNat).log2+2)),?_,?_⟩
  .simp only [Datum.toInt,Datum.integral,Toward.cut,signed,Bool.false_eq_true,if_false,Nat.shiftLeft_zero,Bool.toNat_false,Nat.add_zero]
  .rw [Nat.shiftLeft_eq m4]
   exact Nat.le_trans (Nat.div_le_self _ _) hb
 refine ⟨double.nearest false (2*q+s) (p-c-(54:Nat)-1),(N:Int),?_,?_,by omega,by omega⟩
 .have e:floatBits .quo .f64 w (floatOfInt .f64 z)=((double.read w).quotient (double.fractionBits+2) (double.read (floatOfInt .f64 z))).map double.write:=rfl
  rw [e,hw,Af4 z (by omega),u,j]
  simp only [Option.map_some,Format.write]
 .exact Ayc x V g
theorem Aye (r n:Nat) (h2:2<=Bd n) (E:Bd r<=Bd n+1) (G:Bd n<1099511627776):∃d:Nat,Wp (Ae r) (Ae n)=some (d:Int)/\d<1000000000:=by
 unfold Wp
 unfold Bd at h2 E G
 have c:n≠0:=by rintro rfl; rw [E9] at h2; simp at h2
 by_cases V:(Ae r).length<(Ae n).length
 .exact ⟨0,by rw [Am (by omega)]; rfl,by decide⟩
 .rw [Ar (by omega),cond_false]
  have y:Ac (((Ae n).length:Int)-1)=(((Ae n).length-1:Nat):Int):=by rw [Ac,Bs] <;> omega
  have u:Ac (((Ae n).length:Int)-2)=(((Ae n).length-2:Nat):Int):=by rw [Ac,Bs] <;> omega
  have i1:(Ae n).length-1<(Ae n).length:=by omega
  have i2:(Ae n).length-2<(Ae n).length:=by omega
  have h:(Ae n).length-1<(Ae r).length:=by omega
  have g:(Ae n).length-2<(Ae r).length:=by omega
  have t1:=(Ec n).get i1
  have t2:=(Ec n).get i2
  have M:=(Ec r).get h
  have L:=(Ec r).get g
  have i:(Ae n)[(Ae n).length-1]≠0:=by
   have:=(Abd n).2 (Ib c)
   rwa [List.getLast_eq_getElem] at this
  rw [y,u,Dp rfl i1,Ad,Dp rfl i2,Ad,Dp rfl h,Ad,Dp rfl g,Ad]
  generalize (Ae n)[(Ae n).length-1]=a1 at *
  generalize (Ae n)[(Ae n).length-2]=a2 at *
  generalize (Ae r)[(Ae n).length-1]=b1 at *
  generalize (Ae r)[(Ae n).length-2]=b2 at *
  have l:Aw (Aw (Aw b1*1000000000)+Aw b2)=b1*1000000000+b2:=by
   rw [show Aw b1=b1 from C4 (by omega) (by omega),show Aw b2=b2 from C4 (by omega) (by omega),show Aw (b1*1000000000)=b1*1000000000 from C4 (by omega) (by omega)]
   exact C4 (by omega) (by omega)
  have j:Aw (Aw (Aw a1*1000000000)+Aw a2)=a1*1000000000+a2:=by
   rw [show Aw a1=a1 from C4 (by omega) (by omega),show Aw a2=a2 from C4 (by omega) (by omega),show Aw (a1*1000000000)=a1*1000000000 from C4 (by omega) (by omega)]
   exact C4 (by omega) (by omega)
  rw [l,j]
  by_cases X:(Ae r).length=(Ae n).length
  .rw [Dj (by omega),cond_true,Kh (by omega) (by omega) (by omega),Ad]
   have R:0<=(b1*1000000000+b2) / (a1*1000000000+a2):=Int.ediv_nonneg (by omega) (by omega)
   have N:(b1*1000000000+b2) / (a1*1000000000+a2)<1000000000:=Int.ediv_lt_of_lt_mul (by omega) (by omega)
   exact ⟨((b1*1000000000+b2) / (a1*1000000000+a2)).toNat,by congr 1; omega,by omega⟩
  .have hk:(Ae n).length<(Ae r).length:=by omega
   have b:r≠0:=by rintro rfl; rw [E9] at hk; simp at hk
   have J:=(Ec r).get hk
   have f:(Ae r)[(Ae n).length]≠0:=by
    have:=(Abd r).2 (Ib b)
    rw [List.getLast_eq_getElem] at this
    have e:(Ae r).length-1=(Ae n).length:=by omega
    simpa [e] using this
   rw [Cp (by omega),cond_false,Dp rfl hk,Ad]
   generalize (Ae r)[(Ae n).length]=x at *
   obtain ⟨s,m3,A,f1,f2,f3,f4,f5,f6⟩:=Aya x (by omega) (by omega)
   obtain ⟨q,m4,z,g1,g2,g3,g4,g5,g6⟩:=Ayb s m3 A f2 f3 f4 f5 f6 (b1*1000000000+b2) (by omega) (by omega)
   obtain ⟨I,k,D,B,U,S⟩:=Ayd q m4 z g2 g3 g4 g5 g6 (a1*1000000000+a2) (by omega) (by omega)
   rw [f1,Ad,g1,Ad,D,Ad,B,Ad,show Aw (k+2)=k+2 from C4 (by omega) (by omega)]
   by_cases hc:(999999999:Int)<k+2
   .exact ⟨999999999,by rw [if_pos hc]; rfl,by decide⟩
   .exact ⟨(k+2).toNat,by rw [if_neg hc]; congr 1; omega,by omega⟩
end Go.Ab
namespace Go.Ab
open Go
theorem Ayf (x r:Nat):Bd (x % 1000000000+1000000000*r)<=Bd r+1:=by
 apply Ji
 have:=Mv r
 rw [Nat.pow_succ]
 omega
set_option maxHeartbeats 1000000 in
theorem Af6 (m n:Nat) (hm:Bd m<137438953472) (hn:Bd n<137438953472) (B:n≠0):Qs (Ae m) (Ae n)=some (Ae (m / n),Ae (m % n)):=by
 unfold Qs
 rw [Abo,Rn m n (by omega) (by omega),Ad]
 have ae:=hm
 have ad:=hn
 unfold Bd at hm hn
 by_cases l:m<n
 .rw [show Eg m n = -1 by rw [Eg,if_pos l],Am (by decide:(-1:Int)<0),cond_true,Rp _ (by omega),Ad,Axr (Abd m),Nat.div_eq_of_lt l,Nat.mod_eq_of_lt l,E9]
 .rw [Ar (show ¬Eg m n<0 by rw [Eg,if_neg l]; split <;> decide),cond_false]
  have a7:(Ae n).length≠0:=fun e=>Ib B (List.length_eq_zero_iff.1 e)
  by_cases h1:(Ae n).length=1
  .rw [Dj (by omega:((Ae n).length:Int)=1),cond_true]
   have A:n<1000000000:=by
    have:=Mv n
    rw [show Bd n=1 from h1] at this
    simpa using this
   have X:Ae n = [(n:Int)]:=by
    rw [L0 B,Nat.div_eq_of_lt A,E9,Nat.mod_eq_of_lt A]
   rw [X,show Ag [(n:Int)] 0=some (n:Int) from rfl,Ad,show Aw (n:Int)=n from C4 (by omega) (by omega),Ax5 m n (by omega) (by omega) (by omega),Ad]
   have a6:m % n<n:=Nat.mod_lt _ (by omega)
   rw [Anc,Ua (m % n) (by omega),Ad]
  .rw [Cp (by omega:((Ae n).length:Int)≠1),cond_false]
   have hw:Ac (((Ae m).length:Int)-1)=((Ae m).length:Int)-1:=by rw [Ac,Bs] <;> omega
   rw [I4 rfl rfl (Nat.le_refl _) (by omega) (by omega),hw]
   simp only [Ad]
   have ha:=Ec m
   refine Ia (fun (r,i,q)=>∃(k R:Nat),r=Ae R/\i=(k:Int)-1/\k<=(Ae m).length/\R<n/\q.length=(Ae m).length/\Bu q/\Ai (q.drop k)*n+R=Ai ((Ae m).drop k))
    (fun (_,i,_)=>(i+1).toNat) (fun (r,q)=>∃R:Nat,r=Ae R/\R<n/\q.length=(Ae m).length/\Bu q/\Ai q*n+R=m)
    ⟨(Ae m).length,0,by rw [E9],rfl,Nat.le_refl _,by omega,by simp,Bu.replicate _,by simp [Ai]⟩ ?_ ?_
   .rintro ⟨r,i,q⟩ ⟨k,R,rfl,rfl,hk,I,u,g,hv⟩
    cases k with
    | zero=>exact .inr ⟨(Ae R,q),by simp,R,rfl,I,u,g,by simpa [En] using hv⟩
    | succ j=>
     have hj:j<(Ae m).length:=by omega
     have D:j<q.length:=by omega
     have hx:=ha.get hj
     obtain ⟨x,y⟩:∃x:Nat,(Ae m)[j]=(x:Int):=⟨(Ae m)[j].toNat,by omega⟩
     have J:x<1000000000:=by omega
     have e0:((j+1:Nat):Int)-1=(j:Int):=by omega
     have e1:decide ((j:Int)>=0)=true:=Am (by omega)
     have Y:Bd R<=Bd n:=G4 (by omega)
     have ab:Bd (x+1000000000*R)<=Bd R+1:=by
      have:=Ayf x R
      rwa [Nat.mod_eq_of_lt J] at this
     have ag:(Ae R).length<=(Ae n).length:=Y
     have E:Jx ((x:Int)::Ae R)=some (Ae (x+1000000000*R)):=by
      rw [Rp _ (by simp; omega)]
      congr 1
      refine Ki ?_ ?_
      .intro d hd
       rcases List.mem_cons.1 hd with rfl | hd
       .omega
       .exact Ec R d hd
      .simp only [Ai,En]; omega
     obtain ⟨d0,S,af⟩:=Aye (x+1000000000*R) n (by unfold Bd; omega) (by omega) (by omega)
     generalize a1:x+1000000000*R=f at *
     have aa:f<1000000000*n:=by omega
     have s:∀d:Nat,d<18446744073709551616->Q4 (d:Int)=some (Ae d)/\Mp (Ae n) (Ae d)=some (Ae (n*d)):=by
      intro d hd
      have:=No hd
      exact ⟨by rw [Anc,Ua d hd],Abq n d (by omega) (by omega)⟩
     have G:∀d:Nat,d<18446744073709551616->Om (Ae (n*d)) (Ae f)=some (Eg (n*d) f):=by
      intro d hd
      have h3:=No hd
      have h4:=Gz n d
      rw [Abo,Rn _ _ (by omega) (by omega)]
     simp only [e0,e1,cond_true,Dp rfl hj,y,Ad,Dh (show ([(x:Int)].length+(Ae R).length)*4<=_ by simp; omega),List.singleton_append,E,S]
     refine .inl (T6 (Ef (fun d=>∃e:Nat,d=e/\e<=d0) (fun d=>d.toNat) (fun d=>∃e:Nat,d=e/\e<=d0/\n*e<=f) ⟨d0,rfl,Nat.le_refl _⟩ ?_ ?_))
     .rintro d ⟨e,rfl,he⟩
      by_cases V:e=0
      .subst V
       exact .inr ⟨0,rfl,0,rfl,by omega,by simp⟩
      .obtain ⟨m1,m2⟩:=s e (by omega)
       simp only [Am (by omega:(e:Int)>0),cond_true,m1,m2,G e (by omega),Ad]
       by_cases hc:f<n*e
       .refine .inl ⟨((e-1:Nat):Int),?_,⟨e-1,rfl,by omega⟩,by simp; omega⟩
        rw [show Eg (n*e) f=1 by rw [Eg,if_neg (by omega),if_pos hc],show decide ((1:Int)>0)=true from rfl,cond_true,show Aw ((e:Int)-1)=((e-1:Nat):Int) by rw [Aw,C4] <;> omega]
       .refine .inr ⟨(e:Int),?_,e,rfl,he,by omega⟩
        rw [Ar (show ¬Eg (n*e) f>0 by rw [Eg,if_neg hc]; split <;> decide),cond_false]
     .rintro d ⟨e,rfl,he,M⟩
      obtain ⟨m1,m2⟩:=s e (by omega)
      simp only [m1,m2,Ad,Abp f (n*e) (by omega) M]
      refine Ef (fun (r,d)=>∃(c b:Nat),r=Ae c/\d=b/\n*b+c=f) (fun (r,_)=>(Ai r).toNat) (fun (r,d)=>∃(c b:Nat),r=Ae c/\d=b/\n*b+c=f/\c<n) ⟨f-n*e,e,rfl,rfl,by omega⟩ ?_ ?_
      .rintro ⟨r,d⟩ ⟨c,b,rfl,rfl,L⟩
       have a8:Bd c<=Bd f:=G4 (by omega)
       have U:b<1000000000:=by
        rcases Nat.lt_or_ge b 1000000000 with h | h
        .exact h
        .exfalso
         have:n*1000000000<=n*b:=Nat.mul_le_mul_left n h
         omega
       simp only [Abo,Rn c n (by omega) (by omega),Ad]
       by_cases hc:c<n
       .refine .inr ⟨(Ae c,(b:Int)),?_,c,b,rfl,rfl,L,hc⟩
        rw [Ar (show ¬Eg c n>=0 by rw [Eg,if_pos hc]; decide),cond_false]
       .refine .inl ⟨(Ae (c-n),((b+1:Nat):Int)),?_,⟨c-n,b+1,rfl,rfl,?_⟩,?_⟩
        .rw [Am (show Eg c n>=0 by rw [Eg,if_neg hc]; split <;> decide),cond_true,Abp c n (by omega) (by omega),Ad,show Aw ((b:Int)+1)=((b+1:Nat):Int) by rw [Aw,C4] <;> omega]
        .rw [Nat.mul_add]; omega
        .simp only [En]; omega
      .rintro ⟨r,d⟩ ⟨c,b,rfl,rfl,L,Z⟩
       have U:b<1000000000:=by
        rcases Nat.lt_or_ge b 1000000000 with h | h
        .exact h
        .exfalso
         have:n*1000000000<=n*b:=Nat.mul_le_mul_left n h
         omega
       have w1:B8 (b:Int)=b:=E5 (by omega) (by omega)
       have w8:Ac ((j:Int)-1)=(j:Int)-1:=by rw [Ac,Bs] <;> omega
       refine ⟨_,by simp only [Dp rfl D,Ad,w1,w8,Ff rfl],(Ae c,(j:Int)-1,q.set j (b:Int)),rfl,⟨j,c,rfl,rfl,by omega,Z,by simpa using u,g.set _ (by omega) (by omega),?_⟩,by simp⟩
       have d1:(q.set j (b:Int)).drop j=(b:Int)::q.drop (j+1):=by
        rw [List.drop_eq_getElem_cons (by simpa using D),List.drop_set_of_lt (by omega)]; simp
       rw [d1,List.drop_eq_getElem_cons hj,y]
       simp only [Ai]
       rw [<-hv]
       have:((n*b+c:Nat):Int)=((x+1000000000*R:Nat):Int):=by rw [L,a1]
       simp only [Int.natCast_add,Int.natCast_mul] at this
       grind
   .rintro ⟨r,q⟩ ⟨R,rfl,I,u,g,hv⟩
    dsimp only
    have ac:=Ge g.u32
    obtain ⟨Q,hQ⟩:∃Q:Nat,Ai q=Q:=⟨(Ai q).toNat,by omega⟩
    rw [hQ] at hv
    have z:Q*n+R=m:=by
     have:((Q*n+R:Nat):Int)=(m:Int):=by simp only [Int.natCast_add,Int.natCast_mul]; exact hv
     omega
    have hd:m / n=Q:=by rw [<-z,Nat.mul_comm,Nat.mul_add_div (by omega),Nat.div_eq_of_lt I]; rfl
    have N:m % n=R:=by rw [<-z,Nat.mul_comm,Nat.mul_add_mod,Nat.mod_eq_of_lt I]
    rw [Rp q (by omega),Ad,Ki g hQ,hd,N]
theorem Ayg (m n:Nat) (h:Bd m<137438953472) (g:Bd n<137438953472):Wc (Ae m) (Ae n)=some (Ae (Nat.gcd m n)):=by
 unfold Wc
 refine Ia (fun (a,b)=>∃x y:Nat,a=Ae x/\b=Ae y/\Bd x<137438953472/\Bd y<137438953472/\Nat.gcd x y=Nat.gcd m n) (fun (_,b)=>(Ai b).toNat)
  (fun r=>r=Ae (Nat.gcd m n)) ⟨m,n,rfl,rfl,h,g,rfl⟩ ?_ (by rintro e rfl; rfl)
 rintro ⟨a,b⟩ ⟨x,y,rfl,rfl,hx,hy,f⟩
 by_cases c:y=0
 .subst c
  refine .inr ⟨Ae x,by rw [E9]; rfl,?_⟩
  rw [<-f,Nat.gcd_zero_right]
 .have i:(Ae y).length≠0:=fun e=>Ib c (List.length_eq_zero_iff.1 e)
  have j:decide (((Ae y).length:Int)>0)=true:=Am (by omega)
  refine .inl ⟨(Ae y,Ae (x % y)),?_,⟨y,x % y,rfl,rfl,hy,by have:=G4 (Nat.mod_le x y); omega,?_⟩,?_⟩
  .simp only [j,cond_true,Af6 x y hx hy c,Ad]
  .rw [<-f,Nat.gcd_comm y,<-Nat.gcd_rec,Nat.gcd_comm]
  .simp only [En]
   have:=Nat.mod_lt x (by omega:y>0)
   omega
end Go.Ab
namespace Go.Ab
open Go
def O9 (b:Bool) (n d:Nat):Ak:=if d=0 then ⟨false,[],[1]⟩ else Bq b n d
theorem Af7 {n:Nat} (h:n≠0):(Ae n).length≠0:=fun e=>Ib h (List.length_eq_zero_iff.1 e)
theorem Ane (c:Bool) (a b:List Int) (ha:Lz a) (hb:Lz b) (q:a.length<137438953400) (l:b.length<137438953400):Ng c a b=some (O9 c (Ai a).toNat (Ai b).toNat):=by
 unfold Ng
 have h1:=Abk ha
 have h2:=Abk hb
 rw [Anb a ha (by omega),Ad,Anb b hb (by omega),Ad]
 generalize (Ai a).toNat=n at *
 generalize (Ai b).toNat=d at *
 by_cases g:n=0
 .subst g
  have:O9 c 0 d=⟨false,[],[1]⟩:=by unfold O9; split <;> simp [Bq]
  rw [this,E9]; rfl
 .have j:=Af7 g
  by_cases hd:d=0
  .subst hd
   simp only [Cp (by omega:((Ae n).length:Int)≠0),cond_false,E9,Ad]
   rfl
  .have k:=Af7 hd
   have f:Nat.gcd n d≠0:=by have:=Nat.gcd_pos_of_pos_left d (by omega:0<n); omega
   have u:Bd (Nat.gcd n d)<=Bd n:=G4 (Nat.gcd_le_left d (by omega:0<n))
   simp only [Cp (by omega:((Ae n).length:Int)≠0),cond_false,Cp (by omega:((Ae d).length:Int)≠0),Ad,Ayg n d (by omega) (by omega)]
   rw [O9,if_neg hd,Bq,if_neg g]
   have key:(bif (((Ae (Nat.gcd n d)).length:Int) != (1:Int)) then some true else ((Ag (Ae (Nat.gcd n d)) 0).bind fun i=>some (i != (1:Int))))=some (decide (Nat.gcd n d≠1)):=by
    have h3:=Af1 (Nat.gcd n d)
    unfold Qz at h3
    by_cases s:(Ae (Nat.gcd n d)).length=1
    .rw [Dj (by omega:((Ae (Nat.gcd n d)).length:Int)=1),cond_true] at h3
     rw [Fp (by omega:((Ae (Nat.gcd n d)).length:Int)=1),cond_false]
     cases hi:Ag (Ae (Nat.gcd n d)) 0 with
     | none=>rw [hi] at h3; cases h3
     | some v=>
      rw [hi] at h3
      simp only [Ad] at h3 ⊢
      have h3:=Option.some.inj h3
      congr 1
      rw [bne,h3]; simp
    .rw [Cp (by omega:((Ae (Nat.gcd n d)).length:Int)≠1),cond_false] at h3
     rw [Em (by omega:((Ae (Nat.gcd n d)).length:Int)≠1),cond_true]
     have h3:=Option.some.inj h3
     have:Nat.gcd n d≠1:=by simpa using h3.symm
     rw [Am this]
   rw [key,Ad]
   by_cases h:Nat.gcd n d=1
   .rw [Ar (by simpa using h),cond_false,h]; simp
   .rw [Am h,cond_true,Af6 n _ (by omega) (by omega) f,Ad,Af6 d _ (by omega) (by omega) f,Ad]
theorem Ayh (a:Ak):O9 a.Neg (Ai a.Num).toNat (Ai a.Den).toNat=Bq (sv a) (nv a) (dv a):=by
 unfold O9 sv nv dv
 by_cases b:(Ai a.Num).toNat=0
 .simp [b,Bq]
 .by_cases hd:(Ai a.Den).toNat=0
  .simp [hd,Bq]
  .simp [b,hd]
theorem Af8 (a:Ak) (k:Nat) (h:RB k a) (hk:k<137438953400):Qh a=some (Bq (sv a) (nv a) (dv a)):=by
 unfold Qh
 have:=h.nl
 have:=h.dl
 rw [Ane _ _ _ h.num h.den (by omega) (by omega),Ad,Ayh]
theorem Af9 (s:Bool) (n d:Nat) (hd:d≠0):(Bq s n d).Num=Ae (nv (Bq s n d))/\(Bq s n d).Den=Ae (dv (Bq s n d))/\(Bq s n d).Neg=sv (Bq s n d):=by
 obtain ⟨h1,h2,h3,c⟩:=Xd s n d hd
 rw [h1,h2]
 by_cases h0:n=0
 .subst h0
  rw [c rfl,Xc]
  have b:d / Nat.gcd 0 d=1:=by rw [Nat.gcd_zero_left]; exact Nat.div_self (by omega)
  rw [b,Nat.zero_div,E9,Xb]; exact ⟨rfl,rfl,rfl⟩
 .rw [h3 h0]; simp [Bq,h0]
theorem Abs (a:Ak):∃g:Nat,g≠0/\nv a=g*nv (Bq (sv a) (nv a) (dv a))/\dv a=g*dv (Bq (sv a) (nv a) (dv a))/\sv (Bq (sv a) (nv a) (dv a))=sv a:=by
 obtain ⟨h1,h2,h3,b⟩:=Xd (sv a) (nv a) (dv a) (E7 a)
 have hd:=E7 a
 have c:0<Nat.gcd (nv a) (dv a):=Nat.gcd_pos_of_pos_right _ (by omega)
 refine ⟨Nat.gcd (nv a) (dv a),by omega,?_,?_,?_⟩
 .rw [h1]; exact (Nat.mul_div_cancel' (Nat.gcd_dvd_left _ _)).symm
 .rw [h2]; exact (Nat.mul_div_cancel' (Nat.gcd_dvd_right _ _)).symm
 .by_cases h0:nv a=0
  .rw [b h0]
   unfold nv at h0
   unfold sv
   split at h0
   .rename_i hc; rw [if_pos hc]
   .omega
  .exact h3 h0
theorem Ayi (s:Bool) (n d:Nat) (h:d≠0):O9 s n d=Bq s n d:=by rw [O9,if_neg h]
theorem Aga (b:Bool) (n d:Nat) (f:Bd n<137438953400) (hd:Bd d<137438953400) (c:d≠0):Ng b (Ae n) (Ae d)=some (Bq b n d):=by
 unfold Bd at f hd
 rw [Ane b _ _ (Ec n).u32 (Ec d).u32 f hd,En,En,Int.toNat_natCast,Int.toNat_natCast,Ayi _ _ _ c]
theorem Anf {k:Nat} {a:Ak} (h:RB k a):RB (k+1) (Bq (sv a) (nv a) (dv a)):=K9 _ _ _ _ h.nv h.dv (by omega)
theorem Ang {k:Nat} {a:Ak} (h:RB k a):Bd (nv (Bq (sv a) (nv a) (dv a)))<=k+1/\Bd (dv (Bq (sv a) (nv a) (dv a)))<=k+1:=by
 obtain ⟨g,b,h1,h2,_⟩:=Abs a
 have a1:=h.nv
 have a2:=h.dv
 refine ⟨Nat.le_trans (G4 ?_) a1,Nat.le_trans (G4 ?_) a2⟩
 .exact Nat.le_trans (Nat.le_mul_of_pos_left _ (by omega)) (Nat.le_of_eq h1.symm)
 .exact Nat.le_trans (Nat.le_mul_of_pos_left _ (by omega)) (Nat.le_of_eq h2.symm)
theorem Ayj (l:Bool) (c j:Nat) (k:Bool) (b i g h:Nat) (x:g≠0) (hh:h≠0):Ie l (g*c) (g*j) k (h*b) (h*i)=g*h*Ie l c j k b i/\Jk l (g*c) (g*j) k (h*b) (h*i)=Jk l c j k b i:=by
 have u:g*c*(h*i)=g*h*(c*i):=by grind
 have s:h*b*(g*j)=g*h*(b*j):=by grind
 have hc:(g*h*(b*j)<=g*h*(c*i))↔(b*j<=c*i):=Nat.mul_le_mul_left_iff (Nat.mul_pos (by omega) (by omega))
 unfold Ie Jk
 rw [u,s]
 by_cases q:l=k
 .simp only [if_pos q]
  exact ⟨by rw [Nat.mul_add],trivial⟩
 .simp only [if_neg q]
  by_cases f:b*j<=c*i
  .simp only [if_pos f,if_pos (hc.2 f)]
   exact ⟨by rw [Nat.mul_sub],trivial⟩
  .simp only [if_neg f,if_neg (fun h=>f (hc.1 h))]
   exact ⟨by rw [Nat.mul_sub],trivial⟩
theorem Ayk (a b:Ak) (j k:Nat) (ha:RB j a) (hb:RB k b) (hj:j<34359738368) (hk:k<34359738368) :
  Vz a b=some (Bq (Jk (sv a) (nv a) (dv a) (sv b) (nv b) (dv b)) (Ie (sv a) (nv a) (dv a) (sv b) (nv b) (dv b)) (dv a*dv b)):=by
 unfold Vz
 rw [Af8 a j ha (by omega),Ad,Af8 b k hb (by omega),Ad]
 obtain ⟨g,l,a1,a2,a3⟩:=Abs a
 obtain ⟨h,hh,b1,b2,A⟩:=Abs b
 obtain ⟨f1,f2,f3⟩:=Af9 (sv a) (nv a) (dv a) (E7 a)
 obtain ⟨y,x,u⟩:=Af9 (sv b) (nv b) (dv b) (E7 b)
 obtain ⟨G,E⟩:=Ang ha
 obtain ⟨D,B⟩:=Ang hb
 rw [f1,f2,f3,y,x,u,a3,A]
 generalize hc:Bq (sv a) (nv a) (dv a)=c at *
 generalize hd:Bq (sv b) (nv b) (dv b)=d at *
 have m1:=Gz (nv c) (dv d)
 have m2:=Gz (nv d) (dv c)
 have m3:=Gz (dv c) (dv d)
 have m4:=T8 (nv c*dv d) (nv d*dv c)
 have m5:=G4 (Nat.sub_le (nv c*dv d) (nv d*dv c))
 have m6:=G4 (Nat.sub_le (nv d*dv c) (nv c*dv d))
 have z:dv c*dv d≠0:=Nat.mul_ne_zero (E7 c) (E7 d)
 obtain ⟨s,q⟩:=Ayj (sv a) (nv c) (dv c) (sv b) (nv d) (dv d) g h l hh
 rw [a1,a2,b1,b2,s,q,show g*dv c*(h*dv d)=g*h*(dv c*dv d) by grind,Ro _ _ _ _ (Nat.mul_ne_zero l hh)]
 rw [Abq _ _ (by omega) (by omega),Ad,Abq _ _ (by omega) (by omega),Ad,Abq _ _ (by omega) (by omega),Ad]
 unfold Jk Ie
 by_cases i:sv a=sv b
 .have e:(sv a==sv b)=true:=by rw [i]; exact beq_self_eq_true _
  rw [e,cond_true,Ax7 _ _ (by omega) (by omega),Ad,Aga _ _ _ (by omega) (by omega) z,Ad,if_pos i,if_pos i]
 .have e:(sv a==sv b)=false:=by simpa using i
  rw [e,cond_false,Abo,Rn _ _ (by omega) (by omega),Ad,if_neg i,if_neg i]
  by_cases f:nv d*dv c<=nv c*dv d
  .rw [Am (show Eg (nv c*dv d) (nv d*dv c)>=0 by rw [Eg,if_neg (by omega)]; split <;> decide),cond_true,Abp _ _ (by omega) f,Ad,Aga _ _ _ (by omega) (by omega) z,Ad,if_pos f,if_pos f]
  .rw [Ar (show ¬Eg (nv c*dv d) (nv d*dv c)>=0 by rw [Eg,if_pos (by omega)]; decide),cond_false,Abp _ _ (by omega) (by omega),Ad,Aga _ _ _ (by omega) (by omega) z,Ad,if_neg f,if_neg f]
theorem Ayl (a:Ak) (k:Nat) (h:RB k a) (hk:k<137438953400):M9 a=some (Ic (sv a) (nv a)):=by
 unfold M9
 rw [Af8 a k h hk,Ad]
 obtain ⟨g,b,a1,a2,a3⟩:=Abs a
 obtain ⟨f1,f2,f3⟩:=Af9 (sv a) (nv a) (dv a) (E7 a)
 rw [f1,f3,a3,Ic]
 by_cases h0:nv a=0
 .have:nv (Bq (sv a) (nv a) (dv a))=0:=by
   rw [h0] at a1
   rcases Nat.mul_eq_zero.1 a1.symm with h | h
   .exact (b h).elim
   .rw [h0]; exact h
  rw [this,E9,if_pos h0]; rfl
 .have:nv (Bq (sv a) (nv a) (dv a))≠0:=by
   intro e; rw [e,Nat.mul_zero] at a1; exact h0 a1
  have:=Af7 this
  rw [Cp (by omega),cond_false,if_neg h0]
  cases sv a <;> rfl
end Go.Ab
namespace Go.Ab
open Go
theorem Abt (s:Bool) (n d:Nat) (hd:d≠0):∃g:Nat,g≠0/\n=g*nv (Bq s n d)/\d=g*dv (Bq s n d)/\(n≠0->sv (Bq s n d)=s)/\(n=0->sv (Bq s n d)=false):=by
 obtain ⟨h1,h2,h3,b⟩:=Xd s n d hd
 have c:0<Nat.gcd n d:=Nat.gcd_pos_of_pos_right _ (by omega)
 exact ⟨Nat.gcd n d,by omega,by rw [h1]; exact (Nat.mul_div_cancel' (Nat.gcd_dvd_left _ _)).symm,by rw [h2]; exact (Nat.mul_div_cancel' (Nat.gcd_dvd_right _ _)).symm,h3,b⟩
theorem Aym (s t:Bool) (n d m e:Nat) (hd:d≠0) (l:e≠0):Bq (sv (Bq s n d) != sv (Bq t m e)) (nv (Bq s n d)*nv (Bq t m e)) (dv (Bq s n d)*dv (Bq t m e))=Bq (s != t) (n*m) (d*e):=by
 obtain ⟨g,k,a1,a2,a3,_⟩:=Abt s n d hd
 obtain ⟨h,hh,b1,b2,u,_⟩:=Abt t m e l
 have q:Bq (s != t) (n*m) (d*e)=Bq (sv (Bq s n d) != sv (Bq t m e)) (n*m) (d*e):=by
  apply Am9
  intro b
  have i:n≠0:=fun e=>b (by rw [e]; simp)
  have j:m≠0:=fun e=>b (by rw [e]; simp)
  rw [a3 i,u j]
 rw [q]
 generalize Bq s n d=c at *
 generalize Bq t m e=f at *
 rw [a1,a2,b1,b2,show g*nv c*(h*nv f)=g*h*(nv c*nv f) by grind,show g*dv c*(h*dv f)=g*h*(dv c*dv f) by grind,Ro _ _ _ _ (Nat.mul_ne_zero k hh)]
def F1 (n:Nat):Nat->Nat
 | 0=>1
 | k+1=>F1 n k*(n-k)
def fct:Nat->Nat
 | 0=>1
 | k+1=>fct k*(k+1)
theorem Ud:∀k,fct k≠0
 | 0=>by decide
 | k+1=>Nat.mul_ne_zero (Ud k) (by omega)
theorem Ayn {n k:Nat} (h:n<k):F1 n k=0:=by
 induction k with
 | zero=>omega
 | succ k ih=>
  simp only [F1]
  rcases Nat.lt_or_ge n k with h' | h'
  .rw [ih h']; simp
  .have:n-k=0:=by omega
   rw [this]; simp
theorem Ayo (n k:Nat) (b:n<1000000000):Bd (F1 n k)<=k+1:=by
 induction k with
 | zero=>simp [F1,L1]
 | succ k ih=>
  have h1:=Gz (F1 n k) (n-k)
  have h2:Bd (n-k)<=1:=Ji (by simp; omega)
  simp only [F1]; omega
theorem Ayp (k:Nat) (hk:k<1000000000):Bd (fct k)<=k+1:=by
 induction k with
 | zero=>simp [fct,L1]
 | succ k ih=>
  have h1:=Gz (fct k) (k+1)
  have h2:Bd (k+1)<=1:=Ji (by simp; omega)
  simp only [fct]
  have:=ih (by omega)
  omega
theorem Anh {n:Nat} (h:n<1000000000):Bd n<=1:=Ji (by simpa using h)
theorem Ayq (n k:Nat) (b:n<1000000000) (hk:k<=64):RB (k+1) (Bq false (F1 n k) (fct k)) :=
 K9 _ _ _ _ (Ayo n k b) (Ayp k (by omega)) (by omega)
theorem Ani (a:Ak):Ak.mk a.Neg a.Num a.Den=a:=by cases a; rfl
theorem Anj (n k:Nat) (A:n<1000000000) (hk:k<=64):Q3 (n:Int) (k:Int)=some (Bq false (F1 n k) (fct k)):=by
 unfold Q3
 have B:Dn 1=some (Bq false (F1 n 0) (fct 0)):=Ub 1 (by decide) (by decide)
 rw [B,Ad]
 refine Ia (fun (i,s,b,c)=>∃q:Nat,i=q/\q<=k/\q<=n/\Ak.mk s b c=Bq false (F1 n q) (fct q)) (fun (i,_,_,_)=>k-i.toNat)
  (fun e=>match e with | .inl r=>r=Bq false (F1 n k) (fct k) | .inr (s,b,c)=>Ak.mk s b c=Bq false (F1 n k) (fct k)) ⟨0,rfl,by omega,by omega,Ani _⟩ ?_ ?_
 .rintro ⟨i,s,b,c⟩ ⟨q,rfl,hq,z,ha⟩
  rcases Nat.lt_or_ge q k with h | h
  .simp only [Am (by omega:(q:Int)<(k:Int)),cond_true]
   by_cases x:n=q
   .subst x
    refine .inr ⟨.inl (Bq false 0 1),?_,?_⟩
    .rw [Dj rfl,cond_true,Ub 0 (by decide) (by decide)]; rfl
    .show Bq false 0 1=_
     rw [Ayn h,Xc,Xc]
   .have u:Ac ((n:Int)-(q:Int))=((n-q:Nat):Int):=by rw [Ac,Bs] <;> omega
    have l:Ac ((q:Int)+1)=((q+1:Nat):Int):=Kj h (by omega)
    have y:Nf ((n-q:Nat):Int) ((q+1:Nat):Int)=some (Bq false (n-q) (q+1)):=by
     rw [Am8 _ _ (by omega) (by omega) (by omega) (by omega) (by omega),Ar (by omega:¬((n-q:Nat):Int)<0),Ar (by omega:¬((q+1:Nat):Int)<0)]; rfl
    have g:RB 1 (Bq false (n-q) (q+1)):=K9 _ _ _ _ (Anh (by omega)) (Anh (by omega)) (by omega)
    have j:=Abm _ _ _ _ (Ayq n q A (by omega)) g (by omega) (by omega)
    rw [Aym false false (F1 n q) (fct q) (n-q) (q+1) (Ud q) (by omega)] at j
    refine .inl ⟨(((q+1:Nat):Int),(Bq false (F1 n (q+1)) (fct (q+1))).Neg,(Bq false (F1 n (q+1)) (fct (q+1))).Num,(Bq false (F1 n (q+1)) (fct (q+1))).Den),?_,⟨q+1,rfl,by omega,by omega,Ani _⟩,by simp; omega⟩
    rw [Cp (by omega),cond_false,u,l,y,Ad,ha,j,Ad]; rfl
  .have:q=k:=by omega
   subst this
   refine .inr ⟨.inr (s,b,c),by simp,ha⟩
 .rintro (e | ⟨s,b,c⟩) f
  .simp only at f ⊢; rw [f]
  .simp only at f ⊢; rw [f]
end Go.Ab
namespace Go.Ab
open Go
mutual
def Bx:Ah->Nat
 | ⟨_,_,l⟩=>1+C2 l
def C2:List Ah->Nat
 | []=>0
 | x::xs=>Bx x+C2 xs
end
theorem Jl (t:Ah):Bx t=1+C2 t.Args:=by cases t; simp only [Bx]
theorem Ue (t:Ah):1<=Bx t:=by rw [Jl]; omega
theorem J1 {l:List Ah} {a:Ah} (h:a∈l):Bx a<=C2 l:=by
 induction l with
 | nil=>cases h
 | cons x xs ih=>
  simp only [C2]
  rcases List.mem_cons.1 h with rfl | h
  .omega
  .have:=ih h; omega
theorem L2 (l:List Ah):l.length<=C2 l:=by
 induction l with
 | nil=>simp
 | cons x xs ih=>simp only [C2,List.length_cons]; have:=Ue x; omega
theorem Abu (l m:List Ah):C2 (l++m)=C2 l+C2 m:=by
 induction l with
 | nil=>simp [C2]
 | cons x xs ih=>simp only [List.cons_append,C2,ih]; omega
def Jm (data:List Ap) (vars k n:Int) (len:Nat):Bool :=
 if k=1\/k=2\/k=3 then n==0&&len==0
 else if k=4 then decide (0<=n)&&decide (n<vars)&&len==0
 else if k=5 then decide (0<=n)&&(match data[n.toNat]? with | some d=>(len:Int)==d.Vars | none=>false)
 else if k=6 then n==0&&decide (2<=len)&&decide (len<=6)
 else if k=7\/k=8 then n==0&&len==1
 else if k=9 then n==0&&decide (1<=len)&&decide (len<=7)
 else false
mutual
def Du (data:List Ap) (vars:Int):Ah->Bool
 | ⟨k,n,l⟩=>Jm data vars k n l.length&&Ep data vars l
def Ep (data:List Ap) (vars:Int):List Ah->Bool
 | []=>true
 | x::xs=>Du data vars x&&Ep data vars xs
end
theorem Xf (data:List Ap) (vars:Int) (t:Ah):Du data vars t=(Jm data vars t.Kind t.Num t.Args.length&&Ep data vars t.Args):=by cases t; simp only [Du]
theorem Ank {α:Type} (l:List α) (n:Nat):((l.length:Int)==(n:Int))=(l.length==n):=by
 by_cases h:l.length=n
 .subst h; simp
 .rw [Cp (by omega)]; simp [h]
theorem Ayr (k:Nat) (t:Ah) (data:List Ap) (vars left:Int) (h1:1<=left) (h2:left<=1000) :
  Lu (k+1) t ⟨data,vars,left⟩=bif Jm data vars t.Kind t.Num t.Args.length then ((T0 k t.Args ⟨data,vars,left-1⟩).bind fun v12=>some ((!v12.1),v12.2)) else some (false,⟨data,vars,left-1⟩):=by
 have hw:Ac (left-1)=left-1:=Bs (by omega) (by omega)
 have b:¬left-1<0:=by omega
 rw [Lu]
 simp only [hw,Ar b,cond_false]
 generalize g:(T0 k t.Args ⟨data,vars,left-1⟩).bind (fun v12=>some ((!v12.1),v12.2))=X
 generalize f:(some (false,⟨data,vars,left-1⟩):Option (Bool×F0))=Y
 unfold Jm Ag
 generalize t.Args.length=len
 generalize t.Kind=c
 generalize t.Num=n
 cases hd:data[n.toNat]? <;> simp only [Bool.cond_eq_ite,Axo,Ad,Option.bind_none,hd] <;> grind
theorem Agb {l:List Ah} {j:Nat} (h:j<l.length):C2 (l.take (j+1))=C2 (l.take j)+Bx l[j]:=by
 rw [List.take_succ_eq_append_getElem h,Abu]; simp [C2]
theorem Anl (data:List Ap) (vars:Int) (l m:List Ah):Ep data vars (l++m)=(Ep data vars l&&Ep data vars m):=by
 induction l with
 | nil=>simp [Ep]
 | cons x xs ih=>simp only [List.cons_append,Ep,ih,Bool.and_assoc]
theorem Anm (data:List Ap) (vars:Int) {l:List Ah} {j:Nat} (h:j<l.length):Ep data vars (l.take (j+1))=(Ep data vars (l.take j)&&Du data vars l[j]):=by
 rw [List.take_succ_eq_append_getElem h,Anl]; simp [Ep]
theorem Agc (l:List Ah) (j:Nat):C2 (l.take j)<=C2 l:=by
 have:=Abu (l.take j) (l.drop j)
 rw [List.take_append_drop] at this; omega
theorem Ays (data:List Ap) (vars:Int) (l:List Ah) (j:Nat) (h:Ep data vars l=true):Ep data vars (l.take j)=true:=by
 have:=Anl data vars (l.take j) (l.drop j)
 rw [List.take_append_drop,h] at this
 have:=this.symm
 simp only [Cu] at this
 exact this.1
theorem Ayt (data:List Ap) (vars:Int) (k:Nat) (l:List Ah) (c:Nat) (G:l.length<1099511627776)
  (ih:∀(a:Ah),a∈l->∀f:Nat,f<=c->∃g:Int,Lu k a ⟨data,vars,f⟩=some (Du data vars a&&decide (Bx a<=f),⟨data,vars,g⟩)/\((Du data vars a&&decide (Bx a<=f))=true->g=(f:Int)-Bx a)) :
  ∃p:Int×Int,W4 (k+2) l ⟨data,vars,c⟩=some (p.1,⟨data,vars,p.2⟩)/\((Ep data vars l&&decide (C2 l<=c))=true->p.1 = -1/\p.2=(c:Int)-C2 l)/\((Ep data vars l&&decide (C2 l<=c))=false->0<=p.1):=by
 rw [W4]
 refine Aba (fun p:Int×Int=>(p.1,F0.mk data vars p.2)) (Ef
  (fun (v3,v4,v5,s)=>∃j:Nat,v3=j/\j<=l.length/\v4=data/\v5=vars/\Ep data vars (l.take j)=true/\C2 (l.take j)<=c/\s=(c:Int)-C2 (l.take j))
  (fun (v3,_,_,_)=>l.length-v3.toNat)
  (fun z=>match z with | .inl (i,b)=>0<=i/\(∃g,b=⟨data,vars,g⟩)/\(Ep data vars l&&decide (C2 l<=c))=false | .inr (v4,v5,s)=>v4=data/\v5=vars/\(Ep data vars l&&decide (C2 l<=c))=true/\s=(c:Int)-C2 l)
  ⟨0,rfl,by omega,rfl,rfl,rfl,by simp [C2],by simp [C2]⟩ ?_ ?_)
 .rintro ⟨v3,v4,v5,s⟩ ⟨j,rfl,hj,rfl,rfl,x,A,rfl⟩
  rcases Nat.lt_or_ge j l.length with h | h
  .obtain ⟨u,y⟩:∃u:Nat,(c:Int)-C2 (l.take j)=u/\u<=c:=⟨c-C2 (l.take j),by omega,by omega⟩
   obtain ⟨g,E,D⟩:=ih l[j] (List.getElem_mem h) u y.2
   simp only [Am (by omega:(j:Int)<(l.length:Int)),cond_true,Dp rfl h,Ad,Wd,y.1,E]
   cases hb:(Du v4 v5 l[j]&&decide (Bx l[j]<=u)) with
   | true=>
    have I:=D hb
    simp only [Cu,decide_eq_true_eq] at hb
    refine .inl ⟨(((j+1:Nat):Int),v4,v5,g),?_,⟨j+1,rfl,by omega,rfl,rfl,?_,?_,?_⟩,by simp; omega⟩
    .simp only [Dt,cond_false]
     rw [show Ac ((j:Int)+1)=((j+1:Nat):Int) by rw [Ac,Bs] <;> omega]
    .rw [Anm _ _ h,x,hb.1]; rfl
    .rw [Agb h]; omega
    .show g=_
     rw [Agb h]; omega
   | false=>
    refine .inr ⟨.inl ((j:Int),⟨v4,v5,g⟩),by simp,by omega,⟨g,rfl⟩,?_⟩
    cases q:(Ep v4 v5 l&&decide (C2 l<=c)) with
    | false=>rfl
    | true=>
     exfalso
     simp only [Cu,decide_eq_true_eq] at q
     have a1:=Ays v4 v5 l (j+1) q.1
     rw [Anm _ _ h] at a1
     simp only [Cu] at a1
     have a2:=Agc l (j+1)
     rw [Agb h] at a2
     rw [a1.2,Bool.true_and,decide_eq_false_iff_not] at hb
     omega
  .have:j=l.length:=by omega
   subst this
   rw [List.take_length] at *
   refine .inr ⟨.inr (v4,v5,(c:Int)-C2 l),by simp,rfl,rfl,by simp [x,A],rfl⟩
 .rintro (⟨i,b⟩ | ⟨v4,v5,s⟩) B
  .obtain ⟨a1,⟨g,rfl⟩,a3⟩:=B
   exact ⟨_,rfl,(i,g),rfl,(fun h=>by rw [a3] at h; cases h),fun _=>a1⟩
  .obtain ⟨rfl,rfl,a3,rfl⟩:=B
   exact ⟨_,rfl,(-1,_),rfl,fun _=>⟨rfl,rfl⟩,fun h=>by rw [a3] at h; cases h⟩
theorem Ayu (data:List Ap) (vars:Int):∀(left:Nat) (t:Ah) (k:Nat),left<=200->4*left+4<=k->Bx t<1099511627776 ->
  ∃f:Int,Lu k t ⟨data,vars,left⟩=some (Du data vars t&&decide (Bx t<=left),⟨data,vars,f⟩)/\((Du data vars t&&decide (Bx t<=left))=true->f=(left:Int)-Bx t):=by
 intro left
 induction left using Nat.strongRecOn with
 | _ left s=>
  intro t k B hk ht
  have hp:=Ue t
  obtain ⟨g,rfl⟩:∃g,k=g+1:=⟨k-1,by omega⟩
  cases left with
  | zero=>
   refine ⟨-1,?_,fun h=>by simp at h; omega⟩
   rw [Lu]
   have hd:decide (Bx t<=0)=false:=Ar (by omega)
   rw [hd,Bool.and_false]
   rfl
  | succ b=>
   rw [Ayr g t data vars ((b+1:Nat):Int) (by omega) (by omega)]
   have z:((b+1:Nat):Int)-1=(b:Int):=by omega
   rw [z,Xf]
   cases A:Jm data vars t.Kind t.Num t.Args.length with
   | false=>exact ⟨b,by simp,fun h=>by simp at h⟩
   | true=>
    obtain ⟨q,rfl⟩:∃q,g=q+3:=⟨g-3,by omega⟩
    have j:=Jl t
    have x:=L2 t.Args
    obtain ⟨⟨i,f⟩,h1,h2,h3⟩:=Ayt data vars q t.Args b (by omega) (fun a ha c y=>by
     have:=J1 ha
     exact s c (by omega) a q (by omega) (by omega) (by omega))
    have l:decide (Bx t<=b+1)=decide (C2 t.Args<=b):=by
     rw [j]; congr 1; simp only [eq_iff_iff]; omega
    simp only [cond_true,T0,h1,Ad,Bool.true_and,l]
    refine ⟨f,?_,fun h=>?_⟩
    .cases hb:(Ep data vars t.Args&&decide (C2 t.Args<=b)) with
     | true=>
      have u:i = -1:=(h2 hb).1
      rw [Ar (by omega:¬i>=0)]; rfl
     | false=>
      have u:0<=i:=h3 hb
      rw [Am (by omega:i>=0)]; rfl
    .have u:f=(b:Int)-C2 t.Args:=(h2 h).2
     rw [u,j]; omega
theorem Rq (data:List Ap) (t:Ah) (vars:Int) (ht:Bx t<1099511627776):Mk data t vars=some (Du data vars t&&decide (Bx t<=200)):=by
 unfold Mk
 obtain ⟨b,h1,_⟩:=Ayu data vars 200 t 4000000 (by decide) (by decide) ht
 have h1:Lu 4000000 t ⟨data,vars,200⟩=_:=h1
 rw [h1]; rfl
end Go.Ab
namespace Go.Ab
open Go
def Pa (a:Ah) (i:Int):Bool:=a.Kind==4&&a.Num==i&&a.Args.length==0
def Ano (l:List Ah):Bool:=l.zipIdx.all fun q=>Pa q.1 q.2
def It (t:Ah) (d vars:Int):Bool:=t.Kind==5&&t.Num==d&&(t.Args.length:Int)==vars&&Ano t.Args
def Dq (data:List Ap) (d c:Int):List Bool :=
 match Ag data d with
 | none=>[]
 | some x=>match Ag x.Cons c with
  | none=>[]
  | some y=>y.Args.map fun t=>It t d x.Vars
theorem F5 {α:Type} {l:List α} {i:Int} {x:α} (h:Ag l i=some x):0<=i/\i<l.length/\l[i.toNat]? = some x/\x∈l:=by
 unfold Ag at h
 split at h
 .have h1:i.toNat<l.length:=Eo h
  exact ⟨by assumption,by omega,h,B7 h⟩
 .cases h
theorem Xg {α:Type} {l:List α} {i:Int} (h:Ag l i=none):i<0\/(l.length:Int)<=i:=by
 unfold Ag at h
 split at h
 .rw [List.getElem?_eq_none_iff] at h
  right; omega
 .left; omega
theorem Ayv {R:Type} (data:List Ap) (d c:Int) (F:Ap->Rg->Option R) (z:R) (X:Option R)
  (f:X=((bif (decide (d<(0:Int))) then some true else bif (decide (d>=(data.length:Int))) then some true else bif (decide (c<(0:Int))) then some true else
   (Ag data d).bind fun b=>some (decide (c>=(b.Cons.length:Int))):Option Bool).bind fun v2=>bif v2 then some z else (Ag data d).bind fun v3=>(Ag v3.Cons c).bind fun v4=>F v3 v4)) :
  X=match Ag data d with
   | none=>some z
   | some x=>match Ag x.Cons c with
    | none=>some z
    | some y=>F x y:=by
 subst f
 cases hx:Ag data d with
 | none=>
  rcases Xg hx with h | h
  .simp only [Am h,cond_true,Ad]
  .by_cases h':d<0
   .simp only [Am h',cond_true,Ad]
   .simp only [Ar h',Am (show d>=(data.length:Int) from h),cond_true,cond_false,Ad]
 | some x=>
  obtain ⟨a1,a2,_,_⟩:=F5 hx
  simp only [Ar (by omega:¬d<0),Ar (by omega:¬d>=(data.length:Int)),cond_false,Ad]
  cases hy:Ag x.Cons c with
  | none=>
   rcases Xg hy with h | h
   .simp only [Am h,cond_true,Ad]
   .by_cases h':c<0
    .simp only [Am h',cond_true,Ad]
    .simp only [Ar h',Am (show c>=(x.Cons.length:Int) from h),cond_true,cond_false,Ad]
  | some y=>
   obtain ⟨b1,b2,_,_⟩:=F5 hy
   simp only [Ar (by omega:¬c<0),Ar (by omega:¬c>=(x.Cons.length:Int)),cond_false,Ad]
def Ayw (l:List Ah):Prop:=l.length<=4194304/\∀a∈l,a.Args.length<=4194304
def Mx (data:List Ap):Prop:=∀x∈data,∀y∈x.Cons,Ayw y.Args
theorem Xh {α:Type} (l m:List α) (y x:α) (i:Int) (n:Nat) (h:i=n) (b:n=l.length):Ca (l++y::m) i x=l++x::m:=by
 rw [Ff h]; subst b; simp
theorem Xi {α:Type} (l m:List α) (y:α) (i:Int) (n:Nat) (h:i=n) (b:n=l.length):Ag (l++y::m) i=some y:=by
 rw [Bw h]; subst b; simp
theorem Ayx (l:List Ah) (k f:List Bool) (i:Int) (n:Nat) (b:Bool) (h:i=n) (s:n=k.length) (A:l.length<1099511627776) {R:Type} {J:Int×List Bool->Option R} {r:R}
  (z:J ((l.length:Int),k++(b&&Ano l)::f)=some r) :
  (Al (S:=(Int×(List Bool))) (E:=(Int×(List Bool))) (fun (c,g)=>
   bif (decide (c<(l.length:Int))) then (
   (Ag l c).bind fun v44=>
   bif (v44.Kind != (4:Int)) then (
   (Ag g i).bind fun v46=>
   some (.inl ((Ac (c+1)),(Ca g i false)))
   )
   else (
   bif (v44.Num != c) then (
   (Ag g i).bind fun y=>
   some (.inl ((Ac (c+1)),(Ca g i false)))
   )
   else (
   bif (decide ((v44.Args.length:Int)>(0:Int))) then (
   (Ag g i).bind fun u=>
   some (.inl ((Ac (c+1)),(Ca g i false)))
   )
   else (
   some (.inl ((Ac (c+1)),g))
   )
   )
   )
   )
   else (
   some (.inr (c,g))
   )
    ) (0,k++b::f)).bind J=some r:=by
 refine Gf l (fun j=>((j:Int),k++(b&&(l.take j).zipIdx.all (fun q=>Pa q.1 q.2))::f)) (by simp) (by omega) ?_ ?_
 .intro j x hj hx h1 h2 h3
  have e:(l.take (j+1)).zipIdx.all (fun q=>Pa q.1 q.2)=((l.take j).zipIdx.all (fun q=>Pa q.1 q.2)&&Pa x j):=by
   rw [C5 hx,List.zipIdx_append,List.all_append]; simp [Nat.min_eq_left (Nat.le_of_lt hj)]
  simp only [h1,h2,h3,cond_true,Ad,Xi k f _ i n h s,Xh k f _ _ i n h s,e]
  unfold Pa
  by_cases g1:x.Kind=4
  .by_cases g2:x.Num=j
   .by_cases g3:x.Args.length=0
    .rw [Ar (by omega)]; simp [g1,g2,g3]
    .rw [Am (by omega)]
     have:(x.Args.length==0)=false:=by simpa using g3
     simp [g1,g2,this]
   .simp [g1,g2,Em g2]
  .simp [g1,Em g1]
 .intro h1
  refine ⟨_,by simp only [h1]; rfl,?_⟩
  rw [List.take_length]
  exact z
theorem Xj (data:List Ap) (d c:Int) (hd:Mx data):Nn data d c=some (Dq data d c):=by
 unfold Nn
 rw [Ayv data d c (fun v3 v4=>_) [] _ rfl]
 unfold Dq
 cases hx:Ag data d with
 | none=>rfl
 | some x=>
  cases hy:Ag x.Cons c with
  | none=>simp only [hy]
  | some y=>
   simp only [hy]
   have f:=hd x (F5 hx).2.2.2 y (F5 hy).2.2.2
   have g:=f.1
   rw [I4 (n:=y.Args.length) (c:=y.Args.length) rfl rfl (by omega) (by omega) (by omega),Ad]
   refine Gf y.Args (fun j=>((j:Int),((y.Args.take j).map fun t=>It t d x.Vars)++List.replicate (y.Args.length-j) false)) rfl (by omega) ?_ ?_
   .intro j t hj ht h1 h2 h3
    obtain ⟨m,h⟩:∃m,y.Args.length-j=m+1:=⟨y.Args.length-j-1,by omega⟩
    have i:y.Args.length-(j+1)=m:=by omega
    have b:j=((y.Args.take j).map fun t=>It t d x.Vars).length:=by simp; omega
    simp only [h1,h2,cond_true,Ad,h,i,List.replicate_succ,C5 ht,List.map_append,List.map_cons,List.map_nil,List.append_assoc,List.cons_append,List.nil_append,
     Xi _ _ _ (j:Int) j rfl b,Xh _ _ _ _ (j:Int) j rfl b]
    have hb:(bif t.Kind==5 then bif t.Num==d then some (List.map (fun t=>It t d x.Vars) (List.take j y.Args)++((t.Args.length:Int)==x.Vars)::List.replicate m false)
       else some (List.map (fun t=>It t d x.Vars) (List.take j y.Args)++false::List.replicate m false)
      else some (List.map (fun t=>It t d x.Vars) (List.take j y.Args)++false::List.replicate m false))=some (List.map (fun t=>It t d x.Vars) (List.take j y.Args)++(t.Kind==5&&t.Num==d&&((t.Args.length:Int)==x.Vars))::List.replicate m false):=by
     cases t.Kind==5 <;> cases t.Num==d <;> simp
    rw [hb,Ad]
    refine Ayx t.Args _ _ (j:Int) j _ rfl b (by have:=f.2 t (B7 ht); omega) ?_
    rw [h3]; rfl
   .intro h1
    exact ⟨_,by simp only [h1]; rfl,by simp⟩
mutual
def mnt (d:Int):Ah->Bool
 | ⟨k,n,l⟩=>(k==5&&n==d)||Nq d l
def Nq (d:Int):List Ah->Bool
 | []=>false
 | x::xs=>mnt d x||Nq d xs
end
theorem Ayy (d:Int) (t:Ah):mnt d t=((t.Kind==5&&t.Num==d)||Nq d t.Args):=by cases t; simp only [mnt]
theorem Ayz (d:Int) (l:List Ah):Nq d l=l.any (mnt d):=by
 induction l with
 | nil=>rfl
 | cons x xs ih=>simp only [Nq,ih,List.any_cons]
theorem Ay0 (d:Int):∀(n:Nat) (t:Ah) (k:Nat),Bx t<=n->4*n+4<=k->n<1099511627776->Q7 k t d=some (mnt d t):=by
 intro n
 induction n with
 | zero=>intro t k h; have:=Ue t; omega
 | succ n ih=>
  intro t k h hk g
  obtain ⟨k,rfl⟩:∃c,k=c+4:=⟨k-4,by omega⟩
  have f:=Jl t
  have b:=L2 t.Args
  have key:Tz (k+3) t.Args d=some (Nq d t.Args):=by
   rw [Tz,Aay]
   rw [Ayz]
   refine Amz (Afv t.Args (mnt d) (by omega) ?_ (fun h=>by simp only [h]; rfl) (fun _=>rfl) rfl) (fun i hi=>by rw [hi])
   intro j x hx h1 h2 h3
   have l:=J1 hx
   simp only [h1,h2,h3,cond_true,Ad,Ww,ih x k (by omega) (by omega) (by omega)]
  rw [Q7,key,Ayy]
  cases t.Kind==5 <;> cases t.Num==d <;> simp
end Go.Ab
namespace Go.Ab
open Go
theorem Anp (data:List Ap) (v:Int) (l:List Ah):Ep data v l=l.all (Du data v):=by
 induction l with
 | nil=>rfl
 | cons x xs ih=>simp only [Ep,ih,List.all_cons]
theorem Ay1 (data:List Ap) (d:Nat) (v k n:Int) (len:Nat):(Jm (data.take (d+1)) v k n len && !(k==5&&n==(d:Int)))=Jm (data.take d) v k n len:=by
 by_cases hk:k=5
 .subst hk
  unfold Jm
  simp only [beq_self_eq_true,Bool.true_and,List.getElem?_take]
  by_cases b:n=d
  .subst b; simp
  .by_cases h0:0<=n
   .have e:(n==(d:Int))=false:=Cp b
    rcases Nat.lt_or_ge n.toNat d with h | h
    .simp [h,e,show n.toNat<d+1 by omega]
    .simp [e,show ¬n.toNat<d by omega,show ¬n.toNat<d+1 by omega]
   .simp [h0]
 .have e:(k==(5:Int))=false:=Cp hk
  simp only [e,Bool.false_and,Bool.not_false,Bool.and_true,Jm,hk,if_false]
mutual
theorem Anq (data:List Ap) (d:Nat) (v:Int):∀t:Ah,(Du (data.take (d+1)) v t && !mnt d t)=Du (data.take d) v t
 | ⟨k,n,l⟩=>by
  have h1:=Anr data d v l
  have h2:=Ay1 data d v k n l.length
  simp only [Du,mnt]
  rw [<-h1,<-h2]
  cases Jm (data.take (d+1)) v k n l.length <;> cases (k==5&&n==(d:Int)) <;> cases Ep (data.take (d+1)) v l <;> simp
theorem Anr (data:List Ap) (d:Nat) (v:Int):∀l:List Ah,(Ep (data.take (d+1)) v l && !Nq d l)=Ep (data.take d) v l
 | []=>by simp [Ep,Nq]
 | x::xs=>by
  have h1:=Anq data d v x
  have h2:=Anr data d v xs
  simp only [Ep,Nq]
  rw [<-h1,<-h2]
  cases Du (data.take (d+1)) v x <;> cases mnt d x <;> cases Ep (data.take (d+1)) v xs <;> simp
end
theorem Ans:∀l:List Ah,(∀a∈l,a.Args.length=0)->C2 l=l.length
 | [],_=>rfl
 | x::xs,h=>by
  have h1:=h x (by simp)
  simp only [C2,List.length_cons]
  rw [Ans xs (fun a ha=>h a (by simp [ha])),Jl,List.length_eq_zero_iff.1 h1]
  simp only [C2]; omega
theorem Agd {data:List Ap} {d:Nat} {x:Ap} (hx:data[d]? = some x) (hv:x.Vars<=6) {t:Ah} (h:It t d x.Vars=true):Du (data.take (d+1)) x.Vars t=true/\Bx t<=200:=by
 unfold It at h
 simp only [Cu,beq_iff_eq] at h
 obtain ⟨⟨⟨h1,h2⟩,h3⟩,c⟩:=h
 have ha:∀a∈t.Args,∃i:Nat,i<t.Args.length/\a.Kind=4/\a.Num=i/\a.Args.length=0:=by
  intro a ha
  obtain ⟨i,hi⟩:=List.getElem?_of_mem ha
  have:=Hx c hi
  simp only [Pa,Cu,beq_iff_eq] at this
  exact ⟨i,Eo hi,this.1.1,this.1.2,this.2⟩
 refine ⟨?_,?_⟩
 .rw [Xf,Anp,Cu]
  constructor
  .rw [h1,h2]
   unfold Jm
   simp [hx,h3]
  .rw [List.all_eq_true]
   intro a b
   obtain ⟨i,i1,i2,i3,i4⟩:=ha a b
   rw [Xf,i2,i3,i4,List.length_eq_zero_iff.1 i4]
   unfold Jm
   simp [Ep]; omega
 .rw [Jl,Ans _ (fun a h=>(ha a h).choose_spec.2.2.2)]
  omega
def Pb (data:List Ap) (d:Nat) (v:Int) (t:Ah):Bool:=It t d v||(Du (data.take d) v t&&decide (Bx t<=200))
theorem Ay2 {data:List Ap} {d:Nat} {x:Ap} (hx:data[d]? = some x) (hv:x.Vars<=6) (t:Ah):((Du (data.take (d+1)) x.Vars t&&decide (Bx t<=200))&&(It t d x.Vars || !mnt d t))=Pb data d x.Vars t:=by
 unfold Pb
 cases h:It t d x.Vars with
 | true=>
  obtain ⟨h1,h2⟩:=Agd hx hv h
  rw [h1,Am h2]; rfl
 | false=>
  rw [<-Anq data d x.Vars t]
  cases Du (data.take (d+1)) x.Vars t <;> cases decide (Bx t<=200) <;> simp
def SzD (data:List Ap):Prop:=∀x∈data,x.Cons.length<=1048576/\∀y∈x.Cons,C2 y.Args<=1048576
theorem SzD.short {data:List Ap} (h:SzD data):Mx data:=fun x hx y hy=>by
 have h1:=(h x hx).2 y hy
 have h2:=L2 y.Args
 refine ⟨by omega,fun a ha=>?_⟩
 have h3:=J1 ha
 have c:=Jl a
 have b:=L2 a.Args
 omega
theorem Ay3 {data:List Ap} (g:SzD data) (d c:Nat) {x:Ap} {y:Rg} (hx:data[d]? = some x) (hy:x.Cons[c]? = some y) (hv:x.Vars<=6) (hd:data.length<=1048576) :
  Oo data d c=some (decide (y.Args.length<=6)&&y.Args.all (Pb data d x.Vars)):=by
 have b:=Eo hx
 have l:=(g x (B7 hx)).2 y (B7 hy)
 unfold Oo
 rw [Bw rfl hx,Ad,Bw rfl hy,Ad,Xj data d c g.short]
 by_cases k:y.Args.length<=6
 .rw [Ar (by omega:¬(y.Args.length:Int)>6),Am k]
  simp only [cond_false,Bool.true_and,Ad]
  refine (W9 y.Args (Pb data d x.Vars) (fun j=>(j:Int)) rfl (by omega) (rt:=true) (rf:=false) ?_ ?_).trans (by rw [Xa])
  .intro j t ht h1 h2 h3
   have q:=J1 (B7 ht)
   have s:Ag (Dq data d c) (j:Int)=some (It t d x.Vars):=by
    unfold Dq
    simp only [Bw rfl hx,Bw rfl hy]
    rw [Bw rfl]
    simp [ht]
   simp only [h1,h2,h3,cond_true,Ad,show Ac ((d:Int)+1)=((d+1:Nat):Int) from C8 b (by omega),Abb rfl (show d+1<=data.length from b),Bw rfl hx,
    Rq (data.take (d+1)) t x.Vars (by omega),s]
   rw [<-Ay2 hx hv t]
   cases i:(Du (data.take (d+1)) x.Vars t&&decide (Bx t<=200)) with
   | false=>exact ⟨(fun h=>by cases h),fun _=>⟨.inl false,rfl,rfl⟩⟩
   | true=>
    have f:Bx t<=200:=by simp only [Cu,decide_eq_true_eq] at i; exact i.2
    simp only [Dt,cond_false,Bool.true_and]
    cases u:It t d x.Vars with
    | true=>exact ⟨fun _=>rfl,fun h=>by cases h⟩
    | false=>
     simp only [Bool.not_false,cond_true,Ay0 d 200 t 4000000 f (by omega) (by omega),Ad,Bool.false_or]
     cases mnt d t with
     | true=>exact ⟨(fun h=>by cases h),fun _=>⟨.inl false,rfl,rfl⟩⟩
     | false=>exact ⟨fun _=>rfl,fun h=>by cases h⟩
  .intro h
   exact ⟨.inr (),by simp only [h]; rfl,rfl⟩
 .rw [Am (by omega:(y.Args.length:Int)>6),Ar k]; rfl
end Go.Ab
namespace Go.Ab
open Go
def bI (s:ByteArray) (i:Nat):Int:=if h:i<s.size then (s[i].toNat:Int) else 0
def loI (c:Int):Bool:=decide (97<=c)&&decide (c<=122)
def upI (c:Int):Bool:=decide (65<=c)&&decide (c<=90)
def diI (c:Int):Bool:=decide (48<=c)&&decide (c<=57)
def wiI (c:Int):Bool:=loI c||upI c||diI c||c==95
def Hy (s:ByteArray):Prop:=1<=s.size/\s.size<=24/\upI (bI s 0)=true/\∀i,i<s.size->wiI (bI s i)=true
theorem Nr {s:ByteArray} {i:Int} {n:Nat} (hi:i=n) (h:n<s.size):∃c:UInt8,Ip s i=some c/\(c.toNat:Int)=bI s n:=by
 subst hi
 refine ⟨s[n],?_,?_⟩
 .unfold Ip
  rw [if_pos (by omega),show ((n:Int)).toNat=n from rfl]
  simp [h]
 .unfold bI; simp [h]
theorem Xk {s:ByteArray} {a b j:Nat} (hb:b<=s.size) (h:a+j<b):bI (s.extract a b) j=bI s (a+j):=by
 unfold bI
 have h1:j<(s.extract a b).size:=by rw [ByteArray.size_extract]; omega
 rw [dif_pos h1,dif_pos (by omega),ByteArray.getElem_extract]
theorem Xl {s:ByteArray} {lo hi:Int} {a b:Nat} (h1:lo=a) (h2:hi=b) (h3:a<=b) (c:b<=s.size):Fc s lo hi=some (s.extract a b):=by
 subst h1; subst h2; unfold Fc; rw [if_pos (by omega)]; rfl
theorem Ant {a b:ByteArray} (h:a.toList=b.toList):a=b:=by
 rw [ByteArray.toList_eq,ByteArray.toList_eq] at h
 have:a.data=b.data:=Array.toList_inj.1 h
 cases a; cases b; simp at this; subst this; rfl
theorem Anu (a b:ByteArray):(a.toList==b.toList)=decide (a=b):=by
 by_cases h:a=b
 .subst h; simp
 .rw [Ar h]
  cases hb:(a.toList==b.toList) with
  | false=>rfl
  | true=>exact absurd (Ant (by simpa using hb)) h
theorem Anv (c:Int):Tx c=some (loI c):=by unfold Tx loI; by_cases h:(97:Int)<=c <;> simp [h]
theorem Anw (c:Int):Rf c=some (upI c):=by unfold Rf upI; by_cases h:(65:Int)<=c <;> simp [h]
theorem Abv (c:Int):Oy c=some (diI c):=by unfold Oy diI; by_cases h:(48:Int)<=c <;> simp [h]
theorem Anx (c:Int):Ty c=some (wiI c):=by
 unfold Ty wiI
 rw [Anv,Anw,Abv]
 simp only [Ad]
 cases loI c <;> cases upI c <;> cases diI c <;> rfl
theorem Age {S E:Type} {step:S->Option (S⊕E)} (s:ByteArray) (p:Int->Bool) (b:Nat->S) (f:Nat->E) (lo:Nat)
  (h1:∀j,lo<=j->j<s.size->p (bI s j)=true->step (b j)=some (.inl (b (j+1)))) (h2:∀j,lo<=j->j<s.size->p (bI s j)=false->step (b j)=some (.inr (f j))) (h3:step (b s.size)=some (.inr (f s.size))) :
  ∀(m i:Nat),lo<=i->i+m=s.size->∃n,i<=n/\n<=s.size/\(∀j,i<=j->j<n->p (bI s j)=true)/\(n<s.size->p (bI s n)=false)/\Al step (b i)=some (f n):=by
 intro m
 induction m with
 | zero=>
  intro i _ hi
  have:i=s.size:=by omega
  subst this
  exact ⟨s.size,by omega,by omega,fun j _ _=>by omega,fun h=>by omega,Ee h3⟩
 | succ m ih=>
  intro i c hi
  cases hp:p (bI s i) with
  | true=>
   obtain ⟨n,a1,a2,a3,a4,a5⟩:=ih (i+1) (by omega) (by omega)
   refine ⟨n,by omega,a2,fun j b1 b2=>?_,a4,by rw [Je (h1 i c (by omega) hp)]; exact a5⟩
   rcases Nat.lt_or_ge i j with h | h
   .exact a3 j h b2
   .have:j=i:=by omega
    subst this; exact hp
  | false=>exact ⟨i,by omega,by omega,fun j _ _=>by omega,fun _=>hp,Ee (h2 i c (by omega) hp)⟩
theorem Ay4 (s:ByteArray) (k:s.size<1099511627776):∃n,n<=s.size/\(∀j,j<n->wiI (bI s j)=true)/\(n<s.size->wiI (bI s n)=false)/\Wy s=some (s.extract 0 n):=by
 have H:=Age (step:=fun v3:Int=>bif (decide (v3<(s.size:Int))) then ((Ip s v3).bind fun h=>(Ty (h.toNat:Int)).bind fun v5=>bif v5 then some (.inl (Ac (v3+1))) else some (.inr v3)) else some (.inr v3))
  s wiI (fun j=>(j:Int)) (fun j=>(j:Int)) 0 (fun j _ hj hp=>by
   obtain ⟨c,g,f⟩:=Nr (s:=s) (i:=(j:Int)) rfl hj
   simp only [Am (by omega:(j:Int)<(s.size:Int)),cond_true,g,Ad,f,Anx,hp,C8 hj (by omega)]) (fun j _ hj hp=>by
   obtain ⟨c,g,f⟩:=Nr (s:=s) (i:=(j:Int)) rfl hj
   simp only [Am (by omega:(j:Int)<(s.size:Int)),cond_true,g,Ad,f,Anx,hp,cond_false]) (by simp) s.size 0 (by omega) (by omega)
 obtain ⟨n,_,a2,a3,a4,a5⟩:=H
 refine ⟨n,a2,fun j hj=>a3 j (by omega) hj,a4,?_⟩
 unfold Wy
 have a5:Al _ (0:Int)=some (n:Int):=a5
 rw [a5,Ad,Xl (lo:=0) (a:=0) (b:=n) rfl rfl (by omega) a2]; rfl
theorem Ay5 (s:ByteArray) (k:s.size<1099511627776):∃n,n<=s.size/\(∀j,j<n->diI (bI s j)=true)/\(n<s.size->diI (bI s n)=false)/\Aax s=some (s.extract 0 n):=by
 have H:=Age (step:=fun v3:Int=>bif (decide (v3<(s.size:Int))) then ((Ip s v3).bind fun h=>(Oy (h.toNat:Int)).bind fun v5=>bif v5 then some (.inl (Ac (v3+1))) else some (.inr v3)) else some (.inr v3))
  s diI (fun j=>(j:Int)) (fun j=>(j:Int)) 0 (fun j _ hj hp=>by
   obtain ⟨c,g,f⟩:=Nr (s:=s) (i:=(j:Int)) rfl hj
   simp only [Am (by omega:(j:Int)<(s.size:Int)),cond_true,g,Ad,f,Abv,hp,C8 hj (by omega)]) (fun j _ hj hp=>by
   obtain ⟨c,g,f⟩:=Nr (s:=s) (i:=(j:Int)) rfl hj
   simp only [Am (by omega:(j:Int)<(s.size:Int)),cond_true,g,Ad,f,Abv,hp,cond_false]) (by simp) s.size 0 (by omega) (by omega)
 obtain ⟨n,_,a2,a3,a4,a5⟩:=H
 refine ⟨n,a2,fun j hj=>a3 j (by omega) hj,a4,?_⟩
 unfold Aax
 have a5:Al _ (0:Int)=some (n:Int):=a5
 rw [a5,Ad,Xl (lo:=0) (a:=0) (b:=n) rfl rfl (by omega) a2]; rfl
theorem Uf {R:Type} {c:Bool} {X Y:Option R} {Q:R->Prop} (h1:∃r,X=some r/\Q r) (h2:∃r,Y=some r/\Q r):∃r,(bif c then X else Y)=some r/\Q r:=by cases c <;> assumption
theorem Agf {A R:Type} {X:Option A} {f:A->Option R} {Q:R->Prop} (P:A->Prop) (h1:∃a,X=some a/\P a) (h2:∀a,P a->∃r,f a=some r/\Q r):∃r,X.bind f=some r/\Q r:=by
 obtain ⟨a,e,h⟩:=h1
 rw [e]; exact h2 a h
theorem Ay6 (s:ByteArray):∃b,Wz s=some b/\True:=by
 unfold Wz
 repeat' first | refine Uf ?_ ?_ | exact ⟨_,rfl,trivial⟩
theorem Ay7 (s:ByteArray) (h1:1<=s.size):∃r,W1 s=some r/\(r.size<=s.size):=by
 have g:Fc s 0 1=some (s.extract 0 1):=Xl rfl rfl (by omega) h1
 have c:(s.extract 0 1).size<=s.size:=by rw [ByteArray.size_extract]; omega
 unfold W1
 refine Agf (fun z=>∀r,z = .inl r->r.size<=s.size) ?_ ?_
 .by_cases h2:2<=s.size
  .have f:Fc s 0 2=some (s.extract 0 2):=Xl rfl rfl (by omega) h2
   have b:∀r,(Sum.inl (s.extract 0 2):ByteArray⊕Unit) = .inl r->r.size<=s.size:=by rintro r ⟨⟩; rw [ByteArray.size_extract]; omega
   simp only [f,Ad]
   repeat' first | refine Uf ?_ ?_ | with_reducible exact ⟨_,rfl,b⟩ | exact ⟨_,rfl,fun r h=>by cases h⟩
  .rw [Ar (by omega)]
   exact ⟨_,rfl,fun r h=>by cases h⟩
 .rintro (r | u) i
  .exact ⟨_,rfl,i r rfl⟩
  .simp only [g,Ad]
   have h0:(ByteArray.mk #[]).size<=s.size:=Nat.zero_le _
   repeat' first | refine Uf ?_ ?_ | with_reducible exact ⟨_,rfl,c⟩ | with_reducible exact ⟨_,rfl,h0⟩
theorem Ay8 (s:ByteArray) (g:s.size<1099511627776):∃b,W0 s=some b/\True:=by
 unfold W0
 refine Ef (fun (_,i)=>∃j:Nat,i=j/\j<=s.size) (fun (_,i)=>s.size-i.toNat) (fun _=>True) ⟨0,rfl,by omega⟩ ?_ ?_
 .rintro ⟨v,i⟩ ⟨j,rfl,hj⟩
  rcases Nat.lt_or_ge j s.size with h | h
  .obtain ⟨c,f,_⟩:=Nr (s:=s) (i:=(j:Int)) rfl h
   simp only [Am (by omega:(j:Int)<(s.size:Int)),cond_true,f,Ad,C8 h (by omega)]
   cases decide (Ac (Ac (v*10)+Ac (wu8 ((c.toNat:Int)-48)))>1000000) with
   | true=>exact .inr ⟨_,rfl,trivial⟩
   | false=>exact .inl ⟨_,rfl,⟨j+1,rfl,by omega⟩,by simp; omega⟩
  .have:j=s.size:=by omega
   subst this
   exact .inr ⟨.inr (),by simp,trivial⟩
 .rintro (r | u) _ <;> exact ⟨_,rfl,trivial⟩
theorem Ay9 (s:ByteArray) (i:Nat) (hi:i<s.size) (R:s.size<1099511627776) :
  ∃r,Wv s i=some r/\(r.2=0->1<=r.1.Text.size/\i+r.1.Text.size<=s.size/\(r.1.Kind=2->Hy r.1.Text))/\(Hy s->i=0->r=(⟨2,s,0⟩,0)):=by
 obtain ⟨c,M,L⟩:=Nr (s:=s) (i:=(i:Int)) rfl hi
 have u:Fc s (i:Int) (s.size:Int)=some (s.extract i s.size):=Xl rfl rfl (by omega) (by omega)
 have I:(s.extract i s.size).size=s.size-i:=by rw [ByteArray.size_extract]; omega
 have x:bI (s.extract i s.size) 0=bI s i:=Xk (by omega) (by omega)
 unfold Wv
 simp only [M,Ad,L,Anv,Anw,Abv,u]
 have hw:(bif loI (bI s i) then some true else some (upI (bI s i)))=some (loI (bI s i)||upI (bI s i)):=by cases loI (bI s i) <;> rfl
 rw [hw]
 simp only [Ad]
 cases l:(loI (bI s i)||upI (bI s i)) with
 | true=>
  obtain ⟨n,G,D,y,n4⟩:=Ay4 (s.extract i s.size) (by omega)
  have A:1<=n:=by
   rcases Nat.eq_zero_or_pos n with h | h
   .subst h
    have:=y (by omega)
    rw [x] at this
    unfold wiI at this
    rw [l] at this; cases this
   .exact h
  have hx:(s.extract i s.size).extract 0 n=s.extract i (i+n):=by rw [ByteArray.extract_extract]; congr 1; omega
  have q:(s.extract i (i+n)).size=n:=by rw [ByteArray.size_extract]; omega
  rw [hx] at n4
  simp only [cond_true,n4,Ad,q]
  have g:Hy s->i=0->n=s.size:=by
   intro hu h0
   rcases Nat.lt_or_ge n s.size with h | h
   .have:=y (by omega)
    rw [Xk (by omega) (by omega),hu.2.2.2 _ (by omega)] at this; cases this
   .omega
  by_cases J:n<=24
  .rw [Ar (by omega)]
   cases k:upI (bI s i) with
   | true=>
    refine ⟨_,rfl,fun _=>⟨?_,?_,fun _=>⟨?_,?_,?_,?_⟩⟩,?_⟩
    .show 1<=(s.extract i (i+n)).size; omega
    .show i+(s.extract i (i+n)).size<=s.size; omega
    .show 1<=(s.extract i (i+n)).size; omega
    .show (s.extract i (i+n)).size<=24; omega
    .show upI (bI (s.extract i (i+n)) 0)=true
     rw [Xk (by omega) (by omega)]; exact k
    .show ∀j,j<(s.extract i (i+n)).size->wiI (bI (s.extract i (i+n)) j)=true
     intro j hj
     rw [Xk (by omega) (by omega)]
     have:=D j (by omega)
     rw [Xk (by omega) (by omega)] at this; exact this
    .intro hu h0
     have:=g hu h0
     subst h0; subst this
     rw [Nat.zero_add,ByteArray.extract_zero_size]; rfl
   | false=>
    obtain ⟨b,hb,_⟩:=Ay6 (s.extract i (i+n))
    simp only [cond_false,hb,Ad]
    have f:Hy s->i=0->False:=by
     intro hu h0
     subst h0
     rw [hu.2.2.1] at k; cases k
    cases b with
    | true=>exact ⟨_,rfl,fun _=>⟨by show 1<=(s.extract i (i+n)).size; omega,by show i+(s.extract i (i+n)).size<=s.size; omega,fun h=>by cases h⟩,fun hu h0=>(f hu h0).elim⟩
    | false=>exact ⟨_,rfl,fun _=>⟨by show 1<=(s.extract i (i+n)).size; omega,by show i+(s.extract i (i+n)).size<=s.size; omega,fun h=>by cases h⟩,fun hu h0=>(f hu h0).elim⟩
  .rw [Am (by omega)]
   refine ⟨_,rfl,(fun h=>by cases h),fun hu h0=>?_⟩
   have:=g hu h0
   have:=hu.2.1
   omega
 | false=>
  have f:Hy s->i=0->False:=by
   intro hu h0
   subst h0
   rw [hu.2.2.1,Bool.or_true] at l; cases l
  simp only [cond_false]
  cases hd:diI (bI s i) with
  | true=>
   obtain ⟨n,G,D,y,n4⟩:=Ay5 (s.extract i s.size) (by omega)
   have A:1<=n:=by
    rcases Nat.eq_zero_or_pos n with h | h
    .subst h
     have:=y (by omega)
     rw [x,hd] at this; cases this
    .exact h
   have hx:(s.extract i s.size).extract 0 n=s.extract i (i+n):=by rw [ByteArray.extract_extract]; congr 1; omega
   have q:(s.extract i (i+n)).size=n:=by rw [ByteArray.size_extract]; omega
   rw [hx] at n4
   obtain ⟨b,hb,_⟩:=Ay8 (s.extract i (i+n)) (by omega)
   simp only [cond_true,n4,Ad,hb]
   refine Agf (fun _=>True) ?_ ?_
   .exact Uf ⟨_,rfl,trivial⟩ ⟨_,rfl,trivial⟩
   .intro v _
    refine Uf ⟨_,rfl,(fun h=>by cases h),fun hu h0=>(f hu h0).elim⟩ (Uf ⟨_,rfl,(fun h=>by cases h),fun hu h0=>(f hu h0).elim⟩ ⟨_,rfl,fun _=>⟨?_,?_,fun h=>by cases h⟩,fun hu h0=>(f hu h0).elim⟩)
    .show 1<=(s.extract i (i+n)).size; omega
    .show i+(s.extract i (i+n)).size<=s.size; omega
  | false=>
   obtain ⟨r,E,N⟩:=Ay7 (s.extract i s.size) (by omega)
   simp only [cond_false,E,Ad]
   rw [Anu]
   by_cases z:r=ByteArray.mk #[]
   .rw [Am z]
    exact ⟨_,rfl,(fun h=>by cases h),fun hu h0=>(f hu h0).elim⟩
   .rw [Ar z]
    refine ⟨_,rfl,fun _=>⟨?_,?_,fun h=>by cases h⟩,fun hu h0=>(f hu h0).elim⟩
    .show 1<=r.size
     rcases Nat.eq_zero_or_pos r.size with h | h
     .have B:r.data.toList.length=0:=by simpa using h
      exact absurd (Ant (by rw [ByteArray.toList_eq,List.length_eq_zero_iff.1 B,ByteArray.toList_eq])) z
     .exact h
    .show i+r.size<=s.size; omega
theorem Aza (c:Int):Wu c=some (c==9||c==10||c==13||c==32):=by
 unfold Wu
 cases c==9 <;> cases c==10 <;> cases c==13 <;> rfl
theorem Anz (s:ByteArray) (U:s.size<1099511627776):∃b,Qu s=some b/\(b=true↔Hy s):=by
 unfold Qu Aan
 by_cases q:(s.size:Int)>16384
 .rw [Am q]
  refine ⟨false,rfl,by simp; rintro ⟨_,h,_⟩; omega⟩
 rw [Ar q]
 simp only [cond_false]
 refine Agf (fun r:List Is×Int×Int=>(r.2.2≠0/\¬Hy s)\/(r.2.2=0/\∃o e,r.1=o++[e]/\(∀t∈o,t.Kind=2->Hy t.Text)/\(Hy s->o = [⟨2,s,0⟩]))) ?_ ?_
 .refine Ef (fun (v26,f)=>∃i:Nat,v26=i/\i<=s.size/\f.length<=i/\(∀t∈f,t.Kind=2->Hy t.Text)/\(Hy s->(i=0/\f = [])\/(i=s.size/\f = [⟨2,s,0⟩])))
   (fun (v26,_)=>s.size-v26.toNat)
   (fun z=>match z with | .inl o=>o.length<=16384/\(∀t∈o,t.Kind=2->Hy t.Text)/\(Hy s->o = [⟨2,s,0⟩]) | .inr (_,_,e)=>e≠0/\¬Hy s)
   ⟨0,rfl,by omega,by simp,by simp,fun _=>.inl ⟨rfl,rfl⟩⟩ ?_ ?_
  .rintro ⟨v,o⟩ ⟨i,rfl,hi,ho,hk,hu⟩
   rcases Nat.lt_or_ge i s.size with h | h
   .obtain ⟨c,G,E⟩:=Nr (s:=s) (i:=(i:Int)) rfl h
    have g:Hy s->i=0/\o = []:=fun u=>by
     rcases hu u with h' | h'
     .exact h'
     .omega
    simp only [Am (by omega:(i:Int)<(s.size:Int)),cond_true,G,Ad,E,Aza]
    cases J:(bI s i==9||bI s i==10||bI s i==13||bI s i==32) with
    | true=>
     have k:¬Hy s:=by
      intro u
      have h0:=(g u).1
      subst h0
      have:=u.2.2.1
      simp only [upI,Cu,decide_eq_true_eq] at this
      simp only [Bool.or_eq_true,beq_iff_eq] at J
      omega
     exact .inl ⟨(((i+1:Nat):Int),o),by simp only [cond_true]; rw [C8 h (by omega)],⟨i+1,rfl,by omega,(by show o.length<=i+1; omega),hk,fun u=>(k u).elim⟩,by simp; omega⟩
    | false=>
     simp only [cond_false]
     cases B:(bI s i==35) with
     | true=>
      have k:¬Hy s:=by
       intro u
       have h0:=(g u).1
       subst h0
       have:=u.2.2.1
       simp only [upI,Cu,decide_eq_true_eq] at this
       simp only [beq_iff_eq] at B
       omega
      simp only [cond_true]
      obtain ⟨n,n1,n2,n3,n4,I⟩:=Age (step:=fun v32:Int=>bif (decide (v32<(s.size:Int))) then ((Ip s v32).bind fun L=>bif ((L.toNat:Int)==(10:Int)) then some (.inr (.inl v32)) else some (.inl (Ac (v32+1)))) else some (.inr (.inr v32)))
       s (fun c=>!(c==10)) (fun j=>(j:Int)) (fun j=>if j<s.size then Sum.inl (j:Int) else Sum.inr (j:Int)) 0 (fun j _ hj hp=>by
        obtain ⟨c,G,E⟩:=Nr (s:=s) (i:=(j:Int)) rfl hj
        simp only [Bool.not_eq_true'] at hp
        simp only [Am (by omega:(j:Int)<(s.size:Int)),cond_true,G,Ad,E,hp,C8 hj (by omega),cond_false]) (fun j _ hj hp=>by
        obtain ⟨c,G,E⟩:=Nr (s:=s) (i:=(j:Int)) rfl hj
        simp only [Bool.not_eq_false'] at hp
        simp only [Am (by omega:(j:Int)<(s.size:Int)),cond_true,G,Ad,E,hp,if_pos hj]) (by simp) (s.size-i) i (by omega) (by omega)
      have V:i<n:=by
       rcases Nat.lt_or_ge i n with h' | h'
       .exact h'
       .have:n=i:=by omega
        subst this
        have:=n4 h
        simp only [beq_iff_eq] at B
        rw [B] at this; cases this
      have I:Al _ (i:Int)=_:=I
      rw [I,Ad]
      rcases Nat.lt_or_ge n s.size with h' | h'
      .rw [if_pos h']
       exact .inl ⟨((n:Int),o),rfl,⟨n,rfl,by omega,(by show o.length<=n; omega),hk,fun u=>(k u).elim⟩,by simp; omega⟩
      .rw [if_neg (by omega)]
       exact .inr ⟨.inl o,rfl,by omega,hk,fun u=>(k u).elim⟩
     | false=>
      obtain ⟨r,S,R,M⟩:=Ay9 s i h U
      simp only [cond_false,S,Ad]
      by_cases D:r.2=0
      .obtain ⟨a1,a2,a3⟩:=R D
       simp only [Fp D,cond_false]
       rw [Dh (by simp; omega),Ad]
       refine .inl ⟨(((i+r.1.Text.size:Nat):Int),o++[r.1]),?_,⟨i+r.1.Text.size,rfl,a2,by simp; omega,?_,?_⟩,by simp; omega⟩
       .rw [show Ac ((i:Int)+(r.1.Text.size:Int))=((i+r.1.Text.size:Nat):Int) by rw [Ac,Bs] <;> omega]
       .intro t ht
        rcases List.mem_append.1 ht with h' | h'
        .exact hk t h'
        .simp at h'; subst h'; exact a3
       .intro u
        obtain ⟨b1,b2⟩:=g u
        have:=M u b1
        subst b1; subst b2; subst this
        exact .inr ⟨by simp,rfl⟩
      .simp only [Em D,cond_true]
       refine .inr ⟨_,rfl,D,fun u=>?_⟩
       rw [M u (g u).1] at D
       exact D rfl
   .have:i=s.size:=by omega
    subst this
    refine .inr ⟨.inl o,by simp,by omega,hk,fun u=>?_⟩
    rcases hu u with ⟨h',_⟩ | ⟨_,h'⟩
    .have:=u.1; omega
    .exact h'
  .rintro (o | ⟨l,p,e⟩) N
   .obtain ⟨Z,z2,z3⟩:=N
    simp only
    rw [Dh (by simp; omega),Ad]
    exact ⟨_,rfl,.inr ⟨rfl,o,_,rfl,z2,z3⟩⟩
   .exact ⟨_,rfl,.inl N⟩
 .rintro ⟨l,p,e⟩ (⟨h1,h2⟩ | ⟨h1,o,t,h2,h3,A⟩)
  .simp only at h1
   simp only [Cp h1,cond_false]
   exact ⟨_,rfl,by simp [h2]⟩
  .simp only at h1 h2
   subst h1; subst h2
   simp only [beq_self_eq_true,cond_true]
   match o,h3,A with
   | [],_,A=>exact ⟨false,by simp,by simp; intro u; cases A u⟩
   | [x],h3,A=>
    have Y:Ag ([x]++[t]) 0=some x:=rfl
    simp only [Y,Ad,Anu]
    have X:((([x]++[t]).length:Int)==2)=true:=rfl
    simp only [X,cond_true]
    by_cases hx:x.Kind=2
    .simp only [Dj hx,cond_true]
     refine ⟨_,rfl,?_⟩
     rw [decide_eq_true_iff]
     constructor
     .intro h; rw [<-h]; exact h3 x (by simp) hx
     .intro u; have:=A u; simp at this; rw [this]
    .simp only [Cp hx,cond_false]
     refine ⟨_,rfl,?_⟩
     simp only [Bool.false_eq_true,false_iff]
     intro u; have:=A u; simp at this; rw [this] at hx; exact hx rfl
   | x::y::ys,_,A=>
    refine ⟨false,?_,by simp; intro u; have:=A u; simp at this⟩
    rw [Cp]
    .rfl
    .simp; omega
end Go.Ab
namespace Go.Ab
open Go
end Go.Ab
namespace Go.Ab
open Go
def Abw (data:List Ap) (d:Nat) (v:Int) (y:Rg):Prop:=Hy y.Name/\y.Args.length<=6/\y.Args.all (Pb data d v)=true
def Agg (data:List Ap) (d:Nat) (x:Ap):Prop:=0<=x.Vars/\x.Vars<=6/\1<=x.Cons.length/\x.Cons.length<=8/\Hy x.Name/\∀y∈x.Cons,Abw data d x.Vars y
def I5 (x:Ap):List ByteArray:=x.Cons.map (·.Name)
def Ig (data:List Ap):Prop:=data.length<=12/\(∀d x,data[d]? = some x->Agg data d x)/\(data.map (·.Name)).Nodup/\(data.flatMap I5).Nodup
structure DSz (data:List Ap):Prop where
 len:data.length<=1048576
 sz:SzD data
 nm:∀x∈data,x.Name.size<=1048576
 cn:∀x∈data,∀y∈x.Cons,y.Name.size<=1048576
theorem Rr (a b:ByteArray):(a==b)=true↔a=b:=by
 constructor
 .intro h
  cases a with | mk a=>cases b with | mk b=>
  have:a=b:=by exact eq_of_beq h
  rw [this]
 .rintro rfl
  cases a with | mk a=>exact beq_self_eq_true a
def J2 (o:List (ByteArray×Bool)) (L:List ByteArray):Prop:=(∀p∈o,p.2=true)/\∀s,E3 o s=true↔s∈L
theorem J2.nil:J2 [] []:=⟨by simp,by simp [E3]⟩
theorem J2.get {o:List (ByteArray×Bool)} {L:List ByteArray} (h:J2 o L) {s:ByteArray} (b:E3 o s=true):Iq o s false=true:=by
 unfold Iq
 unfold E3 at b
 rw [List.any_eq_true] at b
 obtain ⟨p,g,f⟩:=b
 cases c:o.find? (fun p=>s==p.1) with
 | none=>exact absurd f (by have:=List.find?_eq_none.1 c p g; simpa using this)
 | some q=>exact h.1 q (List.mem_of_find?_eq_some c)
theorem Azb (o:List (ByteArray×Bool)) (s t:ByteArray) (v:Bool):E3 (Fd o s v) t=(E3 o t||t==s):=by
 induction o with
 | nil=>simp [Fd,E3]
 | cons p o ih=>
  unfold Fd
  cases hp:(s==p.1) with
  | true=>
   have:s=p.1:=(Rr _ _).1 hp
   subst this
   simp only [cond_true,E3,List.any_cons]
   cases t==p.1 <;> simp
  | false=>
   simp only [E3,List.any_cons] at ih ⊢
   simp only [cond_false,List.any_cons,ih,Bool.or_assoc]
theorem J2.put {o:List (ByteArray×Bool)} {L:List ByteArray} (h:J2 o L) (s:ByteArray):J2 (Fd o s true) (L++[s]):=by
 refine ⟨?_,fun t=>?_⟩
 .have:∀o:List (ByteArray×Bool),(∀p∈o,p.2=true)->∀p∈Fd o s true,p.2=true:=by
   intro o
   induction o with
   | nil=>intro _ p hp; simp [Fd] at hp; rw [hp]
   | cons q o ih=>
    intro b p hp
    unfold Fd at hp
    cases hq:(s==q.1) with
    | true=>
     rw [hq] at hp
     simp only [cond_true,List.mem_cons] at hp
     rcases hp with rfl | hp
     .rfl
     .exact b p (by simp [hp])
    | false=>
     rw [hq] at hp
     simp only [cond_false,List.mem_cons] at hp
     rcases hp with rfl | hp
     .exact b _ (by simp)
     .exact ih (fun p hp=>b p (by simp [hp])) p hp
  exact this o h.1
 .rw [Azb,Bool.or_eq_true,h.2 t,Rr]; simp
theorem Azc (x:Ap) {c:Nat} {y:Rg} (hy:x.Cons[c]? = some y):I5 x=(x.Cons.take c).map (·.Name)++y.Name::(x.Cons.drop (c+1)).map (·.Name):=by
 have h:=List.take_append_drop c x.Cons
 have hc:=Eo hy
 have e:x.Cons.drop c=y::x.Cons.drop (c+1):=by
  rw [List.drop_eq_getElem_cons hc]
  rw [B0 hc] at hy
  rw [Option.some.inj hy]
 unfold I5
 conv=>lhs; rw [<-h,e]
 simp
theorem An0 {L m:List ByteArray} {s:ByteArray} (h:(L++s::m).Nodup):s ∉ L:=by
 rw [List.nodup_append] at h
 intro b
 exact h.2.2 s b s (by simp) rfl
theorem An1 {L:List ByteArray} {s:ByteArray} (h:L.Nodup) (c:s ∉ L):(L++[s]).Nodup:=by
 rw [List.nodup_append]
 refine ⟨h,by simp,?_⟩
 intro a ha b hb
 simp at hb; subst hb
 intro e; subst e; exact c ha
theorem Azd {data:List Ap} (q:DSz data) {d:Nat} {x:Ap} (hx:data[d]? = some x) (hv:x.Vars<=6) (o:List (ByteArray×Bool)) (L:List ByteArray) (G:J2 o L) (J:L.Nodup) :
  ∃z,Al (S:=(Int×(List (ByteArray×Bool)))) (E:=(Bool⊕(Int×(List (ByteArray×Bool))))) (fun (f,g)=>
    bif (decide (f<(x.Cons.length:Int))) then (
    (Ag x.Cons f).bind fun v54=>
    (Qu v54.Name).bind fun u=>
    bif (!u) then some (.inr (.inl false))
    else (
    bif (E3 g v54.Name) then (
    bif (Iq g v54.Name (false:Bool)) then some (.inr (.inl false))
    else (
    (Oo data d f).bind fun s=>
    bif (!s) then some (.inr (.inl false))
    else some (.inl ((Ac (f+1)),(Fd g v54.Name true)))))
    else (
    (Oo data d f).bind fun v58=>
    bif (!v58) then some (.inr (.inl false))
    else some (.inl ((Ac (f+1)),(Fd g v54.Name true))))))
    else some (.inr (.inr (f,g)))) (0,o)=some z /\
   match z with
   | .inl r=>r=false/\¬((∀y∈x.Cons,Abw data d x.Vars y)/\(L++I5 x).Nodup)
   | .inr (_,o')=>(∀y∈x.Cons,Abw data d x.Vars y)/\(L++I5 x).Nodup/\J2 o' (L++I5 x):=by
 have hxm:=B7 hx
 have I:=(q.sz x hxm).1
 refine M5 (fun (f,g)=>∃c:Nat,f=c/\c<=x.Cons.length/\(∀y∈x.Cons.take c,Abw data d x.Vars y)/\(L++(x.Cons.take c).map (·.Name)).Nodup/\J2 g (L++(x.Cons.take c).map (·.Name)))
  (fun (f,_)=>x.Cons.length-f.toNat) _ ?_ _ ⟨0,rfl,by omega,by simp,by simpa using J,by simpa using G⟩
 rintro ⟨v,g⟩ ⟨c,rfl,hc,h1,h2,h3⟩
 rcases Nat.lt_or_ge c x.Cons.length with h | h
 .have hy:x.Cons[c]? = some x.Cons[c]:=B0 h
  generalize x.Cons[c]=y at hy
  have k:=B7 hy
  obtain ⟨b,b1,b2⟩:=Anz y.Name (by have:=q.cn x hxm y k; omega)
  have ht:=C5 hy
  have B:L++I5 x=(L++(x.Cons.take c).map (·.Name))++y.Name::(x.Cons.drop (c+1)).map (·.Name):=by rw [Azc x hy]; simp
  simp only [Am (by omega:(c:Int)<(x.Cons.length:Int)),cond_true,Bw rfl hy,Ad,b1,Ay3 q.sz d c hx hy hv q.len,C8 h (by omega)]
  cases b with
  | false=>
   refine .inr ⟨.inl false,rfl,rfl,fun hh=>?_⟩
   have:=b2.2 (hh.1 y k).1; cases this
  | true=>
   simp only [Dt,cond_false]
   cases j:E3 g y.Name with
   | true=>
    simp only [cond_true,h3.get j]
    refine .inr ⟨.inl false,rfl,rfl,fun hh=>?_⟩
    rw [B] at hh
    exact An0 hh.2 ((h3.2 _).1 j)
   | false=>
    simp only [cond_false]
    cases i:(decide (y.Args.length<=6)&&y.Args.all (Pb data d x.Vars)) with
    | false=>
     refine .inr ⟨.inl false,rfl,rfl,fun hh=>?_⟩
     have:=hh.1 y k
     rw [this.2.2,Am this.2.1] at i; cases i
    | true=>
     simp only [Cu,decide_eq_true_eq] at i
     have A:y.Name ∉ L++(x.Cons.take c).map (·.Name):=fun hh=>by rw [(h3.2 _).2 hh] at j; cases j
     have e:L++(x.Cons.take (c+1)).map (·.Name)=(L++(x.Cons.take c).map (·.Name))++[y.Name]:=by rw [ht]; simp
     refine .inl ⟨_,rfl,⟨c+1,rfl,by omega,?_,?_,?_⟩,by simp; omega⟩
     .intro D l
      rw [ht] at l
      rcases List.mem_append.1 l with h' | h'
      .exact h1 D h'
      .simp at h'; subst h'; exact ⟨b2.1 rfl,i.1,i.2⟩
     .rw [e]; exact An1 h2 A
     .rw [e]; exact h3.put _
 .have:c=x.Cons.length:=by omega
  subst this
  rw [List.take_length] at h1 h2 h3
  exact .inr ⟨.inr ((x.Cons.length:Int),g),by simp,h1,h2,h3⟩
theorem Aze {data:List Ap} {d:Nat} {x:Ap} (hx:data[d]? = some x):data.flatMap I5=((data.take d).flatMap I5++I5 x)++(data.drop (d+1)).flatMap I5/\data.map (·.Name)=(data.take d).map (·.Name)++x.Name::(data.drop (d+1)).map (·.Name):=by
 have h:=List.take_append_drop d data
 have hc:=Eo hx
 have e:data.drop d=x::data.drop (d+1):=by
  rw [List.drop_eq_getElem_cons hc]
  rw [B0 hc] at hx
  rw [Option.some.inj hx]
 constructor
 .conv=>lhs; rw [<-h,e]
  simp [List.flatMap_append]
 .conv=>lhs; rw [<-h,e]
  simp
theorem Azf {data:List Ap} (i:DSz data):∃b,V1 data=some b/\(b=true↔Ig data):=by
 have E:=i.len
 unfold V1
 rcases Nat.lt_or_ge 12 data.length with h12 | h12
 .rw [Am (by omega)]
  exact ⟨false,rfl,by simp; intro h; have:=h.1; omega⟩
 rw [Ar (by omega)]
 simp only [cond_false]
 refine Ef (fun (v31,c,f)=>∃d:Nat,v31=d/\d<=data.length/\(∀j x,j<d->data[j]? = some x->Agg data j x)/\((data.take d).map (·.Name)).Nodup/\((data.take d).flatMap I5).Nodup/\J2 c ((data.take d).map (·.Name))/\J2 f ((data.take d).flatMap I5))
  (fun (v31,_,_)=>data.length-v31.toNat) (fun z=>match z with | .inl r=>r=false/\¬Ig data | .inr _=>Ig data) ⟨0,rfl,by omega,by intro j x h; omega,by simp,by simp,by simpa using J2.nil,by simpa using J2.nil⟩ ?_ ?_
 .rintro ⟨v,c,f⟩ ⟨d,rfl,hd,h1,h2,h3,A,U⟩
  rcases Nat.lt_or_ge d data.length with h | h
  .have hx:data[d]? = some data[d]:=B0 h
   generalize data[d]=x at hx
   have hxm:=B7 hx
   obtain ⟨b,b1,b2⟩:=Anz x.Name (by have:=i.nm x hxm; omega)
   obtain ⟨f1,f2⟩:=Aze hx
   simp only [Am (by omega:(d:Int)<(data.length:Int)),cond_true,Bw rfl hx,Ad,b1]
   have bad:∀(u:¬Agg data d x),∃e:Bool⊕((List (ByteArray×Bool))×(List (ByteArray×Bool))),(some (Sum.inr (Sum.inl false)):Option ((Int×(List (ByteArray×Bool))×(List (ByteArray×Bool)))⊕(Bool⊕((List (ByteArray×Bool))×(List (ByteArray×Bool))))))=some (.inr e)/\(match e with | .inl r=>r=false/\¬Ig data | .inr _=>Ig data) :=
    fun u=>⟨.inl false,rfl,rfl,fun hh=>u (hh.2.1 d x hx)⟩
   cases b with
   | false=>
    exact .inr (bad fun hh=>by have:=b2.2 hh.2.2.2.2.1; cases this)
   | true=>
    simp only [Dt,cond_false]
    cases g:E3 c x.Name with
    | true=>
     simp only [cond_true,A.get g,Ad]
     refine .inr ⟨.inl false,rfl,rfl,fun hh=>?_⟩
     have:=hh.2.2.1
     rw [f2] at this
     exact An0 this ((A.2 _).1 g)
    | false=>
     simp only [cond_false]
     by_cases l:x.Vars<0
     .simp only [Am l,cond_true,Ad]
      exact .inr (bad fun hh=>by have:=hh.1; omega)
     by_cases s:x.Vars>6
     .simp only [Ar l,Am s,cond_true,cond_false,Ad]
      exact .inr (bad fun hh=>by have:=hh.2.1; omega)
     simp only [Ar l,Ar s,cond_false,Ad]
     by_cases q:(x.Cons.length:Int)<1
     .simp only [Am q,cond_true,Ad]
      exact .inr (bad fun hh=>by have:=hh.2.2.1; omega)
     by_cases y:(x.Cons.length:Int)>8
     .simp only [Ar q,Am y,cond_true,cond_false,Ad]
      exact .inr (bad fun hh=>by have:=hh.2.2.2.1; omega)
     simp only [Ar q,Ar y,cond_false,Ad]
     obtain ⟨z,J,z2⟩:=Azd i hx (by omega) f _ U h3
     rw [J,Ad]
     match z,z2 with
     | .inl r,z2=>
      obtain ⟨rfl,z2⟩:=z2
      refine .inr ⟨.inl false,rfl,rfl,fun hh=>z2 ⟨(hh.2.1 d x hx).2.2.2.2.2,?_⟩⟩
      have:=hh.2.2.2
      rw [f1] at this
      exact (List.nodup_append.1 this).1
     | .inr (v60,B),z2=>
      obtain ⟨N,M,L⟩:=z2
      have ht:=C5 hx
      have D:x.Name ∉ (data.take d).map (·.Name):=fun hh=>by rw [(A.2 _).2 hh] at g; cases g
      have I:(data.take (d+1)).map (·.Name)=(data.take d).map (·.Name)++[x.Name]:=by rw [ht]; simp
      have G:(data.take (d+1)).flatMap I5=(data.take d).flatMap I5++I5 x:=by rw [ht]; simp [List.flatMap_append]
      refine .inl ⟨(((d+1:Nat):Int),Fd c x.Name true,B),by simp only [C8 h (by omega)],⟨d+1,rfl,by omega,?_,?_,?_,?_,?_⟩,by simp; omega⟩
      .intro j R S k
       rcases Nat.lt_or_ge j d with h' | h'
       .exact h1 j R h' k
       .have:j=d:=by omega
        subst this
        rw [hx] at k; cases k
        exact ⟨by omega,by omega,by omega,by omega,b2.1 rfl,N⟩
      .rw [I]; exact An1 h2 D
      .rw [G]; exact M
      .rw [I]; exact A.put _
      .rw [G]; exact L
  .have:d=data.length:=by omega
   subst this
   rw [List.take_length] at h2 h3
   exact .inr ⟨.inr (c,f),by simp,h12,fun d x hx=>h1 d x (Eo hx) hx,h2,h3⟩
 .rintro (r | ⟨o,o'⟩) i
  .obtain ⟨rfl,i⟩:=i
   exact ⟨false,rfl,by simp [i]⟩
  .exact ⟨true,rfl,by simpa using i⟩
theorem Abx {data:List Ap} (c:DSz data):∃b,Qi data=some b/\(b=true↔Ig data):=by
 obtain ⟨b,h1,h2⟩:=Azf c
 refine ⟨b,?_,h2⟩
 unfold Qi
 rw [h1,Ad]
 cases b with
 | false=>rfl
 | true=>rfl
end Go.Ab
namespace Go.Ab
open Go
theorem SzD.args {data:List Ap} (h:SzD data) {x:Ap} (hx:x∈data) {y:Rg} (hy:y∈x.Cons) {t:Ah} (ht:t∈y.Args):Bx t<=1048576/\t.Args.length<=1048576/\y.Args.length<=1048576:=by
 have h1:=(h x hx).2 y hy
 have h3:=J1 ht
 have f:=Jl t
 have c:=L2 t.Args
 have b:=L2 y.Args
 omega
end Go.Ab
namespace Go.Ab
open Go
def isV (σ:List Ah) (k n:Int):Bool:=k==4&&decide (0<=n)&&decide (n<(σ.length:Int))
mutual
def De (σ:List Ah):Ah->Ah
 | ⟨k,n,l⟩=>match (if isV σ k n then σ[n.toNat]? else none) with
  | some s=>s
  | none=>⟨k,n,L3 σ l⟩
def L3 (σ:List Ah):List Ah->List Ah
 | []=>[]
 | x::xs=>De σ x::L3 σ xs
end
theorem Agh (σ l:List Ah):L3 σ l=l.map (De σ):=by
 induction l with
 | nil=>rfl
 | cons x xs ih=>simp only [L3,ih,List.map_cons]
theorem Aby {σ:List Ah} {k n:Int} (h:isV σ k n=true):∃s,σ[n.toNat]? = some s/\Ag σ n=some s/\s∈σ:=by
 simp only [isV,Cu,decide_eq_true_eq] at h
 have b:n.toNat < σ.length:=by omega
 refine ⟨σ[n.toNat],B0 b,?_,List.getElem_mem b⟩
 unfold Ag
 rw [if_pos (by omega),B0 b]
theorem Xm {σ:List Ah} {t s:Ah} (h:isV σ t.Kind t.Num=true) (b:σ[t.Num.toNat]? = some s):De σ t=s:=by
 cases t; simp only [De] at *; simp [h,b]
theorem Abz {σ:List Ah} {t:Ah} (h:isV σ t.Kind t.Num=false):De σ t=⟨t.Kind,t.Num,t.Args.map (De σ)⟩:=by
 cases t; simp only [De] at *; simp [h,Agh]
mutual
theorem An2:∀t:Ah,De [] t=t
 | ⟨k,n,l⟩=>by
  have hv:isV [] k n=false:=by
   unfold isV
   by_cases h:0<=n
   .rw [Ar (by simp; omega:¬n<(([]:List Ah).length:Int))]; simp
   .rw [Ar h]; simp
  simp only [De,hv,An3 l]; rfl
theorem An3:∀l:List Ah,L3 [] l=l
 | []=>rfl
 | x::xs=>by simp only [L3,An2 x,An3 xs]
end
mutual
theorem An4 (σ:List Ah) (M:Nat) (hM:1<=M) (hσ:∀s∈σ,Bx s<=M):∀t:Ah,Bx (De σ t)<=Bx t*M
 | ⟨k,n,l⟩=>by
  cases hv:isV σ k n with
  | true=>
   obtain ⟨s,h1,_,h3⟩:=Aby hv
   rw [Xm (t:=⟨k,n,l⟩) hv h1]
   have:=hσ s h3
   have h2:=Ue ⟨k,n,l⟩
   calc Bx s<=1*M:=by omega
    _<=_:=Nat.mul_le_mul_right M h2
  | false=>
   have:=An5 σ M hM hσ l
   simp only [De,hv,Bx]
   simp only [Bool.false_eq_true,if_false,Bx]
   rw [Nat.add_mul]; omega
theorem An5 (σ:List Ah) (M:Nat) (hM:1<=M) (hσ:∀s∈σ,Bx s<=M):∀l:List Ah,C2 (L3 σ l)<=C2 l*M
 | []=>by simp [L3,C2]
 | x::xs=>by
  have h1:=An4 σ M hM hσ x
  have h2:=An5 σ M hM hσ xs
  simp only [L3,C2]
  rw [Nat.add_mul]; omega
end
theorem An6 (σ:List Ah) (t:Ah):(bif t.Kind==(4:Int) then bif decide (t.Num>=(0:Int)) then some (decide (t.Num<(σ.length:Int))) else some false else some false)=some (isV σ t.Kind t.Num):=by
 unfold isV
 cases t.Kind==4 <;> simp
 by_cases h:0<=t.Num <;> simp [h]
theorem Azg:∀(k:Nat) (t:Ah) (σ:List Ah) (M:Nat),(∀s∈σ,Bx s<=M)->Bx t+M+1<=k->k<1099511627776->Nm k t σ=some (De σ t):=by
 intro k
 induction k with
 | zero=>intro t σ M _ h; omega
 | succ k ih=>
  intro t σ M b h hk
  have f:=Jl t
  have c:=L2 t.Args
  rw [Nm]
  rw [show (show Option Bool from bif t.Kind==(4:Int) then bif decide (t.Num>=(0:Int)) then some (decide (t.Num<(σ.length:Int))) else some false else some false)=some (isV σ t.Kind t.Num) from An6 σ t,Ad]
  cases hv:isV σ t.Kind t.Num with
  | true=>
   obtain ⟨s,h1,h2,h3⟩:=Aby hv
   have:=b s h3
   simp only [cond_true,h2,Ad,Xm hv h1,ih s [] 0 (by simp) (by omega) (by omega),An2]
  | false=>
   rw [Abz hv]
   simp only [cond_false]
   refine Gf t.Args (fun j=>((j:Int),(t.Args.take j).map (De σ))) rfl (by omega) ?_ ?_
   .intro j x hj hx h1 h2 h3
    have:=J1 (B7 hx)
    simp only [h1,h2,h3,cond_true,Ad,ih x σ M b (by omega) (by omega)]
    rw [Dh (by simp; omega),Ad,C5 hx]; simp
   .intro h1
    exact ⟨t.Args.map (De σ),by simp,rfl⟩
theorem Azh:∀(k:Nat) (t:Ah),Bx t<=k->Bx t<1099511627776->Ot k t=some (Bx t:Int):=by
 intro k
 induction k with
 | zero=>intro t h; have:=Ue t; omega
 | succ k ih=>
  intro t h ht
  have b:=Jl t
  have c:=L2 t.Args
  rw [Ot]
  refine Gf t.Args (fun j=>(1+(C2 (t.Args.take j):Int),(j:Int))) rfl (by omega) ?_ ?_
  .intro j x hj hx h1 h2 h3
   have g:=J1 (B7 hx)
   have f:=Agc t.Args (j+1)
   have e:C2 (t.Args.take (j+1))=C2 (t.Args.take j)+Bx x:=by rw [C5 hx,Abu]; simp [C2]
   simp only [h1,h2,h3,cond_true,Ad,ih x (by omega) (by omega)]
   rw [show Ac (1+(C2 (t.Args.take j):Int)+(Bx x:Int))=1+(C2 (t.Args.take (j+1)):Int) by rw [e,Ac,Bs] <;> omega]
  .intro h1
   exact ⟨1+(C2 t.Args:Int),by simp,by rw [b]; simp⟩
theorem Azi (σ:List Ah) (M:Nat) (D:1<=M) (q:M<=1048576) (z:∀s∈σ,Bx s<=M):∀(k:Nat) (t:Ah),Bx t<=k->Bx t<=1048576 ->
  ∃v:Nat,Ou k t (σ.map fun s=>(Bx s:Int))=some (v:Int)/\v<=Bx (De σ t)/\((v=Bx (De σ t))\/200<v):=by
 intro k
 induction k with
 | zero=>intro t h; have:=Ue t; omega
 | succ k ih=>
  intro t h ht
  have A:=Jl t
  have y:=L2 t.Args
  have g:∀x,Bx x<=1048576->Bx (De σ x)<=1099511627776:=fun x hx=>by
   have:=An4 σ M D z x
   have:Bx x*M<=1048576*1048576:=Nat.mul_le_mul hx q
   omega
  rw [Ou]
  rw [show (show Option Bool from bif t.Kind==(4:Int) then bif decide (t.Num>=(0:Int)) then some (decide (t.Num<((σ.map fun s=>(Bx s:Int)).length:Int))) else some false else some false)=some (isV σ t.Kind t.Num) by rw [List.length_map]; exact An6 σ t,Ad]
  cases hv:isV σ t.Kind t.Num with
  | true=>
   obtain ⟨s,h1,h2,h3⟩:=Aby hv
   have hi:Ag (σ.map fun s=>(Bx s:Int)) t.Num=some (Bx s:Int):=by
    have:=F5 h2
    rw [Bw (n:=t.Num.toNat) (by omega)]
    simp [h1]
   simp only [cond_true,hi,Ad,Xm hv h1]
   exact ⟨Bx s,rfl,Nat.le_refl _,.inl rfl⟩
  | false=>
   have u:=g t ht
   rw [Abz hv] at u ⊢
   simp only [cond_false]
   have f:Bx ⟨t.Kind,t.Num,t.Args.map (De σ)⟩=1+C2 (t.Args.map (De σ)):=by simp only [Bx]
   rw [f] at u ⊢
   refine Aba (fun v:Nat=>(v:Int)) (Ef (fun (n,i)=>∃j:Nat,i=j/\j<=t.Args.length/\n=1+(C2 ((t.Args.map (De σ)).take j):Int)) (fun (_,i)=>t.Args.length-i.toNat)
    (fun n=>∃v:Nat,n=v/\v<=1+C2 (t.Args.map (De σ))/\(v=1+C2 (t.Args.map (De σ))\/200<v)) ⟨0,rfl,by omega,by simp [C2]⟩ ?_ ?_)
   .rintro ⟨n,i⟩ ⟨j,rfl,hj,l⟩
    have l:n=_:=l
    subst l
    rcases Nat.lt_or_ge j t.Args.length with h' | h'
    .have hx:t.Args[j]? = some t.Args[j]:=B0 h'
     generalize t.Args[j]=x at hx
     have G:=J1 (B7 hx)
     obtain ⟨v,b,v2,v3⟩:=ih x (by omega) (by omega)
     have c:(t.Args.map (De σ))[j]? = some (De σ x):=by simp [hx]
     have e:C2 ((t.Args.map (De σ)).take (j+1))=C2 ((t.Args.map (De σ)).take j)+Bx (De σ x):=by rw [C5 c,Abu]; simp [C2]
     have B:=Agc (t.Args.map (De σ)) (j+1)
     have E:Ac (1+(C2 ((t.Args.map (De σ)).take j):Int)+(v:Int))=((1+C2 ((t.Args.map (De σ)).take j)+v:Nat):Int):=by rw [Ac,Bs] <;> omega
     simp only [Am (by omega:(j:Int)<(t.Args.length:Int)),cond_true,Bw rfl hx,Ad,b,C8 h' (by omega),E]
     by_cases hb:1+C2 ((t.Args.map (De σ)).take j)+v>200
     .rw [Am (by omega)]
      exact .inr ⟨_,rfl,_,rfl,by omega,.inr hb⟩
     .rw [Ar (by omega)]
      refine .inl ⟨_,rfl,⟨j+1,rfl,by omega,?_⟩,by simp; omega⟩
      have:v=Bx (De σ x):=by omega
      subst this
      rw [e]; omega
    .have:j=t.Args.length:=by omega
     subst this
     refine .inr ⟨_,by simp; rfl,1+C2 (t.Args.map (De σ)),?_,by omega,.inl rfl⟩
     rw [List.take_of_length_le (by simp)]; omega
   .rintro n ⟨v,rfl,b,v2⟩
    exact ⟨_,rfl,v,rfl,b,v2⟩
def Ih (data:List Ap) (t:Ah) (c:Int):Option (List Ah) :=
 if t.Kind=5 then
  match Ag data t.Num with
  | none=>none
  | some x=>if (t.Args.length:Int)=x.Vars then
    match Ag x.Cons c with
    | none=>none
    | some y=>if (y.Args.map (De t.Args)).all (fun a=>decide (Bx a<=200)) then some (y.Args.map (De t.Args)) else none
   else none
 else none
def okL (o:Option (List Ah)):List Ah×Bool:=match o with | none=>([],false) | some l=>(l,true)
def Szv (data:List Ap):Prop:=∀x∈data,∀y∈x.Cons,y.Args.length<=6/\∀a∈y.Args,Bx a<=200
theorem Ig.szv {data:List Ap} (h:Ig data):Szv data:=by
 intro x hx y hy
 obtain ⟨d,hd⟩:=List.getElem?_of_mem hx
 have h1:=h.2.1 d x hd
 obtain ⟨_,c,b⟩:=h1.2.2.2.2.2 y hy
 refine ⟨c,fun a ha=>?_⟩
 have:=List.all_eq_true.1 b a ha
 unfold Pb at this
 rw [Bool.or_eq_true] at this
 rcases this with h' | h'
 .exact (Agd hd h1.2.1 h').2
 .simp only [Cu,decide_eq_true_eq] at h'; exact h'.2
end Go.Ab
namespace Go.Ab
open Go
theorem Ab0 {data:List Ap} (A:Szv data) (t:Ah) (ht:Bx t<=200) (c:Int):T2 data t c=some (okL (Ih data t c)):=by
 have B:=Jl t
 have q:=L2 t.Args
 unfold T2 Ih
 by_cases hk:t.Kind=5
 .simp only [Fp hk,cond_false,if_pos hk]
  cases hx:Ag data t.Num with
  | none=>
   rcases Xg hx with h | h
   .simp only [Am h,cond_true,Ad,okL]
   .by_cases h':t.Num<0
    .simp only [Am h',cond_true,Ad,okL]
    .simp only [Ar h',Am (show t.Num>=(data.length:Int) from h),cond_true,cond_false,Ad,okL]
  | some x=>
   obtain ⟨a1,a2,_,hxm⟩:=F5 hx
   simp only [Ar (by omega:¬t.Num<0),Ar (by omega:¬t.Num>=(data.length:Int)),cond_false,Ad]
   by_cases hv:(t.Args.length:Int)=x.Vars
   .simp only [Fp hv,cond_false,if_pos hv]
    cases hy:Ag x.Cons c with
    | none=>
     rcases Xg hy with h | h
     .simp only [Am h,cond_true,Ad,okL]
     .by_cases h':c<0
      .simp only [Am h',cond_true,Ad,okL]
      .simp only [Ar h',Am (show c>=(x.Cons.length:Int) from h),cond_true,cond_false,Ad,okL]
    | some y=>
     obtain ⟨b1,b2,_,i⟩:=F5 hy
     obtain ⟨G,b⟩:=A x hxm y i
     simp only [Ar (by omega:¬c<0),Ar (by omega:¬c>=(x.Cons.length:Int)),cond_false,Ad]
     rw [I4 (n:=t.Args.length) (c:=t.Args.length) rfl rfl (by omega) (by omega) (by omega),Ad]
     refine Gf t.Args (fun j=>((j:Int),((t.Args.take j).map fun s=>(Bx s:Int))++List.replicate (t.Args.length-j) 0)) rfl (by omega) ?_ ?_
     .intro j s hj g h1 h2 h3
      have:=J1 (B7 g)
      obtain ⟨m,D⟩:∃m,t.Args.length-j=m+1:=⟨t.Args.length-j-1,by omega⟩
      have E:t.Args.length-(j+1)=m:=by omega
      have k:j=((t.Args.take j).map fun s=>(Bx s:Int)).length:=by simp; omega
      simp only [h1,h2,h3,cond_true,Ad,Azh 4000000 s (by omega) (by omega),D,E,List.replicate_succ,Xi _ _ _ (j:Int) j rfl k,Xh _ _ _ _ (j:Int) j rfl k,C5 g]
      simp
     .intro h1
      refine ⟨t.Args.map fun s=>(Bx s:Int),by simp,?_⟩
      have l:∀s∈t.Args,Bx s<=200:=fun s g=>by have:=J1 g; omega
      refine (W9 (rt:=(y.Args.map (De t.Args),true)) (rf:=([],false)) y.Args (fun a=>decide (Bx (De t.Args a)<=200)) (fun j=>(j:Int)) rfl (by omega) ?_ ?_).trans ?_
      .intro j a ha h1 h2 h3
       have z:=b a (B7 ha)
       obtain ⟨v,u,v2,v3⟩:=Azi t.Args 200 (by omega) (by omega) l 4000000 a (by omega) (by omega)
       simp only [h1,h2,h3,cond_true,Ad,u]
       by_cases hb:Bx (De t.Args a)<=200
       .rw [Am hb,Ar (by omega)]
        exact ⟨fun _=>rfl,fun h=>by cases h⟩
       .rw [Ar hb,Am (by omega)]
        exact ⟨(fun h=>by cases h),fun _=>⟨_,rfl,rfl⟩⟩
      .intro h1
       refine ⟨.inr (),by simp,?_⟩
       simp only
       refine Gf y.Args (fun j=>((j:Int),(y.Args.take j).map (De t.Args))) rfl (by omega) ?_ ?_
       .intro j a hj ha h1 h2 h3
        have z:=b a (B7 ha)
        simp only [h1,h2,h3,cond_true,Ad,Azg 4000000 a t.Args 200 l (by omega) (by omega)]
        rw [Dh (by simp; omega),Ad,C5 ha]; simp
       .intro h1
        exact ⟨y.Args.map (De t.Args),by simp,rfl⟩
      .rw [List.all_map]
       cases f:y.Args.all ((fun a=>decide (Bx a<=200)) ∘ De t.Args) with
       | true=>rw [if_pos rfl]; rw [show (y.Args.all fun a=>decide (Bx (De t.Args a)<=200))=true from f]; rfl
       | false=>rw [show (y.Args.all fun a=>decide (Bx (De t.Args a)<=200))=false from f]; rfl
   .simp only [Em hv,cond_true,Ad,if_neg hv,okL]
 .simp only [Em hk,cond_true,Ad,if_neg hk,okL]
theorem Azj {data:List Ap} (b:Szv data) (t:Ah) (ht:Bx t<=200) (c:Int):Aad data t c=some (okL (Ih data t c)):=Ab0 b t ht c
theorem Pc {data:List Ap} {t:Ah} {c:Int} {l:List Ah} (h:Ih data t c=some l) :
  ∃x y,t.Kind=5/\Ag data t.Num=some x/\(t.Args.length:Int)=x.Vars/\Ag x.Cons c=some y/\l=y.Args.map (De t.Args)/\∀a∈l,Bx a<=200:=by
 unfold Ih at h
 by_cases hk:t.Kind=5
 .rw [if_pos hk] at h
  cases hx:Ag data t.Num with
  | none=>rw [hx] at h; cases h
  | some x=>
   rw [hx] at h
   simp only at h
   by_cases hv:(t.Args.length:Int)=x.Vars
   .rw [if_pos hv] at h
    cases hy:Ag x.Cons c with
    | none=>rw [hy] at h; cases h
    | some y=>
     rw [hy] at h
     simp only at h
     by_cases b:(y.Args.map (De t.Args)).all (fun a=>decide (Bx a<=200))=true
     .rw [if_pos b] at h
      cases h
      refine ⟨x,y,hk,rfl,hv,hy,rfl,fun a ha=>?_⟩
      have:=List.all_eq_true.1 b a ha
      simpa using this
     .rw [if_neg b] at h; cases h
   .rw [if_neg hv] at h; cases h
 .rw [if_neg hk] at h; cases h
def Fq (l:List Ah) (r:List Bool):List Ah:=((l.zip r).filter fun p=>!p.2).map (·.1)
def G5 (data:List Ap) (t:Ah) (c:Int):Option (List Ah):=(Ih data t c).map fun l=>Fq l (Dq data t.Num c)
theorem Xn {data:List Ap} {t:Ah} {c:Int} {l:List Ah} (h:Ih data t c=some l):(Dq data t.Num c).length=l.length:=by
 obtain ⟨x,y,_,hx,_,hy,rfl,_⟩:=Pc h
 unfold Dq
 simp only [hx,hy,List.length_map]
theorem Agi {l:List Ah} {r:List Bool} {j:Nat} {a:Ah} {b:Bool} (h1:l[j]? = some a) (h2:r[j]? = some b):Fq (l.take (j+1)) (r.take (j+1))=Fq (l.take j) (r.take j)++bif b then [] else [a]:=by
 unfold Fq
 have f:=Eo h1
 have c:=Eo h2
 rw [C5 h1,C5 h2,List.zip_append (by simp; omega)]
 cases b <;> simp
theorem Ab1 (l:List Ah) (r:List Bool):(Fq l r).length<=l.length:=by
 unfold Fq
 rw [List.length_map]
 refine Nat.le_trans (List.length_filter_le _ _) ?_
 rw [List.length_zip]; omega
theorem Ab2 {data:List Ap} (f:Szv data) (i:Mx data) (t:Ah) (ht:Bx t<=200) (c:Int):Tv data t c=some (okL (G5 data t c)):=by
 unfold Tv G5
 rw [Ab0 f t ht c,Ad]
 cases g:Ih data t c with
 | none=>rfl
 | some l=>
  have k:=Xn g
  obtain ⟨x,y,_,hx,_,hy,s,_⟩:=Pc g
  obtain ⟨h,_⟩:=f x (F5 hx).2.2.2 y (F5 hy).2.2.2
  have q:l.length<=6:=by rw [s]; simpa using h
  simp only [okL,Dt,cond_false,Xj data t.Num c i,Ad,Option.map_some]
  refine Gf (Dq data t.Num c) (fun j=>((j:Int),Fq (l.take j) ((Dq data t.Num c).take j))) (by simp [Fq]) (by omega) ?_ ?_
  .intro j b hj hb h1 h2 h3
   have ha:l[j]? = some l[j]:=B0 (by omega)
   generalize l[j]=a at ha
   have u:=Ab1 (l.take j) ((Dq data t.Num c).take j)
   have:(l.take j).length<=6:=by simp; omega
   simp only [h1,h2,h3,cond_true,Ad,Bw rfl ha,Agi ha hb]
   rw [Dh (by simp; omega)]
   cases b <;> simp
  .intro h1
   refine ⟨Fq l (Dq data t.Num c),?_,rfl⟩
   simp only [h1]
   rw [List.take_of_length_le (by omega),List.take_of_length_le (Nat.le_refl _)]; rfl
def G6 (r:List Bool):List Int:=(r.zipIdx.filter fun p=>!p.1).map fun p=>(p.2:Int)
theorem Azk {r:List Bool} {j:Nat} {b:Bool} (h:r[j]? = some b):(r.take (j+1)).zipIdx=(r.take j).zipIdx++[(b,j)]:=by
 have:=Eo h
 rw [C5 h,List.zipIdx_append]; simp; omega
theorem Agj {data:List Ap} {t:Ah} {c:Int} {l:List Ah} (h:G5 data t c=some l):(∀a∈l,Bx a<=200)/\∃x,Ag data t.Num=some x/\0<=c/\c<x.Cons.length:=by
 unfold G5 at h
 cases b:Ih data t c with
 | none=>rw [b] at h; cases h
 | some m=>
  rw [b] at h
  cases h
  obtain ⟨x,y,_,hx,_,hy,_,g⟩:=Pc b
  refine ⟨fun a ha=>?_,x,hx,(F5 hy).1,(F5 hy).2.1⟩
  unfold Fq at ha
  obtain ⟨p,f,rfl⟩:=List.mem_map.1 ha
  exact g _ (List.of_mem_zip (List.mem_filter.1 f).1).1
end Go.Ab
namespace Go.Ab
open Go
mutual
def Di:Bc->Nat
 | ⟨_,l⟩=>1+Fg l
def Fg:List Bc->Nat
 | []=>0
 | x::xs=>Di x+Fg xs
end
theorem F6 (t:Bc):Di t=1+Fg t.Kids:=by cases t; simp only [Di]
theorem La {l:List Bc} {a:Bc} (h:a∈l):Di a<=Fg l:=by
 induction l with
 | nil=>cases h
 | cons x xs ih=>
  simp only [Fg]
  rcases List.mem_cons.1 h with rfl | h
  .omega
  .have:=ih h; omega
theorem Pd (l:List Bc):l.length<=Fg l:=by
 induction l with
 | nil=>simp
 | cons x xs ih=>simp only [Fg,List.length_cons]; have:=F6 x; omega
mutual
def Fh (data:List Ap):Bc->Ah->Option Nat
 | ⟨n,kids⟩,t=>
  if t.Kind=6 then (if n=0 then Df data kids t.Args else none)
  else if t.Kind=7 then (if 0<=n/\n<=6/\kids.length=0 then some n.toNat else none)
  else if t.Kind=5 then (if n=0 then G0 data kids t else none)
  else if n=0/\kids.length=0 then some 0 else none
def Df (data:List Ap):List Bc->List Ah->Option Nat
 | [],[]=>some 0
 | i::is,t::ts=>(Fh data i t).bind fun a=>(Df data is ts).map (a + ·)
 | [],_::_=>none
 | _::_,[]=>none
def G0 (data:List Ap):List Bc->Ah->Option Nat
 | [],_=>some 0
 | ⟨n,kids⟩::es,t=>(G5 data t n).bind fun ts=>(Df data kids ts).bind fun a=>(G0 data es t).map (1+a + ·)
end
theorem Xo (data:List Ap) (i:Bc) (t:Ah):Fh data i t=if t.Kind=6 then (if i.Num=0 then Df data i.Kids t.Args else none)
  else if t.Kind=7 then (if 0<=i.Num/\i.Num<=6/\i.Kids.length=0 then some i.Num.toNat else none)
  else if t.Kind=5 then (if i.Num=0 then G0 data i.Kids t else none)
  else if i.Num=0/\i.Kids.length=0 then some 0 else none:=by cases i; simp only [Fh]
theorem Ab3 (data:List Ap) (e:Bc) (es:List Bc) (t:Ah):G0 data (e::es) t=(G5 data t e.Num).bind fun ts=>(Df data e.Kids ts).bind fun a=>(G0 data es t).map (1+a + ·):=by cases e; simp only [G0]
theorem Pe (data:List Ap) (i:Bc) (b:List Bc) (t:Ah) (ts:List Ah):Df data (i::b) (t::ts)=(Fh data i t).bind fun a=>(Df data b ts).map (a + ·):=by simp only [Df]
theorem Agk (data:List Ap):∀(b:List Bc) (ts:List Ah),ts.length≠b.length->Df data b ts=none
 | [],[],h=>absurd rfl h
 | i::b,t::ts,h=>by rw [Pe,Agk data b ts (by simpa using h)]; cases Fh data i t <;> rfl
 | [],_::_,_=>by simp only [Df]
 | _::_,[],_=>by simp only [Df]
def I6 (o:Option Nat):Int:=match o with | some d=>if d<=6 then (d:Int) else -1 | none => -1
theorem Ab4 {d:Nat} (h:d<=6):I6 (some d)=d:=by simp [I6,h]
theorem Agl {d:Nat} (h:6<d):I6 (some d) = -1:=by simp only [I6]; rw [if_neg (by omega)]
theorem An7 (o:Option Nat):(I6 o = -1/\∀d,o=some d->6<d)\/∃d,o=some d/\d<=6/\I6 o=d:=by
 cases o with
 | none=>exact .inl ⟨rfl,fun d h=>by cases h⟩
 | some d=>
  rcases Nat.lt_or_ge 6 d with h | h
  .exact .inl ⟨Agl h,fun e b=>by cases b; exact h⟩
  .exact .inr ⟨d,rfl,h,Ab4 h⟩
theorem An8 {o:Option Nat} (h:∀d,o=some d->6<d):I6 o = -1:=by
 cases o with
 | none=>rfl
 | some d=>exact Agl (h d rfl)
def Pr (p:Int×Bool) (o:Option Nat):Prop:=(p.2=true/\∃d:Nat,o=some d/\d<=6/\p.1=d)\/(p.2=false/\∀d,o=some d->6<d)
theorem Iu {α:Type} {l:List α} {j:Nat} {x:α} (h:l[j]? = some x):l.drop j=x::l.drop (j+1):=by
 have hj:=Eo h
 rw [List.drop_eq_getElem_cons hj]
 rw [B0 hj] at h
 rw [Option.some.inj h]
theorem Azl {data:List Ap} (M:Szv data) (N:Mx data):∀k:Nat,
  (∀(i:Bc) (t:Ah),2*Di i<=k->Di i<=1048576->Bx t<=200->∃p,Ov k data t i=some p/\Pr p (Fh data i t)) /\
  (∀(c:List Bc) (ts:List Ah),2*Fg c+1<=k->Fg c<=1048576->(∀t∈ts,Bx t<=200)->∃p,Ox k data ts c=some p/\Pr p (Df data c ts)):=by
 intro k
 induction k with
 | zero=>exact ⟨fun i t h=>by have:=F6 i; omega,fun c ts h=>by omega⟩
 | succ k ih=>
  obtain ⟨Z,J⟩:=ih
  constructor
  .intro i t hk hi ht
   have a8:=F6 i
   have a6:=Pd i.Kids
   rw [Ov,Xo]
   by_cases U:t.Kind=6
   .simp only [Dj U,cond_true,if_pos U]
    by_cases h0:i.Num=0
    .simp only [Fp h0,cond_false,if_pos h0]
     obtain ⟨p,p1,p2⟩:=J i.Kids t.Args (by omega) (by omega) (fun a ha=>by have:=J1 ha; have:=Jl t; omega)
     rw [p1]
     exact ⟨p,rfl,p2⟩
    .simp only [Em h0,cond_true,if_neg h0]
     exact ⟨_,rfl,.inr ⟨rfl,fun d h=>by cases h⟩⟩
   .simp only [Cp U,cond_false,if_neg U]
    by_cases R:t.Kind=7
    .simp only [Dj R,cond_true,if_pos R]
     by_cases a1:0<=i.Num
     .by_cases a2:i.Num<=6
      .by_cases a3:i.Kids.length=0
       .rw [Am (show i.Num>=0 from a1),Am a2,if_pos ⟨a1,a2,a3⟩]
        exact ⟨_,rfl,.inl ⟨by simp [a3],i.Num.toNat,rfl,by omega,by simp; omega⟩⟩
       .rw [Am (show i.Num>=0 from a1),Am a2,if_neg (fun h=>a3 h.2.2)]
        exact ⟨_,rfl,.inr ⟨Cp (by omega),fun d h=>by cases h⟩⟩
      .rw [Am (show i.Num>=0 from a1),Ar a2,if_neg (fun h=>a2 h.2.1)]
       exact ⟨_,rfl,.inr ⟨rfl,fun d h=>by cases h⟩⟩
     .rw [Ar (show ¬i.Num>=0 from a1),if_neg (fun h=>a1 h.1)]
      exact ⟨_,rfl,.inr ⟨rfl,fun d h=>by cases h⟩⟩
    .simp only [Cp R,cond_false,if_neg R]
     by_cases V:t.Kind=5
     .simp only [Dj V,cond_true,if_pos V]
      by_cases h0:i.Num=0
      .simp only [Fp h0,cond_false,if_pos h0]
       have key:∀(m j acc:Nat),j+m=i.Kids.length->acc<=6->∃z,Al (S:=(Int×Int)) (E:=((Int×Bool)⊕Int)) (fun (v8,v9)=>
         bif (decide (v9<(i.Kids.length:Int))) then (
         (Ag i.Kids v9).bind fun x=>
         (Tv data t x.Num).bind fun v12=>
         bif (!v12.2) then some (.inr (.inl (0,false)))
         else (
         (Ox k data v12.1 x.Kids).bind fun D=>
         bif (!D.2) then some (.inr (.inl (0,false)))
         else (
         bif (decide ((Ac (v8+(Ac (1+D.1))))>(6:Int))) then some (.inr (.inl (0,false)))
         else some (.inl ((Ac (v8+(Ac (1+D.1)))),(Ac (v9+1)))))))
         else some (.inr (.inr v8))) ((acc:Int),(j:Int))=some z/\(match z with | .inl p=>p=(0,false)/\∀d,(G0 data (i.Kids.drop j) t).map (acc + ·)=some d->6<d | .inr v=>∃d:Nat,(G0 data (i.Kids.drop j) t).map (acc + ·)=some d/\d<=6/\v=d):=by
        intro m
        induction m with
        | zero=>
         intro j acc hj g
         have:j=i.Kids.length:=by omega
         subst this
         exact ⟨.inr (acc:Int),Ee (by simp),acc,by simp [G0],g,rfl⟩
        | succ m y=>
         intro j acc hj g
         have f:i.Kids[j]? = some i.Kids[j]:=B0 (by omega)
         generalize i.Kids[j]=e at f
         have a7:=La (B7 f)
         have aa:=F6 e
         rw [Iu f,Ab3]
         cases hp:G5 data t e.Num with
         | none=>
          refine ⟨.inl (0,false),Ee ?_,rfl,fun d h=>by simp at h⟩
          simp only [Am (by omega:(j:Int)<(i.Kids.length:Int)),cond_true,Bw rfl f,Ad,Ab2 M N t ht e.Num,hp,okL,Bool.not_false]
         | some ts=>
          obtain ⟨q,I,l⟩:=J e.Kids ts (by omega) (by omega) (Agj hp).1
          rcases l with ⟨l,a,A,q4,Y⟩ | ⟨l,A⟩
          .have X:Ac ((acc:Int)+Ac (1+q.1))=((acc+(1+a):Nat):Int):=by
            rw [Y,show Ac (1+(a:Int))=((1+a:Nat):Int) by rw [Ac,Bs] <;> omega,Ac,Bs] <;> omega
           by_cases hb:acc+(1+a)<=6
           .obtain ⟨z,s,z2⟩:=y (j+1) (acc+(1+a)) (by omega) hb
            refine ⟨z,?_,?_⟩
            .rw [Je (s':=(((acc+(1+a):Nat):Int),((j+1:Nat):Int)))]
             .exact s
             .simp only [Am (by omega:(j:Int)<(i.Kids.length:Int)),cond_true,Bw rfl f,Ad,Ab2 M N t ht e.Num,hp,okL,Dt,cond_false,I,l,X,Ar (by omega:¬((acc+(1+a):Nat):Int)>6),C8 (show j<i.Kids.length by omega) (by omega)]
            .have G:∀o:Option Nat,(((some a:Option Nat).bind fun a=>o.map (1+a + ·)).map (acc + ·))=o.map (acc+(1+a) + ·):=by
              intro o; cases o <;> simp [Nat.add_assoc]
             rw [Ad,A,G]
             exact z2
           .refine ⟨.inl (0,false),Ee ?_,rfl,fun d h=>?_⟩
            .simp only [Am (by omega:(j:Int)<(i.Kids.length:Int)),cond_true,Bw rfl f,Ad,Ab2 M N t ht e.Num,hp,okL,Dt,cond_false,I,l,X,Am (by omega:((acc+(1+a):Nat):Int)>6)]
            .rw [Ad,A,Ad] at h
             cases B:G0 data (i.Kids.drop (j+1)) t with
             | none=>rw [B] at h; cases h
             | some b=>rw [B] at h; simp at h; omega
          .refine ⟨.inl (0,false),Ee ?_,rfl,fun d h=>?_⟩
           .simp only [Am (by omega:(j:Int)<(i.Kids.length:Int)),cond_true,Bw rfl f,Ad,Ab2 M N t ht e.Num,hp,okL,Dt,cond_false,I,l,Bool.not_false]
           .rw [Ad] at h
            cases ha:Df data e.Kids ts with
            | none=>rw [ha] at h; cases h
            | some a=>
             rw [ha,Ad] at h
             have:=A a ha
             cases B:G0 data (i.Kids.drop (j+1)) t with
             | none=>rw [B] at h; cases h
             | some b=>rw [B] at h; simp at h; omega
       obtain ⟨z,s,z2⟩:=key i.Kids.length 0 0 (by omega) (by omega)
       have s:Al _ ((0:Int),(0:Int))=some z:=s
       rw [s,Ad]
       have G:∀o:Option Nat,o.map (0 + ·)=o:=by intro o; cases o <;> simp
       rw [List.drop_zero,G] at z2
       match z,z2 with
       | .inl p,z2=>exact ⟨_,rfl,.inr ⟨by rw [z2.1],z2.2⟩⟩
       | .inr v,z2=>
        obtain ⟨d,d1,d2,d3⟩:=z2
        exact ⟨_,rfl,.inl ⟨rfl,d,d1,d2,d3⟩⟩
      .simp only [Em h0,cond_true,if_neg h0]
       exact ⟨_,rfl,.inr ⟨rfl,fun d h=>by cases h⟩⟩
     .simp only [Cp V,cond_false,if_neg V]
      by_cases h0:i.Num=0
      .simp only [Dj h0,cond_true]
       by_cases a3:i.Kids.length=0
       .rw [if_pos ⟨h0,a3⟩]
        exact ⟨_,rfl,.inl ⟨by simp [a3],0,rfl,by omega,rfl⟩⟩
       .rw [if_neg (fun h=>a3 h.2)]
        exact ⟨_,rfl,.inr ⟨Cp (by omega),fun d h=>by cases h⟩⟩
      .simp only [Cp h0,cond_false]
       rw [if_neg (fun h=>h0 h.1)]
       exact ⟨_,rfl,.inr ⟨rfl,fun d h=>by cases h⟩⟩
  .intro c ts hk hi ht
   have a6:=Pd c
   rw [Ox]
   by_cases hl:ts.length=c.length
   .rw [Fp (by omega)]
    simp only [cond_false]
    have key:∀(m j acc:Nat),j+m=c.length->acc<=6*j->∃z,Al (S:=(Int×Int)) (E:=((Int×Bool)⊕Int)) (fun (v5,L)=>
      bif (decide (L<(ts.length:Int))) then (
      (Ag ts L).bind fun v7=>
      (Ag c L).bind fun v9=>
      (Ov k data v7 v9).bind fun x=>
      bif (!x.2) then some (.inr (.inl (0,false)))
      else some (.inl ((Ac (v5+x.1)),(Ac (L+1)))))
      else some (.inr (.inr v5))) ((acc:Int),(j:Int))=some z/\(match z with | .inl p=>p=(0,false)/\∀d,(Df data (c.drop j) (ts.drop j)).map (acc + ·)=some d->6<d | .inr v=>∃d:Nat,(Df data (c.drop j) (ts.drop j)).map (acc + ·)=some d/\v=d):=by
     intro m
     induction m with
     | zero=>
      intro j acc hj g
      have:j=ts.length:=by omega
      subst this
      refine ⟨.inr (acc:Int),Ee (by simp),acc,?_,rfl⟩
      rw [List.drop_of_length_le (by omega),List.drop_of_length_le (by omega)]
      simp [Df]
     | succ m y=>
      intro j acc hj g
      have f:c[j]? = some c[j]:=B0 (by omega)
      generalize c[j]=e at f
      have hu:ts[j]? = some ts[j]:=B0 (by omega)
      generalize ts[j]=u at hu
      have a7:=La (B7 f)
      rw [Iu f,Iu hu,Pe]
      obtain ⟨q,I,l⟩:=Z e u (by omega) (by omega) (ht u (B7 hu))
      rcases l with ⟨l,a,A,q4,Y⟩ | ⟨l,A⟩
      .have X:Ac ((acc:Int)+q.1)=((acc+a:Nat):Int):=by
        rw [Y,Ac,Bs] <;> omega
       obtain ⟨z,s,z2⟩:=y (j+1) (acc+a) (by omega) (by omega)
       refine ⟨z,?_,?_⟩
       .rw [Je (s':=(((acc+a:Nat):Int),((j+1:Nat):Int)))]
        .exact s
        .simp only [Am (by omega:(j:Int)<(ts.length:Int)),cond_true,Bw rfl f,Bw rfl hu,Ad,Dt,cond_false,I,l,X,C8 (show j<c.length by omega) (by omega)]
       .have G:∀o:Option Nat,(((some a:Option Nat).bind fun a=>o.map (a + ·)).map (acc + ·))=o.map (acc+a + ·):=by
         intro o; cases o <;> simp [Nat.add_assoc]
        rw [A,G]
        exact z2
      .refine ⟨.inl (0,false),Ee ?_,rfl,fun d h=>?_⟩
       .simp only [Am (by omega:(j:Int)<(ts.length:Int)),cond_true,Bw rfl f,Bw rfl hu,Ad,I,l,Bool.not_false]
       .cases ha:Fh data e u with
        | none=>rw [ha] at h; cases h
        | some a=>
         rw [ha,Ad] at h
         have:=A a ha
         cases B:Df data (c.drop (j+1)) (ts.drop (j+1)) with
         | none=>rw [B] at h; cases h
         | some b=>rw [B] at h; simp at h; omega
    obtain ⟨z,s,z2⟩:=key c.length 0 0 (by omega) (by omega)
    have s:Al _ ((0:Int),(0:Int))=some z:=s
    rw [s,Ad]
    have G:∀o:Option Nat,o.map (0 + ·)=o:=by intro o; cases o <;> simp
    rw [List.drop_zero,List.drop_zero,G] at z2
    match z,z2 with
    | .inl p,z2=>exact ⟨_,rfl,.inr ⟨by rw [z2.1],z2.2⟩⟩
    | .inr v,z2=>
     obtain ⟨d,d1,d3⟩:=z2
     by_cases hd:d<=6
     .exact ⟨_,rfl,.inl ⟨Am (by omega),d,d1,hd,d3⟩⟩
     .exact ⟨_,rfl,.inr ⟨Ar (by omega),fun e f=>by rw [d1] at f; cases f; omega⟩⟩
   .rw [Em (by omega),Agk data c ts hl]
    exact ⟨_,rfl,.inr ⟨rfl,fun d h=>by cases h⟩⟩
end Go.Ab
namespace Go.Ab
open Go
theorem Ig.cons8 {data:List Ap} (h:Ig data):∀x∈data,x.Cons.length<=8:=by
 intro x hx
 obtain ⟨d,hd⟩:=List.getElem?_of_mem hx
 exact (h.2.1 d x hd).2.2.2.1
end Go.Ab
