/- Plain laws: what the plain functions answer. -/
import Derived.Test.YtbobikfnkmhgnaaGreatDoorPbPl0
namespace Go.Ab
open Go Ieee
theorem Avo (n d:Nat):∃c,Toward.even.cut false n d=c/\(n / 2 ^ d<=c)/\c<=n / 2 ^ d+1/\(n % 2 ^ d=0->c=n / 2 ^ d):=by
 refine ⟨_,rfl,?_⟩
 unfold Toward.cut
 simp only [Nat.shiftLeft_eq,Nat.one_mul]
 by_cases hd:d<=n.log2+2
 .rw [Nat.min_eq_left hd]
  generalize h2:2 ^ d=g
  have h:0<g:=by rw [<-h2]; exact Nat.pow_pos (by decide)
  refine ⟨by omega,?_,fun h0=>?_⟩
  .have:=Bool.toNat_le (decide (g<2*(n % g))||(g==2*(n % g)&&n / g % 2==1))
   omega
  .rw [h0]
   have h1:decide (g<2*0)=false:=by simp
   have h3:(g==2*0)=false:=by simp; omega
   rw [h1,h3]; rfl
 .rw [Nat.min_eq_right (by omega)]
  have b:n<2 ^ (n.log2+1):=Nat.lt_log2_self
  have h:2 ^ (n.log2+2)=2*2 ^ (n.log2+1):=by rw [Nat.pow_succ]; omega
  have f:2 ^ (n.log2+2)<=2 ^ d:=Nat.pow_le_pow_right (by decide) (by omega)
  have l:n / 2 ^ (n.log2+2)=0:=Nat.div_eq_of_lt (by omega)
  have k:n % 2 ^ (n.log2+2)=n:=Nat.mod_eq_of_lt (by omega)
  have j:n / 2 ^ d=0:=Nat.div_eq_of_lt (by omega)
  have i:n % 2 ^ d=n:=Nat.mod_eq_of_lt (by omega)
  rw [l,k,j,i]
  have h1:decide (2 ^ (n.log2+2)<2*n)=false:=by simp; omega
  have h3:(2 ^ (n.log2+2)==2*n)=false:=by simp; omega
  rw [h1,h3]
  exact ⟨by simp,by simp,fun _=>rfl⟩
theorem Uc (f:Nat) (place e:Int) (hm:f≠0) (D:place+f.log2=e) (h1 : -1000<=e) (h2:e<=900) :
  ∃(m:Nat) (p:Int),double.read (double.nearest false f place) = .number false m p/\4503599627370496<=m/\m<9007199254740992/\(p=e-52\/(p=e-51/\m=4503599627370496)):=by
 have g:max (place+f.log2-(double.fractionBits:Int)) double.leastPlace=e-52:=by
  have a:(double.fractionBits:Int)=52:=rfl
  have b:double.leastPlace = -1074:=by decide
  rw [a,b,D]; omega
 have hw:double.nearest false f place=min ((e-52+1074).toNat*4503599627370496+Toward.even.cut false (f <<< (place-(e-52)).toNat) ((e-52)-place).toNat) (2047*4503599627370496):=by
  unfold Format.nearest
  rw [if_neg hm]
  simp only [g]
  have b:double.leastPlace = -1074:=by decide
  have c:double.binade=4503599627370496:=by decide
  have d:double.infRung=2047*4503599627370496:=by decide
  rw [b,c,d]
  unfold Format.word
  simp only [Bool.false_eq_true,if_false]
  congr 3
 have hk:4503599627370496<=Toward.even.cut false (f <<< (place-(e-52)).toNat) ((e-52)-place).toNat/\Toward.even.cut false (f <<< (place-(e-52)).toNat) ((e-52)-place).toNat<=9007199254740992:=by
  obtain ⟨c,hc,s,q,i⟩:=Avo (f <<< (place-(e-52)).toNat) ((e-52)-place).toNat
  rw [hc]
  have B:2 ^ f.log2<=f:=Nat.log2_self_le hm
  have A:f<2 ^ (f.log2+1):=Nat.lt_log2_self
  rw [Nat.shiftLeft_eq] at s q i
  rcases Int.le_total place (e-52) with h | h
  .have z:(place-(e-52)).toNat=0:=by omega
   rw [z,Nat.pow_zero,Nat.mul_one] at s q i
   have hd:f.log2=52+((e-52)-place).toNat:=by omega
   have hp:2 ^ f.log2=4503599627370496*2 ^ ((e-52)-place).toNat:=by rw [hd,Nat.pow_add]
   have l:2 ^ (f.log2+1)=9007199254740992*2 ^ ((e-52)-place).toNat:=by rw [Nat.pow_succ,hp]; omega
   have hpos:0<2 ^ ((e-52)-place).toNat:=Nat.pow_pos (by decide)
   have a1:4503599627370496<=f / 2 ^ ((e-52)-place).toNat:=(Nat.le_div_iff_mul_le hpos).2 (by omega)
   have a2:f / 2 ^ ((e-52)-place).toNat<9007199254740992:=(Nat.div_lt_iff_lt_mul hpos).2 (by omega)
   omega
  .have z:((e-52)-place).toNat=0:=by omega
   rw [z,Nat.pow_zero,Nat.div_one] at s q i
   have G:=i (Nat.mod_one _)
   have hd:52=f.log2+(place-(e-52)).toNat:=by omega
   have hp:2 ^ f.log2*2 ^ (place-(e-52)).toNat=4503599627370496:=by rw [<-Nat.pow_add,<-hd]
   have l:2 ^ (f.log2+1)*2 ^ (place-(e-52)).toNat=9007199254740992:=by rw [Nat.pow_succ,Nat.mul_right_comm,hp]
   have hpos:0<2 ^ (place-(e-52)).toNat:=Nat.pow_pos (by decide)
   have a1:=Nat.mul_le_mul_right (2 ^ (place-(e-52)).toNat) B
   have a2:=Nat.mul_lt_mul_of_pos_right A hpos
   omega
 generalize Toward.even.cut false (f <<< (place-(e-52)).toNat) ((e-52)-place).toNat=c at *
 obtain ⟨t,ht⟩:∃t:Nat,(e-52+1074).toNat=t/\t<=1922/\(t:Int)=e+1022:=⟨_,rfl,by omega,by omega⟩
 rw [ht.1] at hw
 rw [Nat.min_eq_left (by omega)] at hw
 rw [hw]
 have b:double.leastPlace = -1074:=by decide
 have E:double.binade=4503599627370496:=by decide
 have d:double.infRung=2047*4503599627370496:=by decide
 have u:double.signWeight=9223372036854775808:=by decide
 unfold Format.read
 rw [b,E,d,u]
 have y:(t*4503599627370496+c) / 9223372036854775808=0:=Nat.div_eq_of_lt (by omega)
 have x:(t*4503599627370496+c) % 9223372036854775808=t*4503599627370496+c:=Nat.mod_eq_of_lt (by omega)
 simp only [y,x]
 rw [if_neg (by omega),if_pos (by omega)]
 by_cases hc:c<9007199254740992
 .refine ⟨c,e-52,?_,hk.1,hc,.inl rfl⟩
  have k:(t*4503599627370496+c) % 4503599627370496=c-4503599627370496:=by omega
  have j:(t*4503599627370496+c) / 4503599627370496=t+1:=by omega
  rw [k,j,show 4503599627370496+(c-4503599627370496)=c by omega,show (-1074:Int)+((t+1-1:Nat):Int)=e-52 by omega]; rfl
 .have hc:c=9007199254740992:=by omega
  subst hc
  refine ⟨4503599627370496,e-51,?_,by decide,by decide,.inr ⟨rfl,rfl⟩⟩
  have k:(t*4503599627370496+9007199254740992) % 4503599627370496=0:=by omega
  have j:(t*4503599627370496+9007199254740992) / 4503599627370496=t+2:=by omega
  rw [k,j,Nat.add_zero,show (-1074:Int)+((t+2-1:Nat):Int)=e-51 by omega]; rfl
theorem Afa (v:Int) (h:0<=v):floatOfInt .f64 v=double.nearest false v.natAbs 0:=by
 have e:decide (v<0)=false:=Ap (by omega)
 show double.nearest (decide (v<0)) v.natAbs 0=_
 rw [e]
theorem Avp:double.read 4876203697187506176 = .number false 7812500000000000 7:=by decide
theorem Aax {n k:Nat} (h1:2 ^ k<=n) (h2:n<2 ^ (k+1)):n.log2=k:=(Nat.log2_eq_iff (by have:=Nat.pow_pos (n:=k) (show 0<2 by decide); omega)).2 ⟨h1,h2⟩
theorem Xh {n k:Nat} (h:n<2 ^ (k+1)):n.log2<=k:=by
 by_cases h0:n=0
 .subst h0; simp
 .have:=(Nat.log2_lt h0).2 h; omega
theorem Afb {n k:Nat} (h:2 ^ k<=n):k<=n.log2:=(Nat.le_log2 (by have:=Nat.pow_pos (n:=k) (show 0<2 by decide); omega)).2 h
theorem Avq (x:Int) (h0:1<=x) (h1:x<1000000000):∃(w:Nat) (m:Nat) (p:Int),floatBits .mul .f64 (floatOfInt .f64 x) 4876203697187506176=some w/\double.read w = .number false m p/\4503599627370496<=m/\m<9007199254740992/\7<=p/\(p<=37\/(p=38/\m=4503599627370496)):=by
 have l:x.natAbs.log2<=29:=Xh (by simp; omega)
 obtain ⟨m1,b,g,a1,a2,a3⟩:=Uc x.natAbs 0 (x.natAbs.log2) (by omega) (by omega) (by omega) (by omega)
 have c:(m1*7812500000000000).log2=104\/((m1*7812500000000000).log2=105/\m1≠4503599627370496):=by
  have b1:2 ^ 104<=m1*7812500000000000:=by omega
  have b2:m1*7812500000000000<2 ^ 106:=by omega
  rcases Nat.lt_or_ge (m1*7812500000000000) (2 ^ 105) with h | h
  .exact .inl (Aax b1 h)
  .exact .inr ⟨Aax h b2,by rintro rfl; omega⟩
 obtain ⟨m2,i,f,k,j,q⟩:=Uc (m1*7812500000000000) (b+7) (b+7+(m1*7812500000000000).log2) (by omega) rfl (by omega) (by omega)
 refine ⟨double.nearest false (m1*7812500000000000) (b+7),m2,i,?_,f,k,j,by omega,by omega⟩
 show ((double.read (floatOfInt .f64 x)).product (double.read 4876203697187506176)).map double.write=_
 rw [Afa x (by omega),g,Avp]; rfl
theorem Avr (w:Nat) (m:Nat) (p:Int) (hw:double.read w = .number false m p) (M:4503599627370496<=m) (L:m<9007199254740992) (I:7<=p) (j:p<=37\/(p=38/\m=4503599627370496)) (y:Int) (h0:0<=y) (h1:y<1000000000000000000) :
  ∃(w':Nat) (g:Nat) (f:Int),floatBits .add .f64 w (floatOfInt .f64 y)=some w'/\double.read w' = .number false g f/\4503599627370496<=g/\g<9007199254740992/\7<=f/\f<=39:=by
 obtain ⟨c,b,x,V,U⟩:∃(c:Nat) (b:Int),double.read (floatOfInt .f64 y) = .number false c b/\b<=8/\c<9007199254740992/\-1074<=b:=by
  rw [Afa y h0]
  by_cases hy:y.natAbs=0
  .rw [hy]; exact ⟨0,-1074,by decide,by decide,by decide,by decide⟩
  .have Z:y.natAbs.log2<=59:=Xh (by simp; omega)
   obtain ⟨m1,D,A,a1,a2,a3⟩:=Uc y.natAbs 0 (y.natAbs.log2) hy (by omega) (by omega) (by omega)
   exact ⟨m1,D,A,by omega,a2,by omega⟩
 generalize hb:min p b=base
 have ht:∃T:Nat,signed false m (p-base).toNat+signed false c (b-base).toNat=(T:Int)/\T=m*2 ^ (p-base).toNat+c*2 ^ (b-base).toNat:=by
  refine ⟨m <<< (p-base).toNat+c <<< (b-base).toNat,rfl,by rw [Nat.shiftLeft_eq,Nat.shiftLeft_eq]⟩
 obtain ⟨T,t1,t2⟩:=ht
 have G:0<2 ^ (p-base).toNat:=Nat.pow_pos (by decide)
 have i:2 ^ (b-base).toNat<=2 ^ (8-base).toNat:=Nat.pow_le_pow_right (by decide) (by omega)
 have J:m*2 ^ (p-base).toNat<=2 ^ (90-base).toNat:=by
  rcases j with h | ⟨rfl,rfl⟩
  .have e:2 ^ (90-base).toNat=2 ^ (p-base).toNat*2 ^ (90-p).toNat:=by rw [<-Nat.pow_add]; congr 1; omega
   have e2:2 ^ 53<=2 ^ (90-p).toNat:=Nat.pow_le_pow_right (by decide) (by omega)
   rw [e,Nat.mul_comm]
   exact Nat.mul_le_mul_left _ (by omega)
  .have e:2 ^ (90-base).toNat=2 ^ (38-base).toNat*2 ^ 52:=by rw [<-Nat.pow_add]; congr 1; omega
   rw [e,Nat.mul_comm]; omega
 have E:c*2 ^ (b-base).toNat<2 ^ (90-base).toNat:=by
  have e:2 ^ (90-base).toNat=2 ^ (8-base).toNat*2 ^ 82:=by rw [<-Nat.pow_add]; congr 1; omega
  have e3:c*2 ^ (b-base).toNat<=c*2 ^ (8-base).toNat:=Nat.mul_le_mul_left _ i
  have N:0<2 ^ (8-base).toNat:=Nat.pow_pos (by decide)
  have e5:c*2 ^ (8-base).toNat<2 ^ 82*2 ^ (8-base).toNat:=Nat.mul_lt_mul_of_pos_right (by omega) N
  rw [e,Nat.mul_comm (2 ^ (8-base).toNat)]; omega
 have s:T<2 ^ ((90-base).toNat+1):=by rw [Nat.pow_succ]; omega
 have q:2 ^ (52+(p-base).toNat)<=T:=by
  have:2 ^ 52*2 ^ (p-base).toNat<=m*2 ^ (p-base).toNat:=Nat.mul_le_mul_right _ (by omega)
  rw [Nat.pow_add]; omega
 have Y:=Xh s
 have X:=Afb q
 have u:T≠0:=by
  have:=Nat.pow_pos (n:=52+(p-base).toNat) (show 0<2 by decide); omega
 obtain ⟨m3,B,z,S,R,c3⟩:=Uc T base (base+T.log2) u rfl (by omega) (by omega)
 refine ⟨double.nearest false T base,m3,B,?_,z,S,R,by omega,by omega⟩
 show ((double.read w).sum (double.read (floatOfInt .f64 y))).map double.write=_
 rw [hw,x]
 have l:¬((T:Int)=0):=by omega
 have k:decide ((T:Int)<0)=false:=Ap (by omega)
 simp only [Datum.sum,hb,t1,if_neg l,k,Option.map_some,Int.natAbs_natCast,Format.write]
theorem Avs {b m N:Nat} {p:Int} (g:double.read b = .number false m p) (i:(Datum.number false m p).toInt .zero=some (N:Int)) (h:N<=9223372036854775808):floatToIntVal .f64 b .u64=some (N:Int):=by
 have hd:FloatKind.f64.decode b = .number false m p:=g
 have f:IntKind.u64.min=0:=by decide
 have c:IntKind.u64.max=18446744073709551615:=by decide
 unfold floatToIntVal
 rw [hd,i]
 simp only [f,c]
 rw [if_pos ⟨by omega,by omega⟩]
theorem Avt (w:Nat) (m:Nat) (p:Int) (hw:double.read w = .number false m p) (R:4503599627370496<=m) (M:m<9007199254740992) (L:7<=p) (J:p<=39) (z:Int) (h0:1000000000<=z) (h1:z<1000000000000000000) :
  ∃(w':Nat) (n:Int),floatBits .quo .f64 w (floatOfInt .f64 z)=some w'/\floatToIntVal .f64 w' .u64=some n/\0<=n/\n<=9223372036854775808:=by
 have U:z.natAbs.log2<=59:=Xh (by simp; omega)
 have S:29<=z.natAbs.log2:=Afb (by simp; omega)
 obtain ⟨f,c,u,a1,a2,a3⟩:=Uc z.natAbs 0 (z.natAbs.log2) (by omega) (by omega) (by omega) (by omega)
 have D:m.log2=52:=Aax (by omega) (by omega)
 have y:f.log2=52:=Aax (by omega) (by omega)
 generalize hq:m*2 ^ 54 / f=q
 generalize l:((m*2 ^ 54 % f != 0).toNat)=s
 have E:s<=1:=by rw [<-l]; exact Bool.toNat_le _
 have I:q<2 ^ 55:=by rw [<-hq]; exact (Nat.div_lt_iff_lt_mul (by omega)).2 (by omega)
 have G:2 ^ 53<=q:=by rw [<-hq]; exact (Nat.le_div_iff_mul_le (by omega)).2 (by omega)
 have B:(2*q+s).log2<=55:=Xh (by omega)
 have A:54<=(2*q+s).log2:=Afb (by omega)
 obtain ⟨m4,b,x,Z,X,Y⟩:=Uc (2*q+s) (p-c-(54:Nat)-1) (p-c-(54:Nat)-1+(2*q+s).log2) (by omega) rfl (by omega) (by omega)
 have j:(Datum.number false m p).quotient (double.fractionBits+2) (Datum.number false f c)=some (.number false (2*q+s) (p-c-(54:Nat)-1)):=by
  have i:¬f=0:=by omega
  have fb:double.fractionBits+2=54:=rfl
  simp only [Datum.quotient,if_neg i,fb,D,y,Nat.shiftLeft_eq,Nat.add_sub_cancel,hq,l,Bool.xor_self]
 have hb:m4*2 ^ b.toNat<=9223372036854775808:=by
  have k:b<=10\/(b=11/\m4=4503599627370496):=by omega
  rcases k with h | ⟨rfl,rfl⟩
  .have:2 ^ b.toNat<=2 ^ 10:=Nat.pow_le_pow_right (by decide) (by omega)
   have:=Nat.mul_le_mul (Nat.le_of_lt X) this
   omega
  .decide
 obtain ⟨N,V,g⟩:∃N:Nat,(Datum.number false m4 b).toInt .zero=some (N:Int)/\N<=9223372036854775808:=by
  refine ⟨(m4 <<< b.toNat) / (1 <<< min (-b).toNat ((m4 <<< b.toNat).log2+2)),?_,?_⟩
  .simp only [Datum.toInt,Datum.integral,Toward.cut,signed,Bool.false_eq_true,if_false,Nat.shiftLeft_zero,Bool.toNat_false,Nat.add_zero]
  .rw [Nat.shiftLeft_eq m4]
   exact Nat.le_trans (Nat.div_le_self _ _) hb
 refine ⟨double.nearest false (2*q+s) (p-c-(54:Nat)-1),(N:Int),?_,?_,by omega,by omega⟩
 .have e:floatBits .quo .f64 w (floatOfInt .f64 z)=((double.read w).quotient (double.fractionBits+2) (double.read (floatOfInt .f64 z))).map double.write:=rfl
  rw [e,hw,Afa z (by omega),u,j]
  simp only [Option.map_some,Format.write]
 .exact Avs x V g
theorem Avu (r n:Nat) (h2:2<=Bf n) (E:Bf r<=Bf n+1) (G:Bf n<1099511627776):∃d:Nat,V9 (Ae r) (Ae n)=some (d:Int)/\d<1000000000:=by
 unfold V9
 unfold Bf at h2 E G
 have c:n≠0:=by rintro rfl; rw [Fc] at h2; simp at h2
 by_cases V:(Ae r).length<(Ae n).length
 .exact ⟨0,by rw [Ak (by omega)]; rfl,by decide⟩
 .rw [Ap (by omega),cond_false]
  have y:Ac (((Ae n).length:Int)-1)=(((Ae n).length-1:Nat):Int):=by rw [Ac,Bp] <;> omega
  have u:Ac (((Ae n).length:Int)-2)=(((Ae n).length-2:Nat):Int):=by rw [Ac,Bp] <;> omega
  have i1:(Ae n).length-1<(Ae n).length:=by omega
  have i2:(Ae n).length-2<(Ae n).length:=by omega
  have h:(Ae n).length-1<(Ae r).length:=by omega
  have g:(Ae n).length-2<(Ae r).length:=by omega
  have t1:=(Ed n).get i1
  have t2:=(Ed n).get i2
  have M:=(Ed r).get h
  have L:=(Ed r).get g
  have i:(Ae n)[(Ae n).length-1]≠0:=by
   have:=(Aal n).2 (Ht c)
   rwa [List.getLast_eq_getElem] at this
  rw [y,u,Dh rfl i1,Ad,Dh rfl i2,Ad,Dh rfl h,Ad,Dh rfl g,Ad]
  generalize (Ae n)[(Ae n).length-1]=a1 at *
  generalize (Ae n)[(Ae n).length-2]=a2 at *
  generalize (Ae r)[(Ae n).length-1]=b1 at *
  generalize (Ae r)[(Ae n).length-2]=b2 at *
  have l:Ax (Ax (Ax b1*1000000000)+Ax b2)=b1*1000000000+b2:=by
   rw [show Ax b1=b1 from Cw (by omega) (by omega),show Ax b2=b2 from Cw (by omega) (by omega),show Ax (b1*1000000000)=b1*1000000000 from Cw (by omega) (by omega)]
   exact Cw (by omega) (by omega)
  have j:Ax (Ax (Ax a1*1000000000)+Ax a2)=a1*1000000000+a2:=by
   rw [show Ax a1=a1 from Cw (by omega) (by omega),show Ax a2=a2 from Cw (by omega) (by omega),show Ax (a1*1000000000)=a1*1000000000 from Cw (by omega) (by omega)]
   exact Cw (by omega) (by omega)
  rw [l,j]
  by_cases X:(Ae r).length=(Ae n).length
  .rw [Ea (by omega),cond_true,J5 (by omega) (by omega) (by omega),Ad]
   have R:0<=(b1*1000000000+b2) / (a1*1000000000+a2):=Int.ediv_nonneg (by omega) (by omega)
   have N:(b1*1000000000+b2) / (a1*1000000000+a2)<1000000000:=Int.ediv_lt_of_lt_mul (by omega) (by omega)
   exact ⟨((b1*1000000000+b2) / (a1*1000000000+a2)).toNat,by congr 1; omega,by omega⟩
  .have hk:(Ae n).length<(Ae r).length:=by omega
   have b:r≠0:=by rintro rfl; rw [Fc] at hk; simp at hk
   have J:=(Ed r).get hk
   have f:(Ae r)[(Ae n).length]≠0:=by
    have:=(Aal r).2 (Ht b)
    rw [List.getLast_eq_getElem] at this
    have e:(Ae r).length-1=(Ae n).length:=by omega
    simpa [e] using this
   rw [Cm (by omega),cond_false,Dh rfl hk,Ad]
   generalize (Ae r)[(Ae n).length]=x at *
   obtain ⟨s,m3,A,f1,f2,f3,f4,f5,f6⟩:=Avq x (by omega) (by omega)
   obtain ⟨q,m4,z,g1,g2,g3,g4,g5,g6⟩:=Avr s m3 A f2 f3 f4 f5 f6 (b1*1000000000+b2) (by omega) (by omega)
   obtain ⟨I,k,D,B,U,S⟩:=Avt q m4 z g2 g3 g4 g5 g6 (a1*1000000000+a2) (by omega) (by omega)
   rw [f1,Ad,g1,Ad,D,Ad,B,Ad,show Ax (k+2)=k+2 from Cw (by omega) (by omega)]
   by_cases hc:(999999999:Int)<k+2
   .exact ⟨999999999,by rw [if_pos hc]; rfl,by decide⟩
   .exact ⟨(k+2).toNat,by rw [if_neg hc]; congr 1; omega,by omega⟩
end Go.Ab
namespace Go.Ab
open Go
theorem Avv (x r:Nat):Bf (x % 1000000000+1000000000*r)<=Bf r+1:=by
 apply Kn
 have:=Mf r
 rw [Nat.pow_succ]
 omega
set_option maxHeartbeats 1000000 in
theorem Afc (m n:Nat) (hm:Bf m<137438953472) (hn:Bf n<137438953472) (D:n≠0):Qg (Ae m) (Ae n)=some (Ae (m / n),Ae (m % n)):=by
 unfold Qg
 rw [Aav,T8 m n (by omega) (by omega),Ad]
 have af:=hm
 have ae:=hn
 unfold Bf at hm hn
 by_cases l:m<n
 .rw [show Ey m n = -1 by rw [Ey,if_pos l],Ak (by decide:(-1:Int)<0),cond_true,Rg _ (by omega),Ad,Au5 (Aal m),Nat.div_eq_of_lt l,Nat.mod_eq_of_lt l,Fc]
 .rw [Ap (show ¬Ey m n<0 by rw [Ey,if_neg l]; split <;> decide),cond_false]
  have a8:(Ae n).length≠0:=fun e=>Ht D (List.length_eq_zero_iff.1 e)
  by_cases h1:(Ae n).length=1
  .rw [Ea (by omega:((Ae n).length:Int)=1),cond_true]
   have B:n<1000000000:=by
    have:=Mf n
    rw [show Bf n=1 from h1] at this
    simpa using this
   have Y:Ae n = [(n:Int)]:=by
    rw [Lr D,Nat.div_eq_of_lt B,Fc,Nat.mod_eq_of_lt B]
   rw [Y,show Af [(n:Int)] 0=some (n:Int) from rfl,Ad,show Ax (n:Int)=n from Cw (by omega) (by omega),Avl m n (by omega) (by omega) (by omega),Ad]
   have a7:m % n<n:=Nat.mod_lt _ (by omega)
   rw [Aau,O3 (m % n) (by omega),Ad]
  .rw [Cm (by omega:((Ae n).length:Int)≠1),cond_false]
   have hw:Ac (((Ae m).length:Int)-1)=((Ae m).length:Int)-1:=by rw [Ac,Bp] <;> omega
   rw [Iz rfl rfl (Nat.le_refl _) (by omega) (by omega),hw]
   simp only [Ad]
   have ha:=Ed m
   refine Gw (fun (r,i,q)=>∃(k R:Nat),r=Ae R/\i=(k:Int)-1/\k<=(Ae m).length/\R<n/\q.length=(Ae m).length/\Bs q/\Ai (q.drop k)*n+R=Ai ((Ae m).drop k))
    (fun (_,i,_)=>(i+1).toNat) (fun (r,q)=>∃R:Nat,r=Ae R/\R<n/\q.length=(Ae m).length/\Bs q/\Ai q*n+R=m)
    ⟨(Ae m).length,0,by rw [Fc],rfl,Nat.le_refl _,by omega,by simp,Bs.replicate _,by simp [Ai]⟩ ?_ ?_
   .rintro ⟨r,i,q⟩ ⟨k,R,rfl,rfl,hk,J,u,g,A⟩
    cases k with
    | zero=>exact .inr ⟨(Ae R,q),by simp,R,rfl,J,u,g,by simpa [Eo] using A⟩
    | succ j=>
     have hj:j<(Ae m).length:=by omega
     have E:j<q.length:=by omega
     have hx:=ha.get hj
     obtain ⟨x,y⟩:∃x:Nat,(Ae m)[j]=(x:Int):=⟨(Ae m)[j].toNat,by omega⟩
     have L:x<1000000000:=by omega
     have e0:((j+1:Nat):Int)-1=(j:Int):=by omega
     have e1:decide ((j:Int)>=0)=true:=Ak (by omega)
     have Z:Bf R<=Bf n:=H9 (by omega)
     have ac:Bf (x+1000000000*R)<=Bf R+1:=by
      have:=Avv x R
      rwa [Nat.mod_eq_of_lt L] at this
     have ah:(Ae R).length<=(Ae n).length:=Z
     have G:Je ((x:Int)::Ae R)=some (Ae (x+1000000000*R)):=by
      rw [Rg _ (by simp; omega)]
      congr 1
      refine J6 ?_ ?_
      .intro d hd
       rcases List.mem_cons.1 hd with rfl | hd
       .omega
       .exact Ed R d hd
      .simp only [Ai,Eo]; omega
     obtain ⟨d0,U,ag⟩:=Avu (x+1000000000*R) n (by unfold Bf; omega) (by omega) (by omega)
     generalize a6:x+1000000000*R=f at *
     have ab:f<1000000000*n:=by omega
     have s:∀d:Nat,d<18446744073709551616->Lj (d:Int)=some (Ae d)/\Jd (Ae n) (Ae d)=some (Ae (n*d)):=by
      intro d hd
      have:=Mh hd
      exact ⟨by rw [Aau,O3 d hd],O5 n d (by omega) (by omega)⟩
     have I:∀d:Nat,d<18446744073709551616->On (Ae (n*d)) (Ae f)=some (Ey (n*d) f):=by
      intro d hd
      have h3:=Mh hd
      have h4:=Gg n d
      rw [Aav,T8 _ _ (by omega) (by omega)]
     simp only [e0,e1,cond_true,Dh rfl hj,y,Ad,Cy (show ([(x:Int)].length+(Ae R).length)*4<=_ by simp; omega),List.singleton_append,G,U]
     refine .inl (Aai (D9 (fun d=>∃e:Nat,d=e/\e<=d0) (fun d=>d.toNat) (fun d=>∃e:Nat,d=e/\e<=d0/\n*e<=f) ⟨d0,rfl,Nat.le_refl _⟩ ?_ ?_))
     .rintro d ⟨e,rfl,he⟩
      by_cases X:e=0
      .subst X
       exact .inr ⟨0,rfl,0,rfl,by omega,by simp⟩
      .obtain ⟨m1,m2⟩:=s e (by omega)
       simp only [Ak (by omega:(e:Int)>0),cond_true,m1,m2,I e (by omega),Ad]
       by_cases hc:f<n*e
       .refine .inl ⟨((e-1:Nat):Int),?_,⟨e-1,rfl,by omega⟩,by simp; omega⟩
        rw [show Ey (n*e) f=1 by rw [Ey,if_neg (by omega),if_pos hc],show decide ((1:Int)>0)=true from rfl,cond_true,show Ax ((e:Int)-1)=((e-1:Nat):Int) by rw [Ax,Cw] <;> omega]
       .refine .inr ⟨(e:Int),?_,e,rfl,he,by omega⟩
        rw [Ap (show ¬Ey (n*e) f>0 by rw [Ey,if_neg hc]; split <;> decide),cond_false]
     .rintro d ⟨e,rfl,he,N⟩
      obtain ⟨m1,m2⟩:=s e (by omega)
      simp only [m1,m2,Ad,Aaw f (n*e) (by omega) N]
      refine D9 (fun (r,d)=>∃(c b:Nat),r=Ae c/\d=b/\n*b+c=f) (fun (r,_)=>(Ai r).toNat) (fun (r,d)=>∃(c b:Nat),r=Ae c/\d=b/\n*b+c=f/\c<n) ⟨f-n*e,e,rfl,rfl,by omega⟩ ?_ ?_
      .rintro ⟨r,d⟩ ⟨c,b,rfl,rfl,M⟩
       have aa:Bf c<=Bf f:=H9 (by omega)
       have V:b<1000000000:=by
        rcases Nat.lt_or_ge b 1000000000 with h | h
        .exact h
        .exfalso
         have:n*1000000000<=n*b:=Nat.mul_le_mul_left n h
         omega
       simp only [Aav,T8 c n (by omega) (by omega),Ad]
       by_cases hc:c<n
       .refine .inr ⟨(Ae c,(b:Int)),?_,c,b,rfl,rfl,M,hc⟩
        rw [Ap (show ¬Ey c n>=0 by rw [Ey,if_pos hc]; decide),cond_false]
       .refine .inl ⟨(Ae (c-n),((b+1:Nat):Int)),?_,⟨c-n,b+1,rfl,rfl,?_⟩,?_⟩
        .rw [Ak (show Ey c n>=0 by rw [Ey,if_neg hc]; split <;> decide),cond_true,Aaw c n (by omega) (by omega),Ad,show Ax ((b:Int)+1)=((b+1:Nat):Int) by rw [Ax,Cw] <;> omega]
        .rw [Nat.mul_add]; omega
        .simp only [Eo]; omega
      .rintro ⟨r,d⟩ ⟨c,b,rfl,rfl,M,a1⟩
       have V:b<1000000000:=by
        rcases Nat.lt_or_ge b 1000000000 with h | h
        .exact h
        .exfalso
         have:n*1000000000<=n*b:=Nat.mul_le_mul_left n h
         omega
       have w1:Cd (b:Int)=b:=E9 (by omega) (by omega)
       have w8:Ac ((j:Int)-1)=(j:Int)-1:=by rw [Ac,Bp] <;> omega
       refine ⟨_,by simp only [Dh rfl E,Ad,w1,w8,Fb rfl],(Ae c,(j:Int)-1,q.set j (b:Int)),rfl,⟨j,c,rfl,rfl,by omega,a1,by simpa using u,g.set _ (by omega) (by omega),?_⟩,by simp⟩
       have d1:(q.set j (b:Int)).drop j=(b:Int)::q.drop (j+1):=by
        rw [List.drop_eq_getElem_cons (by simpa using E),List.drop_set_of_lt (by omega)]; simp
       rw [d1,List.drop_eq_getElem_cons hj,y]
       simp only [Ai]
       rw [<-A]
       have:((n*b+c:Nat):Int)=((x+1000000000*R:Nat):Int):=by rw [M,a6]
       simp only [Int.natCast_add,Int.natCast_mul] at this
       grind
   .rintro ⟨r,q⟩ ⟨R,rfl,J,u,g,A⟩
    dsimp only
    have ad:=F3 g.u32
    obtain ⟨Q,hQ⟩:∃Q:Nat,Ai q=Q:=⟨(Ai q).toNat,by omega⟩
    rw [hQ] at A
    have z:Q*n+R=m:=by
     have:((Q*n+R:Nat):Int)=(m:Int):=by simp only [Int.natCast_add,Int.natCast_mul]; exact A
     omega
    have hd:m / n=Q:=by rw [<-z,Nat.mul_comm,Nat.mul_add_div (by omega),Nat.div_eq_of_lt J]; rfl
    have S:m % n=R:=by rw [<-z,Nat.mul_comm,Nat.mul_add_mod,Nat.mod_eq_of_lt J]
    rw [Rg q (by omega),Ad,J6 g hQ,hd,S]
theorem Avw (m n:Nat) (hm:Bf m<137438953472) (g:Bf n<137438953472):Vx (Ae m) (Ae n)=some (Ae (Nat.gcd m n)):=by
 unfold Vx
 refine Gw (fun (a,b)=>∃x y:Nat,a=Ae x/\b=Ae y/\Bf x<137438953472/\Bf y<137438953472/\Nat.gcd x y=Nat.gcd m n) (fun (_,b)=>(Ai b).toNat)
  (fun r=>r=Ae (Nat.gcd m n)) ⟨m,n,rfl,rfl,hm,g,rfl⟩ ?_ (by rintro e rfl; rfl)
 rintro ⟨a,b⟩ ⟨x,y,rfl,rfl,hx,hy,f⟩
 by_cases c:y=0
 .subst c
  refine .inr ⟨Ae x,by rw [Fc]; rfl,?_⟩
  rw [<-f,Nat.gcd_zero_right]
 .have h:(Ae y).length≠0:=fun e=>Ht c (List.length_eq_zero_iff.1 e)
  have i:decide (((Ae y).length:Int)>0)=true:=Ak (by omega)
  refine .inl ⟨(Ae y,Ae (x % y)),?_,⟨y,x % y,rfl,rfl,hy,by have:=H9 (Nat.mod_le x y); omega,?_⟩,?_⟩
  .simp only [i,cond_true,Afc x y hx hy c,Ad]
  .rw [<-f,Nat.gcd_comm y,<-Nat.gcd_rec,Nat.gcd_comm]
  .simp only [Eo]
   have:=Nat.mod_lt x (by omega:y>0)
   omega
end Go.Ab
namespace Go.Ab
open Go
def Na (b:Bool) (n d:Nat):Aq:=if d=0 then ⟨false,[],[1]⟩ else A7 b n d
theorem Aay {n:Nat} (h:n≠0):(Ae n).length≠0:=fun e=>Ht h (List.length_eq_zero_iff.1 e)
theorem Afd (c:Bool) (a b:List Int) (ha:Kl a) (hb:Kl b) (q:a.length<137438953400) (l:b.length<137438953400):Ii c a b=some (Na c (Ai a).toNat (Ai b).toNat):=by
 unfold Ii
 have h1:=Aar ha
 have h2:=Aar hb
 rw [Alr a ha (by omega),Ad,Alr b hb (by omega),Ad]
 generalize (Ai a).toNat=n at *
 generalize (Ai b).toNat=d at *
 by_cases g:n=0
 .subst g
  have:Na c 0 d=⟨false,[],[1]⟩:=by unfold Na; split <;> simp [A7]
  rw [this,Fc]; rfl
 .have j:=Aay g
  by_cases hd:d=0
  .subst hd
   simp only [Cm (by omega:((Ae n).length:Int)≠0),cond_false,Fc,Ad]
   rfl
  .have k:=Aay hd
   have f:Nat.gcd n d≠0:=by have:=Nat.gcd_pos_of_pos_left d (by omega:0<n); omega
   have u:Bf (Nat.gcd n d)<=Bf n:=H9 (Nat.gcd_le_left d (by omega:0<n))
   simp only [Cm (by omega:((Ae n).length:Int)≠0),cond_false,Cm (by omega:((Ae d).length:Int)≠0),Ad,Avw n d (by omega) (by omega)]
   rw [Na,if_neg hd,A7,if_neg g]
   have key:(bif (((Ae (Nat.gcd n d)).length:Int) != (1:Int)) then some true else ((Af (Ae (Nat.gcd n d)) 0).bind fun i=>some (i != (1:Int))))=some (decide (Nat.gcd n d≠1)):=by
    have h3:=Ae6 (Nat.gcd n d)
    unfold Qv at h3
    by_cases s:(Ae (Nat.gcd n d)).length=1
    .rw [Ea (by omega:((Ae (Nat.gcd n d)).length:Int)=1),cond_true] at h3
     rw [Dj (by omega:((Ae (Nat.gcd n d)).length:Int)=1),cond_false]
     cases hi:Af (Ae (Nat.gcd n d)) 0 with
     | none=>rw [hi] at h3; cases h3
     | some v=>
      rw [hi] at h3
      simp only [Ad] at h3 ⊢
      have h3:=Option.some.inj h3
      congr 1
      rw [bne,h3]; simp
    .rw [Cm (by omega:((Ae (Nat.gcd n d)).length:Int)≠1),cond_false] at h3
     rw [Di (by omega:((Ae (Nat.gcd n d)).length:Int)≠1),cond_true]
     have h3:=Option.some.inj h3
     have:Nat.gcd n d≠1:=by simpa using h3.symm
     rw [Ak this]
   rw [key,Ad]
   by_cases h:Nat.gcd n d=1
   .rw [Ap (by simpa using h),cond_false,h]; simp
   .rw [Ak h,cond_true,Afc n _ (by omega) (by omega) f,Ad,Afc d _ (by omega) (by omega) f,Ad]
theorem Avx (a:Aq):Na a.Neg (Ai a.Num).toNat (Ai a.Den).toNat=A7 (sv a) (nv a) (dv a):=by
 unfold Na sv nv dv
 by_cases b:(Ai a.Num).toNat=0
 .simp [b,A7]
 .by_cases hd:(Ai a.Den).toNat=0
  .simp [hd,A7]
  .simp [b,hd]
theorem O6 (a:Aq) (k:Nat) (h:RB k a) (hk:k<137438953400):Jb a=some (A7 (sv a) (nv a) (dv a)):=by
 unfold Jb
 have:=h.nl
 have:=h.dl
 rw [Afd _ _ _ h.num h.den (by omega) (by omega),Ad,Avx]
theorem Rh (s:Bool) (n d:Nat) (hd:d≠0):(A7 s n d).Num=Ae (nv (A7 s n d))/\(A7 s n d).Den=Ae (dv (A7 s n d))/\(A7 s n d).Neg=sv (A7 s n d):=by
 obtain ⟨h1,h2,h3,c⟩:=Ub s n d hd
 rw [h1,h2]
 by_cases h0:n=0
 .subst h0
  rw [c rfl,Xg]
  have b:d / Nat.gcd 0 d=1:=by rw [Nat.gcd_zero_left]; exact Nat.div_self (by omega)
  rw [b,Nat.zero_div,Fc,T9]; exact ⟨rfl,rfl,rfl⟩
 .rw [h3 h0]; simp [A7,h0]
theorem O7 (a:Aq):∃g:Nat,g≠0/\nv a=g*nv (A7 (sv a) (nv a) (dv a))/\dv a=g*dv (A7 (sv a) (nv a) (dv a))/\sv (A7 (sv a) (nv a) (dv a))=sv a:=by
 obtain ⟨h1,h2,h3,b⟩:=Ub (sv a) (nv a) (dv a) (Ee a)
 have hd:=Ee a
 have c:0<Nat.gcd (nv a) (dv a):=Nat.gcd_pos_of_pos_right _ (by omega)
 refine ⟨Nat.gcd (nv a) (dv a),by omega,?_,?_,?_⟩
 .rw [h1]; exact (Nat.mul_div_cancel' (Nat.gcd_dvd_left _ _)).symm
 .rw [h2]; exact (Nat.mul_div_cancel' (Nat.gcd_dvd_right _ _)).symm
 .by_cases h0:nv a=0
  .rw [b h0]
   unfold nv at h0
   unfold sv
   split at h0
   .rename_i hc; rw [if_pos hc]
   .omega
  .exact h3 h0
theorem Avy (s:Bool) (n d:Nat) (h:d≠0):Na s n d=A7 s n d:=by rw [Na,if_neg h]
theorem Ri (b:Bool) (n d:Nat) (f:Bf n<137438953400) (hd:Bf d<137438953400) (c:d≠0):Ii b (Ae n) (Ae d)=some (A7 b n d):=by
 unfold Bf at f hd
 rw [Afd b _ _ (Ed n).u32 (Ed d).u32 f hd,Eo,Eo,Int.toNat_natCast,Int.toNat_natCast,Avy _ _ _ c]
theorem Afe {k:Nat} {a:Aq} (h:RB k a):RB (k+1) (A7 (sv a) (nv a) (dv a)):=Hv _ _ _ _ h.nv h.dv (by omega)
theorem Ud {k:Nat} {a:Aq} (h:RB k a):Bf (nv (A7 (sv a) (nv a) (dv a)))<=k+1/\Bf (dv (A7 (sv a) (nv a) (dv a)))<=k+1:=by
 obtain ⟨g,b,h1,h2,_⟩:=O7 a
 have a1:=h.nv
 have a2:=h.dv
 refine ⟨Nat.le_trans (H9 ?_) a1,Nat.le_trans (H9 ?_) a2⟩
 .exact Nat.le_trans (Nat.le_mul_of_pos_left _ (by omega)) (Nat.le_of_eq h1.symm)
 .exact Nat.le_trans (Nat.le_mul_of_pos_left _ (by omega)) (Nat.le_of_eq h2.symm)
theorem Als (a b:Aq) (j k:Nat) (ha:RB j a) (hb:RB k b) (hj:j<34359738368) (hk:k<34359738368):Kh a b=some (A7 (sv a != sv b) (nv a*nv b) (dv a*dv b)):=by
 unfold Kh
 rw [O6 a j ha (by omega),Ad,O6 b k hb (by omega),Ad]
 obtain ⟨g,i,a1,a2,a3⟩:=O7 a
 obtain ⟨h,f,b1,b2,u⟩:=O7 b
 obtain ⟨f1,f2,f3⟩:=Rh (sv a) (nv a) (dv a) (Ee a)
 obtain ⟨s,q,l⟩:=Rh (sv b) (nv b) (dv b) (Ee b)
 obtain ⟨B,A⟩:=Ud ha
 obtain ⟨y,x⟩:=Ud hb
 rw [f1,f2,f3,s,q,l,a3,u]
 generalize hc:A7 (sv a) (nv a) (dv a)=c at *
 generalize hd:A7 (sv b) (nv b) (dv b)=d at *
 have m1:=Gg (nv c) (nv d)
 have m2:=Gg (dv c) (dv d)
 have z:dv c*dv d≠0:=Nat.mul_ne_zero (Ee c) (Ee d)
 rw [O5 _ _ (by omega) (by omega),Ad,O5 _ _ (by omega) (by omega),Ad,Ri _ _ _ (by omega) (by omega) z,Ad]
 rw [a1,a2,b1,b2,show g*nv c*(h*nv d)=g*h*(nv c*nv d) by grind,show g*dv c*(h*dv d)=g*h*(dv c*dv d) by grind,Lt _ _ _ _ (Nat.mul_ne_zero i f)]
theorem Avz (l:Bool) (c j:Nat) (k:Bool) (b i g h:Nat) (y:g≠0) (x:h≠0):Ik l (g*c) (g*j) k (h*b) (h*i)=g*h*Ik l c j k b i/\Jl l (g*c) (g*j) k (h*b) (h*i)=Jl l c j k b i:=by
 have u:g*c*(h*i)=g*h*(c*i):=by grind
 have s:h*b*(g*j)=g*h*(b*j):=by grind
 have hc:(g*h*(b*j)<=g*h*(c*i))↔(b*j<=c*i):=Nat.mul_le_mul_left_iff (Nat.mul_pos (by omega) (by omega))
 unfold Ik Jl
 rw [u,s]
 by_cases q:l=k
 .simp only [if_pos q]
  exact ⟨by rw [Nat.mul_add],trivial⟩
 .simp only [if_neg q]
  by_cases f:b*j<=c*i
  .simp only [if_pos f,if_pos (hc.2 f)]
   exact ⟨by rw [Nat.mul_sub],trivial⟩
  .simp only [if_neg f,if_neg (fun h=>f (hc.1 h))]
   exact ⟨by rw [Nat.mul_sub],trivial⟩
theorem Alt (a b:Aq) (j k:Nat) (ha:RB j a) (hb:RB k b) (hj:j<34359738368) (hk:k<34359738368) :
  Oe a b=some (A7 (Jl (sv a) (nv a) (dv a) (sv b) (nv b) (dv b)) (Ik (sv a) (nv a) (dv a) (sv b) (nv b) (dv b)) (dv a*dv b)):=by
 unfold Oe
 rw [O6 a j ha (by omega),Ad,O6 b k hb (by omega),Ad]
 obtain ⟨g,q,a1,a2,a3⟩:=O7 a
 obtain ⟨h,l,b1,b2,B⟩:=O7 b
 obtain ⟨f1,f2,f3⟩:=Rh (sv a) (nv a) (dv a) (Ee a)
 obtain ⟨A,y,x⟩:=Rh (sv b) (nv b) (dv b) (Ee b)
 obtain ⟨I,G⟩:=Ud ha
 obtain ⟨E,D⟩:=Ud hb
 rw [f1,f2,f3,A,y,x,a3,B]
 generalize hc:A7 (sv a) (nv a) (dv a)=c at *
 generalize hd:A7 (sv b) (nv b) (dv b)=d at *
 have m1:=Gg (nv c) (dv d)
 have m2:=Gg (nv d) (dv c)
 have m3:=Gg (dv c) (dv d)
 have m4:=Aez (nv c*dv d) (nv d*dv c)
 have m5:=H9 (Nat.sub_le (nv c*dv d) (nv d*dv c))
 have m6:=H9 (Nat.sub_le (nv d*dv c) (nv c*dv d))
 have z:dv c*dv d≠0:=Nat.mul_ne_zero (Ee c) (Ee d)
 obtain ⟨u,s⟩:=Avz (sv a) (nv c) (dv c) (sv b) (nv d) (dv d) g h q l
 rw [a1,a2,b1,b2,u,s,show g*dv c*(h*dv d)=g*h*(dv c*dv d) by grind,Lt _ _ _ _ (Nat.mul_ne_zero q l)]
 rw [O5 _ _ (by omega) (by omega),Ad,O5 _ _ (by omega) (by omega),Ad,O5 _ _ (by omega) (by omega),Ad]
 unfold Jl Ik
 by_cases i:sv a=sv b
 .have e:(sv a==sv b)=true:=by rw [i]; exact beq_self_eq_true _
  rw [e,cond_true,Avn _ _ (by omega) (by omega),Ad,Ri _ _ _ (by omega) (by omega) z,Ad,if_pos i,if_pos i]
 .have e:(sv a==sv b)=false:=by simpa using i
  rw [e,cond_false,Aav,T8 _ _ (by omega) (by omega),Ad,if_neg i,if_neg i]
  by_cases f:nv d*dv c<=nv c*dv d
  .rw [Ak (show Ey (nv c*dv d) (nv d*dv c)>=0 by rw [Ey,if_neg (by omega)]; split <;> decide),cond_true,Aaw _ _ (by omega) f,Ad,Ri _ _ _ (by omega) (by omega) z,Ad,if_pos f,if_pos f]
  .rw [Ap (show ¬Ey (nv c*dv d) (nv d*dv c)>=0 by rw [Ey,if_pos (by omega)]; decide),cond_false,Aaw _ _ (by omega) (by omega),Ad,Ri _ _ _ (by omega) (by omega) z,Ad,if_neg f,if_neg f]
theorem Av0 (a:Aq) (k:Nat) (h:RB k a) (hk:k<137438953400):Mu a=some (Ia (sv a) (nv a)):=by
 unfold Mu
 rw [O6 a k h hk,Ad]
 obtain ⟨g,b,a1,a2,a3⟩:=O7 a
 obtain ⟨f1,f2,f3⟩:=Rh (sv a) (nv a) (dv a) (Ee a)
 rw [f1,f3,a3,Ia]
 by_cases h0:nv a=0
 .have:nv (A7 (sv a) (nv a) (dv a))=0:=by
   rw [h0] at a1
   rcases Nat.mul_eq_zero.1 a1.symm with h | h
   .exact (b h).elim
   .rw [h0]; exact h
  rw [this,Fc,if_pos h0]; rfl
 .have:nv (A7 (sv a) (nv a) (dv a))≠0:=by
   intro e; rw [e,Nat.mul_zero] at a1; exact h0 a1
  have:=Aay this
  rw [Cm (by omega),cond_false,if_neg h0]
  cases sv a <;> rfl
theorem Av1 (a:Aq) (k:Nat) (h:RB k a) (hk:k<137438953400):Tc a=some (A7 (!sv a) (nv a) (dv a)):=by
 unfold Tc
 have:=h.nl
 have:=h.dl
 rw [Afd _ _ _ h.num h.den (by omega) (by omega),Ad]
 congr 1
 unfold Na sv nv dv
 by_cases b:(Ai a.Num).toNat=0
 .simp [b,A7]
 .by_cases hd:(Ai a.Den).toNat=0
  .simp [hd,A7]
  .simp [b,hd]
theorem Rj (z:Int) (h1 : -9223372036854775808<=z) (h2:z<=9223372036854775807):Hn z=some (A7 (decide (z<0)) z.natAbs 1):=by
 unfold Hn
 have j:=Mh (n:=z.natAbs) (by omega)
 have c:([1]:List Int)=Ae 1:=T9.symm
 by_cases h:z<0
 .have i:Ac (z+1)=z+1:=Bp (by omega) (by omega)
  have g:Ac (0-(z+1))=0-(z+1):=Bp (by omega) (by omega)
  have f:Ax (0-(z+1))=0-(z+1):=Cw (by omega) (by omega)
  have b:Ax (0-(z+1)+1)=((z.natAbs:Nat):Int):=by rw [Ax,Cw (by omega) (by omega)]; omega
  rw [Ak h,cond_true,i,g,f,b,Aau,O3 _ (by omega),Ad,c,Ri _ _ _ (by omega) (by rw [Hu]; decide) (by decide),Ad]
 .have b:Ax z=((z.natAbs:Nat):Int):=by rw [Ax,Cw (by omega) (by omega)]; omega
  rw [Ap h,cond_false,b,Aau,O3 _ (by omega),Ad,c,Ri _ _ _ (by omega) (by rw [Hu]; decide) (by decide),Ad]
theorem Av2 (a b:Aq) (j k:Nat) (ha:RB j a) (hb:RB k b) (hj:j<34359738368) (hk:k<34359738368) (i:nv b≠0):Tm a b=some (A7 (sv a != sv b) (nv a*dv b) (dv a*nv b),true):=by
 unfold Tm
 rw [O6 a j ha (by omega),Ad,O6 b k hb (by omega),Ad]
 obtain ⟨g,q,a1,a2,a3⟩:=O7 a
 obtain ⟨h,l,b1,b2,y⟩:=O7 b
 obtain ⟨f1,f2,f3⟩:=Rh (sv a) (nv a) (dv a) (Ee a)
 obtain ⟨x,u,s⟩:=Rh (sv b) (nv b) (dv b) (Ee b)
 obtain ⟨E,D⟩:=Ud ha
 obtain ⟨B,A⟩:=Ud hb
 rw [f1,f2,f3,x,u,s,a3,y]
 generalize hc:A7 (sv a) (nv a) (dv a)=c at *
 generalize hd:A7 (sv b) (nv b) (dv b)=d at *
 have m1:=Gg (nv c) (dv d)
 have m2:=Gg (dv c) (nv d)
 have f:nv d≠0:=by intro e; rw [e,Nat.mul_zero] at b1; exact i b1
 have z:dv c*nv d≠0:=Nat.mul_ne_zero (Ee c) f
 have:=Aay f
 rw [Cm (by omega),cond_false,O5 _ _ (by omega) (by omega),Ad,O5 _ _ (by omega) (by omega),Ad,Ri _ _ _ (by omega) (by omega) z,Ad]
 rw [a1,a2,b1,b2,show g*nv c*(h*dv d)=g*h*(nv c*dv d) by grind,show g*dv c*(h*nv d)=g*h*(dv c*nv d) by grind,Lt _ _ _ _ (Nat.mul_ne_zero q l)]
end Go.Ab
namespace Go.Ab
open Go
theorem Ue (s:Bool) (n d:Nat) (hd:d≠0):∃g:Nat,g≠0/\n=g*nv (A7 s n d)/\d=g*dv (A7 s n d)/\(n≠0->sv (A7 s n d)=s)/\(n=0->sv (A7 s n d)=false):=by
 obtain ⟨h1,h2,h3,b⟩:=Ub s n d hd
 have c:0<Nat.gcd n d:=Nat.gcd_pos_of_pos_right _ (by omega)
 exact ⟨Nat.gcd n d,by omega,by rw [h1]; exact (Nat.mul_div_cancel' (Nat.gcd_dvd_left _ _)).symm,by rw [h2]; exact (Nat.mul_div_cancel' (Nat.gcd_dvd_right _ _)).symm,h3,b⟩
theorem Alu (s t:Bool) (n d m e:Nat) (hd:d≠0) (l:e≠0):A7 (sv (A7 s n d) != sv (A7 t m e)) (nv (A7 s n d)*nv (A7 t m e)) (dv (A7 s n d)*dv (A7 t m e))=A7 (s != t) (n*m) (d*e):=by
 obtain ⟨g,k,a1,a2,a3,_⟩:=Ue s n d hd
 obtain ⟨h,j,b1,b2,u,_⟩:=Ue t m e l
 have q:A7 (s != t) (n*m) (d*e)=A7 (sv (A7 s n d) != sv (A7 t m e)) (n*m) (d*e):=by
  apply Aat
  intro b
  have i:n≠0:=fun e=>b (by rw [e]; simp)
  have hm:m≠0:=fun e=>b (by rw [e]; simp)
  rw [a3 i,u hm]
 rw [q]
 generalize A7 s n d=c at *
 generalize A7 t m e=f at *
 rw [a1,a2,b1,b2,show g*nv c*(h*nv f)=g*h*(nv c*nv f) by grind,show g*dv c*(h*dv f)=g*h*(dv c*dv f) by grind,Lt _ _ _ _ (Nat.mul_ne_zero k j)]
theorem Av3 (s t:Bool) (n d m e:Nat) (hd:d≠0) (q:e≠0) (hm:m≠0):A7 (sv (A7 s n d) != sv (A7 t m e)) (nv (A7 s n d)*dv (A7 t m e)) (dv (A7 s n d)*nv (A7 t m e))=A7 (s != t) (n*e) (d*m)/\nv (A7 t m e)≠0:=by
 obtain ⟨g,l,a1,a2,a3,_⟩:=Ue s n d hd
 obtain ⟨h,k,b1,b2,x,_⟩:=Ue t m e q
 have i:nv (A7 t m e)≠0:=by intro z; rw [z,Nat.mul_zero] at b1; exact hm b1
 refine ⟨?_,i⟩
 have u:A7 (s != t) (n*e) (d*m)=A7 (sv (A7 s n d) != sv (A7 t m e)) (n*e) (d*m):=by
  apply Aat
  intro b
  have j:n≠0:=fun e=>b (by rw [e]; simp)
  rw [a3 j,x hm]
 rw [u]
 generalize A7 s n d=c at *
 generalize A7 t m e=f at *
 rw [a1,a2,b1,b2,show g*nv c*(h*dv f)=g*h*(nv c*dv f) by grind,show g*dv c*(h*nv f)=g*h*(dv c*nv f) by grind,Lt _ _ _ _ (Nat.mul_ne_zero l k)]
def D1 (n:Nat):Nat->Nat
 | 0=>1
 | k+1=>D1 n k*(n-k)
def D2:Nat->Nat
 | 0=>1
 | k+1=>D2 k*(k+1)
theorem Rk:∀k,D2 k≠0
 | 0=>by decide
 | k+1=>Nat.mul_ne_zero (Rk k) (by omega)
theorem Aff {n k:Nat} (h:n<k):D1 n k=0:=by
 induction k with
 | zero=>omega
 | succ k ih=>
  simp only [D1]
  rcases Nat.lt_or_ge n k with h' | h'
  .rw [ih h']; simp
  .have:n-k=0:=by omega
   rw [this]; simp
theorem Alv (n k:Nat) (b:n<1000000000):Bf (D1 n k)<=k+1:=by
 induction k with
 | zero=>simp [D1,Hu]
 | succ k ih=>
  have h1:=Gg (D1 n k) (n-k)
  have h2:Bf (n-k)<=1:=Kn (by simp; omega)
  simp only [D1]; omega
theorem Alw (k:Nat) (hk:k<1000000000):Bf (D2 k)<=k+1:=by
 induction k with
 | zero=>simp [D2,Hu]
 | succ k ih=>
  have h1:=Gg (D2 k) (k+1)
  have h2:Bf (k+1)<=1:=Kn (by simp; omega)
  simp only [D2]
  have:=ih (by omega)
  omega
theorem Rl {n:Nat} (h:n<1000000000):Bf n<=1:=Kn (by simpa using h)
theorem Alx (n k:Nat) (b:n<1000000000) (hk:k<=64):RB (k+1) (A7 false (D1 n k) (D2 k)) :=
 Hv _ _ _ _ (Alv n k b) (Alw k (by omega)) (by omega)
theorem Aaz (a:Aq):Aq.mk a.Neg a.Num a.Den=a:=by cases a; rfl
theorem Aly (n k:Nat) (z:n<1000000000) (hk:k<=64):Ts (n:Int) (k:Int)=some (A7 false (D1 n k) (D2 k)):=by
 unfold Ts
 have A:Fz 1=some (A7 false (D1 n 0) (D2 0)):=Xe 1 (by decide) (by decide)
 rw [A,Ad]
 refine Gw (fun (i,s,b,c)=>∃q:Nat,i=q/\q<=k/\q<=n/\Aq.mk s b c=A7 false (D1 n q) (D2 q)) (fun (i,_,_,_)=>k-i.toNat)
  (fun e=>match e with | .inl r=>r=A7 false (D1 n k) (D2 k) | .inr (s,b,c)=>Aq.mk s b c=A7 false (D1 n k) (D2 k)) ⟨0,rfl,by omega,by omega,Aaz _⟩ ?_ ?_
 .rintro ⟨i,s,b,c⟩ ⟨q,rfl,hq,y,ha⟩
  rcases Nat.lt_or_ge q k with h | h
  .simp only [Ak (by omega:(q:Int)<(k:Int)),cond_true]
   by_cases u:n=q
   .subst u
    refine .inr ⟨.inl (A7 false 0 1),?_,?_⟩
    .rw [Ea rfl,cond_true,Xe 0 (by decide) (by decide)]; rfl
    .show A7 false 0 1=_
     rw [Aff h,Xg,Xg]
   .have l:Ac ((n:Int)-(q:Int))=((n-q:Nat):Int):=by rw [Ac,Bp] <;> omega
    have j:Ac ((q:Int)+1)=((q+1:Nat):Int):=Jk h (by omega)
    have x:Q6 ((n-q:Nat):Int) ((q+1:Nat):Int)=some (A7 false (n-q) (q+1)):=by
     rw [Avj _ _ (by omega) (by omega) (by omega) (by omega) (by omega),Ap (by omega:¬((n-q:Nat):Int)<0),Ap (by omega:¬((q+1:Nat):Int)<0)]; rfl
    have g:RB 1 (A7 false (n-q) (q+1)):=Hv _ _ _ _ (Rl (by omega)) (Rl (by omega)) (by omega)
    have hm:=Xf _ _ _ _ (Alx n q z (by omega)) g (by omega) (by omega)
    rw [Alu false false (D1 n q) (D2 q) (n-q) (q+1) (Rk q) (by omega)] at hm
    refine .inl ⟨(((q+1:Nat):Int),(A7 false (D1 n (q+1)) (D2 (q+1))).Neg,(A7 false (D1 n (q+1)) (D2 (q+1))).Num,(A7 false (D1 n (q+1)) (D2 (q+1))).Den),?_,⟨q+1,rfl,by omega,by omega,Aaz _⟩,by simp; omega⟩
    rw [Cm (by omega),cond_false,l,j,x,Ad,ha,hm,Ad]; rfl
  .have:q=k:=by omega
   subst this
   refine .inr ⟨.inr (s,b,c),by simp,ha⟩
 .rintro (e | ⟨s,b,c⟩) f
  .simp only at f ⊢; rw [f]
  .simp only at f ⊢; rw [f]
theorem Av4 (n q:Nat) (x:n<1000000000) (hq:q<1000000000):∃s:Bool,Vm (A7 false n 1) (A7 false q 1)=some (A7 s (if q<=n then n-q else q-n) 1)/\(q<=n->n-q≠0->s=false):=by
 have hc:∀(s:Bool) (m:Nat),nv (A7 s m 1)=m/\dv (A7 s m 1)=1/\(m≠0->sv (A7 s m 1)=s)/\(m=0->sv (A7 s m 1)=false):=by
  intro s m
  obtain ⟨h1,h2,h3,y⟩:=Ub s m 1 (by decide)
  refine ⟨by rw [h1]; simp,by rw [h2]; simp,h3,y⟩
 have k:RB 1 (A7 false n 1):=Hv _ _ _ _ (Rl x) (by rw [Hu]; decide) (by omega)
 have j:RB 1 (A7 false q 1):=Hv _ _ _ _ (Rl hq) (by rw [Hu]; decide) (by omega)
 obtain ⟨a1,a2,a3,a4⟩:=hc false n
 obtain ⟨b1,b2,G,E⟩:=hc false q
 have u:sv (A7 false n 1)=false:=by
  by_cases h:n=0
  .exact a4 h
  .exact a3 h
 have l:sv (A7 false q 1)=false:=by
  by_cases h:q=0
  .exact E h
  .exact G h
 have f:Tc (A7 false q 1)=some (A7 true q 1):=by rw [Av1 _ 1 j (by decide),l,b1,b2]; rfl
 obtain ⟨D,B,A,z⟩:=hc true q
 have i:RB 1 (A7 true q 1):=Hv _ _ _ _ (Rl hq) (by rw [Hu]; decide) (by omega)
 have g:=Alt _ _ 1 1 k i (by decide) (by decide)
 unfold Vm
 rw [f,Ad,g,Ad,a1,a2,D,B,u]
 by_cases c:q=0
 .subst c
  refine ⟨false,?_,fun _ _=>rfl⟩
  rw [z rfl]
  simp [Jl,Ik]
 .rw [A c]
  by_cases b:q<=n
  .refine ⟨false,?_,fun _ _=>rfl⟩
   simp [Jl,Ik,b]
  .refine ⟨true,?_,fun h=>(b h).elim⟩
   simp [Jl,Ik,b]
theorem Av5 (n k:Nat) (B:n<1000000000) (hk:k<=64):Qs (A7 false n 1) (k:Int)=some (A7 false (D1 n k) (D2 k)):=by
 unfold Qs
 have I:Hn 1=some (A7 false (D1 n 0) (D2 0)):=Rj 1 (by decide) (by decide)
 rw [I,Ad]
 refine Gw (fun (i,s,g,j)=>∃q:Nat,i=q/\q<=k/\Aq.mk s g j=A7 false (D1 n q) (D2 q)) (fun (i,_,_,_)=>k-i.toNat)
  (fun (s,g,j)=>Aq.mk s g j=A7 false (D1 n k) (D2 k)) ⟨0,rfl,by omega,Aaz _⟩ ?_ ?_
 .rintro ⟨i,s,g,j⟩ ⟨q,rfl,hq,ha⟩
  rcases Nat.lt_or_ge q k with h | h
  .have G:Ac ((q:Int)+1)=((q+1:Nat):Int):=Jk h (by omega)
   have hf:∀z:Nat,z<1000000000->W9 (z:Int)=some (A7 false z 1):=by
    intro z J
    have:=Rj (z:Int) (by omega) (by omega)
    rw [Ap (by omega:¬(z:Int)<0)] at this
    exact this
   obtain ⟨t,l,ht⟩:=Av4 n q B (by omega)
   have u:RB 1 (A7 t (if q<=n then n-q else q-n) 1):=Hv _ _ _ _ (Rl (by split <;> omega)) (by rw [Hu]; decide) (by omega)
   have hm:=Als _ _ _ _ (Alx n q B (by omega)) u (by omega) (by omega)
   rw [Alu _ _ _ _ _ _ (Rk q) (by decide),Nat.mul_one] at hm
   have c:D1 n q*(if q<=n then n-q else q-n)=D1 n (q+1):=by
    simp only [D1]
    by_cases f:q<=n
    .rw [if_pos f]
    .rw [Aff (by omega)]; simp
   have D:A7 (false != t) (D1 n q*(if q<=n then n-q else q-n)) (D2 q)=A7 false (D1 n (q+1)) (D2 q):=by
    rw [c]
    apply Aat
    intro b
    have f:q<=n:=by
     rcases Nat.lt_or_ge n q with h' | h'
     .rw [Aff (by omega)] at b; exact (b rfl).elim
     .exact h'
    have A:n-q≠0:=by
     intro e; simp only [D1,e,Nat.mul_zero] at b; exact b rfl
    rw [ht f A]; rfl
   rw [D] at hm
   have y:RB (q+2) (A7 false (D1 n (q+1)) (D2 q)):=Hv _ _ _ _ (Alv n (q+1) B) (by have:=Alw q (by omega); omega) (by omega)
   have x:RB 1 (A7 false (q+1) 1):=Hv _ _ _ _ (Rl (by omega)) (by rw [Hu]; decide) (by omega)
   obtain ⟨d1,d2⟩:=Av3 false false (D1 n (q+1)) (D2 q) (q+1) 1 (Rk q) (by decide) (by omega)
   have hd:=Av2 _ _ _ _ y x (by omega) (by omega) d2
   rw [d1,Nat.mul_one] at hd
   refine .inl ⟨(((q+1:Nat):Int),(A7 false (D1 n (q+1)) (D2 (q+1))).Neg,(A7 false (D1 n (q+1)) (D2 (q+1))).Num,(A7 false (D1 n (q+1)) (D2 (q+1))).Den),?_,⟨q+1,rfl,by omega,Aaz _⟩,by simp; omega⟩
   simp only [Ak (by omega:(q:Int)<(k:Int)),cond_true,hf q (by omega),Ad,l,ha,hm,G,hf (q+1) (by omega),hd]
   rfl
  .have:q=k:=by omega
   subst this
   exact .inr ⟨(s,g,j),by simp,ha⟩
 .rintro ⟨s,g,j⟩ E
  simp only at E ⊢; rw [E]
end Go.Ab
namespace Go.Ab
open Go
mutual
def Bg:Ah->Nat
 | ⟨_,_,l⟩=>1+Cp l
def Cp:List Ah->Nat
 | []=>0
 | x::xs=>Bg x+Cp xs
end
theorem Gx (t:Ah):Bg t=1+Cp t.Args:=by cases t; simp only [Bg]
theorem Mi (t:Ah):1<=Bg t:=by rw [Gx]; omega
theorem G4 {l:List Ah} {a:Ah} (h:a∈l):Bg a<=Cp l:=by
 induction l with
 | nil=>cases h
 | cons x xs ih=>
  simp only [Cp]
  rcases List.mem_cons.1 h with rfl | h
  .omega
  .have:=ih h; omega
theorem Ib (l:List Ah):l.length<=Cp l:=by
 induction l with
 | nil=>simp
 | cons x xs ih=>simp only [Cp,List.length_cons]; have:=Mi x; omega
theorem Aa0 (l m:List Ah):Cp (l++m)=Cp l+Cp m:=by
 induction l with
 | nil=>simp [Cp]
 | cons x xs ih=>simp only [List.cons_append,Cp,ih]; omega
def J8 (data:List Az) (vars k n:Int) (len:Nat):Bool :=
 if k=1\/k=2\/k=3 then n==0&&len==0
 else if k=4 then decide (0<=n)&&decide (n<vars)&&len==0
 else if k=5 then decide (0<=n)&&(match data[n.toNat]? with | some d=>(len:Int)==d.Vars | none=>false)
 else if k=6 then n==0&&decide (2<=len)&&decide (len<=6)
 else if k=7\/k=8 then n==0&&len==1
 else if k=9 then n==0&&decide (1<=len)&&decide (len<=7)
 else false
mutual
def Fj (data:List Az) (vars:Int):Ah->Bool
 | ⟨k,n,l⟩=>J8 data vars k n l.length&&Eh data vars l
def Eh (data:List Az) (vars:Int):List Ah->Bool
 | []=>true
 | x::xs=>Fj data vars x&&Eh data vars xs
end
theorem Aa1 (data:List Az) (vars:Int) (t:Ah):Fj data vars t=(J8 data vars t.Kind t.Num t.Args.length&&Eh data vars t.Args):=by cases t; simp only [Fj]
theorem Av6 {α:Type} (l:List α) (n:Nat):((l.length:Int)==(n:Int))=(l.length==n):=by
 by_cases h:l.length=n
 .subst h; simp
 .rw [Cm (by omega)]; simp [h]
theorem Av7 (k:Nat) (t:Ah) (data:List Az) (vars left:Int) (h1:1<=left) (h2:left<=1000) :
  Ll (k+1) t ⟨data,vars,left⟩=bif J8 data vars t.Kind t.Num t.Args.length then ((T2 k t.Args ⟨data,vars,left-1⟩).bind fun v12=>some ((!v12.1),v12.2)) else some (false,⟨data,vars,left-1⟩):=by
 have hw:Ac (left-1)=left-1:=Bp (by omega) (by omega)
 have b:¬left-1<0:=by omega
 rw [Ll]
 simp only [hw,Ap b,cond_false]
 generalize g:(T2 k t.Args ⟨data,vars,left-1⟩).bind (fun v12=>some ((!v12.1),v12.2))=X
 generalize f:(some (false,⟨data,vars,left-1⟩):Option (Bool×Fw))=Y
 unfold J8 Af
 generalize t.Args.length=len
 generalize t.Kind=c
 generalize t.Num=n
 cases hd:data[n.toNat]? <;> simp only [Bool.cond_eq_ite,Aeu,Ad,Option.bind_none,hd] <;> grind
theorem Xi {l:List Ah} {j:Nat} (h:j<l.length):Cp (l.take (j+1))=Cp (l.take j)+Bg l[j]:=by
 rw [List.take_succ_eq_append_getElem h,Aa0]; simp [Cp]
theorem Alz (data:List Az) (vars:Int) (l m:List Ah):Eh data vars (l++m)=(Eh data vars l&&Eh data vars m):=by
 induction l with
 | nil=>simp [Eh]
 | cons x xs ih=>simp only [List.cons_append,Eh,ih,Bool.and_assoc]
theorem Aa2 (data:List Az) (vars:Int) {l:List Ah} {j:Nat} (h:j<l.length):Eh data vars (l.take (j+1))=(Eh data vars (l.take j)&&Fj data vars l[j]):=by
 rw [List.take_succ_eq_append_getElem h,Alz]; simp [Eh]
theorem Xj (l:List Ah) (j:Nat):Cp (l.take j)<=Cp l:=by
 have:=Aa0 (l.take j) (l.drop j)
 rw [List.take_append_drop] at this; omega
theorem Al0 (data:List Az) (vars:Int) (l:List Ah) (j:Nat) (h:Eh data vars l=true):Eh data vars (l.take j)=true:=by
 have:=Alz data vars (l.take j) (l.drop j)
 rw [List.take_append_drop,h] at this
 have:=this.symm
 simp only [Dx] at this
 exact this.1
theorem Av8 (data:List Az) (vars:Int) (k:Nat) (l:List Ah) (c:Nat) (G:l.length<1099511627776)
  (ih:∀(a:Ah),a∈l->∀f:Nat,f<=c->∃g:Int,Ll k a ⟨data,vars,f⟩=some (Fj data vars a&&decide (Bg a<=f),⟨data,vars,g⟩)/\((Fj data vars a&&decide (Bg a<=f))=true->g=(f:Int)-Bg a)) :
  ∃p:Int×Int,W6 (k+2) l ⟨data,vars,c⟩=some (p.1,⟨data,vars,p.2⟩)/\((Eh data vars l&&decide (Cp l<=c))=true->p.1 = -1/\p.2=(c:Int)-Cp l)/\((Eh data vars l&&decide (Cp l<=c))=false->0<=p.1):=by
 rw [W6]
 refine Aaj (fun p:Int×Int=>(p.1,Fw.mk data vars p.2)) (D9
  (fun (v3,v4,v5,s)=>∃j:Nat,v3=j/\j<=l.length/\v4=data/\v5=vars/\Eh data vars (l.take j)=true/\Cp (l.take j)<=c/\s=(c:Int)-Cp (l.take j))
  (fun (v3,_,_,_)=>l.length-v3.toNat)
  (fun z=>match z with | .inl (i,b)=>0<=i/\(∃g,b=⟨data,vars,g⟩)/\(Eh data vars l&&decide (Cp l<=c))=false | .inr (v4,v5,s)=>v4=data/\v5=vars/\(Eh data vars l&&decide (Cp l<=c))=true/\s=(c:Int)-Cp l)
  ⟨0,rfl,by omega,rfl,rfl,rfl,by simp [Cp],by simp [Cp]⟩ ?_ ?_)
 .rintro ⟨v3,v4,v5,s⟩ ⟨j,rfl,hj,rfl,rfl,x,A,rfl⟩
  rcases Nat.lt_or_ge j l.length with h | h
  .obtain ⟨u,y⟩:∃u:Nat,(c:Int)-Cp (l.take j)=u/\u<=c:=⟨c-Cp (l.take j),by omega,by omega⟩
   obtain ⟨g,E,D⟩:=ih l[j] (List.getElem_mem h) u y.2
   simp only [Ak (by omega:(j:Int)<(l.length:Int)),cond_true,Dh rfl h,Ad,Wh,y.1,E]
   cases hb:(Fj v4 v5 l[j]&&decide (Bg l[j]<=u)) with
   | true=>
    have I:=D hb
    simp only [Dx,decide_eq_true_eq] at hb
    refine .inl ⟨(((j+1:Nat):Int),v4,v5,g),?_,⟨j+1,rfl,by omega,rfl,rfl,?_,?_,?_⟩,by simp; omega⟩
    .simp only [Dm,cond_false]
     rw [show Ac ((j:Int)+1)=((j+1:Nat):Int) by rw [Ac,Bp] <;> omega]
    .rw [Aa2 _ _ h,x,hb.1]; rfl
    .rw [Xi h]; omega
    .show g=_
     rw [Xi h]; omega
   | false=>
    refine .inr ⟨.inl ((j:Int),⟨v4,v5,g⟩),by simp,by omega,⟨g,rfl⟩,?_⟩
    cases q:(Eh v4 v5 l&&decide (Cp l<=c)) with
    | false=>rfl
    | true=>
     exfalso
     simp only [Dx,decide_eq_true_eq] at q
     have a1:=Al0 v4 v5 l (j+1) q.1
     rw [Aa2 _ _ h] at a1
     simp only [Dx] at a1
     have a2:=Xj l (j+1)
     rw [Xi h] at a2
     rw [a1.2,Bool.true_and,decide_eq_false_iff_not] at hb
     omega
  .have:j=l.length:=by omega
   subst this
   rw [List.take_length] at *
   refine .inr ⟨.inr (v4,v5,(c:Int)-Cp l),by simp,rfl,rfl,by simp [x,A],rfl⟩
 .rintro (⟨i,b⟩ | ⟨v4,v5,s⟩) B
  .obtain ⟨a1,⟨g,rfl⟩,a3⟩:=B
   exact ⟨_,rfl,(i,g),rfl,(fun h=>by rw [a3] at h; cases h),fun _=>a1⟩
  .obtain ⟨rfl,rfl,a3,rfl⟩:=B
   exact ⟨_,rfl,(-1,_),rfl,fun _=>⟨rfl,rfl⟩,fun h=>by rw [a3] at h; cases h⟩
theorem Av9 (data:List Az) (vars:Int):∀(left:Nat) (t:Ah) (k:Nat),left<=200->4*left+4<=k->Bg t<1099511627776 ->
  ∃f:Int,Ll k t ⟨data,vars,left⟩=some (Fj data vars t&&decide (Bg t<=left),⟨data,vars,f⟩)/\((Fj data vars t&&decide (Bg t<=left))=true->f=(left:Int)-Bg t):=by
 intro left
 induction left using Nat.strongRecOn with
 | _ left s=>
  intro t k B hk ht
  have hp:=Mi t
  obtain ⟨g,rfl⟩:∃g,k=g+1:=⟨k-1,by omega⟩
  cases left with
  | zero=>
   refine ⟨-1,?_,fun h=>by simp at h; omega⟩
   rw [Ll]
   have hd:decide (Bg t<=0)=false:=Ap (by omega)
   rw [hd,Bool.and_false]
   rfl
  | succ b=>
   rw [Av7 g t data vars ((b+1:Nat):Int) (by omega) (by omega)]
   have z:((b+1:Nat):Int)-1=(b:Int):=by omega
   rw [z,Aa1]
   cases A:J8 data vars t.Kind t.Num t.Args.length with
   | false=>exact ⟨b,by simp,fun h=>by simp at h⟩
   | true=>
    obtain ⟨q,rfl⟩:∃q,g=q+3:=⟨g-3,by omega⟩
    have j:=Gx t
    have x:=Ib t.Args
    obtain ⟨⟨i,f⟩,h1,h2,h3⟩:=Av8 data vars q t.Args b (by omega) (fun a ha c y=>by
     have:=G4 ha
     exact s c (by omega) a q (by omega) (by omega) (by omega))
    have l:decide (Bg t<=b+1)=decide (Cp t.Args<=b):=by
     rw [j]; congr 1; simp only [eq_iff_iff]; omega
    simp only [cond_true,T2,h1,Ad,Bool.true_and,l]
    refine ⟨f,?_,fun h=>?_⟩
    .cases hb:(Eh data vars t.Args&&decide (Cp t.Args<=b)) with
     | true=>
      have u:i = -1:=(h2 hb).1
      rw [Ap (by omega:¬i>=0)]; rfl
     | false=>
      have u:0<=i:=h3 hb
      rw [Ak (by omega:i>=0)]; rfl
    .have u:f=(b:Int)-Cp t.Args:=(h2 h).2
     rw [u,j]; omega
theorem Afg (data:List Az) (t:Ah) (vars:Int) (ht:Bg t<1099511627776):Ob data t vars=some (Fj data vars t&&decide (Bg t<=200)):=by
 unfold Ob
 obtain ⟨b,h1,_⟩:=Av9 data vars 200 t 4000000 (by decide) (by decide) ht
 have h1:Ll 4000000 t ⟨data,vars,200⟩=_:=h1
 rw [h1]; rfl
theorem Al1:∀(k:Nat) (t:Ah),Bg t<=k->Bg t<1099511627776->M6 k t=some (Bg t:Int):=by
 intro k
 induction k with
 | zero=>intro t h; have:=Mi t; omega
 | succ k ih=>
  intro t h ht
  have c:=Gx t
  have f:=Ib t.Args
  rw [M6]
  refine Gw (fun (n,i)=>∃j:Nat,i=j/\j<=t.Args.length/\n=1+(Cp (t.Args.take j):Int)) (fun (_,i)=>t.Args.length-i.toNat) (fun n=>n=(Bg t:Int)) ⟨0,rfl,by omega,by simp [Cp]⟩ ?_ (by rintro n rfl; rfl)
  rintro ⟨n,i⟩ ⟨j,rfl,hj,rfl⟩
  rcases Nat.lt_or_ge j t.Args.length with h' | h'
  .have hm:=G4 (List.getElem_mem h')
   have g:=Xj t.Args j
   have b:=Xj t.Args (j+1)
   rw [Xi h'] at b
   refine .inl ⟨(1+(Cp (t.Args.take (j+1)):Int),((j+1:Nat):Int)),?_,⟨j+1,rfl,by omega,rfl⟩,by simp; omega⟩
   simp only [Ak (by omega:(j:Int)<(t.Args.length:Int)),cond_true,Dh rfl h',Ad,ih t.Args[j] (by omega) (by omega)]
   rw [show Ac ((j:Int)+1)=((j+1:Nat):Int) by rw [Ac,Bp] <;> omega,show Ac (1+(Cp (t.Args.take j):Int)+(Bg t.Args[j]:Int))=1+(Cp (t.Args.take (j+1)):Int) by rw [Xi h',Ac,Bp] <;> omega]
  .have:j=t.Args.length:=by omega
   subst this
   exact .inr ⟨1+(Cp t.Args:Int),by simp,by rw [c]; omega⟩
theorem Awa (data:List Az) (vars:Int):∀(k:Nat) (t:Ah),Bg t<=k->Bg t<1099511627776->Ok k data t vars=some (Fj data vars t):=by
 intro k
 induction k with
 | zero=>intro t h; have:=Mi t; omega
 | succ k ih=>
  intro t h ht
  have A:=Gx t
  have l:=Ib t.Args
  have c:(Al (S:=Int) (E:=(Bool⊕Unit)) (fun v8=>bif (decide (v8<(t.Args.length:Int))) then ((Af t.Args v8).bind fun v9=>(Ok k data v9 vars).bind fun x=>bif (!x) then some (.inr (.inl false)) else some (.inl (Ac (v8+1)))) else some (.inr (.inr ()))) 0).bind (fun z=>match z with | .inl y=>some y | .inr _=>some true)=some (Eh data vars t.Args):=by
   refine Gw (fun i=>∃j:Nat,i=j/\j<=t.Args.length/\Eh data vars (t.Args.take j)=true) (fun i=>t.Args.length-i.toNat)
    (fun z=>match z with | .inl r=>r=Eh data vars t.Args | .inr _=>Eh data vars t.Args=true) ⟨0,rfl,by omega,by simp [Eh]⟩ ?_ ?_
   .rintro i ⟨j,rfl,hj,f⟩
    rcases Nat.lt_or_ge j t.Args.length with h' | h'
    .have hm:=G4 (List.getElem_mem h')
     simp only [Ak (by omega:(j:Int)<(t.Args.length:Int)),cond_true,Dh rfl h',Ad,ih t.Args[j] (by omega) (by omega)]
     cases hb:Fj data vars t.Args[j] with
     | true=>
      refine .inl ⟨((j+1:Nat):Int),?_,⟨j+1,rfl,by omega,by rw [Aa2 _ _ h',f,hb]; rfl⟩,by simp; omega⟩
      simp only [Dm,cond_false]
      rw [show Ac ((j:Int)+1)=((j+1:Nat):Int) by rw [Ac,Bp] <;> omega]
     | false=>
      refine .inr ⟨.inl false,by simp,?_⟩
      show false=_
      cases q:Eh data vars t.Args with
      | false=>rfl
      | true=>
       have a1:=Al0 data vars t.Args (j+1) q
       rw [Aa2 _ _ h',hb,Bool.and_false] at a1; cases a1
    .have:j=t.Args.length:=by omega
     subst this
     rw [List.take_length] at f
     exact .inr ⟨.inr (),by simp,f⟩
   .rintro (r | u) s
    .simp only at s ⊢; rw [s]
    .simp only at s ⊢; rw [s]
  rw [Ok,Aa1]
  refine Eq.trans (b:=Option.bind _ (fun z:Bool⊕Unit=>match z with | .inl D=>some D | .inr _=>some (Eh data vars t.Args))) (Au2 ?_) ?_
  .rintro (r | u)
   .rfl
   .exact c
  have g:t.Args.length=0->Eh data vars t.Args=true:=by
   intro e; rw [List.length_eq_zero_iff.1 e]; rfl
  unfold J8 Af
  clear c ih h ht A l
  generalize Eh data vars t.Args=X at *
  generalize t.Args.length=len at *
  generalize t.Kind=G
  generalize t.Num=n
  by_cases B:len=0
  .have hx:=g B
   subst B; subst hx
   cases hd:data[n.toNat]? <;> simp only [Bool.cond_eq_ite,Aeu,Ad,Option.bind_none,hd] <;> grind
  .have h0:((len:Int)==0)=false:=Cm (by omega)
   have h1:(len==0)=false:=by simpa using B
   have h2:((len:Int) != 1)=(!(len==1)):=by
    by_cases h:len=1
    .subst h; rfl
    .rw [Di (by omega)]; simp [h]
   cases hd:data[n.toNat]? <;> simp only [h0,h1,h2,Bool.cond_eq_ite,Aeu,Ad,Option.bind_none,hd,Bool.and_false,Bool.false_and] <;> grind
theorem Afh (data:List Az) (t:Ah) (vars:Int) (ht:Bg t<=4000000):M1 data t vars=some (Fj data vars t&&decide (Bg t<=200)):=by
 unfold M1
 rw [Al1 4000000 t ht (by omega),Ad,Awa data vars 4000000 t ht (by omega)]
 by_cases h:Bg t<=200
 .rw [Ak (by omega:(Bg t:Int)<=200),Ak h]; simp
 .rw [Ap (by omega:¬(Bg t:Int)<=200),Ap h]; simp
end Go.Ab
namespace Go.Ab
open Go
def Nb (a:Ah) (i:Int):Bool:=a.Kind==4&&a.Num==i&&a.Args.length==0
def Al2 (l:List Ah):Bool:=l.zipIdx.all fun q=>Nb q.1 q.2
def Hw (t:Ah) (d vars:Int):Bool:=t.Kind==5&&t.Num==d&&(t.Args.length:Int)==vars&&Al2 t.Args
theorem Al3 (t:Ah) (d vars:Int) (ht:t.Args.length<1099511627776):Oj t d vars=some (Hw t d vars):=by
 unfold Oj Hw
 by_cases h1:t.Kind=5
 .by_cases h2:t.Num=d
  .by_cases h3:(t.Args.length:Int)=vars
   .simp only [Dj h1,Dj h2,Dj h3,cond_false,Ad,Ea h1,Ea h2,Ea h3,Bool.true_and]
    refine (T7 t.Args (fun q=>Nb q.1 q.2) (fun j=>(j:Int)) rfl (by omega) (rt:=true) (rf:=false) ?_ ?_).trans (by rw [Re]; rfl)
    .intro j x hx _ hd hi hw
     simp only [hd,hi,hw,cond_true,Ad,Nb]
     constructor
     .intro h
      simp only [Dx,beq_iff_eq] at h
      simp [h.1.1,h.1.2,h.2]
     .intro h
      by_cases g1:x.Kind=4
      .by_cases g2:x.Num=j
       .by_cases g3:x.Args.length=0
        .simp [g1,g2,g3] at h
        .exact ⟨.inl false,by simp only [Dj g1,Dj g2,cond_false]; rw [Ak (by omega)]; rfl,rfl⟩
       .exact ⟨.inl false,by simp only [Dj g1,Di g2,cond_false]; rfl,rfl⟩
      .exact ⟨.inl false,by simp only [Di g1]; rfl,rfl⟩
    .intro hd _
     exact ⟨.inr (),by simp only [hd]; rfl,rfl⟩
   .simp only [Dj h1,Dj h2,Di h3,cond_false,cond_true,Ad,Cm h3,Bool.and_false,Bool.false_and]
  .simp only [Dj h1,Di h2,cond_false,cond_true,Ad,Cm h2,Bool.and_false,Bool.false_and]
 .simp only [Di h1,cond_true,Ad,Cm h1,Bool.false_and]
def Gl (data:List Az) (d c:Int):List Bool :=
 match Af data d with
 | none=>[]
 | some x=>match Af x.Cons c with
  | none=>[]
  | some y=>y.Args.map fun t=>Hw t d x.Vars
theorem F4 {α:Type} {l:List α} {i:Int} {x:α} (h:Af l i=some x):0<=i/\i<l.length/\l[i.toNat]? = some x/\x∈l:=by
 unfold Af at h
 split at h
 .have h1:i.toNat<l.length:=Dn h
  exact ⟨by assumption,by omega,h,B4 h⟩
 .cases h
theorem O8 {α:Type} {l:List α} {i:Int} (h:Af l i=none):i<0\/(l.length:Int)<=i:=by
 unfold Af at h
 split at h
 .rw [List.getElem?_eq_none_iff] at h
  right; omega
 .left; omega
theorem Al4 {R:Type} (data:List Az) (d c:Int) (F:Az->Lp->Option R) (z:R) (X:Option R)
  (f:X=((bif (decide (d<(0:Int))) then some true else bif (decide (d>=(data.length:Int))) then some true else bif (decide (c<(0:Int))) then some true else
   (Af data d).bind fun b=>some (decide (c>=(b.Cons.length:Int))):Option Bool).bind fun v2=>bif v2 then some z else (Af data d).bind fun v3=>(Af v3.Cons c).bind fun v4=>F v3 v4)) :
  X=match Af data d with
   | none=>some z
   | some x=>match Af x.Cons c with
    | none=>some z
    | some y=>F x y:=by
 subst f
 cases hx:Af data d with
 | none=>
  rcases O8 hx with h | h
  .simp only [Ak h,cond_true,Ad]
  .by_cases h':d<0
   .simp only [Ak h',cond_true,Ad]
   .simp only [Ap h',Ak (show d>=(data.length:Int) from h),cond_true,cond_false,Ad]
 | some x=>
  obtain ⟨a1,a2,_,_⟩:=F4 hx
  simp only [Ap (by omega:¬d<0),Ap (by omega:¬d>=(data.length:Int)),cond_false,Ad]
  cases hy:Af x.Cons c with
  | none=>
   rcases O8 hy with h | h
   .simp only [Ak h,cond_true,Ad]
   .by_cases h':c<0
    .simp only [Ak h',cond_true,Ad]
    .simp only [Ap h',Ak (show c>=(x.Cons.length:Int) from h),cond_true,cond_false,Ad]
  | some y=>
   obtain ⟨b1,b2,_,_⟩:=F4 hy
   simp only [Ap (by omega:¬c<0),Ap (by omega:¬c>=(x.Cons.length:Int)),cond_false,Ad]
def Awb (l:List Ah):Prop:=l.length<=4194304/\∀a∈l,a.Args.length<=4194304
def Lu (data:List Az):Prop:=∀x∈data,∀y∈x.Cons,Awb y.Args
theorem Awc (data:List Az) (d c:Int) (hd:Lu data):Tw data d c=some (Gl data d c):=by
 unfold Tw
 rw [Al4 data d c (fun v4 v5=>_) [] _ rfl]
 unfold Gl
 cases hx:Af data d with
 | none=>rfl
 | some x=>
  cases hy:Af x.Cons c with
  | none=>simp only [hy]
  | some y=>
   simp only [hy]
   have b:=hd x (F4 hx).2.2.2 y (F4 hy).2.2.2
   refine Fi y.Args (fun j=>((j:Int),(y.Args.take j).map fun t=>Hw t d x.Vars)) rfl (by have:=b.1; omega) ?_ ?_
   .intro j t hj ht h1 h2 h3
    simp only [h1,h2,cond_true,Ad,Al3 t d x.Vars (by have:=b.2 t (B4 ht); omega)]
    rw [Cy (by simp; have:=b.1; omega),Ad,h3,C6 ht,List.map_append]; rfl
   .intro h1
    exact ⟨_,by simp only [h1]; rfl,by simp⟩
theorem Awd (data:List Az) (d c:Int) (hd:Lu data):Tw data d c=some (Gl data d c):=Awc data d c hd
theorem Afi {α:Type} (l m:List α) (y x:α) (i:Int) (n:Nat) (h:i=n) (b:n=l.length):Ci (l++y::m) i x=l++x::m:=by
 rw [Fb h]; subst b; simp
theorem Afj {α:Type} (l m:List α) (y:α) (i:Int) (n:Nat) (h:i=n) (b:n=l.length):Af (l++y::m) i=some y:=by
 rw [B6 h]; subst b; simp
theorem Awe (l:List Ah) (k f:List Bool) (i:Int) (n:Nat) (b:Bool) (h:i=n) (s:n=k.length) (A:l.length<1099511627776) {R:Type} {J:Int×List Bool->Option R} {r:R}
  (z:J ((l.length:Int),k++(b&&Al2 l)::f)=some r) :
  (Al (S:=(Int×(List Bool))) (E:=(Int×(List Bool))) (fun (c,g)=>
   bif (decide (c<(l.length:Int))) then (
   (Af l c).bind fun v44=>
   bif (v44.Kind != (4:Int)) then (
   (Af g i).bind fun v46=>
   some (.inl ((Ac (c+1)),(Ci g i false)))
   )
   else (
   bif (v44.Num != c) then (
   (Af g i).bind fun y=>
   some (.inl ((Ac (c+1)),(Ci g i false)))
   )
   else (
   bif (decide ((v44.Args.length:Int)>(0:Int))) then (
   (Af g i).bind fun u=>
   some (.inl ((Ac (c+1)),(Ci g i false)))
   )
   else (
   some (.inl ((Ac (c+1)),g))
   )
   )
   )
   )
   else (
   some (.inr (c,g))
   )
    ) (0,k++b::f)).bind J=some r:=by
 refine Fi l (fun j=>((j:Int),k++(b&&(l.take j).zipIdx.all (fun q=>Nb q.1 q.2))::f)) (by simp) (by omega) ?_ ?_
 .intro j x hj hx h1 h2 h3
  have e:(l.take (j+1)).zipIdx.all (fun q=>Nb q.1 q.2)=((l.take j).zipIdx.all (fun q=>Nb q.1 q.2)&&Nb x j):=by
   rw [C6 hx,List.zipIdx_append,List.all_append]; simp [Nat.min_eq_left (Nat.le_of_lt hj)]
  simp only [h1,h2,h3,cond_true,Ad,Afj k f _ i n h s,Afi k f _ _ i n h s,e]
  unfold Nb
  by_cases g1:x.Kind=4
  .by_cases g2:x.Num=j
   .by_cases g3:x.Args.length=0
    .rw [Ap (by omega)]; simp [g1,g2,g3]
    .rw [Ak (by omega)]
     have:(x.Args.length==0)=false:=by simpa using g3
     simp [g1,g2,this]
   .simp [g1,g2,Di g2]
  .simp [g1,Di g1]
 .intro h1
  refine ⟨_,by simp only [h1]; rfl,?_⟩
  rw [List.take_length]
  exact z
theorem Al5 (data:List Az) (d c:Int) (hd:Lu data):Tp data d c=some (Gl data d c):=by
 unfold Tp
 rw [Al4 data d c (fun v3 v4=>_) [] _ rfl]
 unfold Gl
 cases hx:Af data d with
 | none=>rfl
 | some x=>
  cases hy:Af x.Cons c with
  | none=>simp only [hy]
  | some y=>
   simp only [hy]
   have f:=hd x (F4 hx).2.2.2 y (F4 hy).2.2.2
   have g:=f.1
   rw [Iz (n:=y.Args.length) (c:=y.Args.length) rfl rfl (by omega) (by omega) (by omega),Ad]
   refine Fi y.Args (fun j=>((j:Int),((y.Args.take j).map fun t=>Hw t d x.Vars)++List.replicate (y.Args.length-j) false)) rfl (by omega) ?_ ?_
   .intro j t hj ht h1 h2 h3
    obtain ⟨m,hm⟩:∃m,y.Args.length-j=m+1:=⟨y.Args.length-j-1,by omega⟩
    have h:y.Args.length-(j+1)=m:=by omega
    have b:j=((y.Args.take j).map fun t=>Hw t d x.Vars).length:=by simp; omega
    simp only [h1,h2,cond_true,Ad,hm,h,List.replicate_succ,C6 ht,List.map_append,List.map_cons,List.map_nil,List.append_assoc,List.cons_append,List.nil_append,
     Afj _ _ _ (j:Int) j rfl b,Afi _ _ _ _ (j:Int) j rfl b]
    have hb:(bif t.Kind==5 then bif t.Num==d then some (List.map (fun t=>Hw t d x.Vars) (List.take j y.Args)++((t.Args.length:Int)==x.Vars)::List.replicate m false)
       else some (List.map (fun t=>Hw t d x.Vars) (List.take j y.Args)++false::List.replicate m false)
      else some (List.map (fun t=>Hw t d x.Vars) (List.take j y.Args)++false::List.replicate m false))=some (List.map (fun t=>Hw t d x.Vars) (List.take j y.Args)++(t.Kind==5&&t.Num==d&&((t.Args.length:Int)==x.Vars))::List.replicate m false):=by
     cases t.Kind==5 <;> cases t.Num==d <;> simp
    rw [hb,Ad]
    refine Awe t.Args _ _ (j:Int) j _ rfl b (by have:=f.2 t (B4 ht); omega) ?_
    rw [h3]; rfl
   .intro h1
    exact ⟨_,by simp only [h1]; rfl,by simp⟩
mutual
def mnt (d:Int):Ah->Bool
 | ⟨k,n,l⟩=>(k==5&&n==d)||Nc d l
def Nc (d:Int):List Ah->Bool
 | []=>false
 | x::xs=>mnt d x||Nc d xs
end
theorem Awf (d:Int) (t:Ah):mnt d t=((t.Kind==5&&t.Num==d)||Nc d t.Args):=by cases t; simp only [mnt]
theorem Awg (d:Int) (l:List Ah):Nc d l=l.any (mnt d):=by
 induction l with
 | nil=>rfl
 | cons x xs ih=>simp only [Nc,ih,List.any_cons]
theorem Awh (d:Int):∀(n:Nat) (t:Ah) (k:Nat),Bg t<=n->4*n+4<=k->n<1099511627776->Qz k t d=some (mnt d t):=by
 intro n
 induction n with
 | zero=>intro t k h; have:=Mi t; omega
 | succ n ih=>
  intro t k h hk g
  obtain ⟨k,rfl⟩:∃c,k=c+4:=⟨k-4,by omega⟩
  have f:=Gx t
  have b:=Ib t.Args
  have key:T1 (k+3) t.Args d=some (Nc d t.Args):=by
   rw [T1,Z9]
   rw [Awg]
   refine Xc (Alh t.Args (mnt d) (by omega) ?_ (fun h=>by simp only [h]; rfl) (fun _=>rfl) rfl) (fun i hi=>by rw [hi])
   intro j x hx h1 h2 h3
   have hm:=G4 hx
   simp only [h1,h2,h3,cond_true,Ad,W0,ih x k (by omega) (by omega) (by omega)]
  rw [Qz,key,Awf]
  cases t.Kind==5 <;> cases t.Num==d <;> simp
end Go.Ab
namespace Go.Ab
open Go
theorem Awi (data:List Az) (v:Int) (l:List Ah):Eh data v l=l.all (Fj data v):=by
 induction l with
 | nil=>rfl
 | cons x xs ih=>simp only [Eh,ih,List.all_cons]
theorem Awj (data:List Az) (d:Nat) (v k n:Int) (len:Nat):(J8 (data.take (d+1)) v k n len && !(k==5&&n==(d:Int)))=J8 (data.take d) v k n len:=by
 by_cases hk:k=5
 .subst hk
  unfold J8
  simp only [beq_self_eq_true,Bool.true_and,List.getElem?_take]
  by_cases b:n=d
  .subst b; simp
  .by_cases h0:0<=n
   .have e:(n==(d:Int))=false:=Cm b
    rcases Nat.lt_or_ge n.toNat d with h | h
    .simp [h,e,show n.toNat<d+1 by omega]
    .simp [e,show ¬n.toNat<d by omega,show ¬n.toNat<d+1 by omega]
   .simp [h0]
 .have e:(k==(5:Int))=false:=Cm hk
  simp only [e,Bool.false_and,Bool.not_false,Bool.and_true,J8,hk,if_false]
mutual
theorem Al6 (data:List Az) (d:Nat) (v:Int):∀t:Ah,(Fj (data.take (d+1)) v t && !mnt d t)=Fj (data.take d) v t
 | ⟨k,n,l⟩=>by
  have h1:=Al7 data d v l
  have h2:=Awj data d v k n l.length
  simp only [Fj,mnt]
  rw [<-h1,<-h2]
  cases J8 (data.take (d+1)) v k n l.length <;> cases (k==5&&n==(d:Int)) <;> cases Eh (data.take (d+1)) v l <;> simp
theorem Al7 (data:List Az) (d:Nat) (v:Int):∀l:List Ah,(Eh (data.take (d+1)) v l && !Nc d l)=Eh (data.take d) v l
 | []=>by simp [Eh,Nc]
 | x::xs=>by
  have h1:=Al6 data d v x
  have h2:=Al7 data d v xs
  simp only [Eh,Nc]
  rw [<-h1,<-h2]
  cases Fj (data.take (d+1)) v x <;> cases mnt d x <;> cases Eh (data.take (d+1)) v xs <;> simp
end
theorem Al8:∀l:List Ah,(∀a∈l,a.Args.length=0)->Cp l=l.length
 | [],_=>rfl
 | x::xs,h=>by
  have h1:=h x (by simp)
  simp only [Cp,List.length_cons]
  rw [Al8 xs (fun a ha=>h a (by simp [ha])),Gx,List.length_eq_zero_iff.1 h1]
  simp only [Cp]; omega
theorem Al9 {data:List Az} {d:Nat} {x:Az} (hx:data[d]? = some x) (f:x.Vars<=6) {t:Ah} (h:Hw t d x.Vars=true):Fj (data.take (d+1)) x.Vars t=true/\Bg t<=200:=by
 unfold Hw at h
 simp only [Dx,beq_iff_eq] at h
 obtain ⟨⟨⟨h1,h2⟩,h3⟩,c⟩:=h
 have ha:∀a∈t.Args,∃i:Nat,i<t.Args.length/\a.Kind=4/\a.Num=i/\a.Args.length=0:=by
  intro a ha
  obtain ⟨i,hi⟩:=List.getElem?_of_mem ha
  have:=Jj c hi
  simp only [Nb,Dx,beq_iff_eq] at this
  exact ⟨i,Dn hi,this.1.1,this.1.2,this.2⟩
 refine ⟨?_,?_⟩
 .rw [Aa1,Awi,Dx]
  constructor
  .rw [h1,h2]
   unfold J8
   simp [hx,h3]
  .rw [List.all_eq_true]
   intro a b
   obtain ⟨i,i1,i2,i3,i4⟩:=ha a b
   rw [Aa1,i2,i3,i4,List.length_eq_zero_iff.1 i4]
   unfold J8
   simp [Eh]; omega
 .rw [Gx,Al8 _ (fun a h=>(ha a h).choose_spec.2.2.2)]
  omega
def I2 (data:List Az) (d:Nat) (v:Int) (t:Ah):Bool:=Hw t d v||(Fj (data.take d) v t&&decide (Bg t<=200))
theorem Awk {data:List Az} {d:Nat} {x:Az} (hx:data[d]? = some x) (b:x.Vars<=6) (t:Ah):((Fj (data.take (d+1)) x.Vars t&&decide (Bg t<=200))&&(Hw t d x.Vars || !mnt d t))=I2 data d x.Vars t:=by
 unfold I2
 cases h:Hw t d x.Vars with
 | true=>
  obtain ⟨h1,h2⟩:=Al9 hx b h
  rw [h1,Ak h2]; rfl
 | false=>
  rw [<-Al6 data d x.Vars t]
  cases Fj (data.take (d+1)) x.Vars t <;> cases decide (Bg t<=200) <;> simp
def SzD (data:List Az):Prop:=∀x∈data,x.Cons.length<=1048576/\∀y∈x.Cons,Cp y.Args<=1048576
theorem SzD.short {data:List Az} (h:SzD data):Lu data:=fun x hx y hy=>by
 have h1:=(h x hx).2 y hy
 have h2:=Ib y.Args
 refine ⟨by omega,fun a ha=>?_⟩
 have h3:=G4 ha
 have c:=Gx a
 have b:=Ib a.Args
 omega
theorem Awl {data:List Az} (g:SzD data) (d c:Nat) {x:Az} {y:Lp} (hx:data[d]? = some x) (hy:x.Cons[c]? = some y) (q:x.Vars<=6) (hd:data.length<=1048576) :
  Oq data d c=some (decide (y.Args.length<=6)&&y.Args.all (I2 data d x.Vars)):=by
 have b:=Dn hx
 have l:=(g x (B4 hx)).2 y (B4 hy)
 unfold Oq
 rw [B6 rfl hx,Ad,B6 rfl hy,Ad,Al5 data d c g.short]
 by_cases k:y.Args.length<=6
 .rw [Ap (by omega:¬(y.Args.length:Int)>6),Ak k]
  simp only [cond_false,Bool.true_and,Ad]
  refine (O1 y.Args (I2 data d x.Vars) (fun j=>(j:Int)) rfl (by omega) (rt:=true) (rf:=false) ?_ ?_).trans (by rw [Re])
  .intro j t ht h1 h2 h3
   have s:=G4 (B4 ht)
   have u:Af (Gl data d c) (j:Int)=some (Hw t d x.Vars):=by
    unfold Gl
    simp only [B6 rfl hx,B6 rfl hy]
    rw [B6 rfl]
    simp [ht]
   simp only [h1,h2,h3,cond_true,Ad,show Ac ((d:Int)+1)=((d+1:Nat):Int) from Cz b (by omega),Xb rfl (show d+1<=data.length from b),B6 rfl hx,
    Afg (data.take (d+1)) t x.Vars (by omega),u]
   rw [<-Awk hx q t]
   cases i:(Fj (data.take (d+1)) x.Vars t&&decide (Bg t<=200)) with
   | false=>exact ⟨(fun h=>by cases h),fun _=>⟨.inl false,rfl,rfl⟩⟩
   | true=>
    have f:Bg t<=200:=by simp only [Dx,decide_eq_true_eq] at i; exact i.2
    simp only [Dm,cond_false,Bool.true_and]
    cases z:Hw t d x.Vars with
    | true=>exact ⟨fun _=>rfl,fun h=>by cases h⟩
    | false=>
     simp only [Bool.not_false,cond_true,Awh d 200 t 4000000 f (by omega) (by omega),Ad,Bool.false_or]
     cases mnt d t with
     | true=>exact ⟨(fun h=>by cases h),fun _=>⟨.inl false,rfl,rfl⟩⟩
     | false=>exact ⟨fun _=>rfl,fun h=>by cases h⟩
  .intro h
   exact ⟨.inr (),by simp only [h]; rfl,rfl⟩
 .rw [Ak (by omega:(y.Args.length:Int)>6),Ap k]; rfl
end Go.Ab
namespace Go.Ab
open Go
def bI (s:ByteArray) (i:Nat):Int:=if h:i<s.size then (s[i].toNat:Int) else 0
def loI (c:Int):Bool:=decide (97<=c)&&decide (c<=122)
def upI (c:Int):Bool:=decide (65<=c)&&decide (c<=90)
def diI (c:Int):Bool:=decide (48<=c)&&decide (c<=57)
def wiI (c:Int):Bool:=loI c||upI c||diI c||c==95
def Ep (s:ByteArray):Prop:=1<=s.size/\s.size<=24/\upI (bI s 0)=true/\∀i,i<s.size->wiI (bI s i)=true
theorem He {s:ByteArray} {i:Int} {n:Nat} (hi:i=n) (h:n<s.size):∃c:UInt8,Eu s i=some c/\(c.toNat:Int)=bI s n:=by
 subst hi
 refine ⟨s[n],?_,?_⟩
 .unfold Eu
  rw [if_pos (by omega),show ((n:Int)).toNat=n from rfl]
  simp [h]
 .unfold bI; simp [h]
theorem Rm {s:ByteArray} {a b j:Nat} (hb:b<=s.size) (h:a+j<b):bI (s.extract a b) j=bI s (a+j):=by
 unfold bI
 have h1:j<(s.extract a b).size:=by rw [ByteArray.size_extract]; omega
 rw [dif_pos h1,dif_pos (by omega),ByteArray.getElem_extract]
theorem Mj {s:ByteArray} {lo hi:Int} {a b:Nat} (h1:lo=a) (h2:hi=b) (h3:a<=b) (c:b<=s.size):Dv s lo hi=some (s.extract a b):=by
 subst h1; subst h2; unfold Dv; rw [if_pos (by omega)]; rfl
theorem Ama {a b:ByteArray} (h:a.toList=b.toList):a=b:=by
 rw [ByteArray.toList_eq,ByteArray.toList_eq] at h
 have:a.data=b.data:=Array.toList_inj.1 h
 cases a; cases b; simp at this; subst this; rfl
theorem Aa3 (a b:ByteArray):(a.toList==b.toList)=decide (a=b):=by
 by_cases h:a=b
 .subst h; simp
 .rw [Ap h]
  cases hb:(a.toList==b.toList) with
  | false=>rfl
  | true=>exact absurd (Ama (by simpa using hb)) h
theorem Afk (c:Int):Tz c=some (loI c):=by unfold Tz loI; by_cases h:(97:Int)<=c <;> simp [h]
theorem Afl (c:Int):Q8 c=some (upI c):=by unfold Q8 upI; by_cases h:(65:Int)<=c <;> simp [h]
theorem Xk (c:Int):Ov c=some (diI c):=by unfold Ov diI; by_cases h:(48:Int)<=c <;> simp [h]
theorem Amb (c:Int):T0 c=some (wiI c):=by
 unfold T0 wiI
 rw [Afk,Afl,Xk]
 simp only [Ad]
 cases loI c <;> cases upI c <;> cases diI c <;> rfl
theorem Awm (c:Int):Wu c=some (loI c):=Afk c
theorem Awn (c:Int):Tu c=some (upI c):=Afl c
theorem Awo (c:Int):Tv c=some (diI c):=Xk c
theorem Uf {S E:Type} {step:S->Option (S⊕E)} (s:ByteArray) (p:Int->Bool) (b:Nat->S) (f:Nat->E) (lo:Nat)
  (h1:∀j,lo<=j->j<s.size->p (bI s j)=true->step (b j)=some (.inl (b (j+1)))) (h2:∀j,lo<=j->j<s.size->p (bI s j)=false->step (b j)=some (.inr (f j))) (h3:step (b s.size)=some (.inr (f s.size))) :
  ∀(m i:Nat),lo<=i->i+m=s.size->∃n,i<=n/\n<=s.size/\(∀j,i<=j->j<n->p (bI s j)=true)/\(n<s.size->p (bI s n)=false)/\Al step (b i)=some (f n):=by
 intro m
 induction m with
 | zero=>
  intro i _ hi
  have:i=s.size:=by omega
  subst this
  exact ⟨s.size,by omega,by omega,fun j _ _=>by omega,fun h=>by omega,Ds h3⟩
 | succ m ih=>
  intro i c hi
  cases hp:p (bI s i) with
  | true=>
   obtain ⟨n,a1,a2,a3,a4,a5⟩:=ih (i+1) (by omega) (by omega)
   refine ⟨n,by omega,a2,fun j b1 b2=>?_,a4,by rw [Hm (h1 i c (by omega) hp)]; exact a5⟩
   rcases Nat.lt_or_ge i j with h | h
   .exact a3 j h b2
   .have:j=i:=by omega
    subst this; exact hp
  | false=>exact ⟨i,by omega,by omega,fun j _ _=>by omega,fun _=>hp,Ds (h2 i c (by omega) hp)⟩
theorem Awp (s:ByteArray) (k:s.size<1099511627776):∃n,n<=s.size/\(∀j,j<n->wiI (bI s j)=true)/\(n<s.size->wiI (bI s n)=false)/\W2 s=some (s.extract 0 n):=by
 have H:=Uf (step:=fun v3:Int=>bif (decide (v3<(s.size:Int))) then ((Eu s v3).bind fun h=>(T0 (h.toNat:Int)).bind fun v5=>bif v5 then some (.inl (Ac (v3+1))) else some (.inr v3)) else some (.inr v3))
  s wiI (fun j=>(j:Int)) (fun j=>(j:Int)) 0 (fun j _ hj hp=>by
   obtain ⟨c,g,f⟩:=He (s:=s) (i:=(j:Int)) rfl hj
   simp only [Ak (by omega:(j:Int)<(s.size:Int)),cond_true,g,Ad,f,Amb,hp,Cz hj (by omega)]) (fun j _ hj hp=>by
   obtain ⟨c,g,f⟩:=He (s:=s) (i:=(j:Int)) rfl hj
   simp only [Ak (by omega:(j:Int)<(s.size:Int)),cond_true,g,Ad,f,Amb,hp,cond_false]) (by simp) s.size 0 (by omega) (by omega)
 obtain ⟨n,_,a2,a3,a4,a5⟩:=H
 refine ⟨n,a2,fun j hj=>a3 j (by omega) hj,a4,?_⟩
 unfold W2
 have a5:Al _ (0:Int)=some (n:Int):=a5
 rw [a5,Ad,Mj (lo:=0) (a:=0) (b:=n) rfl rfl (by omega) a2]; rfl
theorem Awq (s:ByteArray) (k:s.size<1099511627776):∃n,n<=s.size/\(∀j,j<n->diI (bI s j)=true)/\(n<s.size->diI (bI s n)=false)/\Z8 s=some (s.extract 0 n):=by
 have H:=Uf (step:=fun v3:Int=>bif (decide (v3<(s.size:Int))) then ((Eu s v3).bind fun h=>(Ov (h.toNat:Int)).bind fun v5=>bif v5 then some (.inl (Ac (v3+1))) else some (.inr v3)) else some (.inr v3))
  s diI (fun j=>(j:Int)) (fun j=>(j:Int)) 0 (fun j _ hj hp=>by
   obtain ⟨c,g,f⟩:=He (s:=s) (i:=(j:Int)) rfl hj
   simp only [Ak (by omega:(j:Int)<(s.size:Int)),cond_true,g,Ad,f,Xk,hp,Cz hj (by omega)]) (fun j _ hj hp=>by
   obtain ⟨c,g,f⟩:=He (s:=s) (i:=(j:Int)) rfl hj
   simp only [Ak (by omega:(j:Int)<(s.size:Int)),cond_true,g,Ad,f,Xk,hp,cond_false]) (by simp) s.size 0 (by omega) (by omega)
 obtain ⟨n,_,a2,a3,a4,a5⟩:=H
 refine ⟨n,a2,fun j hj=>a3 j (by omega) hj,a4,?_⟩
 unfold Z8
 have a5:Al _ (0:Int)=some (n:Int):=a5
 rw [a5,Ad,Mj (lo:=0) (a:=0) (b:=n) rfl rfl (by omega) a2]; rfl
theorem Mk {R:Type} {c:Bool} {X Y:Option R} {Q:R->Prop} (h1:∃r,X=some r/\Q r) (h2:∃r,Y=some r/\Q r):∃r,(bif c then X else Y)=some r/\Q r:=by cases c <;> assumption
theorem Xl {A R:Type} {X:Option A} {f:A->Option R} {Q:R->Prop} (P:A->Prop) (h1:∃a,X=some a/\P a) (h2:∀a,P a->∃r,f a=some r/\Q r):∃r,X.bind f=some r/\Q r:=by
 obtain ⟨a,e,h⟩:=h1
 rw [e]; exact h2 a h
theorem Awr (s:ByteArray):∃b,W3 s=some b/\True:=by
 unfold W3
 repeat' first | refine Mk ?_ ?_ | exact ⟨_,rfl,trivial⟩
theorem Aws (s:ByteArray) (h1:1<=s.size):∃r,W5 s=some r/\(r.size<=s.size):=by
 have g:Dv s 0 1=some (s.extract 0 1):=Mj rfl rfl (by omega) h1
 have c:(s.extract 0 1).size<=s.size:=by rw [ByteArray.size_extract]; omega
 unfold W5
 refine Xl (fun z=>∀r,z = .inl r->r.size<=s.size) ?_ ?_
 .by_cases h2:2<=s.size
  .have f:Dv s 0 2=some (s.extract 0 2):=Mj rfl rfl (by omega) h2
   have b:∀r,(Sum.inl (s.extract 0 2):ByteArray⊕Unit) = .inl r->r.size<=s.size:=by rintro r ⟨⟩; rw [ByteArray.size_extract]; omega
   simp only [f,Ad]
   repeat' first | refine Mk ?_ ?_ | with_reducible exact ⟨_,rfl,b⟩ | exact ⟨_,rfl,fun r h=>by cases h⟩
  .rw [Ap (by omega)]
   exact ⟨_,rfl,fun r h=>by cases h⟩
 .rintro (r | u) i
  .exact ⟨_,rfl,i r rfl⟩
  .simp only [g,Ad]
   have h0:(ByteArray.mk #[]).size<=s.size:=Nat.zero_le _
   repeat' first | refine Mk ?_ ?_ | with_reducible exact ⟨_,rfl,c⟩ | with_reducible exact ⟨_,rfl,h0⟩
theorem Awt (s:ByteArray) (g:s.size<1099511627776):∃b,W4 s=some b/\True:=by
 unfold W4
 refine D9 (fun (_,i)=>∃j:Nat,i=j/\j<=s.size) (fun (_,i)=>s.size-i.toNat) (fun _=>True) ⟨0,rfl,by omega⟩ ?_ ?_
 .rintro ⟨v,i⟩ ⟨j,rfl,hj⟩
  rcases Nat.lt_or_ge j s.size with h | h
  .obtain ⟨c,f,_⟩:=He (s:=s) (i:=(j:Int)) rfl h
   simp only [Ak (by omega:(j:Int)<(s.size:Int)),cond_true,f,Ad,Cz h (by omega)]
   cases decide (Ac (Ac (v*10)+Ac (wu8 ((c.toNat:Int)-48)))>1000000) with
   | true=>exact .inr ⟨_,rfl,trivial⟩
   | false=>exact .inl ⟨_,rfl,⟨j+1,rfl,by omega⟩,by simp; omega⟩
  .have:j=s.size:=by omega
   subst this
   exact .inr ⟨.inr (),by simp,trivial⟩
 .rintro (r | u) _ <;> exact ⟨_,rfl,trivial⟩
theorem Awu (s:ByteArray) (i:Nat) (hi:i<s.size) (R:s.size<1099511627776) :
  ∃r,Wz s i=some r/\(r.2=0->1<=r.1.Text.size/\i+r.1.Text.size<=s.size/\(r.1.Kind=2->Ep r.1.Text))/\(Ep s->i=0->r=(⟨2,s,0⟩,0)):=by
 obtain ⟨c,M,L⟩:=He (s:=s) (i:=(i:Int)) rfl hi
 have u:Dv s (i:Int) (s.size:Int)=some (s.extract i s.size):=Mj rfl rfl (by omega) (by omega)
 have I:(s.extract i s.size).size=s.size-i:=by rw [ByteArray.size_extract]; omega
 have x:bI (s.extract i s.size) 0=bI s i:=Rm (by omega) (by omega)
 unfold Wz
 simp only [M,Ad,L,Afk,Afl,Xk,u]
 have hw:(bif loI (bI s i) then some true else some (upI (bI s i)))=some (loI (bI s i)||upI (bI s i)):=by cases loI (bI s i) <;> rfl
 rw [hw]
 simp only [Ad]
 cases l:(loI (bI s i)||upI (bI s i)) with
 | true=>
  obtain ⟨n,G,D,y,n4⟩:=Awp (s.extract i s.size) (by omega)
  have A:1<=n:=by
   rcases Nat.eq_zero_or_pos n with h | h
   .subst h
    have:=y (by omega)
    rw [x] at this
    unfold wiI at this
    rw [l] at this; cases this
   .exact h
  have hx:(s.extract i s.size).extract 0 n=s.extract i (i+n):=by rw [ByteArray.extract_extract]; congr 1; omega
  have q:(s.extract i (i+n)).size=n:=by rw [ByteArray.size_extract]; omega
  rw [hx] at n4
  simp only [cond_true,n4,Ad,q]
  have g:Ep s->i=0->n=s.size:=by
   intro hu h0
   rcases Nat.lt_or_ge n s.size with h | h
   .have:=y (by omega)
    rw [Rm (by omega) (by omega),hu.2.2.2 _ (by omega)] at this; cases this
   .omega
  by_cases J:n<=24
  .rw [Ap (by omega)]
   cases k:upI (bI s i) with
   | true=>
    refine ⟨_,rfl,fun _=>⟨?_,?_,fun _=>⟨?_,?_,?_,?_⟩⟩,?_⟩
    .show 1<=(s.extract i (i+n)).size; omega
    .show i+(s.extract i (i+n)).size<=s.size; omega
    .show 1<=(s.extract i (i+n)).size; omega
    .show (s.extract i (i+n)).size<=24; omega
    .show upI (bI (s.extract i (i+n)) 0)=true
     rw [Rm (by omega) (by omega)]; exact k
    .show ∀j,j<(s.extract i (i+n)).size->wiI (bI (s.extract i (i+n)) j)=true
     intro j hj
     rw [Rm (by omega) (by omega)]
     have:=D j (by omega)
     rw [Rm (by omega) (by omega)] at this; exact this
    .intro hu h0
     have:=g hu h0
     subst h0; subst this
     rw [Nat.zero_add,ByteArray.extract_zero_size]; rfl
   | false=>
    obtain ⟨b,hb,_⟩:=Awr (s.extract i (i+n))
    simp only [cond_false,hb,Ad]
    have f:Ep s->i=0->False:=by
     intro hu h0
     subst h0
     rw [hu.2.2.1] at k; cases k
    cases b with
    | true=>exact ⟨_,rfl,fun _=>⟨by show 1<=(s.extract i (i+n)).size; omega,by show i+(s.extract i (i+n)).size<=s.size; omega,fun h=>by cases h⟩,fun hu h0=>(f hu h0).elim⟩
    | false=>exact ⟨_,rfl,fun _=>⟨by show 1<=(s.extract i (i+n)).size; omega,by show i+(s.extract i (i+n)).size<=s.size; omega,fun h=>by cases h⟩,fun hu h0=>(f hu h0).elim⟩
  .rw [Ak (by omega)]
   refine ⟨_,rfl,(fun h=>by cases h),fun hu h0=>?_⟩
   have:=g hu h0
   have:=hu.2.1
   omega
 | false=>
  have f:Ep s->i=0->False:=by
   intro hu h0
   subst h0
   rw [hu.2.2.1,Bool.or_true] at l; cases l
  simp only [cond_false]
  cases hd:diI (bI s i) with
  | true=>
   obtain ⟨n,G,D,y,n4⟩:=Awq (s.extract i s.size) (by omega)
   have A:1<=n:=by
    rcases Nat.eq_zero_or_pos n with h | h
    .subst h
     have:=y (by omega)
     rw [x,hd] at this; cases this
    .exact h
   have hx:(s.extract i s.size).extract 0 n=s.extract i (i+n):=by rw [ByteArray.extract_extract]; congr 1; omega
   have q:(s.extract i (i+n)).size=n:=by rw [ByteArray.size_extract]; omega
   rw [hx] at n4
   obtain ⟨b,hb,_⟩:=Awt (s.extract i (i+n)) (by omega)
   simp only [cond_true,n4,Ad,hb]
   refine Xl (fun _=>True) ?_ ?_
   .exact Mk ⟨_,rfl,trivial⟩ ⟨_,rfl,trivial⟩
   .intro v _
    refine Mk ⟨_,rfl,(fun h=>by cases h),fun hu h0=>(f hu h0).elim⟩ (Mk ⟨_,rfl,(fun h=>by cases h),fun hu h0=>(f hu h0).elim⟩ ⟨_,rfl,fun _=>⟨?_,?_,fun h=>by cases h⟩,fun hu h0=>(f hu h0).elim⟩)
    .show 1<=(s.extract i (i+n)).size; omega
    .show i+(s.extract i (i+n)).size<=s.size; omega
  | false=>
   obtain ⟨r,E,N⟩:=Aws (s.extract i s.size) (by omega)
   simp only [cond_false,E,Ad]
   rw [Aa3]
   by_cases z:r=ByteArray.mk #[]
   .rw [Ak z]
    exact ⟨_,rfl,(fun h=>by cases h),fun hu h0=>(f hu h0).elim⟩
   .rw [Ap z]
    refine ⟨_,rfl,fun _=>⟨?_,?_,fun h=>by cases h⟩,fun hu h0=>(f hu h0).elim⟩
    .show 1<=r.size
     rcases Nat.eq_zero_or_pos r.size with h | h
     .have B:r.data.toList.length=0:=by simpa using h
      exact absurd (Ama (by rw [ByteArray.toList_eq,List.length_eq_zero_iff.1 B,ByteArray.toList_eq])) z
     .exact h
    .show i+r.size<=s.size; omega
theorem Awv (c:Int):Wy c=some (c==9||c==10||c==13||c==32):=by
 unfold Wy
 cases c==9 <;> cases c==10 <;> cases c==13 <;> rfl
theorem Amc (s:ByteArray) (U:s.size<1099511627776):∃b,Qt s=some b/\(b=true↔Ep s):=by
 unfold Qt Zy
 by_cases q:(s.size:Int)>16384
 .rw [Ak q]
  refine ⟨false,rfl,by simp; rintro ⟨_,h,_⟩; omega⟩
 rw [Ap q]
 simp only [cond_false]
 refine Xl (fun r:List H8×Int×Int=>(r.2.2≠0/\¬Ep s)\/(r.2.2=0/\∃o e,r.1=o++[e]/\(∀t∈o,t.Kind=2->Ep t.Text)/\(Ep s->o = [⟨2,s,0⟩]))) ?_ ?_
 .refine D9 (fun (v26,f)=>∃i:Nat,v26=i/\i<=s.size/\f.length<=i/\(∀t∈f,t.Kind=2->Ep t.Text)/\(Ep s->(i=0/\f = [])\/(i=s.size/\f = [⟨2,s,0⟩])))
   (fun (v26,_)=>s.size-v26.toNat)
   (fun z=>match z with | .inl o=>o.length<=16384/\(∀t∈o,t.Kind=2->Ep t.Text)/\(Ep s->o = [⟨2,s,0⟩]) | .inr (_,_,e)=>e≠0/\¬Ep s)
   ⟨0,rfl,by omega,by simp,by simp,fun _=>.inl ⟨rfl,rfl⟩⟩ ?_ ?_
  .rintro ⟨v,o⟩ ⟨i,rfl,hi,ho,hk,hu⟩
   rcases Nat.lt_or_ge i s.size with h | h
   .obtain ⟨c,G,E⟩:=He (s:=s) (i:=(i:Int)) rfl h
    have g:Ep s->i=0/\o = []:=fun u=>by
     rcases hu u with h' | h'
     .exact h'
     .omega
    simp only [Ak (by omega:(i:Int)<(s.size:Int)),cond_true,G,Ad,E,Awv]
    cases J:(bI s i==9||bI s i==10||bI s i==13||bI s i==32) with
    | true=>
     have k:¬Ep s:=by
      intro u
      have h0:=(g u).1
      subst h0
      have:=u.2.2.1
      simp only [upI,Dx,decide_eq_true_eq] at this
      simp only [Bool.or_eq_true,beq_iff_eq] at J
      omega
     exact .inl ⟨(((i+1:Nat):Int),o),by simp only [cond_true]; rw [Cz h (by omega)],⟨i+1,rfl,by omega,(by show o.length<=i+1; omega),hk,fun u=>(k u).elim⟩,by simp; omega⟩
    | false=>
     simp only [cond_false]
     cases B:(bI s i==35) with
     | true=>
      have k:¬Ep s:=by
       intro u
       have h0:=(g u).1
       subst h0
       have:=u.2.2.1
       simp only [upI,Dx,decide_eq_true_eq] at this
       simp only [beq_iff_eq] at B
       omega
      simp only [cond_true]
      obtain ⟨n,n1,n2,n3,n4,I⟩:=Uf (step:=fun v32:Int=>bif (decide (v32<(s.size:Int))) then ((Eu s v32).bind fun L=>bif ((L.toNat:Int)==(10:Int)) then some (.inr (.inl v32)) else some (.inl (Ac (v32+1)))) else some (.inr (.inr v32)))
       s (fun c=>!(c==10)) (fun j=>(j:Int)) (fun j=>if j<s.size then Sum.inl (j:Int) else Sum.inr (j:Int)) 0 (fun j _ hj hp=>by
        obtain ⟨c,G,E⟩:=He (s:=s) (i:=(j:Int)) rfl hj
        simp only [Bool.not_eq_true'] at hp
        simp only [Ak (by omega:(j:Int)<(s.size:Int)),cond_true,G,Ad,E,hp,Cz hj (by omega),cond_false]) (fun j _ hj hp=>by
        obtain ⟨c,G,E⟩:=He (s:=s) (i:=(j:Int)) rfl hj
        simp only [Bool.not_eq_false'] at hp
        simp only [Ak (by omega:(j:Int)<(s.size:Int)),cond_true,G,Ad,E,hp,if_pos hj]) (by simp) (s.size-i) i (by omega) (by omega)
      have V:i<n:=by
       rcases Nat.lt_or_ge i n with h' | h'
       .exact h'
       .have:n=i:=by omega
        subst this
        have:=n4 h
        simp only [beq_iff_eq] at B
        rw [B] at this; cases this
      have I:Al _ (i:Int)=_:=I
      rw [I,Ad]
      rcases Nat.lt_or_ge n s.size with h' | h'
      .rw [if_pos h']
       exact .inl ⟨((n:Int),o),rfl,⟨n,rfl,by omega,(by show o.length<=n; omega),hk,fun u=>(k u).elim⟩,by simp; omega⟩
      .rw [if_neg (by omega)]
       exact .inr ⟨.inl o,rfl,by omega,hk,fun u=>(k u).elim⟩
     | false=>
      obtain ⟨r,S,R,M⟩:=Awu s i h U
      simp only [cond_false,S,Ad]
      by_cases D:r.2=0
      .obtain ⟨a1,a2,a3⟩:=R D
       simp only [Dj D,cond_false]
       rw [Cy (by simp; omega),Ad]
       refine .inl ⟨(((i+r.1.Text.size:Nat):Int),o++[r.1]),?_,⟨i+r.1.Text.size,rfl,a2,by simp; omega,?_,?_⟩,by simp; omega⟩
       .rw [show Ac ((i:Int)+(r.1.Text.size:Int))=((i+r.1.Text.size:Nat):Int) by rw [Ac,Bp] <;> omega]
       .intro t ht
        rcases List.mem_append.1 ht with h' | h'
        .exact hk t h'
        .simp at h'; subst h'; exact a3
       .intro u
        obtain ⟨b1,b2⟩:=g u
        have:=M u b1
        subst b1; subst b2; subst this
        exact .inr ⟨by simp,rfl⟩
      .simp only [Di D,cond_true]
       refine .inr ⟨_,rfl,D,fun u=>?_⟩
       rw [M u (g u).1] at D
       exact D rfl
   .have:i=s.size:=by omega
    subst this
    refine .inr ⟨.inl o,by simp,by omega,hk,fun u=>?_⟩
    rcases hu u with ⟨h',_⟩ | ⟨_,h'⟩
    .have:=u.1; omega
    .exact h'
  .rintro (o | ⟨l,p,e⟩) N
   .obtain ⟨Z,z2,z3⟩:=N
    simp only
    rw [Cy (by simp; omega),Ad]
    exact ⟨_,rfl,.inr ⟨rfl,o,_,rfl,z2,z3⟩⟩
   .exact ⟨_,rfl,.inl N⟩
 .rintro ⟨l,p,e⟩ (⟨h1,h2⟩ | ⟨h1,o,t,h2,h3,A⟩)
  .simp only at h1
   simp only [Cm h1,cond_false]
   exact ⟨_,rfl,by simp [h2]⟩
  .simp only at h1 h2
   subst h1; subst h2
   simp only [beq_self_eq_true,cond_true]
   match o,h3,A with
   | [],_,A=>exact ⟨false,by simp,by simp; intro u; cases A u⟩
   | [x],h3,A=>
    have Y:Af ([x]++[t]) 0=some x:=rfl
    simp only [Y,Ad,Aa3]
    have X:((([x]++[t]).length:Int)==2)=true:=rfl
    simp only [X,cond_true]
    by_cases hx:x.Kind=2
    .simp only [Ea hx,cond_true]
     refine ⟨_,rfl,?_⟩
     rw [decide_eq_true_iff]
     constructor
     .intro h; rw [<-h]; exact h3 x (by simp) hx
     .intro u; have:=A u; simp at this; rw [this]
    .simp only [Cm hx,cond_false]
     refine ⟨_,rfl,?_⟩
     simp only [Bool.false_eq_true,false_iff]
     intro u; have:=A u; simp at this; rw [this] at hx; exact hx rfl
   | x::y::ys,_,A=>
    refine ⟨false,?_,by simp; intro u; have:=A u; simp at this⟩
    rw [Cm]
    .rfl
    .simp; omega
end Go.Ab
namespace Go.Ab
open Go
theorem Aww (s:ByteArray):∃b,Z3 s=some b/\True:=by
 have key:∀(L:List ByteArray),L.length<1000->∃b,((Al (S:=Int) (E:=(Bool⊕Unit)) (fun v2=>bif (decide (v2<(L.length:Int))) then ((Af L v2).bind fun v3=>bif (v3.toList==s.toList) then some (.inr (.inl true)) else some (.inl (Ac (v2+1)))) else some (.inr (.inr ()))) 0).bind fun z=>match z with | .inl c=>some c | .inr _=>some false)=some b/\True:=by
  intro L f
  refine ⟨_,O1 L (fun v=>!(v.toList==s.toList)) (fun j=>(j:Int)) rfl (by omega) (rt:=false) (rf:=true) ?_ ?_,trivial⟩
  .intro j x hx h1 h2 h3
   simp only [h1,h2,h3,cond_true,Ad]
   cases (x.toList==s.toList) with
   | true=>exact ⟨(fun h=>by cases h),fun _=>⟨_,rfl,rfl⟩⟩
   | false=>exact ⟨fun _=>rfl,fun h=>by cases h⟩
  .intro h; exact ⟨.inr (),by simp only [h]; rfl,rfl⟩
 exact key _ (by decide)
theorem Awx (s:ByteArray) (h1:1<=s.size) (T:ByteArray) (x:T.size<1000):∃r,((Al (S:=Int) (E:=(Int⊕Unit)) (fun b=>bif (decide (b<(T.size:Int))) then ((Eu s 0).bind fun l=>(Eu T b).bind fun k=>bif ((l.toNat:Int)==(k.toNat:Int)) then some (.inr (.inl 1)) else some (.inl (Ac (b+1)))) else some (.inr (.inr ()))) 0).bind fun z=>match z with | .inl f=>some f | .inr _=>some 0)=some r/\(r=0\/(1<=r/\r<=s.size)):=by
 refine D9 (fun i=>∃j:Nat,i=j/\j<=T.size) (fun i=>T.size-i.toNat) (fun z=>∀r,z = .inl r->r=1) ⟨0,rfl,by omega⟩ ?_ ?_
 .rintro i ⟨j,rfl,hj⟩
  rcases Nat.lt_or_ge j T.size with h | h
  .obtain ⟨c,q,_⟩:=He (s:=T) (i:=(j:Int)) rfl h
   obtain ⟨d,d1,_⟩:=He (s:=s) (i:=0) (n:=0) rfl h1
   simp only [Ak (by omega:(j:Int)<(T.size:Int)),cond_true,q,d1,Ad,Cz h (by omega)]
   cases ((d.toNat:Int)==(c.toNat:Int)) with
   | true=>exact .inr ⟨_,rfl,fun r h=>by cases h; rfl⟩
   | false=>exact .inl ⟨_,rfl,⟨j+1,rfl,by omega⟩,by simp; omega⟩
  .have:j=T.size:=by omega
   subst this
   exact .inr ⟨.inr (),by simp,fun r h=>by cases h⟩
 .rintro (r | u) g
  .exact ⟨r,rfl,.inr (by have:=g r rfl; omega)⟩
  .exact ⟨0,rfl,.inl rfl⟩
theorem Awy (s:ByteArray) (h1:1<=s.size):∃r,Ww s=some r/\(r=0\/(1<=r/\r<=s.size)):=by
 unfold Ww
 refine Xl (fun b=>b=true->2<=s.size) ?_ ?_
 .by_cases h2:2<=s.size
  .have c:Dv s 0 2=some (s.extract 0 2):=Mj rfl rfl (by omega) h2
   simp only [c,Ad]
   repeat' first | refine Mk ?_ ?_ | exact ⟨_,rfl,fun _=>h2⟩
  .rw [Ap (by omega)]
   exact ⟨_,rfl,fun h=>by cases h⟩
 .rintro b hb
  cases b with
  | true=>exact ⟨2,rfl,.inr ⟨by omega,by have:=hb rfl; omega⟩⟩
  | false=>exact Awx s h1 _ (by decide)
theorem Awz (s:ByteArray) (k:s.size<1099511627776):∃b,Wv s=some b/\True:=by
 unfold Wv
 refine D9 (fun (_,i)=>∃j:Nat,i=j/\j<=s.size) (fun (_,i)=>s.size-i.toNat) (fun _=>True) ⟨0,rfl,by omega⟩ ?_ ?_
 .rintro ⟨v,i⟩ ⟨j,rfl,hj⟩
  rcases Nat.lt_or_ge j s.size with h | h
  .obtain ⟨c,f,_⟩:=He (s:=s) (i:=(j:Int)) rfl h
   simp only [Ak (by omega:(j:Int)<(s.size:Int)),cond_true,f,Ad,Cz h (by omega)]
   cases decide (Ac (Ac (v*10)+Ac (wu8 ((c.toNat:Int)-48)))>1000000) with
   | true=>exact .inr ⟨_,rfl,trivial⟩
   | false=>exact .inl ⟨_,rfl,⟨j+1,rfl,by omega⟩,by simp; omega⟩
  .have:j=s.size:=by omega
   subst this
   exact .inr ⟨.inr v,by simp,trivial⟩
 .rintro (⟨r,g⟩ | u) _ <;> exact ⟨_,rfl,trivial⟩
theorem Amd (s:ByteArray) (hs:s.size<1099511627776):∃b,Qq s=some b/\(b=true↔Ep s):=by
 unfold Qq Zv
 by_cases L:(s.size:Int)>16384
 .rw [Ak L]
  refine ⟨false,rfl,by simp; rintro ⟨_,h,_⟩; omega⟩
 rw [Ap L]
 simp only [cond_false]
 refine Xl (fun r:List Iy×Int×Int=>(r.2.2≠0/\¬Ep s)\/(r.2.2=0/\∃o e,r.1=o++[e]/\(∀t∈o,t.Kind=2->Ep t.Text)/\(Ep s->o = [⟨2,s,0⟩]))) ?_ ?_
 .refine D9 (fun (v26,J)=>∃i:Nat,v26=i/\i<=s.size/\J.length<=i/\(∀t∈J,t.Kind=2->Ep t.Text)/\(Ep s->(i=0/\J = [])\/(i=s.size/\J = [⟨2,s,0⟩])))
   (fun (v26,_)=>s.size-v26.toNat)
   (fun z=>match z with | .inr o=>o.length<=16384/\(∀t∈o,t.Kind=2->Ep t.Text)/\(Ep s->o = [⟨2,s,0⟩]) | .inl (_,_,e)=>e≠0/\¬Ep s)
   ⟨0,rfl,by omega,by simp,by simp,fun _=>.inl ⟨rfl,rfl⟩⟩ ?_ ?_
  .rintro ⟨v,o⟩ ⟨i,rfl,hi,ho,hk,hu⟩
   rcases Nat.lt_or_ge i s.size with h | h
   .obtain ⟨c,D,B⟩:=He (s:=s) (i:=(i:Int)) rfl h
    have A:Ep s->i=0/\o = []:=fun u=>by
     rcases hu u with h' | h'
     .exact h'
     .omega
    have f:∀j:Nat,i<=j->j<=s.size->Ac ((i:Int)+((j:Int)-(i:Int)))=(j:Int):=fun j _ _=>by rw [Ac,Bp] <;> omega
    have X:(bif bI s i==9 then some true else bif bI s i==10 then some true else bif bI s i==13 then some true else some (bI s i==32))=some (bI s i==9||bI s i==10||bI s i==13||bI s i==32):=by
     cases bI s i==9 <;> cases bI s i==10 <;> cases bI s i==13 <;> rfl
    have hw:(bif loI (bI s i) then some true else some (upI (bI s i)))=some (loI (bI s i)||upI (bI s i)):=by cases loI (bI s i) <;> rfl
    simp only [Ak (by omega:(i:Int)<(s.size:Int)),cond_true,D,Ad,B,X,Awm,Awn,Awo,hw]
    cases X:(bI s i==9||bI s i==10||bI s i==13||bI s i==32) with
    | true=>
     have g:¬Ep s:=by
      intro u
      have h0:=(A u).1
      subst h0
      have:=u.2.2.1
      simp only [upI,Dx,decide_eq_true_eq] at this
      simp only [Bool.or_eq_true,beq_iff_eq] at X
      omega
     exact .inl ⟨(((i+1:Nat):Int),o),by simp only [cond_true]; rw [Cz h (by omega)],⟨i+1,rfl,by omega,(by show o.length<=i+1; omega),hk,fun u=>(g u).elim⟩,by simp; omega⟩
    | false=>
     simp only [cond_false]
     cases U:(bI s i==35) with
     | true=>
      have g:¬Ep s:=by
       intro u
       have h0:=(A u).1
       subst h0
       have:=u.2.2.1
       simp only [upI,Dx,decide_eq_true_eq] at this
       simp only [beq_iff_eq] at U
       omega
      simp only [cond_true]
      obtain ⟨n,n1,G,n3,n4,E⟩:=Uf (step:=fun v54:Int=>bif (decide (v54<(s.size:Int))) then ((Eu s v54).bind fun ai=>bif ((ai.toNat:Int) != (10:Int)) then some (.inl (Ac (v54+1))) else some (.inr v54)) else some (.inr v54))
       s (fun c=>c != 10) (fun j=>(j:Int)) (fun j=>(j:Int)) 0 (fun j _ hj hp=>by
        obtain ⟨c,D,B⟩:=He (s:=s) (i:=(j:Int)) rfl hj
        simp only [Ak (by omega:(j:Int)<(s.size:Int)),cond_true,D,Ad,B,hp,Cz hj (by omega)]) (fun j _ hj hp=>by
        obtain ⟨c,D,B⟩:=He (s:=s) (i:=(j:Int)) rfl hj
        simp only [Ak (by omega:(j:Int)<(s.size:Int)),cond_true,D,Ad,B,hp,cond_false]) (by simp) (s.size-i) i (by omega) (by omega)
      have aj:i<n:=by
       rcases Nat.lt_or_ge i n with h' | h'
       .exact h'
       .have:n=i:=by omega
        subst this
        have:=n4 h
        simp only [beq_iff_eq] at U
        rw [U] at this; cases this
      have E:Al _ (i:Int)=_:=E
      rw [E,Ad]
      exact .inl ⟨((n:Int),o),rfl,⟨n,rfl,by omega,(by show o.length<=n; omega),hk,fun u=>(g u).elim⟩,by simp; omega⟩
     | false=>
      simp only [cond_false]
      cases V:(loI (bI s i)||upI (bI s i)) with
      | true=>
       simp only [cond_true]
       obtain ⟨n,n1,G,n3,n4,E⟩:=Uf (step:=fun v67:Int=>bif (decide ((Ac ((i:Int)+v67))<(s.size:Int))) then ((Eu s (Ac ((i:Int)+v67))).bind fun ah=>(some (loI (ah.toNat:Int))).bind fun aa=>
         bif aa then some (.inl (Ac (v67+1))) else ((Eu s (Ac ((i:Int)+v67))).bind fun ag=>(some (upI (ag.toNat:Int))).bind fun a8=>bif a8 then some (.inl (Ac (v67+1))) else
         ((Eu s (Ac ((i:Int)+v67))).bind fun af=>(some (diI (af.toNat:Int))).bind fun a7=>bif a7 then some (.inl (Ac (v67+1))) else ((Eu s (Ac ((i:Int)+v67))).bind fun ae=>bif ((ae.toNat:Int)==(95:Int)) then some (.inl (Ac (v67+1))) else some (.inr v67))))) else some (.inr v67))
        s wiI (fun j=>(j:Int)-(i:Int)) (fun j=>(j:Int)-(i:Int)) i (fun j q hj hp=>by
         obtain ⟨c,D,B⟩:=He (s:=s) (i:=(j:Int)) rfl hj
         have Y:Ac ((j:Int)-(i:Int)+1)=((j+1:Nat):Int)-(i:Int):=by rw [Ac,Bp] <;> omega
         simp only [f j q (by omega),Ak (by omega:(j:Int)<(s.size:Int)),cond_true,D,Ad,B,Y]
         unfold wiI at hp
         revert hp
         cases loI (bI s j) <;> cases upI (bI s j) <;> cases diI (bI s j) <;> cases (bI s j==95) <;> simp) (fun j q hj hp=>by
         obtain ⟨c,D,B⟩:=He (s:=s) (i:=(j:Int)) rfl hj
         simp only [f j q (by omega),Ak (by omega:(j:Int)<(s.size:Int)),cond_true,D,Ad,B]
         unfold wiI at hp
         revert hp
         cases loI (bI s j) <;> cases upI (bI s j) <;> cases diI (bI s j) <;> cases (bI s j==95) <;> simp) (by
         simp only [f s.size hi (by omega)]; simp) (s.size-(i+1)) (i+1) (by omega) (by omega)
       have e0:((i+1:Nat):Int)-(i:Int)=1:=by omega
       simp only [e0] at E
       simp only [Ad] at E
       rw [E,Ad]
       have k:Dv s (i:Int) (Ac ((i:Int)+((n:Int)-(i:Int))))=some (s.extract i n):=by rw [f n (by omega) G]; exact Mj rfl rfl (by omega) G
       have Z:(s.extract i n).size=n-i:=by rw [ByteArray.size_extract]; omega
       have a6:∀j,i<=j->j<n->wiI (bI s j)=true:=fun j a1 a2=>by
        rcases Nat.lt_or_ge i j with h' | h'
        .exact n3 j h' a2
        .have:j=i:=by omega
         subst this; unfold wiI; rw [V]; rfl
       have I:Ep s->n=s.size:=by
        intro u
        rcases Nat.lt_or_ge n s.size with h' | h'
        .have:=n4 h'
         rw [u.2.2.2 _ h'] at this; cases this
        .omega
       by_cases ak:n-i<=24
       .rw [Ap (by omega)]
        simp only [cond_false]
        cases S:upI (bI s i) with
        | true=>
         simp only [cond_true,Ad,k]
         rw [Cy (by simp; omega),Ad,f n (by omega) G]
         refine .inl ⟨_,rfl,⟨n,rfl,G,by simp; omega,?_,?_⟩,by simp; omega⟩
         .intro t ht
          rcases List.mem_append.1 ht with h' | h'
          .exact hk t h'
          .simp only [List.mem_singleton] at h'
           subst h'
           intro _
           refine ⟨?_,?_,?_,?_⟩
           .show 1<=(s.extract i n).size; omega
           .show (s.extract i n).size<=24; omega
           .show upI (bI (s.extract i n) 0)=true
            rw [Rm (by omega) (by omega)]; exact S
           .show ∀j,j<(s.extract i n).size->wiI (bI (s.extract i n) j)=true
            intro j hj
            rw [Rm (by omega) (by omega)]
            exact a6 _ (by omega) (by omega)
         .intro u
          obtain ⟨b1,b2⟩:=A u
          have hf:=I u
          subst b1; subst b2; subst hf
          rw [ByteArray.extract_zero_size]
          exact .inr ⟨rfl,rfl⟩
        | false=>
         obtain ⟨b,hb,_⟩:=Aww (s.extract i n)
         have g:¬Ep s:=by
          intro u
          have h0:=(A u).1
          subst h0
          rw [u.2.2.1] at S; cases S
         have ac:∃R:Int,(bif b then some 4 else some 1:Option Int)=some R/\R≠2:=by cases b <;> exact ⟨_,rfl,by decide⟩
         obtain ⟨R,k1,k2⟩:=ac
         simp only [cond_false,Ad,k,hb,k1]
         rw [Cy (by simp; omega),Ad,f n (by omega) G]
         refine .inl ⟨_,rfl,⟨n,rfl,G,by simp; omega,?_,fun u=>(g u).elim⟩,by simp; omega⟩
         intro t ht
         rcases List.mem_append.1 ht with h' | h'
         .exact hk t h'
         .simp only [List.mem_singleton] at h'
          subst h'
          intro h'; exact absurd h' k2
       .rw [Ak (by omega)]
        refine .inr ⟨_,rfl,(by show (9:Int)≠0; decide),fun u=>?_⟩
        have:=I u
        have:=u.2.1
        have:=(A u).1
        omega
      | false=>
       have g:¬Ep s:=by
        intro u
        have h0:=(A u).1
        subst h0
        rw [u.2.2.1,Bool.or_true] at V; cases V
       have M:∀(n:Nat) (R:Int),i<n->n<=s.size->R≠2->∃s':Int×List Iy,(B3 32 o [(Iy.mk R (s.extract i n) i)]).bind (fun ab=>(some (Sum.inl ((n:Int),ab)):Option ((Int×List Iy)⊕((List Iy×Int×Int)⊕List Iy))))=some (.inl s') /\
         (∃j:Nat,s'.1=j/\j<=s.size/\s'.2.length<=j/\(∀t∈s'.2,t.Kind=2->Ep t.Text)/\(Ep s->(j=0/\s'.2 = [])\/(j=s.size/\s'.2 = [⟨2,s,0⟩])))/\s.size-s'.1.toNat<s.size-i:=by
        intro n R a1 a2 a3
        rw [Cy (by simp; omega),Ad]
        refine ⟨_,rfl,⟨n,rfl,a2,by simp; omega,?_,fun u=>(g u).elim⟩,by simp; omega⟩
        intro t ht
        rcases List.mem_append.1 ht with h' | h'
        .exact hk t h'
        .simp only [List.mem_singleton] at h'
         subst h'
         intro h'; exact absurd h' a3
       simp only [cond_false]
       cases hd:diI (bI s i) with
       | true=>
        simp only [cond_true]
        obtain ⟨n,n1,G,n3,n4,E⟩:=Uf (step:=fun v85:Int=>bif (decide ((Ac ((i:Int)+v85))<(s.size:Int))) then ((Eu s (Ac ((i:Int)+v85))).bind fun ad=>(some (diI (ad.toNat:Int))).bind fun v87=>
          bif v87 then some (.inl (Ac (v85+1))) else some (.inr v85)) else some (.inr v85))
         s diI (fun j=>(j:Int)-(i:Int)) (fun j=>(j:Int)-(i:Int)) i (fun j q hj hp=>by
          obtain ⟨c,D,B⟩:=He (s:=s) (i:=(j:Int)) rfl hj
          have Y:Ac ((j:Int)-(i:Int)+1)=((j+1:Nat):Int)-(i:Int):=by rw [Ac,Bp] <;> omega
          simp only [f j q (by omega),Ak (by omega:(j:Int)<(s.size:Int)),cond_true,D,Ad,B,Y,hp]) (fun j q hj hp=>by
          obtain ⟨c,D,B⟩:=He (s:=s) (i:=(j:Int)) rfl hj
          simp only [f j q (by omega),Ak (by omega:(j:Int)<(s.size:Int)),cond_true,D,Ad,B,hp,cond_false]) (by
          simp only [f s.size hi (by omega)]; simp) (s.size-(i+1)) (i+1) (by omega) (by omega)
        have e0:((i+1:Nat):Int)-(i:Int)=1:=by omega
        simp only [e0] at E
        simp only [Ad] at E
        rw [E,Ad]
        have k:Dv s (i:Int) (n:Int)=some (s.extract i n):=Mj rfl rfl (by omega) G
        have Z:(s.extract i n).size=n-i:=by rw [ByteArray.size_extract]; omega
        obtain ⟨b,hb,_⟩:=Awz (s.extract i n) (by omega)
        obtain ⟨b',hb'⟩:∃b':Bool,(bif decide ((n:Int)-(i:Int)>1) then some (bI s i==48) else some false)=some b':=by cases decide ((n:Int)-(i:Int)>1) <;> exact ⟨_,rfl⟩
        simp only [hb',Ad,k,hb,f n (by omega) G]
        cases b' with
        | true=>exact .inr ⟨_,rfl,(by show (2:Int)≠0; decide),g⟩
        | false=>
         simp only [cond_false]
         cases b.2 with
         | true=>exact .inl (M n 3 (by omega) G (by decide))
         | false=>exact .inr ⟨_,rfl,(by show (9:Int)≠0; decide),g⟩
       | false=>
        have k:Dv s (i:Int) (s.size:Int)=some (s.extract i s.size):=Mj rfl rfl (by omega) (by omega)
        have Z:(s.extract i s.size).size=s.size-i:=by rw [ByteArray.size_extract]; omega
        obtain ⟨r,r1,r2⟩:=Awy (s.extract i s.size) (by omega)
        simp only [cond_false,k,Ad,r1]
        by_cases h0:r=0
        .subst h0
         exact .inr ⟨_,rfl,(by show (2:Int)≠0; decide),g⟩
        .simp only [Cm h0,cond_false]
         obtain ⟨m,hm⟩:∃m:Nat,r=m:=⟨r.toNat,by omega⟩
         subst hm
         have Y:Ac ((i:Int)+(m:Int))=((i+m:Nat):Int):=by rw [Ac,Bp] <;> omega
         rw [Y,Mj (s:=s) (lo:=(i:Int)) (hi:=((i+m:Nat):Int)) rfl rfl (by omega) (by omega),Ad]
         exact .inl (M (i+m) 5 (by omega) (by omega) (by decide))
   .have:i=s.size:=by omega
    subst this
    refine .inr ⟨.inr o,by simp,by omega,hk,fun u=>?_⟩
    rcases hu u with ⟨h',_⟩ | ⟨_,h'⟩
    .have:=u.1; omega
    .exact h'
  .rintro (⟨l,p,e⟩ | o) hz
   .exact ⟨_,rfl,.inl hz⟩
   .obtain ⟨z1,z2,z3⟩:=hz
    simp only
    rw [Cy (by simp; omega),Ad]
    exact ⟨_,rfl,.inr ⟨rfl,o,_,rfl,z2,z3⟩⟩
 .rintro ⟨l,p,e⟩ (⟨h1,h2⟩ | ⟨h1,o,t,h2,h3,N⟩)
  .simp only at h1
   simp only [Cm h1,cond_false]
   exact ⟨_,rfl,by simp [h2]⟩
  .simp only at h1 h2
   subst h1; subst h2
   simp only [beq_self_eq_true,cond_true]
   match o,h3,N with
   | [],_,N=>exact ⟨false,by simp,by simp; intro u; cases N u⟩
   | [x],h3,N=>
    have e0:Af ([x]++[t]) 0=some x:=rfl
    simp only [e0,Ad,Aa3]
    have Y:((([x]++[t]).length:Int)==2)=true:=rfl
    simp only [Y,cond_true]
    by_cases hx:x.Kind=2
    .simp only [Ea hx,cond_true]
     refine ⟨_,rfl,?_⟩
     rw [decide_eq_true_iff]
     constructor
     .intro h; rw [<-h]; exact h3 x (by simp) hx
     .intro u; have:=N u; simp at this; rw [this]
    .simp only [Cm hx,cond_false]
     refine ⟨_,rfl,?_⟩
     simp only [Bool.false_eq_true,false_iff]
     intro u; have:=N u; simp at this; rw [this] at hx; exact hx rfl
   | x::y::ys,_,N=>
    refine ⟨false,?_,by simp; intro u; have:=N u; simp at this⟩
    rw [Cm]
    .rfl
    .simp; omega
end Go.Ab
namespace Go.Ab
open Go
def Rn (data:List Az) (d:Nat) (v:Int) (y:Lp):Prop:=Ep y.Name/\y.Args.length<=6/\y.Args.all (I2 data d v)=true
def O9 (data:List Az) (d:Nat) (x:Az):Prop:=0<=x.Vars/\x.Vars<=6/\1<=x.Cons.length/\x.Cons.length<=8/\Ep x.Name/\∀y∈x.Cons,Rn data d x.Vars y
def Fr (x:Az):List ByteArray:=x.Cons.map (·.Name)
def Il (data:List Az):Prop:=data.length<=12/\(∀d x,data[d]? = some x->O9 data d x)/\(data.map (·.Name)).Nodup/\(data.flatMap Fr).Nodup
structure DSz (data:List Az):Prop where
 len:data.length<=1048576
 sz:SzD data
 nm:∀x∈data,x.Name.size<=1048576
 cn:∀x∈data,∀y∈x.Cons,y.Name.size<=1048576
theorem Pa (a b:ByteArray):(a==b)=true↔a=b:=by
 constructor
 .intro h
  cases a with | mk a=>cases b with | mk b=>
  have:a=b:=by exact eq_of_beq h
  rw [this]
 .rintro rfl
  cases a with | mk a=>exact beq_self_eq_true a
def Jm (o:List (ByteArray×Bool)) (L:List ByteArray):Prop:=(∀p∈o,p.2=true)/\∀s,El o s=true↔s∈L
theorem Jm.nil:Jm [] []:=⟨by simp,by simp [El]⟩
theorem Jm.get {o:List (ByteArray×Bool)} {L:List ByteArray} (h:Jm o L) {s:ByteArray} (b:El o s=true):Gv o s false=true:=by
 unfold Gv
 unfold El at b
 rw [List.any_eq_true] at b
 obtain ⟨p,f,c⟩:=b
 cases hf:o.find? (fun p=>s==p.1) with
 | none=>exact absurd c (by have:=List.find?_eq_none.1 hf p f; simpa using this)
 | some q=>exact h.1 q (List.mem_of_find?_eq_some hf)
theorem Aw0 (o:List (ByteArray×Bool)) (s t:ByteArray) (v:Bool):El (E3 o s v) t=(El o t||t==s):=by
 induction o with
 | nil=>simp [E3,El]
 | cons p o ih=>
  unfold E3
  cases hp:(s==p.1) with
  | true=>
   have:s=p.1:=(Pa _ _).1 hp
   subst this
   simp only [cond_true,El,List.any_cons]
   cases t==p.1 <;> simp
  | false=>
   simp only [El,List.any_cons] at ih ⊢
   simp only [cond_false,List.any_cons,ih,Bool.or_assoc]
theorem Jm.put {o:List (ByteArray×Bool)} {L:List ByteArray} (h:Jm o L) (s:ByteArray):Jm (E3 o s true) (L++[s]):=by
 refine ⟨?_,fun t=>?_⟩
 .have:∀o:List (ByteArray×Bool),(∀p∈o,p.2=true)->∀p∈E3 o s true,p.2=true:=by
   intro o
   induction o with
   | nil=>intro _ p hp; simp [E3] at hp; rw [hp]
   | cons q o ih=>
    intro b p hp
    unfold E3 at hp
    cases hq:(s==q.1) with
    | true=>
     rw [hq] at hp
     simp only [cond_true,List.mem_cons] at hp
     rcases hp with rfl | hp
     .rfl
     .exact b p (by simp [hp])
    | false=>
     rw [hq] at hp
     simp only [cond_false,List.mem_cons] at hp
     rcases hp with rfl | hp
     .exact b _ (by simp)
     .exact ih (fun p hp=>b p (by simp [hp])) p hp
  exact this o h.1
 .rw [Aw0,Bool.or_eq_true,h.2 t,Pa]; simp
theorem Aw1 (x:Az) {c:Nat} {y:Lp} (hy:x.Cons[c]? = some y):Fr x=(x.Cons.take c).map (·.Name)++y.Name::(x.Cons.drop (c+1)).map (·.Name):=by
 have h:=List.take_append_drop c x.Cons
 have hc:=Dn hy
 have e:x.Cons.drop c=y::x.Cons.drop (c+1):=by
  rw [List.drop_eq_getElem_cons hc]
  rw [Bu hc] at hy
  rw [Option.some.inj hy]
 unfold Fr
 conv=>lhs; rw [<-h,e]
 simp
theorem Ame {L m:List ByteArray} {s:ByteArray} (h:(L++s::m).Nodup):s ∉ L:=by
 rw [List.nodup_append] at h
 intro b
 exact h.2.2 s b s (by simp) rfl
theorem Afm {L:List ByteArray} {s:ByteArray} (h:L.Nodup) (c:s ∉ L):(L++[s]).Nodup:=by
 rw [List.nodup_append]
 refine ⟨h,by simp,?_⟩
 intro a ha b hb
 simp at hb; subst hb
 intro e; subst e; exact c ha
theorem Aw2 {data:List Az} (s:DSz data) {d:Nat} {x:Az} (hx:data[d]? = some x) (I:x.Vars<=6) (o:List (ByteArray×Bool)) (L:List ByteArray) (hm:Jm o L) (M:L.Nodup) :
  ∃z,Al (S:=(Int×(List (ByteArray×Bool)))) (E:=(Bool⊕(Int×(List (ByteArray×Bool))))) (fun (f,g)=>
    bif (decide (f<(x.Cons.length:Int))) then (
    (Af x.Cons f).bind fun v54=>
    (Qt v54.Name).bind fun A=>
    bif (!A) then some (.inr (.inl false))
    else (
    bif (El g v54.Name) then (
    bif (Gv g v54.Name (false:Bool)) then some (.inr (.inl false))
    else (
    (Oq data d f).bind fun u=>
    bif (!u) then some (.inr (.inl false))
    else some (.inl ((Ac (f+1)),(E3 g v54.Name true)))))
    else (
    (Oq data d f).bind fun v58=>
    bif (!v58) then some (.inr (.inl false))
    else some (.inl ((Ac (f+1)),(E3 g v54.Name true))))))
    else some (.inr (.inr (f,g)))) (0,o)=some z /\
   match z with
   | .inl r=>r=false/\¬((∀y∈x.Cons,Rn data d x.Vars y)/\(L++Fr x).Nodup)
   | .inr (_,o')=>(∀y∈x.Cons,Rn data d x.Vars y)/\(L++Fr x).Nodup/\Jm o' (L++Fr x):=by
 have hxm:=B4 hx
 have J:=(s.sz x hxm).1
 refine Jy (fun (f,g)=>∃c:Nat,f=c/\c<=x.Cons.length/\(∀y∈x.Cons.take c,Rn data d x.Vars y)/\(L++(x.Cons.take c).map (·.Name)).Nodup/\Jm g (L++(x.Cons.take c).map (·.Name)))
  (fun (f,_)=>x.Cons.length-f.toNat) _ ?_ _ ⟨0,rfl,by omega,by simp,by simpa using M,by simpa using hm⟩
 rintro ⟨v,g⟩ ⟨c,rfl,hc,h1,h2,h3⟩
 rcases Nat.lt_or_ge c x.Cons.length with h | h
 .have hy:x.Cons[c]? = some x.Cons[c]:=Bu h
  generalize x.Cons[c]=y at hy
  have l:=B4 hy
  obtain ⟨b,b1,b2⟩:=Amc y.Name (by have:=s.cn x hxm y l; omega)
  have ht:=C6 hy
  have D:L++Fr x=(L++(x.Cons.take c).map (·.Name))++y.Name::(x.Cons.drop (c+1)).map (·.Name):=by rw [Aw1 x hy]; simp
  simp only [Ak (by omega:(c:Int)<(x.Cons.length:Int)),cond_true,B6 rfl hy,Ad,b1,Awl s.sz d c hx hy I s.len,Cz h (by omega)]
  cases b with
  | false=>
   refine .inr ⟨.inl false,rfl,rfl,fun k=>?_⟩
   have:=b2.2 (k.1 y l).1; cases this
  | true=>
   simp only [Dm,cond_false]
   cases j:El g y.Name with
   | true=>
    simp only [cond_true,h3.get j]
    refine .inr ⟨.inl false,rfl,rfl,fun k=>?_⟩
    rw [D] at k
    exact Ame k.2 ((h3.2 _).1 j)
   | false=>
    simp only [cond_false]
    cases i:(decide (y.Args.length<=6)&&y.Args.all (I2 data d x.Vars)) with
    | false=>
     refine .inr ⟨.inl false,rfl,rfl,fun k=>?_⟩
     have:=k.1 y l
     rw [this.2.2,Ak this.2.1] at i; cases i
    | true=>
     simp only [Dx,decide_eq_true_eq] at i
     have B:y.Name ∉ L++(x.Cons.take c).map (·.Name):=fun k=>by rw [(h3.2 _).2 k] at j; cases j
     have e:L++(x.Cons.take (c+1)).map (·.Name)=(L++(x.Cons.take c).map (·.Name))++[y.Name]:=by rw [ht]; simp
     refine .inl ⟨_,rfl,⟨c+1,rfl,by omega,?_,?_,?_⟩,by simp; omega⟩
     .intro G q
      rw [ht] at q
      rcases List.mem_append.1 q with h' | h'
      .exact h1 G h'
      .simp at h'; subst h'; exact ⟨b2.1 rfl,i.1,i.2⟩
     .rw [e]; exact Afm h2 B
     .rw [e]; exact h3.put _
 .have:c=x.Cons.length:=by omega
  subst this
  rw [List.take_length] at h1 h2 h3
  exact .inr ⟨.inr ((x.Cons.length:Int),g),by simp,h1,h2,h3⟩
theorem Aw3 {data:List Az} {d:Nat} {x:Az} (hx:data[d]? = some x):data.flatMap Fr=((data.take d).flatMap Fr++Fr x)++(data.drop (d+1)).flatMap Fr/\data.map (·.Name)=(data.take d).map (·.Name)++x.Name::(data.drop (d+1)).map (·.Name):=by
 have h:=List.take_append_drop d data
 have hc:=Dn hx
 have e:data.drop d=x::data.drop (d+1):=by
  rw [List.drop_eq_getElem_cons hc]
  rw [Bu hc] at hx
  rw [Option.some.inj hx]
 constructor
 .conv=>lhs; rw [<-h,e]
  simp [List.flatMap_append]
 .conv=>lhs; rw [<-h,e]
  simp
theorem Aw4 {data:List Az} (j:DSz data):∃b,V4 data=some b/\(b=true↔Il data):=by
 have G:=j.len
 unfold V4
 rcases Nat.lt_or_ge 12 data.length with h12 | h12
 .rw [Ak (by omega)]
  exact ⟨false,rfl,by simp; intro h; have:=h.1; omega⟩
 rw [Ap (by omega)]
 simp only [cond_false]
 refine D9 (fun (v31,f,g)=>∃d:Nat,v31=d/\d<=data.length/\(∀k x,k<d->data[k]? = some x->O9 data k x)/\((data.take d).map (·.Name)).Nodup/\((data.take d).flatMap Fr).Nodup/\Jm f ((data.take d).map (·.Name))/\Jm g ((data.take d).flatMap Fr))
  (fun (v31,_,_)=>data.length-v31.toNat) (fun z=>match z with | .inl r=>r=false/\¬Il data | .inr _=>Il data) ⟨0,rfl,by omega,by intro k x h; omega,by simp,by simp,by simpa using Jm.nil,by simpa using Jm.nil⟩ ?_ ?_
 .rintro ⟨v,f,g⟩ ⟨d,rfl,hd,h1,h2,h3,B,V⟩
  rcases Nat.lt_or_ge d data.length with h | h
  .have hx:data[d]? = some data[d]:=Bu h
   generalize data[d]=x at hx
   have hxm:=B4 hx
   obtain ⟨b,b1,b2⟩:=Amc x.Name (by have:=j.nm x hxm; omega)
   obtain ⟨f1,f2⟩:=Aw3 hx
   simp only [Ak (by omega:(d:Int)<(data.length:Int)),cond_true,B6 rfl hx,Ad,b1]
   have bad:∀(y:¬O9 data d x),∃e:Bool⊕((List (ByteArray×Bool))×(List (ByteArray×Bool))),(some (Sum.inr (Sum.inl false)):Option ((Int×(List (ByteArray×Bool))×(List (ByteArray×Bool)))⊕(Bool⊕((List (ByteArray×Bool))×(List (ByteArray×Bool))))))=some (.inr e)/\(match e with | .inl r=>r=false/\¬Il data | .inr _=>Il data) :=
    fun y=>⟨.inl false,rfl,rfl,fun c=>y (c.2.1 d x hx)⟩
   cases b with
   | false=>
    exact .inr (bad fun c=>by have:=b2.2 c.2.2.2.2.1; cases this)
   | true=>
    simp only [Dm,cond_false]
    cases i:El f x.Name with
    | true=>
     simp only [cond_true,B.get i,Ad]
     refine .inr ⟨.inl false,rfl,rfl,fun c=>?_⟩
     have:=c.2.2.1
     rw [f2] at this
     exact Ame this ((B.2 _).1 i)
    | false=>
     simp only [cond_false]
     by_cases q:x.Vars<0
     .simp only [Ak q,cond_true,Ad]
      exact .inr (bad fun c=>by have:=c.1; omega)
     by_cases u:x.Vars>6
     .simp only [Ap q,Ak u,cond_true,cond_false,Ad]
      exact .inr (bad fun c=>by have:=c.2.1; omega)
     simp only [Ap q,Ap u,cond_false,Ad]
     by_cases s:(x.Cons.length:Int)<1
     .simp only [Ak s,cond_true,Ad]
      exact .inr (bad fun c=>by have:=c.2.2.1; omega)
     by_cases A:(x.Cons.length:Int)>8
     .simp only [Ap s,Ak A,cond_true,cond_false,Ad]
      exact .inr (bad fun c=>by have:=c.2.2.2.1; omega)
     simp only [Ap s,Ap A,cond_false,Ad]
     obtain ⟨z,L,z2⟩:=Aw2 j hx (by omega) g _ V h3
     rw [L,Ad]
     match z,z2 with
     | .inl r,z2=>
      obtain ⟨rfl,z2⟩:=z2
      refine .inr ⟨.inl false,rfl,rfl,fun c=>z2 ⟨(c.2.1 d x hx).2.2.2.2.2,?_⟩⟩
      have:=c.2.2.2
      rw [f1] at this
      exact (List.nodup_append.1 this).1
     | .inr (v60,D),z2=>
      obtain ⟨R,N,M⟩:=z2
      have ht:=C6 hx
      have E:x.Name ∉ (data.take d).map (·.Name):=fun c=>by rw [(B.2 _).2 c] at i; cases i
      have J:(data.take (d+1)).map (·.Name)=(data.take d).map (·.Name)++[x.Name]:=by rw [ht]; simp
      have I:(data.take (d+1)).flatMap Fr=(data.take d).flatMap Fr++Fr x:=by rw [ht]; simp [List.flatMap_append]
      refine .inl ⟨(((d+1:Nat):Int),E3 f x.Name true,D),by simp only [Cz h (by omega)],⟨d+1,rfl,by omega,?_,?_,?_,?_,?_⟩,by simp; omega⟩
      .intro k S U l
       rcases Nat.lt_or_ge k d with h' | h'
       .exact h1 k S h' l
       .have:k=d:=by omega
        subst this
        rw [hx] at l; cases l
        exact ⟨by omega,by omega,by omega,by omega,b2.1 rfl,R⟩
      .rw [J]; exact Afm h2 E
      .rw [I]; exact N
      .rw [J]; exact B.put _
      .rw [I]; exact M
  .have:d=data.length:=by omega
   subst this
   rw [List.take_length] at h2 h3
   exact .inr ⟨.inr (f,g),by simp,h12,fun d x hx=>h1 d x (Dn hx) hx,h2,h3⟩
 .rintro (r | ⟨o,o'⟩) j
  .obtain ⟨rfl,j⟩:=j
   exact ⟨false,rfl,by simp [j]⟩
  .exact ⟨true,rfl,by simpa using j⟩
theorem Aw5 {data:List Az} (c:DSz data):∃b,Vr data=some b/\(b=true↔Il data):=by
 obtain ⟨b,h1,h2⟩:=Aw4 c
 refine ⟨b,?_,h2⟩
 unfold Vr
 rw [h1,Ad]
 cases b with
 | false=>rfl
 | true=>rfl
end Go.Ab
