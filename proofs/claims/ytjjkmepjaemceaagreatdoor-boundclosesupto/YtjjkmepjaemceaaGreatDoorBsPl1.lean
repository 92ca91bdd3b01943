/- Plain laws: what the plain functions answer. -/
import Derived.Test.YtjjkmepjaemceaaGreatDoorBsPl0
namespace Go.Ab
open Go Ieee
theorem Ary (n d:Nat):∃c,Toward.even.cut false n d=c/\(n / 2 ^ d<=c)/\c<=n / 2 ^ d+1/\(n % 2 ^ d=0->c=n / 2 ^ d):=by
 refine ⟨_,rfl,?_⟩
 unfold Toward.cut
 simp only [Nat.shiftLeft_eq,Nat.one_mul]
 by_cases hd:d<=n.log2+2
 .rw [Nat.min_eq_left hd]
  generalize h2:2 ^ d=g
  have h:0<g:=by rw [<-h2]; exact Nat.pow_pos (by decide)
  refine ⟨by omega,?_,fun h0=>?_⟩
  .have:=Bool.toNat_le (decide (g<2*(n % g))||(g==2*(n % g)&&n / g % 2==1))
   omega
  .rw [h0]
   have h1:decide (g<2*0)=false:=by simp
   have h3:(g==2*0)=false:=by simp; omega
   rw [h1,h3]; rfl
 .rw [Nat.min_eq_right (by omega)]
  have b:n<2 ^ (n.log2+1):=Nat.lt_log2_self
  have h:2 ^ (n.log2+2)=2*2 ^ (n.log2+1):=by rw [Nat.pow_succ]; omega
  have f:2 ^ (n.log2+2)<=2 ^ d:=Nat.pow_le_pow_right (by decide) (by omega)
  have l:n / 2 ^ (n.log2+2)=0:=Nat.div_eq_of_lt (by omega)
  have k:n % 2 ^ (n.log2+2)=n:=Nat.mod_eq_of_lt (by omega)
  have j:n / 2 ^ d=0:=Nat.div_eq_of_lt (by omega)
  have i:n % 2 ^ d=n:=Nat.mod_eq_of_lt (by omega)
  rw [l,k,j,i]
  have h1:decide (2 ^ (n.log2+2)<2*n)=false:=by simp; omega
  have h3:(2 ^ (n.log2+2)==2*n)=false:=by simp; omega
  rw [h1,h3]
  exact ⟨by simp,by simp,fun _=>rfl⟩
theorem R6 (f:Nat) (place e:Int) (u:f≠0) (E:place+f.log2=e) (h1 : -1000<=e) (h2:e<=900) :
  ∃(m:Nat) (p:Int),double.read (double.nearest false f place) = .number false m p/\4503599627370496<=m/\m<9007199254740992/\(p=e-52\/(p=e-51/\m=4503599627370496)):=by
 have g:max (place+f.log2-(double.fractionBits:Int)) double.leastPlace=e-52:=by
  have a:(double.fractionBits:Int)=52:=rfl
  have b:double.leastPlace = -1074:=by decide
  rw [a,b,E]; omega
 have hw:double.nearest false f place=min ((e-52+1074).toNat*4503599627370496+Toward.even.cut false (f <<< (place-(e-52)).toNat) ((e-52)-place).toNat) (2047*4503599627370496):=by
  unfold Format.nearest
  rw [if_neg u]
  simp only [g]
  have b:double.leastPlace = -1074:=by decide
  have c:double.binade=4503599627370496:=by decide
  have d:double.infRung=2047*4503599627370496:=by decide
  rw [b,c,d]
  unfold Format.word
  simp only [Bool.false_eq_true,if_false]
  congr 3
 have hk:4503599627370496<=Toward.even.cut false (f <<< (place-(e-52)).toNat) ((e-52)-place).toNat/\Toward.even.cut false (f <<< (place-(e-52)).toNat) ((e-52)-place).toNat<=9007199254740992:=by
  obtain ⟨c,hc,s,q,i⟩:=Ary (f <<< (place-(e-52)).toNat) ((e-52)-place).toNat
  rw [hc]
  have D:2 ^ f.log2<=f:=Nat.log2_self_le u
  have B:f<2 ^ (f.log2+1):=Nat.lt_log2_self
  rw [Nat.shiftLeft_eq] at s q i
  rcases Int.le_total place (e-52) with h | h
  .have z:(place-(e-52)).toNat=0:=by omega
   rw [z,Nat.pow_zero,Nat.mul_one] at s q i
   have hd:f.log2=52+((e-52)-place).toNat:=by omega
   have hp:2 ^ f.log2=4503599627370496*2 ^ ((e-52)-place).toNat:=by rw [hd,Nat.pow_add]
   have l:2 ^ (f.log2+1)=9007199254740992*2 ^ ((e-52)-place).toNat:=by rw [Nat.pow_succ,hp]; omega
   have hpos:0<2 ^ ((e-52)-place).toNat:=Nat.pow_pos (by decide)
   have a1:4503599627370496<=f / 2 ^ ((e-52)-place).toNat:=(Nat.le_div_iff_mul_le hpos).2 (by omega)
   have a2:f / 2 ^ ((e-52)-place).toNat<9007199254740992:=(Nat.div_lt_iff_lt_mul hpos).2 (by omega)
   omega
  .have z:((e-52)-place).toNat=0:=by omega
   rw [z,Nat.pow_zero,Nat.div_one] at s q i
   have I:=i (Nat.mod_one _)
   have hd:52=f.log2+(place-(e-52)).toNat:=by omega
   have hp:2 ^ f.log2*2 ^ (place-(e-52)).toNat=4503599627370496:=by rw [<-Nat.pow_add,<-hd]
   have l:2 ^ (f.log2+1)*2 ^ (place-(e-52)).toNat=9007199254740992:=by rw [Nat.pow_succ,Nat.mul_right_comm,hp]
   have hpos:0<2 ^ (place-(e-52)).toNat:=Nat.pow_pos (by decide)
   have a1:=Nat.mul_le_mul_right (2 ^ (place-(e-52)).toNat) D
   have a2:=Nat.mul_lt_mul_of_pos_right B hpos
   omega
 generalize Toward.even.cut false (f <<< (place-(e-52)).toNat) ((e-52)-place).toNat=c at *
 obtain ⟨t,ht⟩:∃t:Nat,(e-52+1074).toNat=t/\t<=1922/\(t:Int)=e+1022:=⟨_,rfl,by omega,by omega⟩
 rw [ht.1] at hw
 rw [Nat.min_eq_left (by omega)] at hw
 rw [hw]
 have b:double.leastPlace = -1074:=by decide
 have G:double.binade=4503599627370496:=by decide
 have d:double.infRung=2047*4503599627370496:=by decide
 have x:double.signWeight=9223372036854775808:=by decide
 unfold Format.read
 rw [b,G,d,x]
 have A:(t*4503599627370496+c) / 9223372036854775808=0:=Nat.div_eq_of_lt (by omega)
 have y:(t*4503599627370496+c) % 9223372036854775808=t*4503599627370496+c:=Nat.mod_eq_of_lt (by omega)
 simp only [A,y]
 rw [if_neg (by omega),if_pos (by omega)]
 by_cases hc:c<9007199254740992
 .refine ⟨c,e-52,?_,hk.1,hc,.inl rfl⟩
  have k:(t*4503599627370496+c) % 4503599627370496=c-4503599627370496:=by omega
  have j:(t*4503599627370496+c) / 4503599627370496=t+1:=by omega
  rw [k,j,show 4503599627370496+(c-4503599627370496)=c by omega,show (-1074:Int)+((t+1-1:Nat):Int)=e-52 by omega]; rfl
 .have hc:c=9007199254740992:=by omega
  subst hc
  refine ⟨4503599627370496,e-51,?_,by decide,by decide,.inr ⟨rfl,rfl⟩⟩
  have k:(t*4503599627370496+9007199254740992) % 4503599627370496=0:=by omega
  have j:(t*4503599627370496+9007199254740992) / 4503599627370496=t+2:=by omega
  rw [k,j,Nat.add_zero,show (-1074:Int)+((t+2-1:Nat):Int)=e-51 by omega]; rfl
theorem Adi (v:Int) (h:0<=v):floatOfInt .f64 v=double.nearest false v.natAbs 0:=by
 have e:decide (v<0)=false:=Am (by omega)
 show double.nearest (decide (v<0)) v.natAbs 0=_
 rw [e]
theorem Arz:double.read 4876203697187506176 = .number false 7812500000000000 7:=by decide
theorem Yz {n k:Nat} (h1:2 ^ k<=n) (h2:n<2 ^ (k+1)):n.log2=k:=(Nat.log2_eq_iff (by have:=Nat.pow_pos (n:=k) (show 0<2 by decide); omega)).2 ⟨h1,h2⟩
theorem U9 {n k:Nat} (h:n<2 ^ (k+1)):n.log2<=k:=by
 by_cases h0:n=0
 .subst h0; simp
 .have:=(Nat.log2_lt h0).2 h; omega
theorem Adj {n k:Nat} (h:2 ^ k<=n):k<=n.log2:=(Nat.le_log2 (by have:=Nat.pow_pos (n:=k) (show 0<2 by decide); omega)).2 h
theorem Ar0 (x:Int) (h0:1<=x) (h1:x<1000000000):∃(w:Nat) (m:Nat) (p:Int),floatBits .mul .f64 (floatOfInt .f64 x) 4876203697187506176=some w/\double.read w = .number false m p/\4503599627370496<=m/\m<9007199254740992/\7<=p/\(p<=37\/(p=38/\m=4503599627370496)):=by
 have l:x.natAbs.log2<=29:=U9 (by simp; omega)
 obtain ⟨m1,b,g,a1,a2,a3⟩:=R6 x.natAbs 0 (x.natAbs.log2) (by omega) (by omega) (by omega) (by omega)
 have c:(m1*7812500000000000).log2=104\/((m1*7812500000000000).log2=105/\m1≠4503599627370496):=by
  have b1:2 ^ 104<=m1*7812500000000000:=by omega
  have b2:m1*7812500000000000<2 ^ 106:=by omega
  rcases Nat.lt_or_ge (m1*7812500000000000) (2 ^ 105) with h | h
  .exact .inl (Yz b1 h)
  .exact .inr ⟨Yz h b2,by rintro rfl; omega⟩
 obtain ⟨m2,i,f,k,j,q⟩:=R6 (m1*7812500000000000) (b+7) (b+7+(m1*7812500000000000).log2) (by omega) rfl (by omega) (by omega)
 refine ⟨double.nearest false (m1*7812500000000000) (b+7),m2,i,?_,f,k,j,by omega,by omega⟩
 show ((double.read (floatOfInt .f64 x)).product (double.read 4876203697187506176)).map double.write=_
 rw [Adi x (by omega),g,Arz]; rfl
theorem Ar1 (w:Nat) (m:Nat) (p:Int) (hw:double.read w = .number false m p) (M:4503599627370496<=m) (L:m<9007199254740992) (I:7<=p) (j:p<=37\/(p=38/\m=4503599627370496)) (y:Int) (h0:0<=y) (h1:y<1000000000000000000) :
  ∃(w':Nat) (g:Nat) (f:Int),floatBits .add .f64 w (floatOfInt .f64 y)=some w'/\double.read w' = .number false g f/\4503599627370496<=g/\g<9007199254740992/\7<=f/\f<=39:=by
 obtain ⟨c,b,x,V,U⟩:∃(c:Nat) (b:Int),double.read (floatOfInt .f64 y) = .number false c b/\b<=8/\c<9007199254740992/\-1074<=b:=by
  rw [Adi y h0]
  by_cases hy:y.natAbs=0
  .rw [hy]; exact ⟨0,-1074,by decide,by decide,by decide,by decide⟩
  .have Z:y.natAbs.log2<=59:=U9 (by simp; omega)
   obtain ⟨m1,D,A,a1,a2,a3⟩:=R6 y.natAbs 0 (y.natAbs.log2) hy (by omega) (by omega) (by omega)
   exact ⟨m1,D,A,by omega,a2,by omega⟩
 generalize hb:min p b=base
 have ht:∃T:Nat,signed false m (p-base).toNat+signed false c (b-base).toNat=(T:Int)/\T=m*2 ^ (p-base).toNat+c*2 ^ (b-base).toNat:=by
  refine ⟨m <<< (p-base).toNat+c <<< (b-base).toNat,rfl,by rw [Nat.shiftLeft_eq,Nat.shiftLeft_eq]⟩
 obtain ⟨T,t1,t2⟩:=ht
 have G:0<2 ^ (p-base).toNat:=Nat.pow_pos (by decide)
 have i:2 ^ (b-base).toNat<=2 ^ (8-base).toNat:=Nat.pow_le_pow_right (by decide) (by omega)
 have J:m*2 ^ (p-base).toNat<=2 ^ (90-base).toNat:=by
  rcases j with h | ⟨rfl,rfl⟩
  .have e:2 ^ (90-base).toNat=2 ^ (p-base).toNat*2 ^ (90-p).toNat:=by rw [<-Nat.pow_add]; congr 1; omega
   have e2:2 ^ 53<=2 ^ (90-p).toNat:=Nat.pow_le_pow_right (by decide) (by omega)
   rw [e,Nat.mul_comm]
   exact Nat.mul_le_mul_left _ (by omega)
  .have e:2 ^ (90-base).toNat=2 ^ (38-base).toNat*2 ^ 52:=by rw [<-Nat.pow_add]; congr 1; omega
   rw [e,Nat.mul_comm]; omega
 have E:c*2 ^ (b-base).toNat<2 ^ (90-base).toNat:=by
  have e:2 ^ (90-base).toNat=2 ^ (8-base).toNat*2 ^ 82:=by rw [<-Nat.pow_add]; congr 1; omega
  have e3:c*2 ^ (b-base).toNat<=c*2 ^ (8-base).toNat:=Nat.mul_le_mul_left _ i
  have N:0<2 ^ (8-base).toNat:=Nat.pow_pos (by decide)
  have e5:c*2 ^ (8-base).toNat<2 ^ 82*2 ^ (8-base).toNat:=Nat.mul_lt_mul_of_pos_right (by omega) N
  rw [e,Nat.mul_comm (2 ^ (8-base).toNat)]; omega
 have s:T<2 ^ ((90-base).toNat+1):=by rw [Nat.pow_succ]; omega
 have q:2 ^ (52+(p-base).toNat)<=T:=by
  have:2 ^ 52*2 ^ (p-base).toNat<=m*2 ^ (p-base).toNat:=Nat.mul_le_mul_right _ (by omega)
  rw [Nat.pow_add]; omega
 have Y:=U9 s
 have X:=Adj q
 have u:T≠0:=by
  have:=Nat.pow_pos (n:=52+(p-base).toNat) (show 0<2 by decide); omega
 obtain ⟨m3,B,z,S,R,c3⟩:=R6 T base (base+T.log2) u rfl (by omega) (by omega)
 refine ⟨double.nearest false T base,m3,B,?_,z,S,R,by omega,by omega⟩
 show ((double.read w).sum (double.read (floatOfInt .f64 y))).map double.write=_
 rw [hw,x]
 have l:¬((T:Int)=0):=by omega
 have k:decide ((T:Int)<0)=false:=Am (by omega)
 simp only [Datum.sum,hb,t1,if_neg l,k,Option.map_some,Int.natAbs_natCast,Format.write]
theorem Ar2 {b m N:Nat} {p:Int} (g:double.read b = .number false m p) (i:(Datum.number false m p).toInt .zero=some (N:Int)) (h:N<=9223372036854775808):floatToIntVal .f64 b .u64=some (N:Int):=by
 have hd:FloatKind.f64.decode b = .number false m p:=g
 have f:IntKind.u64.min=0:=by decide
 have c:IntKind.u64.max=18446744073709551615:=by decide
 unfold floatToIntVal
 rw [hd,i]
 simp only [f,c]
 rw [if_pos ⟨by omega,by omega⟩]
theorem Ar3 (w:Nat) (m:Nat) (p:Int) (hw:double.read w = .number false m p) (R:4503599627370496<=m) (M:m<9007199254740992) (L:7<=p) (J:p<=39) (z:Int) (h0:1000000000<=z) (h1:z<1000000000000000000) :
  ∃(w':Nat) (n:Int),floatBits .quo .f64 w (floatOfInt .f64 z)=some w'/\floatToIntVal .f64 w' .u64=some n/\0<=n/\n<=9223372036854775808:=by
 have U:z.natAbs.log2<=59:=U9 (by simp; omega)
 have S:29<=z.natAbs.log2:=Adj (by simp; omega)
 obtain ⟨f,c,u,a1,a2,a3⟩:=R6 z.natAbs 0 (z.natAbs.log2) (by omega) (by omega) (by omega) (by omega)
 have D:m.log2=52:=Yz (by omega) (by omega)
 have y:f.log2=52:=Yz (by omega) (by omega)
 generalize hq:m*2 ^ 54 / f=q
 generalize l:((m*2 ^ 54 % f != 0).toNat)=s
 have E:s<=1:=by rw [<-l]; exact Bool.toNat_le _
 have I:q<2 ^ 55:=by rw [<-hq]; exact (Nat.div_lt_iff_lt_mul (by omega)).2 (by omega)
 have G:2 ^ 53<=q:=by rw [<-hq]; exact (Nat.le_div_iff_mul_le (by omega)).2 (by omega)
 have B:(2*q+s).log2<=55:=U9 (by omega)
 have A:54<=(2*q+s).log2:=Adj (by omega)
 obtain ⟨m4,b,x,c1,Y,Z⟩:=R6 (2*q+s) (p-c-(54:Nat)-1) (p-c-(54:Nat)-1+(2*q+s).log2) (by omega) rfl (by omega) (by omega)
 have j:(Datum.number false m p).quotient (double.fractionBits+2) (Datum.number false f c)=some (.number false (2*q+s) (p-c-(54:Nat)-1)):=by
  have i:¬f=0:=by omega
  have X:double.fractionBits+2=54:=rfl
  simp only [Datum.quotient,if_neg i,X,D,y,Nat.shiftLeft_eq,Nat.add_sub_cancel,hq,l,Bool.xor_self]
 have hb:m4*2 ^ b.toNat<=9223372036854775808:=by
  have k:b<=10\/(b=11/\m4=4503599627370496):=by omega
  rcases k with h | ⟨rfl,rfl⟩
  .have:2 ^ b.toNat<=2 ^ 10:=Nat.pow_le_pow_right (by decide) (by omega)
   have:=Nat.mul_le_mul (Nat.le_of_lt Y) this
   omega
  .decide
 obtain ⟨N,V,g⟩:∃N:Nat,(Datum.number false m4 b).toInt .zero=some (N:Int)/\N<=9223372036854775808:=by
  refine ⟨(m4 <<< b.toNat) / (1 <<< min (-b).toNat ((m4 <<< b.toNat).log2+2)),?_,?_⟩
  .simp only [Datum.toInt,Datum.integral,Toward.cut,signed,Bool.false_eq_true,if_false,Nat.shiftLeft_zero,Bool.toNat_false,Nat.add_zero]
  .rw [Nat.shiftLeft_eq m4]
   exact Nat.le_trans (Nat.div_le_self _ _) hb
 refine ⟨double.nearest false (2*q+s) (p-c-(54:Nat)-1),(N:Int),?_,?_,by omega,by omega⟩
 .have e:floatBits .quo .f64 w (floatOfInt .f64 z)=((double.read w).quotient (double.fractionBits+2) (double.read (floatOfInt .f64 z))).map double.write:=rfl
  rw [e,hw,Adi z (by omega),u,j]
  simp only [Option.map_some,Format.write]
 .exact Ar2 x V g
theorem Ar4 (r n:Nat) (h2:2<=A8 n) (E:A8 r<=A8 n+1) (G:A8 n<1099511627776):∃d:Nat,T8 (Af r) (Af n)=some (d:Int)/\d<1000000000:=by
 unfold T8
 unfold A8 at h2 E G
 have c:n≠0:=by rintro rfl; rw [Eo] at h2; simp at h2
 by_cases S:(Af r).length<(Af n).length
 .exact ⟨0,by rw [Aj (by omega)]; rfl,by decide⟩
 .rw [Am (by omega),cond_false]
  have y:Ac (((Af n).length:Int)-1)=(((Af n).length-1:Nat):Int):=by rw [Ac,Bp] <;> omega
  have u:Ac (((Af n).length:Int)-2)=(((Af n).length-2:Nat):Int):=by rw [Ac,Bp] <;> omega
  have i1:(Af n).length-1<(Af n).length:=by omega
  have i2:(Af n).length-2<(Af n).length:=by omega
  have h:(Af n).length-1<(Af r).length:=by omega
  have g:(Af n).length-2<(Af r).length:=by omega
  have t1:=(Dr n).get i1
  have t2:=(Dr n).get i2
  have s1:=(Dr r).get h
  have s2:=(Dr r).get g
  have i:(Af n)[(Af n).length-1]≠0:=by
   have:=(Yo n).2 (Gy c)
   rwa [List.getLast_eq_getElem] at this
  rw [y,u,Cv rfl i1,Ad,Cv rfl i2,Ad,Cv rfl h,Ad,Cv rfl g,Ad]
  generalize (Af n)[(Af n).length-1]=a1 at *
  generalize (Af n)[(Af n).length-2]=a2 at *
  generalize (Af r)[(Af n).length-1]=b1 at *
  generalize (Af r)[(Af n).length-2]=b2 at *
  have l:As (As (As b1*1000000000)+As b2)=b1*1000000000+b2:=by
   rw [show As b1=b1 from Cm (by omega) (by omega),show As b2=b2 from Cm (by omega) (by omega),show As (b1*1000000000)=b1*1000000000 from Cm (by omega) (by omega)]
   exact Cm (by omega) (by omega)
  have j:As (As (As a1*1000000000)+As a2)=a1*1000000000+a2:=by
   rw [show As a1=a1 from Cm (by omega) (by omega),show As a2=a2 from Cm (by omega) (by omega),show As (a1*1000000000)=a1*1000000000 from Cm (by omega) (by omega)]
   exact Cm (by omega) (by omega)
  rw [l,j]
  by_cases U:(Af r).length=(Af n).length
  .rw [B0 (by omega),cond_true,I2 (by omega) (by omega) (by omega),Ad]
   have M:0<=(b1*1000000000+b2) / (a1*1000000000+a2):=Int.ediv_nonneg (by omega) (by omega)
   have L:(b1*1000000000+b2) / (a1*1000000000+a2)<1000000000:=Int.ediv_lt_of_lt_mul (by omega) (by omega)
   exact ⟨((b1*1000000000+b2) / (a1*1000000000+a2)).toNat,by congr 1; omega,by omega⟩
  .have hk:(Af n).length<(Af r).length:=by omega
   have b:r≠0:=by rintro rfl; rw [Eo] at hk; simp at hk
   have J:=(Dr r).get hk
   have f:(Af r)[(Af n).length]≠0:=by
    have:=(Yo r).2 (Gy b)
    rw [List.getLast_eq_getElem] at this
    have e:(Af r).length-1=(Af n).length:=by omega
    simpa [e] using this
   rw [Bg (by omega),cond_false,Cv rfl hk,Ad]
   generalize (Af r)[(Af n).length]=x at *
   obtain ⟨s,m3,A,f1,f2,f3,f4,f5,f6⟩:=Ar0 x (by omega) (by omega)
   obtain ⟨q,m4,z,g1,g2,g3,g4,g5,g6⟩:=Ar1 s m3 A f2 f3 f4 f5 f6 (b1*1000000000+b2) (by omega) (by omega)
   obtain ⟨I,k,D,B,R,N⟩:=Ar3 q m4 z g2 g3 g4 g5 g6 (a1*1000000000+a2) (by omega) (by omega)
   rw [f1,Ad,g1,Ad,D,Ad,B,Ad,show As (k+2)=k+2 from Cm (by omega) (by omega)]
   by_cases hc:(999999999:Int)<k+2
   .exact ⟨999999999,by rw [if_pos hc]; rfl,by decide⟩
   .exact ⟨(k+2).toNat,by rw [if_neg hc]; congr 1; omega,by omega⟩
end Go.Ab
namespace Go.Ab
open Go
theorem Ar5 (x r:Nat):A8 (x % 1000000000+1000000000*r)<=A8 r+1:=by
 apply Jp
 have:=K7 r
 rw [Nat.pow_succ]
 omega
set_option maxHeartbeats 1000000 in
theorem Adk (m n:Nat) (hm:A8 m<137438953472) (hn:A8 n<137438953472) (A:n≠0):Ot (Af m) (Af n)=some (Af (m / n),Af (m % n)):=by
 unfold Ot
 rw [Yx,R0 m n (by omega) (by omega),Ad]
 have ad:=hm
 have ac:=hn
 unfold A8 at hm hn
 by_cases f:m<n
 .rw [show Ea m n = -1 by rw [Ea,if_pos f],Aj (by decide:(-1:Int)<0),cond_true,Pi _ (by omega),Ad,Are (Yo m),Nat.div_eq_of_lt f,Nat.mod_eq_of_lt f,Eo]
 .rw [Am (show ¬Ea m n<0 by rw [Ea,if_neg f]; split <;> decide),cond_false]
  have a6:(Af n).length≠0:=fun e=>Gy A (List.length_eq_zero_iff.1 e)
  by_cases h1:(Af n).length=1
  .rw [B0 (by omega:((Af n).length:Int)=1),cond_true]
   have z:n<1000000000:=by
    have:=K7 n
    rw [show A8 n=1 from h1] at this
    simpa using this
   have V:Af n = [(n:Int)]:=by
    rw [Kf A,Nat.div_eq_of_lt z,Eo,Nat.mod_eq_of_lt z]
   rw [V,show Ae [(n:Int)] 0=some (n:Int) from rfl,Ad,show As (n:Int)=n from Cm (by omega) (by omega),Arv m n (by omega) (by omega) (by omega),Ad]
   have a1:m % n<n:=Nat.mod_lt _ (by omega)
   rw [Aja,Rz (m % n) (by omega),Ad]
  .rw [Bg (by omega:((Af n).length:Int)≠1),cond_false]
   have hw:Ac (((Af m).length:Int)-1)=((Af m).length:Int)-1:=by rw [Ac,Bp] <;> omega
   rw [Jm rfl rfl (Nat.le_refl _) (by omega) (by omega),hw]
   simp only [Ad]
   have ha:=Dr m
   refine Gg (fun (r,i,q)=>∃(k R:Nat),r=Af R/\i=(k:Int)-1/\k<=(Af m).length/\R<n/\q.length=(Af m).length/\Be q/\Ai (q.drop k)*n+R=Ai ((Af m).drop k))
    (fun (_,i,_)=>(i+1).toNat) (fun (r,q)=>∃R:Nat,r=Af R/\R<n/\q.length=(Af m).length/\Be q/\Ai q*n+R=m)
    ⟨(Af m).length,0,by rw [Eo],rfl,Nat.le_refl _,by omega,by simp,Be.replicate _,by simp [Ai]⟩ ?_ ?_
   .rintro ⟨r,i,q⟩ ⟨k,R,rfl,rfl,hk,G,l,c,y⟩
    cases k with
    | zero=>exact .inr ⟨(Af R,q),by simp,R,rfl,G,l,c,by simpa [D4] using y⟩
    | succ j=>
     have hj:j<(Af m).length:=by omega
     have B:j<q.length:=by omega
     have hx:=ha.get hj
     obtain ⟨x,s⟩:∃x:Nat,(Af m)[j]=(x:Int):=⟨(Af m)[j].toNat,by omega⟩
     have I:x<1000000000:=by omega
     have e0:((j+1:Nat):Int)-1=(j:Int):=by omega
     have e1:decide ((j:Int)>=0)=true:=Aj (by omega)
     have X:A8 R<=A8 n:=Ha (by omega)
     have aa:A8 (x+1000000000*R)<=A8 R+1:=by
      have:=Ar5 x R
      rwa [Nat.mod_eq_of_lt I] at this
     have af:(Af R).length<=(Af n).length:=X
     have D:Ie ((x:Int)::Af R)=some (Af (x+1000000000*R)):=by
      rw [Pi _ (by simp; omega)]
      congr 1
      refine I3 ?_ ?_
      .intro d hd
       rcases List.mem_cons.1 hd with rfl | hd
       .omega
       .exact Dr R d hd
      .simp only [Ai,D4]; omega
     obtain ⟨d0,N,ae⟩:=Ar4 (x+1000000000*R) n (by unfold A8; omega) (by omega) (by omega)
     generalize Z:x+1000000000*R=R1 at *
     have a8:R1<1000000000*n:=by omega
     have g:∀d:Nat,d<18446744073709551616->Ln (d:Int)=some (Af d)/\Jh (Af n) (Af d)=some (Af (n*d)):=by
      intro d hd
      have:=Ry hd
      exact ⟨by rw [Aja,Rz d hd],R5 n d (by omega) (by omega)⟩
     have E:∀d:Nat,d<18446744073709551616->Mw (Af (n*d)) (Af R1)=some (Ea (n*d) R1):=by
      intro d hd
      have h3:=Ry hd
      have h4:=Gz n d
      rw [Yx,R0 _ _ (by omega) (by omega)]
     simp only [e0,e1,cond_true,Cv rfl hj,s,Ad,C4 (show ([(x:Int)].length+(Af R).length)*4<=_ by simp; omega),List.singleton_append,D,N]
     refine .inl (Yl (D3 (fun d=>∃e:Nat,d=e/\e<=d0) (fun d=>d.toNat) (fun d=>∃e:Nat,d=e/\e<=d0/\n*e<=R1) ⟨d0,rfl,Nat.le_refl _⟩ ?_ ?_))
     .rintro d ⟨e,rfl,he⟩
      by_cases U:e=0
      .subst U
       exact .inr ⟨0,rfl,0,rfl,by omega,by simp⟩
      .obtain ⟨m1,m2⟩:=g e (by omega)
       simp only [Aj (by omega:(e:Int)>0),cond_true,m1,m2,E e (by omega),Ad]
       by_cases hc:R1<n*e
       .refine .inl ⟨((e-1:Nat):Int),?_,⟨e-1,rfl,by omega⟩,by simp; omega⟩
        rw [show Ea (n*e) R1=1 by rw [Ea,if_neg (by omega),if_pos hc],show decide ((1:Int)>0)=true from rfl,cond_true,show As ((e:Int)-1)=((e-1:Nat):Int) by rw [As,Cm] <;> omega]
       .refine .inr ⟨(e:Int),?_,e,rfl,he,by omega⟩
        rw [Am (show ¬Ea (n*e) R1>0 by rw [Ea,if_neg hc]; split <;> decide),cond_false]
     .rintro d ⟨e,rfl,he,L⟩
      obtain ⟨m1,m2⟩:=g e (by omega)
      simp only [m1,m2,Ad,Yy R1 (n*e) (by omega) L]
      refine D3 (fun (r,d)=>∃(R2 b:Nat),r=Af R2/\d=b/\n*b+R2=R1) (fun (r,_)=>(Ai r).toNat) (fun (r,d)=>∃(R2 b:Nat),r=Af R2/\d=b/\n*b+R2=R1/\R2<n) ⟨R1-n*e,e,rfl,rfl,by omega⟩ ?_ ?_
      .rintro ⟨r,d⟩ ⟨R2,b,rfl,rfl,J⟩
       have a7:A8 R2<=A8 R1:=Ha (by omega)
       have S:b<1000000000:=by
        rcases Nat.lt_or_ge b 1000000000 with h | h
        .exact h
        .exfalso
         have:n*1000000000<=n*b:=Nat.mul_le_mul_left n h
         omega
       simp only [Yx,R0 R2 n (by omega) (by omega),Ad]
       by_cases hc:R2<n
       .refine .inr ⟨(Af R2,(b:Int)),?_,R2,b,rfl,rfl,J,hc⟩
        rw [Am (show ¬Ea R2 n>=0 by rw [Ea,if_pos hc]; decide),cond_false]
       .refine .inl ⟨(Af (R2-n),((b+1:Nat):Int)),?_,⟨R2-n,b+1,rfl,rfl,?_⟩,?_⟩
        .rw [Aj (show Ea R2 n>=0 by rw [Ea,if_neg hc]; split <;> decide),cond_true,Yy R2 n (by omega) (by omega),Ad,show As ((b:Int)+1)=((b+1:Nat):Int) by rw [As,Cm] <;> omega]
        .rw [Nat.mul_add]; omega
        .simp only [D4]; omega
      .rintro ⟨r,d⟩ ⟨R2,b,rfl,rfl,J,Y⟩
       have S:b<1000000000:=by
        rcases Nat.lt_or_ge b 1000000000 with h | h
        .exact h
        .exfalso
         have:n*1000000000<=n*b:=Nat.mul_le_mul_left n h
         omega
       have w1:Bq (b:Int)=b:=Ej (by omega) (by omega)
       have w8:Ac ((j:Int)-1)=(j:Int)-1:=by rw [Ac,Bp] <;> omega
       refine ⟨_,by simp only [Cv rfl B,Ad,w1,w8,Gx rfl],(Af R2,(j:Int)-1,q.set j (b:Int)),rfl,⟨j,R2,rfl,rfl,by omega,Y,by simpa using l,c.set _ (by omega) (by omega),?_⟩,by simp⟩
       have d1:(q.set j (b:Int)).drop j=(b:Int)::q.drop (j+1):=by
        rw [List.drop_eq_getElem_cons (by simpa using B),List.drop_set_of_lt (by omega)]; simp
       rw [d1,List.drop_eq_getElem_cons hj,s]
       simp only [Ai]
       rw [<-y]
       have:((n*b+R2:Nat):Int)=((x+1000000000*R:Nat):Int):=by rw [J,Z]
       simp only [Int.natCast_add,Int.natCast_mul] at this
       grind
   .rintro ⟨r,q⟩ ⟨R,rfl,G,l,c,y⟩
    dsimp only
    have ab:=Fp c.u32
    obtain ⟨Q,hQ⟩:∃Q:Nat,Ai q=Q:=⟨(Ai q).toNat,by omega⟩
    rw [hQ] at y
    have u:Q*n+R=m:=by
     have:((Q*n+R:Nat):Int)=(m:Int):=by simp only [Int.natCast_add,Int.natCast_mul]; exact y
     omega
    have hd:m / n=Q:=by rw [<-u,Nat.mul_comm,Nat.mul_add_div (by omega),Nat.div_eq_of_lt G]; rfl
    have M:m % n=R:=by rw [<-u,Nat.mul_comm,Nat.mul_add_mod,Nat.mod_eq_of_lt G]
    rw [Pi q (by omega),Ad,I3 c hQ,hd,M]
theorem Ar6 (m n:Nat) (h:A8 m<137438953472) (g:A8 n<137438953472):Tt (Af m) (Af n)=some (Af (Nat.gcd m n)):=by
 unfold Tt
 refine Gg (fun (a,b)=>∃x y:Nat,a=Af x/\b=Af y/\A8 x<137438953472/\A8 y<137438953472/\Nat.gcd x y=Nat.gcd m n) (fun (_,b)=>(Ai b).toNat)
  (fun r=>r=Af (Nat.gcd m n)) ⟨m,n,rfl,rfl,h,g,rfl⟩ ?_ (by rintro e rfl; rfl)
 rintro ⟨a,b⟩ ⟨x,y,rfl,rfl,hx,hy,f⟩
 by_cases c:y=0
 .subst c
  refine .inr ⟨Af x,by rw [Eo]; rfl,?_⟩
  rw [<-f,Nat.gcd_zero_right]
 .have i:(Af y).length≠0:=fun e=>Gy c (List.length_eq_zero_iff.1 e)
  have j:decide (((Af y).length:Int)>0)=true:=Aj (by omega)
  refine .inl ⟨(Af y,Af (x % y)),?_,⟨y,x % y,rfl,rfl,hy,by have:=Ha (Nat.mod_le x y); omega,?_⟩,?_⟩
  .simp only [j,cond_true,Adk x y hx hy c,Ad]
  .rw [<-f,Nat.gcd_comm y,<-Nat.gcd_rec,Nat.gcd_comm]
  .simp only [D4]
   have:=Nat.mod_lt x (by omega:y>0)
   omega
end Go.Ab
namespace Go.Ab
open Go
def Lv (b:Bool) (n d:Nat):An:=if d=0 then ⟨false,[],[1]⟩ else Bb b n d
theorem Adl {n:Nat} (h:n≠0):(Af n).length≠0:=fun e=>Gy h (List.length_eq_zero_iff.1 e)
theorem Adm (c:Bool) (a b:List Int) (ha:Jn a) (hb:Jn b) (q:a.length<137438953400) (l:b.length<137438953400):I0 c a b=some (Lv c (Ai a).toNat (Ai b).toNat):=by
 unfold I0
 have h1:=Yv ha
 have h2:=Yv hb
 rw [Ai9 a ha (by omega),Ad,Ai9 b hb (by omega),Ad]
 generalize (Ai a).toNat=n at *
 generalize (Ai b).toNat=d at *
 by_cases g:n=0
 .subst g
  have:Lv c 0 d=⟨false,[],[1]⟩:=by unfold Lv; split <;> simp [Bb]
  rw [this,Eo]; rfl
 .have j:=Adl g
  by_cases hd:d=0
  .subst hd
   simp only [Bg (by omega:((Af n).length:Int)≠0),cond_false,Eo,Ad]
   rfl
  .have k:=Adl hd
   have f:Nat.gcd n d≠0:=by have:=Nat.gcd_pos_of_pos_left d (by omega:0<n); omega
   have u:A8 (Nat.gcd n d)<=A8 n:=Ha (Nat.gcd_le_left d (by omega:0<n))
   simp only [Bg (by omega:((Af n).length:Int)≠0),cond_false,Bg (by omega:((Af d).length:Int)≠0),Ad,Ar6 n d (by omega) (by omega)]
   rw [Lv,if_neg hd,Bb,if_neg g]
   have key:(bif (((Af (Nat.gcd n d)).length:Int) != (1:Int)) then some true else ((Ae (Af (Nat.gcd n d)) 0).bind fun i=>some (i != (1:Int))))=some (decide (Nat.gcd n d≠1)):=by
    have h3:=Adf (Nat.gcd n d)
    unfold Oz at h3
    by_cases s:(Af (Nat.gcd n d)).length=1
    .rw [B0 (by omega:((Af (Nat.gcd n d)).length:Int)=1),cond_true] at h3
     rw [B4 (by omega:((Af (Nat.gcd n d)).length:Int)=1),cond_false]
     cases hi:Ae (Af (Nat.gcd n d)) 0 with
     | none=>rw [hi] at h3; cases h3
     | some v=>
      rw [hi] at h3
      simp only [Ad] at h3 ⊢
      have h3:=Option.some.inj h3
      congr 1
      rw [bne,h3]; simp
    .rw [Bg (by omega:((Af (Nat.gcd n d)).length:Int)≠1),cond_false] at h3
     rw [Ca (by omega:((Af (Nat.gcd n d)).length:Int)≠1),cond_true]
     have h3:=Option.some.inj h3
     have:Nat.gcd n d≠1:=by simpa using h3.symm
     rw [Aj this]
   rw [key,Ad]
   by_cases h:Nat.gcd n d=1
   .rw [Am (by simpa using h),cond_false,h]; simp
   .rw [Aj h,cond_true,Adk n _ (by omega) (by omega) f,Ad,Adk d _ (by omega) (by omega) f,Ad]
theorem Ar7 (a:An):Lv a.Neg (Ai a.Num).toNat (Ai a.Den).toNat=Bb (sv a) (nv a) (dv a):=by
 unfold Lv sv nv dv
 by_cases b:(Ai a.Num).toNat=0
 .simp [b,Bb]
 .by_cases hd:(Ai a.Den).toNat=0
  .simp [hd,Bb]
  .simp [b,hd]
theorem R7 (a:An) (k:Nat) (h:RB k a) (hk:k<137438953400):K0 a=some (Bb (sv a) (nv a) (dv a)):=by
 unfold K0
 have:=h.nl
 have:=h.dl
 rw [Adm _ _ _ h.num h.den (by omega) (by omega),Ad,Ar7]
theorem Va (s:Bool) (n d:Nat) (hd:d≠0):(Bb s n d).Num=Af (nv (Bb s n d))/\(Bb s n d).Den=Af (dv (Bb s n d))/\(Bb s n d).Neg=sv (Bb s n d):=by
 obtain ⟨h1,h2,h3,c⟩:=U8 s n d hd
 rw [h1,h2]
 by_cases h0:n=0
 .subst h0
  rw [c rfl,R4]
  have b:d / Nat.gcd 0 d=1:=by rw [Nat.gcd_zero_left]; exact Nat.div_self (by omega)
  rw [b,Nat.zero_div,Eo,U7]; exact ⟨rfl,rfl,rfl⟩
 .rw [h3 h0]; simp [Bb,h0]
theorem R8 (a:An):∃g:Nat,g≠0/\nv a=g*nv (Bb (sv a) (nv a) (dv a))/\dv a=g*dv (Bb (sv a) (nv a) (dv a))/\sv (Bb (sv a) (nv a) (dv a))=sv a:=by
 obtain ⟨h1,h2,h3,b⟩:=U8 (sv a) (nv a) (dv a) (F0 a)
 have hd:=F0 a
 have c:0<Nat.gcd (nv a) (dv a):=Nat.gcd_pos_of_pos_right _ (by omega)
 refine ⟨Nat.gcd (nv a) (dv a),by omega,?_,?_,?_⟩
 .rw [h1]; exact (Nat.mul_div_cancel' (Nat.gcd_dvd_left _ _)).symm
 .rw [h2]; exact (Nat.mul_div_cancel' (Nat.gcd_dvd_right _ _)).symm
 .by_cases h0:nv a=0
  .rw [b h0]
   unfold nv at h0
   unfold sv
   split at h0
   .rename_i hc; rw [if_pos hc]
   .omega
  .exact h3 h0
theorem Ar8 (s:Bool) (n d:Nat) (h:d≠0):Lv s n d=Bb s n d:=by rw [Lv,if_neg h]
theorem Y0 (b:Bool) (n d:Nat) (f:A8 n<137438953400) (hd:A8 d<137438953400) (c:d≠0):I0 b (Af n) (Af d)=some (Bb b n d):=by
 unfold A8 at f hd
 rw [Adm b _ _ (Dr n).u32 (Dr d).u32 f hd,D4,D4,Int.toNat_natCast,Int.toNat_natCast,Ar8 _ _ _ c]
theorem Ar9 {k:Nat} {a:An} (h:RB k a):RB (k+1) (Bb (sv a) (nv a) (dv a)):=Nm _ _ _ _ h.nv h.dv (by omega)
theorem Y1 {k:Nat} {a:An} (h:RB k a):A8 (nv (Bb (sv a) (nv a) (dv a)))<=k+1/\A8 (dv (Bb (sv a) (nv a) (dv a)))<=k+1:=by
 obtain ⟨g,b,h1,h2,_⟩:=R8 a
 have a1:=h.nv
 have a2:=h.dv
 refine ⟨Nat.le_trans (Ha ?_) a1,Nat.le_trans (Ha ?_) a2⟩
 .exact Nat.le_trans (Nat.le_mul_of_pos_left _ (by omega)) (Nat.le_of_eq h1.symm)
 .exact Nat.le_trans (Nat.le_mul_of_pos_left _ (by omega)) (Nat.le_of_eq h2.symm)
theorem Asa (a b:An) (j k:Nat) (ha:RB j a) (hb:RB k b) (hj:j<34359738368) (hk:k<34359738368):Xf a b=some (Bb (sv a != sv b) (nv a*nv b) (dv a*dv b)):=by
 unfold Xf
 rw [R7 a j ha (by omega),Ad,R7 b k hb (by omega),Ad]
 obtain ⟨g,f,a1,a2,a3⟩:=R8 a
 obtain ⟨h,hh,b1,b2,s⟩:=R8 b
 obtain ⟨f1,f2,f3⟩:=Va (sv a) (nv a) (dv a) (F0 a)
 obtain ⟨q,l,i⟩:=Va (sv b) (nv b) (dv b) (F0 b)
 obtain ⟨A,y⟩:=Y1 ha
 obtain ⟨x,u⟩:=Y1 hb
 rw [f1,f2,f3,q,l,i,a3,s]
 generalize hc:Bb (sv a) (nv a) (dv a)=c at *
 generalize hd:Bb (sv b) (nv b) (dv b)=d at *
 have m1:=Gz (nv c) (nv d)
 have m2:=Gz (dv c) (dv d)
 have z:dv c*dv d≠0:=Nat.mul_ne_zero (F0 c) (F0 d)
 rw [R5 _ _ (by omega) (by omega),Ad,R5 _ _ (by omega) (by omega),Ad,Y0 _ _ _ (by omega) (by omega) z,Ad]
 rw [a1,a2,b1,b2,show g*nv c*(h*nv d)=g*h*(nv c*nv d) by grind,show g*dv c*(h*dv d)=g*h*(dv c*dv d) by grind,Ph _ _ _ _ (Nat.mul_ne_zero f hh)]
theorem Asb (s1:Bool) (c j:Nat) (s2:Bool) (b i g h:Nat) (s:g≠0) (hh:h≠0):Iq s1 (g*c) (g*j) s2 (h*b) (h*i)=g*h*Iq s1 c j s2 b i/\Lu s1 (g*c) (g*j) s2 (h*b) (h*i)=Lu s1 c j s2 b i:=by
 have q:g*c*(h*i)=g*h*(c*i):=by grind
 have l:h*b*(g*j)=g*h*(b*j):=by grind
 have hc:(g*h*(b*j)<=g*h*(c*i))↔(b*j<=c*i):=Nat.mul_le_mul_left_iff (Nat.mul_pos (by omega) (by omega))
 unfold Iq Lu
 rw [q,l]
 by_cases k:s1=s2
 .simp only [if_pos k]
  exact ⟨by rw [Nat.mul_add],trivial⟩
 .simp only [if_neg k]
  by_cases f:b*j<=c*i
  .simp only [if_pos f,if_pos (hc.2 f)]
   exact ⟨by rw [Nat.mul_sub],trivial⟩
  .simp only [if_neg f,if_neg (fun h=>f (hc.1 h))]
   exact ⟨by rw [Nat.mul_sub],trivial⟩
theorem Ajb (a b:An) (j k:Nat) (ha:RB j a) (hb:RB k b) (hj:j<34359738368) (hk:k<34359738368) :
  Qq a b=some (Bb (Lu (sv a) (nv a) (dv a) (sv b) (nv b) (dv b)) (Iq (sv a) (nv a) (dv a) (sv b) (nv b) (dv b)) (dv a*dv b)):=by
 unfold Qq
 rw [R7 a j ha (by omega),Ad,R7 b k hb (by omega),Ad]
 obtain ⟨g,l,a1,a2,a3⟩:=R8 a
 obtain ⟨h,hh,b1,b2,x⟩:=R8 b
 obtain ⟨f1,f2,f3⟩:=Va (sv a) (nv a) (dv a) (F0 a)
 obtain ⟨u,s,q⟩:=Va (sv b) (nv b) (dv b) (F0 b)
 obtain ⟨D,B⟩:=Y1 ha
 obtain ⟨A,y⟩:=Y1 hb
 rw [f1,f2,f3,u,s,q,a3,x]
 generalize hc:Bb (sv a) (nv a) (dv a)=c at *
 generalize hd:Bb (sv b) (nv b) (dv b)=d at *
 have m1:=Gz (nv c) (dv d)
 have m2:=Gz (nv d) (dv c)
 have m3:=Gz (dv c) (dv d)
 have m4:=Ac8 (nv c*dv d) (nv d*dv c)
 have m5:=Ha (Nat.sub_le (nv c*dv d) (nv d*dv c))
 have m6:=Ha (Nat.sub_le (nv d*dv c) (nv c*dv d))
 have z:dv c*dv d≠0:=Nat.mul_ne_zero (F0 c) (F0 d)
 obtain ⟨s1,s2⟩:=Asb (sv a) (nv c) (dv c) (sv b) (nv d) (dv d) g h l hh
 rw [a1,a2,b1,b2,s1,s2,show g*dv c*(h*dv d)=g*h*(dv c*dv d) by grind,Ph _ _ _ _ (Nat.mul_ne_zero l hh)]
 rw [R5 _ _ (by omega) (by omega),Ad,R5 _ _ (by omega) (by omega),Ad,R5 _ _ (by omega) (by omega),Ad]
 unfold Lu Iq
 by_cases i:sv a=sv b
 .have e:(sv a==sv b)=true:=by rw [i]; exact beq_self_eq_true _
  rw [e,cond_true,Arx _ _ (by omega) (by omega),Ad,Y0 _ _ _ (by omega) (by omega) z,Ad,if_pos i,if_pos i]
 .have e:(sv a==sv b)=false:=by simpa using i
  rw [e,cond_false,Yx,R0 _ _ (by omega) (by omega),Ad,if_neg i,if_neg i]
  by_cases f:nv d*dv c<=nv c*dv d
  .rw [Aj (show Ea (nv c*dv d) (nv d*dv c)>=0 by rw [Ea,if_neg (by omega)]; split <;> decide),cond_true,Yy _ _ (by omega) f,Ad,Y0 _ _ _ (by omega) (by omega) z,Ad,if_pos f,if_pos f]
  .rw [Am (show ¬Ea (nv c*dv d) (nv d*dv c)>=0 by rw [Ea,if_pos (by omega)]; decide),cond_false,Yy _ _ (by omega) (by omega),Ad,Y0 _ _ _ (by omega) (by omega) z,Ad,if_neg f,if_neg f]
theorem Ajc (a:An) (k:Nat) (h:RB k a) (hk:k<137438953400):Qs a=some (Nl (sv a) (nv a)):=by
 unfold Qs
 rw [R7 a k h hk,Ad]
 obtain ⟨g,b,a1,a2,a3⟩:=R8 a
 obtain ⟨f1,f2,f3⟩:=Va (sv a) (nv a) (dv a) (F0 a)
 rw [f1,f3,a3,Nl]
 by_cases h0:nv a=0
 .have:nv (Bb (sv a) (nv a) (dv a))=0:=by
   rw [h0] at a1
   rcases Nat.mul_eq_zero.1 a1.symm with h | h
   .exact (b h).elim
   .rw [h0]; exact h
  rw [this,Eo,if_pos h0]; rfl
 .have:nv (Bb (sv a) (nv a) (dv a))≠0:=by
   intro e; rw [e,Nat.mul_zero] at a1; exact h0 a1
  have:=Adl this
  rw [Bg (by omega),cond_false,if_neg h0]
  cases sv a <;> rfl
theorem Asd (a:An) (k:Nat) (h:RB k a) (hk:k<137438953400):Tq a=some (Bb (!sv a) (nv a) (dv a)):=by
 unfold Tq
 have:=h.nl
 have:=h.dl
 rw [Adm _ _ _ h.num h.den (by omega) (by omega),Ad]
 congr 1
 unfold Lv sv nv dv
 by_cases b:(Ai a.Num).toNat=0
 .simp [b,Bb]
 .by_cases hd:(Ai a.Den).toNat=0
  .simp [hd,Bb]
  .simp [b,hd]
theorem Ase (a:An) (k:Nat) (h:RB k a) (hk:k<8589934592):Oj a a=some 0:=by
 unfold Oj Xg
 have h1:=h.nv
 have h2:=h.dv
 have u:=Asd a k h (by omega)
 have i:RB (k+1) (Bb (!sv a) (nv a) (dv a)):=Nm _ _ _ _ h1 h2 (by omega)
 obtain ⟨j,q,l,A⟩:=U8 (!sv a) (nv a) (dv a) (F0 a)
 rw [u,Ad,Ajb a _ k (k+1) h i (by omega) (by omega),Ad,Ad]
 generalize hc:Bb (!sv a) (nv a) (dv a)=c at *
 have B:0<Nat.gcd (nv a) (dv a):=Nat.gcd_pos_of_pos_right _ (by have:=F0 a; omega)
 have y:nv a=Nat.gcd (nv a) (dv a)*nv c:=by rw [j]; exact (Nat.mul_div_cancel' (Nat.gcd_dvd_left _ _)).symm
 have z:dv a=Nat.gcd (nv a) (dv a)*dv c:=by rw [q]; exact (Nat.mul_div_cancel' (Nat.gcd_dvd_right _ _)).symm
 have b:Iq (sv a) (nv a) (dv a) (sv c) (nv c) (dv c)=0:=by
  by_cases h0:nv a=0
  .have:nv c=0:=by rw [j,h0]; simp
   unfold Iq
   rw [h0,this]
   split
   .simp
   .split <;> simp
  .have s:sv a≠sv c:=by rw [l h0]; cases sv a <;> decide
   have:nv c*dv a=nv a*dv c:=by
    generalize Nat.gcd (nv a) (dv a)=g at *
    rw [y,z]; grind
   unfold Iq
   rw [if_neg s,this,if_pos (Nat.le_refl _),Nat.sub_self]
 rw [b,R4]
 have f:RB 1 ⟨false,[],[1]⟩:=by
  refine ⟨(fun _ h=>by cases h),(fun x h=>?_),by simp,by simp⟩
  simp at h; subst h; decide
 rw [Ajc _ 1 f (by decide)]
 rfl
end Go.Ab
namespace Go.Ab
open Go
theorem Y2 (s:Bool) (n d:Nat) (hd:d≠0):∃g:Nat,g≠0/\n=g*nv (Bb s n d)/\d=g*dv (Bb s n d)/\(n≠0->sv (Bb s n d)=s)/\(n=0->sv (Bb s n d)=false):=by
 obtain ⟨h1,h2,h3,b⟩:=U8 s n d hd
 have c:0<Nat.gcd n d:=Nat.gcd_pos_of_pos_right _ (by omega)
 exact ⟨Nat.gcd n d,by omega,by rw [h1]; exact (Nat.mul_div_cancel' (Nat.gcd_dvd_left _ _)).symm,by rw [h2]; exact (Nat.mul_div_cancel' (Nat.gcd_dvd_right _ _)).symm,h3,b⟩
theorem Asf (s t:Bool) (n d m e:Nat) (hd:d≠0) (l:e≠0):Bb (sv (Bb s n d) != sv (Bb t m e)) (nv (Bb s n d)*nv (Bb t m e)) (dv (Bb s n d)*dv (Bb t m e))=Bb (s != t) (n*m) (d*e):=by
 obtain ⟨g,k,a1,a2,a3,_⟩:=Y2 s n d hd
 obtain ⟨h,hh,b1,b2,u,_⟩:=Y2 t m e l
 have q:Bb (s != t) (n*m) (d*e)=Bb (sv (Bb s n d) != sv (Bb t m e)) (n*m) (d*e):=by
  apply Ai7
  intro b
  have i:n≠0:=fun e=>b (by rw [e]; simp)
  have j:m≠0:=fun e=>b (by rw [e]; simp)
  rw [a3 i,u j]
 rw [q]
 generalize Bb s n d=c at *
 generalize Bb t m e=f at *
 rw [a1,a2,b1,b2,show g*nv c*(h*nv f)=g*h*(nv c*nv f) by grind,show g*dv c*(h*dv f)=g*h*(dv c*dv f) by grind,Ph _ _ _ _ (Nat.mul_ne_zero k hh)]
def Fm (n:Nat):Nat->Nat
 | 0=>1
 | k+1=>Fm n k*(n-k)
def fct:Nat->Nat
 | 0=>1
 | k+1=>fct k*(k+1)
theorem Adn:∀k,fct k≠0
 | 0=>by decide
 | k+1=>Nat.mul_ne_zero (Adn k) (by omega)
theorem Asg {n k:Nat} (h:n<k):Fm n k=0:=by
 induction k with
 | zero=>omega
 | succ k ih=>
  simp only [Fm]
  rcases Nat.lt_or_ge n k with h' | h'
  .rw [ih h']; simp
  .have:n-k=0:=by omega
   rw [this]; simp
theorem Ash (n k:Nat) (b:n<1000000000):A8 (Fm n k)<=k+1:=by
 induction k with
 | zero=>simp [Fm,Pg]
 | succ k ih=>
  have h1:=Gz (Fm n k) (n-k)
  have h2:A8 (n-k)<=1:=Jp (by simp; omega)
  simp only [Fm]; omega
theorem Asi (k:Nat) (hk:k<1000000000):A8 (fct k)<=k+1:=by
 induction k with
 | zero=>simp [fct,Pg]
 | succ k ih=>
  have h1:=Gz (fct k) (k+1)
  have h2:A8 (k+1)<=1:=Jp (by simp; omega)
  simp only [fct]
  have:=ih (by omega)
  omega
theorem Ajd {n:Nat} (h:n<1000000000):A8 n<=1:=Jp (by simpa using h)
theorem Asj (n k:Nat) (b:n<1000000000) (hk:k<=64):RB (k+1) (Bb false (Fm n k) (fct k)) :=
 Nm _ _ _ _ (Ash n k b) (Asi k (by omega)) (by omega)
theorem Aje (a:An):An.mk a.Neg a.Num a.Den=a:=by cases a; rfl
theorem Ask (n k:Nat) (A:n<1000000000) (hk:k<=64):Qx (n:Int) (k:Int)=some (Bb false (Fm n k) (fct k)):=by
 unfold Qx
 have B:Ef 1=some (Bb false (Fm n 0) (fct 0)):=Yw 1 (by decide) (by decide)
 rw [B,Ad]
 refine Gg (fun (i,s,b,c)=>∃q:Nat,i=q/\q<=k/\q<=n/\An.mk s b c=Bb false (Fm n q) (fct q)) (fun (i,_,_,_)=>k-i.toNat)
  (fun e=>match e with | .inl r=>r=Bb false (Fm n k) (fct k) | .inr (s,b,c)=>An.mk s b c=Bb false (Fm n k) (fct k)) ⟨0,rfl,by omega,by omega,Aje _⟩ ?_ ?_
 .rintro ⟨i,s,b,c⟩ ⟨q,rfl,hq,z,ha⟩
  rcases Nat.lt_or_ge q k with h | h
  .simp only [Aj (by omega:(q:Int)<(k:Int)),cond_true]
   by_cases x:n=q
   .subst x
    refine .inr ⟨.inl (Bb false 0 1),?_,?_⟩
    .rw [B0 rfl,cond_true,Yw 0 (by decide) (by decide)]; rfl
    .show Bb false 0 1=_
     rw [Asg h,R4,R4]
   .have u:Ac ((n:Int)-(q:Int))=((n-q:Nat):Int):=by rw [Ac,Bp] <;> omega
    have l:Ac ((q:Int)+1)=((q+1:Nat):Int):=I4 h (by omega)
    have y:Oq ((n-q:Nat):Int) ((q+1:Nat):Int)=some (Bb false (n-q) (q+1)):=by
     rw [Art _ _ (by omega) (by omega) (by omega) (by omega) (by omega),Am (by omega:¬((n-q:Nat):Int)<0),Am (by omega:¬((q+1:Nat):Int)<0)]; rfl
    have g:RB 1 (Bb false (n-q) (q+1)):=Nm _ _ _ _ (Ajd (by omega)) (Ajd (by omega)) (by omega)
    have j:=Adh _ _ _ _ (Asj n q A (by omega)) g (by omega) (by omega)
    rw [Asf false false (Fm n q) (fct q) (n-q) (q+1) (Adn q) (by omega)] at j
    refine .inl ⟨(((q+1:Nat):Int),(Bb false (Fm n (q+1)) (fct (q+1))).Neg,(Bb false (Fm n (q+1)) (fct (q+1))).Num,(Bb false (Fm n (q+1)) (fct (q+1))).Den),?_,⟨q+1,rfl,by omega,by omega,Aje _⟩,by simp; omega⟩
    rw [Bg (by omega),cond_false,u,l,y,Ad,ha,j,Ad]; rfl
  .have:q=k:=by omega
   subst this
   refine .inr ⟨.inr (s,b,c),by simp,ha⟩
 .rintro (e | ⟨s,b,c⟩) f
  .simp only at f ⊢; rw [f]
  .simp only at f ⊢; rw [f]
end Go.Ab
namespace Go.Ab
open Go
mutual
def A2:Ag->Nat
 | ⟨_,_,l⟩=>1+B2 l
def B2:List Ag->Nat
 | []=>0
 | x::xs=>A2 x+B2 xs
end
theorem Fw (t:Ag):A2 t=1+B2 t.Args:=by cases t; simp only [A2]
theorem Kg (t:Ag):1<=A2 t:=by rw [Fw]; omega
theorem F1 {l:List Ag} {a:Ag} (h:a∈l):A2 a<=B2 l:=by
 induction l with
 | nil=>cases h
 | cons x xs ih=>
  simp only [B2]
  rcases List.mem_cons.1 h with rfl | h
  .omega
  .have:=ih h; omega
theorem Hb (l:List Ag):l.length<=B2 l:=by
 induction l with
 | nil=>simp
 | cons x xs ih=>simp only [B2,List.length_cons]; have:=Kg x; omega
theorem Y3 (l m:List Ag):B2 (l++m)=B2 l+B2 m:=by
 induction l with
 | nil=>simp [B2]
 | cons x xs ih=>simp only [List.cons_append,B2,ih]; omega
def Hj (data:List Al) (vars k n:Int) (len:Nat):Bool :=
 if k=1\/k=2\/k=3 then n==0&&len==0
 else if k=4 then decide (0<=n)&&decide (n<vars)&&len==0
 else if k=5 then decide (0<=n)&&(match data[n.toNat]? with | some d=>(len:Int)==d.Vars | none=>false)
 else if k=6 then n==0&&decide (2<=len)&&decide (len<=6)
 else if k=7\/k=8 then n==0&&len==1
 else if k=9 then n==0&&decide (1<=len)&&decide (len<=7)
 else false
mutual
def Cs (data:List Al) (vars:Int):Ag->Bool
 | ⟨k,n,l⟩=>Hj data vars k n l.length&&Db data vars l
def Db (data:List Al) (vars:Int):List Ag->Bool
 | []=>true
 | x::xs=>Cs data vars x&&Db data vars xs
end
theorem R9 (data:List Al) (vars:Int) (t:Ag):Cs data vars t=(Hj data vars t.Kind t.Num t.Args.length&&Db data vars t.Args):=by cases t; simp only [Cs]
theorem Ado {α:Type} (l:List α) (n:Nat):((l.length:Int)==(n:Int))=(l.length==n):=by
 by_cases h:l.length=n
 .subst h; simp
 .rw [Bg (by omega)]; simp [h]
theorem Asl (k:Nat) (t:Ag) (data:List Al) (vars left:Int) (h1:1<=left) (h2:left<=1000) :
  Ke (k+1) t ⟨data,vars,left⟩=bif Hj data vars t.Kind t.Num t.Args.length then ((Rw k t.Args ⟨data,vars,left-1⟩).bind fun v12=>some ((!v12.1),v12.2)) else some (false,⟨data,vars,left-1⟩):=by
 have hw:Ac (left-1)=left-1:=Bp (by omega) (by omega)
 have b:¬left-1<0:=by omega
 rw [Ke]
 simp only [hw,Am b,cond_false]
 generalize g:(Rw k t.Args ⟨data,vars,left-1⟩).bind (fun v12=>some ((!v12.1),v12.2))=X
 generalize f:(some (false,⟨data,vars,left-1⟩):Option (Bool×Fd))=Y
 unfold Hj Ae
 generalize t.Args.length=len
 generalize t.Kind=c
 generalize t.Num=n
 cases hd:data[n.toNat]? <;> simp only [Bool.cond_eq_ite,Ac3,Ad,Option.bind_none,hd] <;> grind
theorem Vb {l:List Ag} {j:Nat} (h:j<l.length):B2 (l.take (j+1))=B2 (l.take j)+A2 l[j]:=by
 rw [List.take_succ_eq_append_getElem h,Y3]; simp [B2]
theorem Ajf (data:List Al) (vars:Int) (l m:List Ag):Db data vars (l++m)=(Db data vars l&&Db data vars m):=by
 induction l with
 | nil=>simp [Db]
 | cons x xs ih=>simp only [List.cons_append,Db,ih,Bool.and_assoc]
theorem Y4 (data:List Al) (vars:Int) {l:List Ag} {j:Nat} (h:j<l.length):Db data vars (l.take (j+1))=(Db data vars (l.take j)&&Cs data vars l[j]):=by
 rw [List.take_succ_eq_append_getElem h,Ajf]; simp [Db]
theorem Vc (l:List Ag) (j:Nat):B2 (l.take j)<=B2 l:=by
 have:=Y3 (l.take j) (l.drop j)
 rw [List.take_append_drop] at this; omega
theorem Ajg (data:List Al) (vars:Int) (l:List Ag) (j:Nat) (h:Db data vars l=true):Db data vars (l.take j)=true:=by
 have:=Ajf data vars (l.take j) (l.drop j)
 rw [List.take_append_drop,h] at this
 have:=this.symm
 simp only [Ce] at this
 exact this.1
theorem Asm (data:List Al) (vars:Int) (k:Nat) (l:List Ag) (c:Nat) (G:l.length<1099511627776)
  (ih:∀(a:Ag),a∈l->∀f:Nat,f<=c->∃g:Int,Ke k a ⟨data,vars,f⟩=some (Cs data vars a&&decide (A2 a<=f),⟨data,vars,g⟩)/\((Cs data vars a&&decide (A2 a<=f))=true->g=(f:Int)-A2 a)) :
  ∃p:Int×Int,Ux (k+2) l ⟨data,vars,c⟩=some (p.1,⟨data,vars,p.2⟩)/\((Db data vars l&&decide (B2 l<=c))=true->p.1 = -1/\p.2=(c:Int)-B2 l)/\((Db data vars l&&decide (B2 l<=c))=false->0<=p.1):=by
 rw [Ux]
 refine Ac2 (fun p:Int×Int=>(p.1,Fd.mk data vars p.2)) (D3
  (fun (v3,v4,v5,s)=>∃j:Nat,v3=j/\j<=l.length/\v4=data/\v5=vars/\Db data vars (l.take j)=true/\B2 (l.take j)<=c/\s=(c:Int)-B2 (l.take j))
  (fun (v3,_,_,_)=>l.length-v3.toNat)
  (fun z=>match z with | .inl (i,b)=>0<=i/\(∃g,b=⟨data,vars,g⟩)/\(Db data vars l&&decide (B2 l<=c))=false | .inr (v4,v5,s)=>v4=data/\v5=vars/\(Db data vars l&&decide (B2 l<=c))=true/\s=(c:Int)-B2 l)
  ⟨0,rfl,by omega,rfl,rfl,rfl,by simp [B2],by simp [B2]⟩ ?_ ?_)
 .rintro ⟨v3,v4,v5,s⟩ ⟨j,rfl,hj,rfl,rfl,x,A,rfl⟩
  rcases Nat.lt_or_ge j l.length with h | h
  .obtain ⟨u,y⟩:∃u:Nat,(c:Int)-B2 (l.take j)=u/\u<=c:=⟨c-B2 (l.take j),by omega,by omega⟩
   obtain ⟨g,E,D⟩:=ih l[j] (List.getElem_mem h) u y.2
   simp only [Aj (by omega:(j:Int)<(l.length:Int)),cond_true,Cv rfl h,Ad,Ug,y.1,E]
   cases hb:(Cs v4 v5 l[j]&&decide (A2 l[j]<=u)) with
   | true=>
    have I:=D hb
    simp only [Ce,decide_eq_true_eq] at hb
    refine .inl ⟨(((j+1:Nat):Int),v4,v5,g),?_,⟨j+1,rfl,by omega,rfl,rfl,?_,?_,?_⟩,by simp; omega⟩
    .simp only [Cu,cond_false]
     rw [show Ac ((j:Int)+1)=((j+1:Nat):Int) by rw [Ac,Bp] <;> omega]
    .rw [Y4 _ _ h,x,hb.1]; rfl
    .rw [Vb h]; omega
    .show g=_
     rw [Vb h]; omega
   | false=>
    refine .inr ⟨.inl ((j:Int),⟨v4,v5,g⟩),by simp,by omega,⟨g,rfl⟩,?_⟩
    cases q:(Db v4 v5 l&&decide (B2 l<=c)) with
    | false=>rfl
    | true=>
     exfalso
     simp only [Ce,decide_eq_true_eq] at q
     have a1:=Ajg v4 v5 l (j+1) q.1
     rw [Y4 _ _ h] at a1
     simp only [Ce] at a1
     have a2:=Vc l (j+1)
     rw [Vb h] at a2
     rw [a1.2,Bool.true_and,decide_eq_false_iff_not] at hb
     omega
  .have:j=l.length:=by omega
   subst this
   rw [List.take_length] at *
   refine .inr ⟨.inr (v4,v5,(c:Int)-B2 l),by simp,rfl,rfl,by simp [x,A],rfl⟩
 .rintro (⟨i,b⟩ | ⟨v4,v5,s⟩) B
  .obtain ⟨a1,⟨g,rfl⟩,a3⟩:=B
   exact ⟨_,rfl,(i,g),rfl,(fun h=>by rw [a3] at h; cases h),fun _=>a1⟩
  .obtain ⟨rfl,rfl,a3,rfl⟩:=B
   exact ⟨_,rfl,(-1,_),rfl,fun _=>⟨rfl,rfl⟩,fun h=>by rw [a3] at h; cases h⟩
theorem Asn (data:List Al) (vars:Int):∀(left:Nat) (t:Ag) (k:Nat),left<=200->4*left+4<=k->A2 t<1099511627776 ->
  ∃f:Int,Ke k t ⟨data,vars,left⟩=some (Cs data vars t&&decide (A2 t<=left),⟨data,vars,f⟩)/\((Cs data vars t&&decide (A2 t<=left))=true->f=(left:Int)-A2 t):=by
 intro left
 induction left using Nat.strongRecOn with
 | _ left s=>
  intro t k B hk ht
  have hp:=Kg t
  obtain ⟨g,rfl⟩:∃g,k=g+1:=⟨k-1,by omega⟩
  cases left with
  | zero=>
   refine ⟨-1,?_,fun h=>by simp at h; omega⟩
   rw [Ke]
   have hd:decide (A2 t<=0)=false:=Am (by omega)
   rw [hd,Bool.and_false]
   rfl
  | succ b=>
   rw [Asl g t data vars ((b+1:Nat):Int) (by omega) (by omega)]
   have z:((b+1:Nat):Int)-1=(b:Int):=by omega
   rw [z,R9]
   cases A:Hj data vars t.Kind t.Num t.Args.length with
   | false=>exact ⟨b,by simp,fun h=>by simp at h⟩
   | true=>
    obtain ⟨q,rfl⟩:∃q,g=q+3:=⟨g-3,by omega⟩
    have j:=Fw t
    have x:=Hb t.Args
    obtain ⟨⟨i,f⟩,h1,h2,h3⟩:=Asm data vars q t.Args b (by omega) (fun a ha c y=>by
     have:=F1 ha
     exact s c (by omega) a q (by omega) (by omega) (by omega))
    have l:decide (A2 t<=b+1)=decide (B2 t.Args<=b):=by
     rw [j]; congr 1; simp only [eq_iff_iff]; omega
    simp only [cond_true,Rw,h1,Ad,Bool.true_and,l]
    refine ⟨f,?_,fun h=>?_⟩
    .cases hb:(Db data vars t.Args&&decide (B2 t.Args<=b)) with
     | true=>
      have u:i = -1:=(h2 hb).1
      rw [Am (by omega:¬i>=0)]; rfl
     | false=>
      have u:0<=i:=h3 hb
      rw [Aj (by omega:i>=0)]; rfl
    .have u:f=(b:Int)-B2 t.Args:=(h2 h).2
     rw [u,j]; omega
theorem Nn (data:List Al) (t:Ag) (vars:Int) (ht:A2 t<1099511627776):K1 data t vars=some (Cs data vars t&&decide (A2 t<=200)):=by
 unfold K1
 obtain ⟨b,h1,_⟩:=Asn data vars 200 t 4000000 (by decide) (by decide) ht
 have h1:Ke 4000000 t ⟨data,vars,200⟩=_:=h1
 rw [h1]; rfl
theorem Ajh:∀(k:Nat) (t:Ag),A2 t<=k->A2 t<1099511627776->M2 k t=some (A2 t:Int):=by
 intro k
 induction k with
 | zero=>intro t h; have:=Kg t; omega
 | succ k ih=>
  intro t h ht
  have c:=Fw t
  have f:=Hb t.Args
  rw [M2]
  refine Gg (fun (n,i)=>∃j:Nat,i=j/\j<=t.Args.length/\n=1+(B2 (t.Args.take j):Int)) (fun (_,i)=>t.Args.length-i.toNat) (fun n=>n=(A2 t:Int)) ⟨0,rfl,by omega,by simp [B2]⟩ ?_ (by rintro n rfl; rfl)
  rintro ⟨n,i⟩ ⟨j,rfl,hj,rfl⟩
  rcases Nat.lt_or_ge j t.Args.length with h' | h'
  .have l:=F1 (List.getElem_mem h')
   have g:=Vc t.Args j
   have b:=Vc t.Args (j+1)
   rw [Vb h'] at b
   refine .inl ⟨(1+(B2 (t.Args.take (j+1)):Int),((j+1:Nat):Int)),?_,⟨j+1,rfl,by omega,rfl⟩,by simp; omega⟩
   simp only [Aj (by omega:(j:Int)<(t.Args.length:Int)),cond_true,Cv rfl h',Ad,ih t.Args[j] (by omega) (by omega)]
   rw [show Ac ((j:Int)+1)=((j+1:Nat):Int) by rw [Ac,Bp] <;> omega,show Ac (1+(B2 (t.Args.take j):Int)+(A2 t.Args[j]:Int))=1+(B2 (t.Args.take (j+1)):Int) by rw [Vb h',Ac,Bp] <;> omega]
  .have:j=t.Args.length:=by omega
   subst this
   exact .inr ⟨1+(B2 t.Args:Int),by simp,by rw [c]; omega⟩
theorem Aso (data:List Al) (vars:Int):∀(k:Nat) (t:Ag),A2 t<=k->A2 t<1099511627776->Q6 k data t vars=some (Cs data vars t):=by
 intro k
 induction k with
 | zero=>intro t h; have:=Kg t; omega
 | succ k ih=>
  intro t h ht
  have A:=Fw t
  have l:=Hb t.Args
  have c:(Ak (S:=Int) (E:=(Bool⊕Unit)) (fun v8=>bif (decide (v8<(t.Args.length:Int))) then ((Ae t.Args v8).bind fun v9=>(Q6 k data v9 vars).bind fun x=>bif (!x) then some (.inr (.inl false)) else some (.inl (Ac (v8+1)))) else some (.inr (.inr ()))) 0).bind (fun z=>match z with | .inl y=>some y | .inr _=>some true)=some (Db data vars t.Args):=by
   refine Gg (fun i=>∃j:Nat,i=j/\j<=t.Args.length/\Db data vars (t.Args.take j)=true) (fun i=>t.Args.length-i.toNat)
    (fun z=>match z with | .inl r=>r=Db data vars t.Args | .inr _=>Db data vars t.Args=true) ⟨0,rfl,by omega,by simp [Db]⟩ ?_ ?_
   .rintro i ⟨j,rfl,hj,f⟩
    rcases Nat.lt_or_ge j t.Args.length with h' | h'
    .have I:=F1 (List.getElem_mem h')
     simp only [Aj (by omega:(j:Int)<(t.Args.length:Int)),cond_true,Cv rfl h',Ad,ih t.Args[j] (by omega) (by omega)]
     cases hb:Cs data vars t.Args[j] with
     | true=>
      refine .inl ⟨((j+1:Nat):Int),?_,⟨j+1,rfl,by omega,by rw [Y4 _ _ h',f,hb]; rfl⟩,by simp; omega⟩
      simp only [Cu,cond_false]
      rw [show Ac ((j:Int)+1)=((j+1:Nat):Int) by rw [Ac,Bp] <;> omega]
     | false=>
      refine .inr ⟨.inl false,by simp,?_⟩
      show false=_
      cases q:Db data vars t.Args with
      | false=>rfl
      | true=>
       have a1:=Ajg data vars t.Args (j+1) q
       rw [Y4 _ _ h',hb,Bool.and_false] at a1; cases a1
    .have:j=t.Args.length:=by omega
     subst this
     rw [List.take_length] at f
     exact .inr ⟨.inr (),by simp,f⟩
   .rintro (r | u) s
    .simp only at s ⊢; rw [s]
    .simp only at s ⊢; rw [s]
  rw [Q6,R9]
  refine Eq.trans (b:=Option.bind _ (fun z:Bool⊕Unit=>match z with | .inl D=>some D | .inr _=>some (Db data vars t.Args))) (Arb ?_) ?_
  .rintro (r | u)
   .rfl
   .exact c
  have g:t.Args.length=0->Db data vars t.Args=true:=by
   intro e; rw [List.length_eq_zero_iff.1 e]; rfl
  unfold Hj Ae
  clear c ih h ht A l
  generalize Db data vars t.Args=X at *
  generalize t.Args.length=len at *
  generalize t.Kind=G
  generalize t.Num=n
  by_cases B:len=0
  .have hx:=g B
   subst B; subst hx
   cases hd:data[n.toNat]? <;> simp only [Bool.cond_eq_ite,Ac3,Ad,Option.bind_none,hd] <;> grind
  .have h0:((len:Int)==0)=false:=Bg (by omega)
   have h1:(len==0)=false:=by simpa using B
   have h2:((len:Int) != 1)=(!(len==1)):=by
    by_cases h:len=1
    .subst h; rfl
    .rw [Ca (by omega)]; simp [h]
   cases hd:data[n.toNat]? <;> simp only [h0,h1,h2,Bool.cond_eq_ite,Ac3,Ad,Option.bind_none,hd,Bool.and_false,Bool.false_and] <;> grind
theorem Sa (data:List Al) (t:Ag) (vars:Int) (ht:A2 t<=4000000):Ky data t vars=some (Cs data vars t&&decide (A2 t<=200)):=by
 unfold Ky
 rw [Ajh 4000000 t ht (by omega),Ad,Aso data vars 4000000 t ht (by omega)]
 by_cases h:A2 t<=200
 .rw [Aj (by omega:(A2 t:Int)<=200),Aj h]; simp
 .rw [Am (by omega:¬(A2 t:Int)<=200),Am h]; simp
end Go.Ab
namespace Go.Ab
open Go
def K9 (a:Ag) (i:Int):Bool:=a.Kind==4&&a.Num==i&&a.Args.length==0
def Aji (l:List Ag):Bool:=l.zipIdx.all fun q=>K9 q.1 q.2
def Gc (t:Ag) (d vars:Int):Bool:=t.Kind==5&&t.Num==d&&(t.Args.length:Int)==vars&&Aji t.Args
theorem Ajj (t:Ag) (d vars:Int) (ht:t.Args.length<1099511627776):M1 t d vars=some (Gc t d vars):=by
 unfold M1 Gc
 by_cases h1:t.Kind=5
 .by_cases h2:t.Num=d
  .by_cases h3:(t.Args.length:Int)=vars
   .simp only [B4 h1,B4 h2,B4 h3,cond_false,Ad,B0 h1,B0 h2,B0 h3,Bool.true_and]
    refine (K8 t.Args (fun q=>K9 q.1 q.2) (fun j=>(j:Int)) rfl (by omega) (rt:=true) (rf:=false) ?_ ?_).trans (by rw [Jr]; rfl)
    .intro j x hx _ hd hi hw
     simp only [hd,hi,hw,cond_true,Ad,K9]
     constructor
     .intro h
      simp only [Ce,beq_iff_eq] at h
      simp [h.1.1,h.1.2,h.2]
     .intro h
      by_cases g1:x.Kind=4
      .by_cases g2:x.Num=j
       .by_cases g3:x.Args.length=0
        .simp [g1,g2,g3] at h
        .exact ⟨.inl false,by simp only [B4 g1,B4 g2,cond_false]; rw [Aj (by omega)]; rfl,rfl⟩
       .exact ⟨.inl false,by simp only [B4 g1,Ca g2,cond_false]; rfl,rfl⟩
      .exact ⟨.inl false,by simp only [Ca g1]; rfl,rfl⟩
    .intro hd _
     exact ⟨.inr (),by simp only [hd]; rfl,rfl⟩
   .simp only [B4 h1,B4 h2,Ca h3,cond_false,cond_true,Ad,Bg h3,Bool.and_false,Bool.false_and]
  .simp only [B4 h1,Ca h2,cond_false,cond_true,Ad,Bg h2,Bool.and_false,Bool.false_and]
 .simp only [Ca h1,cond_true,Ad,Bg h1,Bool.false_and]
def C8 (data:List Al) (d c:Int):List Bool :=
 match Ae data d with
 | none=>[]
 | some x=>match Ae x.Cons c with
  | none=>[]
  | some y=>y.Args.map fun t=>Gc t d x.Vars
theorem De {α:Type} {l:List α} {i:Int} {x:α} (h:Ae l i=some x):0<=i/\i<l.length/\l[i.toNat]? = some x/\x∈l:=by
 unfold Ae at h
 split at h
 .have h1:i.toNat<l.length:=Dh h
  exact ⟨by assumption,by omega,h,Bi h⟩
 .cases h
theorem Lw {α:Type} {l:List α} {i:Int} (h:Ae l i=none):i<0\/(l.length:Int)<=i:=by
 unfold Ae at h
 split at h
 .rw [List.getElem?_eq_none_iff] at h
  right; omega
 .left; omega
theorem Ajk {R:Type} (data:List Al) (d c:Int) (F:Al->I1->Option R) (z:R) (X:Option R)
  (f:X=((bif (decide (d<(0:Int))) then some true else bif (decide (d>=(data.length:Int))) then some true else bif (decide (c<(0:Int))) then some true else
   (Ae data d).bind fun b=>some (decide (c>=(b.Cons.length:Int))):Option Bool).bind fun v2=>bif v2 then some z else (Ae data d).bind fun v3=>(Ae v3.Cons c).bind fun v4=>F v3 v4)) :
  X=match Ae data d with
   | none=>some z
   | some x=>match Ae x.Cons c with
    | none=>some z
    | some y=>F x y:=by
 subst f
 cases hx:Ae data d with
 | none=>
  rcases Lw hx with h | h
  .simp only [Aj h,cond_true,Ad]
  .by_cases h':d<0
   .simp only [Aj h',cond_true,Ad]
   .simp only [Am h',Aj (show d>=(data.length:Int) from h),cond_true,cond_false,Ad]
 | some x=>
  obtain ⟨a1,a2,_,_⟩:=De hx
  simp only [Am (by omega:¬d<0),Am (by omega:¬d>=(data.length:Int)),cond_false,Ad]
  cases hy:Ae x.Cons c with
  | none=>
   rcases Lw hy with h | h
   .simp only [Aj h,cond_true,Ad]
   .by_cases h':c<0
    .simp only [Aj h',cond_true,Ad]
    .simp only [Am h',Aj (show c>=(x.Cons.length:Int) from h),cond_true,cond_false,Ad]
  | some y=>
   obtain ⟨b1,b2,_,_⟩:=De hy
   simp only [Am (by omega:¬c<0),Am (by omega:¬c>=(x.Cons.length:Int)),cond_false,Ad]
def Asp (l:List Ag):Prop:=l.length<=4194304/\∀a∈l,a.Args.length<=4194304
def G1 (data:List Al):Prop:=∀x∈data,∀y∈x.Cons,Asp y.Args
theorem Adp (data:List Al) (d c:Int) (hd:G1 data):Ua data d c=some (C8 data d c):=by
 unfold Ua
 rw [Ajk data d c (fun v4 v5=>_) [] _ rfl]
 unfold C8
 cases hx:Ae data d with
 | none=>rfl
 | some x=>
  cases hy:Ae x.Cons c with
  | none=>simp only [hy]
  | some y=>
   simp only [hy]
   have b:=hd x (De hx).2.2.2 y (De hy).2.2.2
   refine E2 y.Args (fun j=>((j:Int),(y.Args.take j).map fun t=>Gc t d x.Vars)) rfl (by have:=b.1; omega) ?_ ?_
   .intro j t hj ht h1 h2 h3
    simp only [h1,h2,cond_true,Ad,Ajj t d x.Vars (by have:=b.2 t (Bi ht); omega)]
    rw [C4 (by simp; have:=b.1; omega),Ad,h3,Cw ht,List.map_append]; rfl
   .intro h1
    exact ⟨_,by simp only [h1]; rfl,by simp⟩
theorem Asq (data:List Al) (d c:Int) (hd:G1 data):Ahd data d c=some (C8 data d c):=Adp data d c hd
theorem Vd {α:Type} (l m:List α) (y x:α) (i:Int) (n:Nat) (h:i=n) (b:n=l.length):Cq (l++y::m) i x=l++x::m:=by
 rw [Gx h]; subst b; simp
theorem Ve {α:Type} (l m:List α) (y:α) (i:Int) (n:Nat) (h:i=n) (b:n=l.length):Ae (l++y::m) i=some y:=by
 rw [Bn h]; subst b; simp
theorem Asr (l:List Ag) (k f:List Bool) (i:Int) (n:Nat) (b:Bool) (h:i=n) (u:n=k.length) (B:l.length<1099511627776) {R:Type} {J:Int×List Bool->Option R} {r:R}
  (A:J ((l.length:Int),k++(b&&Aji l)::f)=some r) :
  (Ak (S:=(Int×(List Bool))) (E:=(Int×(List Bool))) (fun (c,g)=>
   bif (decide (c<(l.length:Int))) then (
   (Ae l c).bind fun s=>
   bif (s.Kind != (4:Int)) then (
   (Ae g i).bind fun v46=>
   some (.inl ((Ac (c+1)),(Cq g i false)))
   )
   else (
   bif (s.Num != c) then (
   (Ae g i).bind fun z=>
   some (.inl ((Ac (c+1)),(Cq g i false)))
   )
   else (
   bif (decide ((s.Args.length:Int)>(0:Int))) then (
   (Ae g i).bind fun y=>
   some (.inl ((Ac (c+1)),(Cq g i false)))
   )
   else (
   some (.inl ((Ac (c+1)),g))
   )
   )
   )
   )
   else (
   some (.inr (c,g))
   )
    ) (0,k++b::f)).bind J=some r:=by
 refine E2 l (fun j=>((j:Int),k++(b&&(l.take j).zipIdx.all (fun q=>K9 q.1 q.2))::f)) (by simp) (by omega) ?_ ?_
 .intro j x hj hx h1 h2 h3
  have e:(l.take (j+1)).zipIdx.all (fun q=>K9 q.1 q.2)=((l.take j).zipIdx.all (fun q=>K9 q.1 q.2)&&K9 x j):=by
   rw [Cw hx,List.zipIdx_append,List.all_append]; simp [Nat.min_eq_left (Nat.le_of_lt hj)]
  simp only [h1,h2,h3,cond_true,Ad,Ve k f _ i n h u,Vd k f _ _ i n h u,e]
  unfold K9
  by_cases g1:x.Kind=4
  .by_cases g2:x.Num=j
   .by_cases g3:x.Args.length=0
    .rw [Am (by omega)]; simp [g1,g2,g3]
    .rw [Aj (by omega)]
     have:(x.Args.length==0)=false:=by simpa using g3
     simp [g1,g2,this]
   .simp [g1,g2,Ca g2]
  .simp [g1,Ca g1]
 .intro h1
  refine ⟨_,by simp only [h1]; rfl,?_⟩
  rw [List.take_length]
  exact A
theorem Vf (data:List Al) (d c:Int) (hd:G1 data):Lq data d c=some (C8 data d c):=by
 unfold Lq
 rw [Ajk data d c (fun v3 v4=>_) [] _ rfl]
 unfold C8
 cases hx:Ae data d with
 | none=>rfl
 | some x=>
  cases hy:Ae x.Cons c with
  | none=>simp only [hy]
  | some y=>
   simp only [hy]
   have f:=hd x (De hx).2.2.2 y (De hy).2.2.2
   have g:=f.1
   rw [Jm (n:=y.Args.length) (c:=y.Args.length) rfl rfl (by omega) (by omega) (by omega),Ad]
   refine E2 y.Args (fun j=>((j:Int),((y.Args.take j).map fun t=>Gc t d x.Vars)++List.replicate (y.Args.length-j) false)) rfl (by omega) ?_ ?_
   .intro j t hj ht h1 h2 h3
    obtain ⟨m,h⟩:∃m,y.Args.length-j=m+1:=⟨y.Args.length-j-1,by omega⟩
    have i:y.Args.length-(j+1)=m:=by omega
    have b:j=((y.Args.take j).map fun t=>Gc t d x.Vars).length:=by simp; omega
    simp only [h1,h2,cond_true,Ad,h,i,List.replicate_succ,Cw ht,List.map_append,List.map_cons,List.map_nil,List.append_assoc,List.cons_append,List.nil_append,
     Ve _ _ _ (j:Int) j rfl b,Vd _ _ _ _ (j:Int) j rfl b]
    have hb:(bif t.Kind==5 then bif t.Num==d then some (List.map (fun t=>Gc t d x.Vars) (List.take j y.Args)++((t.Args.length:Int)==x.Vars)::List.replicate m false)
       else some (List.map (fun t=>Gc t d x.Vars) (List.take j y.Args)++false::List.replicate m false)
      else some (List.map (fun t=>Gc t d x.Vars) (List.take j y.Args)++false::List.replicate m false))=some (List.map (fun t=>Gc t d x.Vars) (List.take j y.Args)++(t.Kind==5&&t.Num==d&&((t.Args.length:Int)==x.Vars))::List.replicate m false):=by
     cases t.Kind==5 <;> cases t.Num==d <;> simp
    rw [hb,Ad]
    refine Asr t.Args _ _ (j:Int) j _ rfl b (by have:=f.2 t (Bi ht); omega) ?_
    rw [h3]; rfl
   .intro h1
    exact ⟨_,by simp only [h1]; rfl,by simp⟩
mutual
def mnt (d:Int):Ag->Bool
 | ⟨k,n,l⟩=>(k==5&&n==d)||Lx d l
def Lx (d:Int):List Ag->Bool
 | []=>false
 | x::xs=>mnt d x||Lx d xs
end
theorem Ass (d:Int) (t:Ag):mnt d t=((t.Kind==5&&t.Num==d)||Lx d t.Args):=by cases t; simp only [mnt]
theorem Ast (d:Int) (l:List Ag):Lx d l=l.any (mnt d):=by
 induction l with
 | nil=>rfl
 | cons x xs ih=>simp only [Lx,ih,List.any_cons]
theorem Asu (d:Int):∀(n:Nat) (t:Ag) (k:Nat),A2 t<=n->4*n+4<=k->n<1099511627776->O5 k t d=some (mnt d t):=by
 intro n
 induction n with
 | zero=>intro t k h; have:=Kg t; omega
 | succ n ih=>
  intro t k h hk g
  obtain ⟨k,rfl⟩:∃c,k=c+4:=⟨k-4,by omega⟩
  have f:=Fw t
  have b:=Hb t.Args
  have key:Rv (k+3) t.Args d=some (Lx d t.Args):=by
   rw [Rv,Yc]
   rw [Ast]
   refine U4 (Ada t.Args (mnt d) (by omega) ?_ (fun h=>by simp only [h]; rfl) (fun _=>rfl) rfl) (fun i hi=>by rw [hi])
   intro j x hx h1 h2 h3
   have l:=F1 hx
   simp only [h1,h2,h3,cond_true,Ad,Uq,ih x k (by omega) (by omega) (by omega)]
  rw [O5,key,Ass]
  cases t.Kind==5 <;> cases t.Num==d <;> simp
end Go.Ab
namespace Go.Ab
open Go
theorem Ajl (data:List Al) (v:Int) (l:List Ag):Db data v l=l.all (Cs data v):=by
 induction l with
 | nil=>rfl
 | cons x xs ih=>simp only [Db,ih,List.all_cons]
theorem Asv (data:List Al) (d:Nat) (v k n:Int) (len:Nat):(Hj (data.take (d+1)) v k n len && !(k==5&&n==(d:Int)))=Hj (data.take d) v k n len:=by
 by_cases hk:k=5
 .subst hk
  unfold Hj
  simp only [beq_self_eq_true,Bool.true_and,List.getElem?_take]
  by_cases b:n=d
  .subst b; simp
  .by_cases h0:0<=n
   .have e:(n==(d:Int))=false:=Bg b
    rcases Nat.lt_or_ge n.toNat d with h | h
    .simp [h,e,show n.toNat<d+1 by omega]
    .simp [e,show ¬n.toNat<d by omega,show ¬n.toNat<d+1 by omega]
   .simp [h0]
 .have e:(k==(5:Int))=false:=Bg hk
  simp only [e,Bool.false_and,Bool.not_false,Bool.and_true,Hj,hk,if_false]
mutual
theorem Ajm (data:List Al) (d:Nat) (v:Int):∀t:Ag,(Cs (data.take (d+1)) v t && !mnt d t)=Cs (data.take d) v t
 | ⟨k,n,l⟩=>by
  have h1:=Ajn data d v l
  have h2:=Asv data d v k n l.length
  simp only [Cs,mnt]
  rw [<-h1,<-h2]
  cases Hj (data.take (d+1)) v k n l.length <;> cases (k==5&&n==(d:Int)) <;> cases Db (data.take (d+1)) v l <;> simp
theorem Ajn (data:List Al) (d:Nat) (v:Int):∀l:List Ag,(Db (data.take (d+1)) v l && !Lx d l)=Db (data.take d) v l
 | []=>by simp [Db,Lx]
 | x::xs=>by
  have h1:=Ajm data d v x
  have h2:=Ajn data d v xs
  simp only [Db,Lx]
  rw [<-h1,<-h2]
  cases Cs (data.take (d+1)) v x <;> cases mnt d x <;> cases Db (data.take (d+1)) v xs <;> simp
end
theorem Ajo:∀l:List Ag,(∀a∈l,a.Args.length=0)->B2 l=l.length
 | [],_=>rfl
 | x::xs,h=>by
  have h1:=h x (by simp)
  simp only [B2,List.length_cons]
  rw [Ajo xs (fun a ha=>h a (by simp [ha])),Fw,List.length_eq_zero_iff.1 h1]
  simp only [B2]; omega
theorem Adq {data:List Al} {d:Nat} {x:Al} (hx:data[d]? = some x) (f:x.Vars<=6) {t:Ag} (h:Gc t d x.Vars=true):Cs (data.take (d+1)) x.Vars t=true/\A2 t<=200:=by
 unfold Gc at h
 simp only [Ce,beq_iff_eq] at h
 obtain ⟨⟨⟨h1,h2⟩,h3⟩,c⟩:=h
 have ha:∀a∈t.Args,∃i:Nat,i<t.Args.length/\a.Kind=4/\a.Num=i/\a.Args.length=0:=by
  intro a ha
  obtain ⟨i,hi⟩:=List.getElem?_of_mem ha
  have:=G0 c hi
  simp only [K9,Ce,beq_iff_eq] at this
  exact ⟨i,Dh hi,this.1.1,this.1.2,this.2⟩
 refine ⟨?_,?_⟩
 .rw [R9,Ajl,Ce]
  constructor
  .rw [h1,h2]
   unfold Hj
   simp [hx,h3]
  .rw [List.all_eq_true]
   intro a b
   obtain ⟨i,i1,i2,i3,i4⟩:=ha a b
   rw [R9,i2,i3,i4,List.length_eq_zero_iff.1 i4]
   unfold Hj
   simp [Db]; omega
 .rw [Fw,Ajo _ (fun a h=>(ha a h).choose_spec.2.2.2)]
  omega
def Hk (data:List Al) (d:Nat) (v:Int) (t:Ag):Bool:=Gc t d v||(Cs (data.take d) v t&&decide (A2 t<=200))
theorem Asw {data:List Al} {d:Nat} {x:Al} (hx:data[d]? = some x) (b:x.Vars<=6) (t:Ag):((Cs (data.take (d+1)) x.Vars t&&decide (A2 t<=200))&&(Gc t d x.Vars || !mnt d t))=Hk data d x.Vars t:=by
 unfold Hk
 cases h:Gc t d x.Vars with
 | true=>
  obtain ⟨h1,h2⟩:=Adq hx b h
  rw [h1,Aj h2]; rfl
 | false=>
  rw [<-Ajm data d x.Vars t]
  cases Cs (data.take (d+1)) x.Vars t <;> cases decide (A2 t<=200) <;> simp
def SzD (data:List Al):Prop:=∀x∈data,x.Cons.length<=1048576/\∀y∈x.Cons,B2 y.Args<=1048576
theorem SzD.short {data:List Al} (h:SzD data):G1 data:=fun x hx y hy=>by
 have h1:=(h x hx).2 y hy
 have h2:=Hb y.Args
 refine ⟨by omega,fun a ha=>?_⟩
 have h3:=F1 ha
 have c:=Fw a
 have b:=Hb a.Args
 omega
theorem Asx {data:List Al} (g:SzD data) (d c:Nat) {x:Al} {y:I1} (hx:data[d]? = some x) (hy:x.Cons[c]? = some y) (q:x.Vars<=6) (hd:data.length<=1048576) :
  M9 data d c=some (decide (y.Args.length<=6)&&y.Args.all (Hk data d x.Vars)):=by
 have b:=Dh hx
 have l:=(g x (Bi hx)).2 y (Bi hy)
 unfold M9
 rw [Bn rfl hx,Ad,Bn rfl hy,Ad,Vf data d c g.short]
 by_cases k:y.Args.length<=6
 .rw [Am (by omega:¬(y.Args.length:Int)>6),Aj k]
  simp only [cond_false,Bool.true_and,Ad]
  refine (Jq y.Args (Hk data d x.Vars) (fun j=>(j:Int)) rfl (by omega) (rt:=true) (rf:=false) ?_ ?_).trans (by rw [Jr])
  .intro j t ht h1 h2 h3
   have s:=F1 (Bi ht)
   have u:Ae (C8 data d c) (j:Int)=some (Gc t d x.Vars):=by
    unfold C8
    simp only [Bn rfl hx,Bn rfl hy]
    rw [Bn rfl]
    simp [ht]
   simp only [h1,h2,h3,cond_true,Ad,show Ac ((d:Int)+1)=((d+1:Nat):Int) from C5 b (by omega),Ym rfl (show d+1<=data.length from b),Bn rfl hx,
    Nn (data.take (d+1)) t x.Vars (by omega),u]
   rw [<-Asw hx q t]
   cases i:(Cs (data.take (d+1)) x.Vars t&&decide (A2 t<=200)) with
   | false=>exact ⟨(fun h=>by cases h),fun _=>⟨.inl false,rfl,rfl⟩⟩
   | true=>
    have f:A2 t<=200:=by simp only [Ce,decide_eq_true_eq] at i; exact i.2
    simp only [Cu,cond_false,Bool.true_and]
    cases z:Gc t d x.Vars with
    | true=>exact ⟨fun _=>rfl,fun h=>by cases h⟩
    | false=>
     simp only [Bool.not_false,cond_true,Asu d 200 t 4000000 f (by omega) (by omega),Ad,Bool.false_or]
     cases mnt d t with
     | true=>exact ⟨(fun h=>by cases h),fun _=>⟨.inl false,rfl,rfl⟩⟩
     | false=>exact ⟨fun _=>rfl,fun h=>by cases h⟩
  .intro h
   exact ⟨.inr (),by simp only [h]; rfl,rfl⟩
 .rw [Aj (by omega:(y.Args.length:Int)>6),Am k]; rfl
end Go.Ab
namespace Go.Ab
open Go
def bI (s:ByteArray) (i:Nat):Int:=if h:i<s.size then (s[i].toNat:Int) else 0
def loI (c:Int):Bool:=decide (97<=c)&&decide (c<=122)
def upI (c:Int):Bool:=decide (65<=c)&&decide (c<=90)
def diI (c:Int):Bool:=decide (48<=c)&&decide (c<=57)
def wiI (c:Int):Bool:=loI c||upI c||diI c||c==95
def D5 (s:ByteArray):Prop:=1<=s.size/\s.size<=24/\upI (bI s 0)=true/\∀i,i<s.size->wiI (bI s i)=true
theorem Gp {s:ByteArray} {i:Int} {n:Nat} (hi:i=n) (h:n<s.size):∃c:UInt8,Ee s i=some c/\(c.toNat:Int)=bI s n:=by
 subst hi
 refine ⟨s[n],?_,?_⟩
 .unfold Ee
  rw [if_pos (by omega),show ((n:Int)).toNat=n from rfl]
  simp [h]
 .unfold bI; simp [h]
theorem Pj {s:ByteArray} {a b j:Nat} (hb:b<=s.size) (h:a+j<b):bI (s.extract a b) j=bI s (a+j):=by
 unfold bI
 have h1:j<(s.extract a b).size:=by rw [ByteArray.size_extract]; omega
 rw [dif_pos h1,dif_pos (by omega),ByteArray.getElem_extract]
theorem La {s:ByteArray} {lo hi:Int} {a b:Nat} (h1:lo=a) (h2:hi=b) (h3:a<=b) (c:b<=s.size):Dd s lo hi=some (s.extract a b):=by
 subst h1; subst h2; unfold Dd; rw [if_pos (by omega)]; rfl
theorem Ajp {a b:ByteArray} (h:a.toList=b.toList):a=b:=by
 rw [ByteArray.toList_eq,ByteArray.toList_eq] at h
 have:a.data=b.data:=Array.toList_inj.1 h
 cases a; cases b; simp at this; subst this; rfl
theorem Y5 (a b:ByteArray):(a.toList==b.toList)=decide (a=b):=by
 by_cases h:a=b
 .subst h; simp
 .rw [Am h]
  cases hb:(a.toList==b.toList) with
  | false=>rfl
  | true=>exact absurd (Ajp (by simpa using hb)) h
theorem Adr (c:Int):Rs c=some (loI c):=by unfold Rs loI; by_cases h:(97:Int)<=c <;> simp [h]
theorem Ads (c:Int):O9 c=some (upI c):=by unfold O9 upI; by_cases h:(65:Int)<=c <;> simp [h]
theorem Vg (c:Int):Nb c=some (diI c):=by unfold Nb diI; by_cases h:(48:Int)<=c <;> simp [h]
theorem Ajq (c:Int):Rt c=some (wiI c):=by
 unfold Rt wiI
 rw [Adr,Ads,Vg]
 simp only [Ad]
 cases loI c <;> cases upI c <;> cases diI c <;> rfl
theorem Asy (c:Int):X1 c=some (loI c):=Adr c
theorem Asz (c:Int):Uj c=some (upI c):=Ads c
theorem As0 (c:Int):Uk c=some (diI c):=Vg c
theorem Sb {S E:Type} {step:S->Option (S⊕E)} (s:ByteArray) (p:Int->Bool) (b:Nat->S) (f:Nat->E) (lo:Nat)
  (h1:∀j,lo<=j->j<s.size->p (bI s j)=true->step (b j)=some (.inl (b (j+1)))) (h2:∀j,lo<=j->j<s.size->p (bI s j)=false->step (b j)=some (.inr (f j))) (h3:step (b s.size)=some (.inr (f s.size))) :
  ∀(m i:Nat),lo<=i->i+m=s.size->∃n,i<=n/\n<=s.size/\(∀j,i<=j->j<n->p (bI s j)=true)/\(n<s.size->p (bI s n)=false)/\Ak step (b i)=some (f n):=by
 intro m
 induction m with
 | zero=>
  intro i _ hi
  have:i=s.size:=by omega
  subst this
  exact ⟨s.size,by omega,by omega,fun j _ _=>by omega,fun h=>by omega,D9 h3⟩
 | succ m ih=>
  intro i c hi
  cases hp:p (bI s i) with
  | true=>
   obtain ⟨n,a1,a2,a3,a4,a5⟩:=ih (i+1) (by omega) (by omega)
   refine ⟨n,by omega,a2,fun j b1 b2=>?_,a4,by rw [Hv (h1 i c (by omega) hp)]; exact a5⟩
   rcases Nat.lt_or_ge i j with h | h
   .exact a3 j h b2
   .have:j=i:=by omega
    subst this; exact hp
  | false=>exact ⟨i,by omega,by omega,fun j _ _=>by omega,fun _=>hp,D9 (h2 i c (by omega) hp)⟩
theorem As1 (s:ByteArray) (k:s.size<1099511627776):∃n,n<=s.size/\(∀j,j<n->wiI (bI s j)=true)/\(n<s.size->wiI (bI s n)=false)/\Ur s=some (s.extract 0 n):=by
 have H:=Sb (step:=fun v3:Int=>bif (decide (v3<(s.size:Int))) then ((Ee s v3).bind fun h=>(Rt (h.toNat:Int)).bind fun v5=>bif v5 then some (.inl (Ac (v3+1))) else some (.inr v3)) else some (.inr v3))
  s wiI (fun j=>(j:Int)) (fun j=>(j:Int)) 0 (fun j _ hj hp=>by
   obtain ⟨c,g,f⟩:=Gp (s:=s) (i:=(j:Int)) rfl hj
   simp only [Aj (by omega:(j:Int)<(s.size:Int)),cond_true,g,Ad,f,Ajq,hp,C5 hj (by omega)]) (fun j _ hj hp=>by
   obtain ⟨c,g,f⟩:=Gp (s:=s) (i:=(j:Int)) rfl hj
   simp only [Aj (by omega:(j:Int)<(s.size:Int)),cond_true,g,Ad,f,Ajq,hp,cond_false]) (by simp) s.size 0 (by omega) (by omega)
 obtain ⟨n,_,a2,a3,a4,a5⟩:=H
 refine ⟨n,a2,fun j hj=>a3 j (by omega) hj,a4,?_⟩
 unfold Ur
 have a5:Ak _ (0:Int)=some (n:Int):=a5
 rw [a5,Ad,La (lo:=0) (a:=0) (b:=n) rfl rfl (by omega) a2]; rfl
theorem As2 (s:ByteArray) (k:s.size<1099511627776):∃n,n<=s.size/\(∀j,j<n->diI (bI s j)=true)/\(n<s.size->diI (bI s n)=false)/\Yb s=some (s.extract 0 n):=by
 have H:=Sb (step:=fun v3:Int=>bif (decide (v3<(s.size:Int))) then ((Ee s v3).bind fun h=>(Nb (h.toNat:Int)).bind fun v5=>bif v5 then some (.inl (Ac (v3+1))) else some (.inr v3)) else some (.inr v3))
  s diI (fun j=>(j:Int)) (fun j=>(j:Int)) 0 (fun j _ hj hp=>by
   obtain ⟨c,g,f⟩:=Gp (s:=s) (i:=(j:Int)) rfl hj
   simp only [Aj (by omega:(j:Int)<(s.size:Int)),cond_true,g,Ad,f,Vg,hp,C5 hj (by omega)]) (fun j _ hj hp=>by
   obtain ⟨c,g,f⟩:=Gp (s:=s) (i:=(j:Int)) rfl hj
   simp only [Aj (by omega:(j:Int)<(s.size:Int)),cond_true,g,Ad,f,Vg,hp,cond_false]) (by simp) s.size 0 (by omega) (by omega)
 obtain ⟨n,_,a2,a3,a4,a5⟩:=H
 refine ⟨n,a2,fun j hj=>a3 j (by omega) hj,a4,?_⟩
 unfold Yb
 have a5:Ak _ (0:Int)=some (n:Int):=a5
 rw [a5,Ad,La (lo:=0) (a:=0) (b:=n) rfl rfl (by omega) a2]; rfl
theorem No {R:Type} {c:Bool} {X Y:Option R} {Q:R->Prop} (h1:∃r,X=some r/\Q r) (h2:∃r,Y=some r/\Q r):∃r,(bif c then X else Y)=some r/\Q r:=by cases c <;> assumption
theorem Vh {A R:Type} {X:Option A} {f:A->Option R} {Q:R->Prop} (P:A->Prop) (h1:∃a,X=some a/\P a) (h2:∀a,P a->∃r,f a=some r/\Q r):∃r,X.bind f=some r/\Q r:=by
 obtain ⟨a,e,h⟩:=h1
 rw [e]; exact h2 a h
theorem As3 (s:ByteArray):∃b,Us s=some b/\True:=by
 unfold Us
 repeat' first | refine No ?_ ?_ | exact ⟨_,rfl,trivial⟩
theorem As4 (s:ByteArray) (h1:1<=s.size):∃r,Uu s=some r/\(r.size<=s.size):=by
 have g:Dd s 0 1=some (s.extract 0 1):=La rfl rfl (by omega) h1
 have c:(s.extract 0 1).size<=s.size:=by rw [ByteArray.size_extract]; omega
 unfold Uu
 refine Vh (fun z=>∀r,z = .inl r->r.size<=s.size) ?_ ?_
 .by_cases h2:2<=s.size
  .have f:Dd s 0 2=some (s.extract 0 2):=La rfl rfl (by omega) h2
   have b:∀r,(Sum.inl (s.extract 0 2):ByteArray⊕Unit) = .inl r->r.size<=s.size:=by rintro r ⟨⟩; rw [ByteArray.size_extract]; omega
   simp only [f,Ad]
   repeat' first | refine No ?_ ?_ | with_reducible exact ⟨_,rfl,b⟩ | exact ⟨_,rfl,fun r h=>by cases h⟩
  .rw [Am (by omega)]
   exact ⟨_,rfl,fun r h=>by cases h⟩
 .rintro (r | u) i
  .exact ⟨_,rfl,i r rfl⟩
  .simp only [g,Ad]
   have h0:(ByteArray.mk #[]).size<=s.size:=Nat.zero_le _
   repeat' first | refine No ?_ ?_ | with_reducible exact ⟨_,rfl,c⟩ | with_reducible exact ⟨_,rfl,h0⟩
theorem As5 (s:ByteArray) (g:s.size<1099511627776):∃b,Ut s=some b/\True:=by
 unfold Ut
 refine D3 (fun (_,i)=>∃j:Nat,i=j/\j<=s.size) (fun (_,i)=>s.size-i.toNat) (fun _=>True) ⟨0,rfl,by omega⟩ ?_ ?_
 .rintro ⟨v,i⟩ ⟨j,rfl,hj⟩
  rcases Nat.lt_or_ge j s.size with h | h
  .obtain ⟨c,f,_⟩:=Gp (s:=s) (i:=(j:Int)) rfl h
   simp only [Aj (by omega:(j:Int)<(s.size:Int)),cond_true,f,Ad,C5 h (by omega)]
   cases decide (Ac (Ac (v*10)+Ac (wu8 ((c.toNat:Int)-48)))>1000000) with
   | true=>exact .inr ⟨_,rfl,trivial⟩
   | false=>exact .inl ⟨_,rfl,⟨j+1,rfl,by omega⟩,by simp; omega⟩
  .have:j=s.size:=by omega
   subst this
   exact .inr ⟨.inr (),by simp,trivial⟩
 .rintro (r | u) _ <;> exact ⟨_,rfl,trivial⟩
theorem As6 (s:ByteArray) (i:Nat) (hi:i<s.size) (S:s.size<1099511627776) :
  ∃r,Up s i=some r/\(r.2=0->1<=r.1.Text.size/\i+r.1.Text.size<=s.size/\(r.1.Kind=2->D5 r.1.Text))/\(D5 s->i=0->r=(⟨2,s,0⟩,0)):=by
 obtain ⟨c,N,M⟩:=Gp (s:=s) (i:=(i:Int)) rfl hi
 have x:Dd s (i:Int) (s.size:Int)=some (s.extract i s.size):=La rfl rfl (by omega) (by omega)
 have J:(s.extract i s.size).size=s.size-i:=by rw [ByteArray.size_extract]; omega
 have y:bI (s.extract i s.size) 0=bI s i:=Pj (by omega) (by omega)
 unfold Up
 simp only [N,Ad,M,Adr,Ads,Vg,x]
 have hw:(bif loI (bI s i) then some true else some (upI (bI s i)))=some (loI (bI s i)||upI (bI s i)):=by cases loI (bI s i) <;> rfl
 rw [hw]
 simp only [Ad]
 cases l:(loI (bI s i)||upI (bI s i)) with
 | true=>
  obtain ⟨n,I,E,z,q⟩:=As1 (s.extract i s.size) (by omega)
  have B:1<=n:=by
   rcases Nat.eq_zero_or_pos n with h | h
   .subst h
    have:=z (by omega)
    rw [y] at this
    unfold wiI at this
    rw [l] at this; cases this
   .exact h
  have hx:(s.extract i s.size).extract 0 n=s.extract i (i+n):=by rw [ByteArray.extract_extract]; congr 1; omega
  have u:(s.extract i (i+n)).size=n:=by rw [ByteArray.size_extract]; omega
  rw [hx] at q
  simp only [cond_true,q,Ad,u]
  have g:D5 s->i=0->n=s.size:=by
   intro hu h0
   rcases Nat.lt_or_ge n s.size with h | h
   .have:=z (by omega)
    rw [Pj (by omega) (by omega),hu.2.2.2 _ (by omega)] at this; cases this
   .omega
  by_cases L:n<=24
  .rw [Am (by omega)]
   cases k:upI (bI s i) with
   | true=>
    refine ⟨_,rfl,fun _=>⟨?_,?_,fun _=>⟨?_,?_,?_,?_⟩⟩,?_⟩
    .show 1<=(s.extract i (i+n)).size; omega
    .show i+(s.extract i (i+n)).size<=s.size; omega
    .show 1<=(s.extract i (i+n)).size; omega
    .show (s.extract i (i+n)).size<=24; omega
    .show upI (bI (s.extract i (i+n)) 0)=true
     rw [Pj (by omega) (by omega)]; exact k
    .show ∀j,j<(s.extract i (i+n)).size->wiI (bI (s.extract i (i+n)) j)=true
     intro j hj
     rw [Pj (by omega) (by omega)]
     have:=E j (by omega)
     rw [Pj (by omega) (by omega)] at this; exact this
    .intro hu h0
     have:=g hu h0
     subst h0; subst this
     rw [Nat.zero_add,ByteArray.extract_zero_size]; rfl
   | false=>
    obtain ⟨b,hb,_⟩:=As3 (s.extract i (i+n))
    simp only [cond_false,hb,Ad]
    have f:D5 s->i=0->False:=by
     intro hu h0
     subst h0
     rw [hu.2.2.1] at k; cases k
    cases b with
    | true=>exact ⟨_,rfl,fun _=>⟨by show 1<=(s.extract i (i+n)).size; omega,by show i+(s.extract i (i+n)).size<=s.size; omega,fun h=>by cases h⟩,fun hu h0=>(f hu h0).elim⟩
    | false=>exact ⟨_,rfl,fun _=>⟨by show 1<=(s.extract i (i+n)).size; omega,by show i+(s.extract i (i+n)).size<=s.size; omega,fun h=>by cases h⟩,fun hu h0=>(f hu h0).elim⟩
  .rw [Aj (by omega)]
   refine ⟨_,rfl,(fun h=>by cases h),fun hu h0=>?_⟩
   have:=g hu h0
   have:=hu.2.1
   omega
 | false=>
  have f:D5 s->i=0->False:=by
   intro hu h0
   subst h0
   rw [hu.2.2.1,Bool.or_true] at l; cases l
  simp only [cond_false]
  cases hd:diI (bI s i) with
  | true=>
   obtain ⟨n,I,E,z,q⟩:=As2 (s.extract i s.size) (by omega)
   have B:1<=n:=by
    rcases Nat.eq_zero_or_pos n with h | h
    .subst h
     have:=z (by omega)
     rw [y,hd] at this; cases this
    .exact h
   have hx:(s.extract i s.size).extract 0 n=s.extract i (i+n):=by rw [ByteArray.extract_extract]; congr 1; omega
   have u:(s.extract i (i+n)).size=n:=by rw [ByteArray.size_extract]; omega
   rw [hx] at q
   obtain ⟨b,hb,_⟩:=As5 (s.extract i (i+n)) (by omega)
   simp only [cond_true,q,Ad,hb]
   refine Vh (fun _=>True) ?_ ?_
   .exact No ⟨_,rfl,trivial⟩ ⟨_,rfl,trivial⟩
   .intro v _
    refine No ⟨_,rfl,(fun h=>by cases h),fun hu h0=>(f hu h0).elim⟩ (No ⟨_,rfl,(fun h=>by cases h),fun hu h0=>(f hu h0).elim⟩ ⟨_,rfl,fun _=>⟨?_,?_,fun h=>by cases h⟩,fun hu h0=>(f hu h0).elim⟩)
    .show 1<=(s.extract i (i+n)).size; omega
    .show i+(s.extract i (i+n)).size<=s.size; omega
  | false=>
   obtain ⟨r,G,R⟩:=As4 (s.extract i s.size) (by omega)
   simp only [cond_false,G,Ad]
   rw [Y5]
   by_cases A:r=ByteArray.mk #[]
   .rw [Aj A]
    exact ⟨_,rfl,(fun h=>by cases h),fun hu h0=>(f hu h0).elim⟩
   .rw [Am A]
    refine ⟨_,rfl,fun _=>⟨?_,?_,fun h=>by cases h⟩,fun hu h0=>(f hu h0).elim⟩
    .show 1<=r.size
     rcases Nat.eq_zero_or_pos r.size with h | h
     .have D:r.data.toList.length=0:=by simpa using h
      exact absurd (Ajp (by rw [ByteArray.toList_eq,List.length_eq_zero_iff.1 D,ByteArray.toList_eq])) A
     .exact h
    .show i+r.size<=s.size; omega
theorem As7 (c:Int):Uo c=some (c==9||c==10||c==13||c==32):=by
 unfold Uo
 cases c==9 <;> cases c==10 <;> cases c==13 <;> rfl
theorem Ajr (s:ByteArray) (Y:s.size<1099511627776):∃b,O2 s=some b/\(b=true↔D5 s):=by
 unfold O2 X6
 by_cases A:(s.size:Int)>16384
 .rw [Aj A]
  refine ⟨false,rfl,by simp; rintro ⟨_,h,_⟩; omega⟩
 rw [Am A]
 simp only [cond_false]
 refine Vh (fun r:List G9×Int×Int=>(r.2.2≠0/\¬D5 s)\/(r.2.2=0/\∃o e,r.1=o++[e]/\(∀t∈o,t.Kind=2->D5 t.Text)/\(D5 s->o = [⟨2,s,0⟩]))) ?_ ?_
 .refine D3 (fun (D,g)=>∃i:Nat,D=i/\i<=s.size/\g.length<=i/\(∀t∈g,t.Kind=2->D5 t.Text)/\(D5 s->(i=0/\g = [])\/(i=s.size/\g = [⟨2,s,0⟩])))
   (fun (D,_)=>s.size-D.toNat)
   (fun z=>match z with | .inl o=>o.length<=16384/\(∀t∈o,t.Kind=2->D5 t.Text)/\(D5 s->o = [⟨2,s,0⟩]) | .inr (_,_,e)=>e≠0/\¬D5 s)
   ⟨0,rfl,by omega,by simp,by simp,fun _=>.inl ⟨rfl,rfl⟩⟩ ?_ ?_
  .rintro ⟨v,o⟩ ⟨i,rfl,hi,ho,hk,hu⟩
   rcases Nat.lt_or_ge i s.size with h | h
   .obtain ⟨c,J,I⟩:=Gp (s:=s) (i:=(i:Int)) rfl h
    have k:D5 s->i=0/\o = []:=fun u=>by
     rcases hu u with h' | h'
     .exact h'
     .omega
    simp only [Aj (by omega:(i:Int)<(s.size:Int)),cond_true,J,Ad,I,As7]
    cases M:(bI s i==9||bI s i==10||bI s i==13||bI s i==32) with
    | true=>
     have q:¬D5 s:=by
      intro u
      have h0:=(k u).1
      subst h0
      have:=u.2.2.1
      simp only [upI,Ce,decide_eq_true_eq] at this
      simp only [Bool.or_eq_true,beq_iff_eq] at M
      omega
     exact .inl ⟨(((i+1:Nat):Int),o),by simp only [cond_true]; rw [C5 h (by omega)],⟨i+1,rfl,by omega,(by show o.length<=i+1; omega),hk,fun u=>(q u).elim⟩,by simp; omega⟩
    | false=>
     simp only [cond_false]
     cases E:(bI s i==35) with
     | true=>
      have q:¬D5 s:=by
       intro u
       have h0:=(k u).1
       subst h0
       have:=u.2.2.1
       simp only [upI,Ce,decide_eq_true_eq] at this
       simp only [beq_iff_eq] at E
       omega
      simp only [cond_true]
      obtain ⟨n,n1,n2,n3,X,L⟩:=Sb (step:=fun f:Int=>bif (decide (f<(s.size:Int))) then ((Ee s f).bind fun N=>bif ((N.toNat:Int)==(10:Int)) then some (.inr (.inl f)) else some (.inl (Ac (f+1)))) else some (.inr (.inr f)))
       s (fun c=>!(c==10)) (fun j=>(j:Int)) (fun j=>if j<s.size then Sum.inl (j:Int) else Sum.inr (j:Int)) 0 (fun j _ hj hp=>by
        obtain ⟨c,J,I⟩:=Gp (s:=s) (i:=(j:Int)) rfl hj
        simp only [Bool.not_eq_true'] at hp
        simp only [Aj (by omega:(j:Int)<(s.size:Int)),cond_true,J,Ad,I,hp,C5 hj (by omega),cond_false]) (fun j _ hj hp=>by
        obtain ⟨c,J,I⟩:=Gp (s:=s) (i:=(j:Int)) rfl hj
        simp only [Bool.not_eq_false'] at hp
        simp only [Aj (by omega:(j:Int)<(s.size:Int)),cond_true,J,Ad,I,hp,if_pos hj]) (by simp) (s.size-i) i (by omega) (by omega)
      have Z:i<n:=by
       rcases Nat.lt_or_ge i n with h' | h'
       .exact h'
       .have:n=i:=by omega
        subst this
        have:=X h
        simp only [beq_iff_eq] at E
        rw [E] at this; cases this
      have L:Ak _ (i:Int)=_:=L
      rw [L,Ad]
      rcases Nat.lt_or_ge n s.size with h' | h'
      .rw [if_pos h']
       exact .inl ⟨((n:Int),o),rfl,⟨n,rfl,by omega,(by show o.length<=n; omega),hk,fun u=>(q u).elim⟩,by simp; omega⟩
      .rw [if_neg (by omega)]
       exact .inr ⟨.inl o,rfl,by omega,hk,fun u=>(q u).elim⟩
     | false=>
      obtain ⟨r,V,U,R⟩:=As6 s i h Y
      simp only [cond_false,V,Ad]
      by_cases G:r.2=0
      .obtain ⟨a1,a2,a3⟩:=U G
       simp only [B4 G,cond_false]
       rw [C4 (by simp; omega),Ad]
       refine .inl ⟨(((i+r.1.Text.size:Nat):Int),o++[r.1]),?_,⟨i+r.1.Text.size,rfl,a2,by simp; omega,?_,?_⟩,by simp; omega⟩
       .rw [show Ac ((i:Int)+(r.1.Text.size:Int))=((i+r.1.Text.size:Nat):Int) by rw [Ac,Bp] <;> omega]
       .intro t ht
        rcases List.mem_append.1 ht with h' | h'
        .exact hk t h'
        .simp at h'; subst h'; exact a3
       .intro u
        obtain ⟨b1,b2⟩:=k u
        have:=R u b1
        subst b1; subst b2; subst this
        exact .inr ⟨by simp,rfl⟩
      .simp only [Ca G,cond_true]
       refine .inr ⟨_,rfl,G,fun u=>?_⟩
       rw [R u (k u).1] at G
       exact G rfl
   .have:i=s.size:=by omega
    subst this
    refine .inr ⟨.inl o,by simp,by omega,hk,fun u=>?_⟩
    rcases hu u with ⟨h',_⟩ | ⟨_,h'⟩
    .have:=u.1; omega
    .exact h'
  .rintro (o | ⟨l,p,e⟩) S
   .obtain ⟨z1,z2,z3⟩:=S
    simp only
    rw [C4 (by simp; omega),Ad]
    exact ⟨_,rfl,.inr ⟨rfl,o,_,rfl,z2,z3⟩⟩
   .exact ⟨_,rfl,.inl S⟩
 .rintro ⟨l,p,e⟩ (⟨h1,h2⟩ | ⟨h1,o,t,h2,h3,B⟩)
  .simp only at h1
   simp only [Bg h1,cond_false]
   exact ⟨_,rfl,by simp [h2]⟩
  .simp only at h1 h2
   subst h1; subst h2
   simp only [beq_self_eq_true,cond_true]
   match o,h3,B with
   | [],_,B=>exact ⟨false,by simp,by simp; intro u; cases B u⟩
   | [x],h3,B=>
    have e0:Ae ([x]++[t]) 0=some x:=rfl
    simp only [e0,Ad,Y5]
    have e1:((([x]++[t]).length:Int)==2)=true:=rfl
    simp only [e1,cond_true]
    by_cases hx:x.Kind=2
    .simp only [B0 hx,cond_true]
     refine ⟨_,rfl,?_⟩
     rw [decide_eq_true_iff]
     constructor
     .intro h; rw [<-h]; exact h3 x (by simp) hx
     .intro u; have:=B u; simp at this; rw [this]
    .simp only [Bg hx,cond_false]
     refine ⟨_,rfl,?_⟩
     simp only [Bool.false_eq_true,false_iff]
     intro u; have:=B u; simp at this; rw [this] at hx; exact hx rfl
   | x::y::ys,_,B=>
    refine ⟨false,?_,by simp; intro u; have:=B u; simp at this⟩
    rw [Bg]
    .rfl
    .simp; omega
end Go.Ab
namespace Go.Ab
open Go
theorem As8 (s:ByteArray):∃b,Acn s=some b/\True:=by
 have key:∀(L:List ByteArray),L.length<1000->∃b,((Ak (S:=Int) (E:=(Bool⊕Unit)) (fun v2=>bif (decide (v2<(L.length:Int))) then ((Ae L v2).bind fun v3=>bif (v3.toList==s.toList) then some (.inr (.inl true)) else some (.inl (Ac (v2+1)))) else some (.inr (.inr ()))) 0).bind fun z=>match z with | .inl c=>some c | .inr _=>some false)=some b/\True:=by
  intro L f
  refine ⟨_,Jq L (fun v=>!(v.toList==s.toList)) (fun j=>(j:Int)) rfl (by omega) (rt:=false) (rf:=true) ?_ ?_,trivial⟩
  .intro j x hx h1 h2 h3
   simp only [h1,h2,h3,cond_true,Ad]
   cases (x.toList==s.toList) with
   | true=>exact ⟨(fun h=>by cases h),fun _=>⟨_,rfl,rfl⟩⟩
   | false=>exact ⟨fun _=>rfl,fun h=>by cases h⟩
  .intro h; exact ⟨.inr (),by simp only [h]; rfl,rfl⟩
 exact key _ (by decide)
theorem As9 (s:ByteArray) (h1:1<=s.size) (T:ByteArray) (x:T.size<1000):∃r,((Ak (S:=Int) (E:=(Int⊕Unit)) (fun b=>bif (decide (b<(T.size:Int))) then ((Ee s 0).bind fun l=>(Ee T b).bind fun k=>bif ((l.toNat:Int)==(k.toNat:Int)) then some (.inr (.inl 1)) else some (.inl (Ac (b+1)))) else some (.inr (.inr ()))) 0).bind fun z=>match z with | .inl f=>some f | .inr _=>some 0)=some r/\(r=0\/(1<=r/\r<=s.size)):=by
 refine D3 (fun i=>∃j:Nat,i=j/\j<=T.size) (fun i=>T.size-i.toNat) (fun z=>∀r,z = .inl r->r=1) ⟨0,rfl,by omega⟩ ?_ ?_
 .rintro i ⟨j,rfl,hj⟩
  rcases Nat.lt_or_ge j T.size with h | h
  .obtain ⟨c,q,_⟩:=Gp (s:=T) (i:=(j:Int)) rfl h
   obtain ⟨d,d1,_⟩:=Gp (s:=s) (i:=0) (n:=0) rfl h1
   simp only [Aj (by omega:(j:Int)<(T.size:Int)),cond_true,q,d1,Ad,C5 h (by omega)]
   cases ((d.toNat:Int)==(c.toNat:Int)) with
   | true=>exact .inr ⟨_,rfl,fun r h=>by cases h; rfl⟩
   | false=>exact .inl ⟨_,rfl,⟨j+1,rfl,by omega⟩,by simp; omega⟩
  .have:j=T.size:=by omega
   subst this
   exact .inr ⟨.inr (),by simp,fun r h=>by cases h⟩
 .rintro (r | u) g
  .exact ⟨r,rfl,.inr (by have:=g r rfl; omega)⟩
  .exact ⟨0,rfl,.inl rfl⟩
theorem Ata (s:ByteArray) (h1:1<=s.size):∃r,X3 s=some r/\(r=0\/(1<=r/\r<=s.size)):=by
 unfold X3
 refine Vh (fun b=>b=true->2<=s.size) ?_ ?_
 .by_cases h2:2<=s.size
  .have c:Dd s 0 2=some (s.extract 0 2):=La rfl rfl (by omega) h2
   simp only [c,Ad]
   repeat' first | refine No ?_ ?_ | exact ⟨_,rfl,fun _=>h2⟩
  .rw [Am (by omega)]
   exact ⟨_,rfl,fun h=>by cases h⟩
 .rintro b hb
  cases b with
  | true=>exact ⟨2,rfl,.inr ⟨by omega,by have:=hb rfl; omega⟩⟩
  | false=>exact As9 s h1 _ (by decide)
theorem Atb (s:ByteArray) (k:s.size<1099511627776):∃b,X2 s=some b/\True:=by
 unfold X2
 refine D3 (fun (_,i)=>∃j:Nat,i=j/\j<=s.size) (fun (_,i)=>s.size-i.toNat) (fun _=>True) ⟨0,rfl,by omega⟩ ?_ ?_
 .rintro ⟨v,i⟩ ⟨j,rfl,hj⟩
  rcases Nat.lt_or_ge j s.size with h | h
  .obtain ⟨c,f,_⟩:=Gp (s:=s) (i:=(j:Int)) rfl h
   simp only [Aj (by omega:(j:Int)<(s.size:Int)),cond_true,f,Ad,C5 h (by omega)]
   cases decide (Ac (Ac (v*10)+Ac (wu8 ((c.toNat:Int)-48)))>1000000) with
   | true=>exact .inr ⟨_,rfl,trivial⟩
   | false=>exact .inl ⟨_,rfl,⟨j+1,rfl,by omega⟩,by simp; omega⟩
  .have:j=s.size:=by omega
   subst this
   exact .inr ⟨.inr v,by simp,trivial⟩
 .rintro (⟨r,g⟩ | u) _ <;> exact ⟨_,rfl,trivial⟩
theorem Ajs (s:ByteArray) (hs:s.size<1099511627776):∃b,Q5 s=some b/\(b=true↔D5 s):=by
 unfold Q5 Ack
 by_cases N:(s.size:Int)>16384
 .rw [Aj N]
  refine ⟨false,rfl,by simp; rintro ⟨_,h,_⟩; omega⟩
 rw [Am N]
 simp only [cond_false]
 refine Vh (fun r:List Ii×Int×Int=>(r.2.2≠0/\¬D5 s)\/(r.2.2=0/\∃o e,r.1=o++[e]/\(∀t∈o,t.Kind=2->D5 t.Text)/\(D5 s->o = [⟨2,s,0⟩]))) ?_ ?_
 .refine D3 (fun (U,M)=>∃i:Nat,U=i/\i<=s.size/\M.length<=i/\(∀t∈M,t.Kind=2->D5 t.Text)/\(D5 s->(i=0/\M = [])\/(i=s.size/\M = [⟨2,s,0⟩])))
   (fun (U,_)=>s.size-U.toNat)
   (fun z=>match z with | .inr o=>o.length<=16384/\(∀t∈o,t.Kind=2->D5 t.Text)/\(D5 s->o = [⟨2,s,0⟩]) | .inl (_,_,e)=>e≠0/\¬D5 s)
   ⟨0,rfl,by omega,by simp,by simp,fun _=>.inl ⟨rfl,rfl⟩⟩ ?_ ?_
  .rintro ⟨v,o⟩ ⟨i,rfl,hi,ho,hk,hu⟩
   rcases Nat.lt_or_ge i s.size with h | h
   .obtain ⟨c,E,D⟩:=Gp (s:=s) (i:=(i:Int)) rfl h
    have B:D5 s->i=0/\o = []:=fun u=>by
     rcases hu u with h' | h'
     .exact h'
     .omega
    have f:∀j:Nat,i<=j->j<=s.size->Ac ((i:Int)+((j:Int)-(i:Int)))=(j:Int):=fun j _ _=>by rw [Ac,Bp] <;> omega
    have a6:(bif bI s i==9 then some true else bif bI s i==10 then some true else bif bI s i==13 then some true else some (bI s i==32))=some (bI s i==9||bI s i==10||bI s i==13||bI s i==32):=by
     cases bI s i==9 <;> cases bI s i==10 <;> cases bI s i==13 <;> rfl
    have hw:(bif loI (bI s i) then some true else some (upI (bI s i)))=some (loI (bI s i)||upI (bI s i)):=by cases loI (bI s i) <;> rfl
    simp only [Aj (by omega:(i:Int)<(s.size:Int)),cond_true,E,Ad,D,a6,Asy,Asz,As0,hw]
    cases a6:(bI s i==9||bI s i==10||bI s i==13||bI s i==32) with
    | true=>
     have k:¬D5 s:=by
      intro u
      have h0:=(B u).1
      subst h0
      have:=u.2.2.1
      simp only [upI,Ce,decide_eq_true_eq] at this
      simp only [Bool.or_eq_true,beq_iff_eq] at a6
      omega
     exact .inl ⟨(((i+1:Nat):Int),o),by simp only [cond_true]; rw [C5 h (by omega)],⟨i+1,rfl,by omega,(by show o.length<=i+1; omega),hk,fun u=>(k u).elim⟩,by simp; omega⟩
    | false=>
     simp only [cond_false]
     cases Y:(bI s i==35) with
     | true=>
      have k:¬D5 s:=by
       intro u
       have h0:=(B u).1
       subst h0
       have:=u.2.2.1
       simp only [upI,Ce,decide_eq_true_eq] at this
       simp only [beq_iff_eq] at Y
       omega
      simp only [cond_true]
      obtain ⟨n,n1,J,n3,n4,I⟩:=Sb (step:=fun G:Int=>bif (decide (G<(s.size:Int))) then ((Ee s G).bind fun ak=>bif ((ak.toNat:Int) != (10:Int)) then some (.inl (Ac (G+1))) else some (.inr G)) else some (.inr G))
       s (fun c=>c != 10) (fun j=>(j:Int)) (fun j=>(j:Int)) 0 (fun j _ hj hp=>by
        obtain ⟨c,E,D⟩:=Gp (s:=s) (i:=(j:Int)) rfl hj
        simp only [Aj (by omega:(j:Int)<(s.size:Int)),cond_true,E,Ad,D,hp,C5 hj (by omega)]) (fun j _ hj hp=>by
        obtain ⟨c,E,D⟩:=Gp (s:=s) (i:=(j:Int)) rfl hj
        simp only [Aj (by omega:(j:Int)<(s.size:Int)),cond_true,E,Ad,D,hp,cond_false]) (by simp) (s.size-i) i (by omega) (by omega)
      have am:i<n:=by
       rcases Nat.lt_or_ge i n with h' | h'
       .exact h'
       .have:n=i:=by omega
        subst this
        have:=n4 h
        simp only [beq_iff_eq] at Y
        rw [Y] at this; cases this
      have I:Ak _ (i:Int)=_:=I
      rw [I,Ad]
      exact .inl ⟨((n:Int),o),rfl,⟨n,rfl,by omega,(by show o.length<=n; omega),hk,fun u=>(k u).elim⟩,by simp; omega⟩
     | false=>
      simp only [cond_false]
      cases Z:(loI (bI s i)||upI (bI s i)) with
      | true=>
       simp only [cond_true]
       obtain ⟨n,n1,J,n3,n4,I⟩:=Sb (step:=fun g:Int=>bif (decide ((Ac ((i:Int)+g))<(s.size:Int))) then ((Ee s (Ac ((i:Int)+g))).bind fun aj=>(some (loI (aj.toNat:Int))).bind fun ac=>
         bif ac then some (.inl (Ac (g+1))) else ((Ee s (Ac ((i:Int)+g))).bind fun ai=>(some (upI (ai.toNat:Int))).bind fun ab=>bif ab then some (.inl (Ac (g+1))) else
         ((Ee s (Ac ((i:Int)+g))).bind fun ah=>(some (diI (ah.toNat:Int))).bind fun aa=>bif aa then some (.inl (Ac (g+1))) else ((Ee s (Ac ((i:Int)+g))).bind fun ag=>bif ((ag.toNat:Int)==(95:Int)) then some (.inl (Ac (g+1))) else some (.inr g))))) else some (.inr g))
        s wiI (fun j=>(j:Int)-(i:Int)) (fun j=>(j:Int)-(i:Int)) i (fun j A hj hp=>by
         obtain ⟨c,E,D⟩:=Gp (s:=s) (i:=(j:Int)) rfl hj
         have e1:Ac ((j:Int)-(i:Int)+1)=((j+1:Nat):Int)-(i:Int):=by rw [Ac,Bp] <;> omega
         simp only [f j A (by omega),Aj (by omega:(j:Int)<(s.size:Int)),cond_true,E,Ad,D,e1]
         unfold wiI at hp
         revert hp
         cases loI (bI s j) <;> cases upI (bI s j) <;> cases diI (bI s j) <;> cases (bI s j==95) <;> simp) (fun j A hj hp=>by
         obtain ⟨c,E,D⟩:=Gp (s:=s) (i:=(j:Int)) rfl hj
         simp only [f j A (by omega),Aj (by omega:(j:Int)<(s.size:Int)),cond_true,E,Ad,D]
         unfold wiI at hp
         revert hp
         cases loI (bI s j) <;> cases upI (bI s j) <;> cases diI (bI s j) <;> cases (bI s j==95) <;> simp) (by
         simp only [f s.size hi (by omega)]; simp) (s.size-(i+1)) (i+1) (by omega) (by omega)
       have e0:((i+1:Nat):Int)-(i:Int)=1:=by omega
       simp only [e0] at I
       simp only [Ad] at I
       rw [I,Ad]
       have q:Dd s (i:Int) (Ac ((i:Int)+((n:Int)-(i:Int))))=some (s.extract i n):=by rw [f n (by omega) J]; exact La rfl rfl (by omega) J
       have a7:(s.extract i n).size=n-i:=by rw [ByteArray.size_extract]; omega
       have a8:∀j,i<=j->j<n->wiI (bI s j)=true:=fun j a1 a2=>by
        rcases Nat.lt_or_ge i j with h' | h'
        .exact n3 j h' a2
        .have:j=i:=by omega
         subst this; unfold wiI; rw [Z]; rfl
       have L:D5 s->n=s.size:=by
        intro u
        rcases Nat.lt_or_ge n s.size with h' | h'
        .have:=n4 h'
         rw [u.2.2.2 _ h'] at this; cases this
        .omega
       by_cases ao:n-i<=24
       .rw [Am (by omega)]
        simp only [cond_false]
        cases X:upI (bI s i) with
        | true=>
         simp only [cond_true,Ad,q]
         rw [C4 (by simp; omega),Ad,f n (by omega) J]
         refine .inl ⟨_,rfl,⟨n,rfl,J,by simp; omega,?_,?_⟩,by simp; omega⟩
         .intro t ht
          rcases List.mem_append.1 ht with h' | h'
          .exact hk t h'
          .simp only [List.mem_singleton] at h'
           subst h'
           intro _
           refine ⟨?_,?_,?_,?_⟩
           .show 1<=(s.extract i n).size; omega
           .show (s.extract i n).size<=24; omega
           .show upI (bI (s.extract i n) 0)=true
            rw [Pj (by omega) (by omega)]; exact X
           .show ∀j,j<(s.extract i n).size->wiI (bI (s.extract i n) j)=true
            intro j hj
            rw [Pj (by omega) (by omega)]
            exact a8 _ (by omega) (by omega)
         .intro u
          obtain ⟨b1,b2⟩:=B u
          have hf:=L u
          subst b1; subst b2; subst hf
          rw [ByteArray.extract_zero_size]
          exact .inr ⟨rfl,rfl⟩
        | false=>
         obtain ⟨b,hb,_⟩:=As8 (s.extract i n)
         have k:¬D5 s:=by
          intro u
          have h0:=(B u).1
          subst h0
          rw [u.2.2.1] at X; cases X
         have ae:∃V:Int,(bif b then some 4 else some 1:Option Int)=some V/\V≠2:=by cases b <;> exact ⟨_,rfl,by decide⟩
         obtain ⟨V,k1,k2⟩:=ae
         simp only [cond_false,Ad,q,hb,k1]
         rw [C4 (by simp; omega),Ad,f n (by omega) J]
         refine .inl ⟨_,rfl,⟨n,rfl,J,by simp; omega,?_,fun u=>(k u).elim⟩,by simp; omega⟩
         intro t ht
         rcases List.mem_append.1 ht with h' | h'
         .exact hk t h'
         .simp only [List.mem_singleton] at h'
          subst h'
          intro h'; exact absurd h' k2
       .rw [Aj (by omega)]
        refine .inr ⟨_,rfl,(by show (9:Int)≠0; decide),fun u=>?_⟩
        have:=L u
        have:=u.2.1
        have:=(B u).1
        omega
      | false=>
       have k:¬D5 s:=by
        intro u
        have h0:=(B u).1
        subst h0
        rw [u.2.2.1,Bool.or_true] at Z; cases Z
       have R:∀(n:Nat) (V:Int),i<n->n<=s.size->V≠2->∃s':Int×List Ii,(Bl 32 o [(Ii.mk V (s.extract i n) i)]).bind (fun ad=>(some (Sum.inl ((n:Int),ad)):Option ((Int×List Ii)⊕((List Ii×Int×Int)⊕List Ii))))=some (.inl s') /\
         (∃j:Nat,s'.1=j/\j<=s.size/\s'.2.length<=j/\(∀t∈s'.2,t.Kind=2->D5 t.Text)/\(D5 s->(j=0/\s'.2 = [])\/(j=s.size/\s'.2 = [⟨2,s,0⟩])))/\s.size-s'.1.toNat<s.size-i:=by
        intro n V a1 a2 a3
        rw [C4 (by simp; omega),Ad]
        refine ⟨_,rfl,⟨n,rfl,a2,by simp; omega,?_,fun u=>(k u).elim⟩,by simp; omega⟩
        intro t ht
        rcases List.mem_append.1 ht with h' | h'
        .exact hk t h'
        .simp only [List.mem_singleton] at h'
         subst h'
         intro h'; exact absurd h' a3
       simp only [cond_false]
       cases hd:diI (bI s i) with
       | true=>
        simp only [cond_true]
        obtain ⟨n,n1,J,n3,n4,I⟩:=Sb (step:=fun v85:Int=>bif (decide ((Ac ((i:Int)+v85))<(s.size:Int))) then ((Ee s (Ac ((i:Int)+v85))).bind fun af=>(some (diI (af.toNat:Int))).bind fun v87=>
          bif v87 then some (.inl (Ac (v85+1))) else some (.inr v85)) else some (.inr v85))
         s diI (fun j=>(j:Int)-(i:Int)) (fun j=>(j:Int)-(i:Int)) i (fun j A hj hp=>by
          obtain ⟨c,E,D⟩:=Gp (s:=s) (i:=(j:Int)) rfl hj
          have e1:Ac ((j:Int)-(i:Int)+1)=((j+1:Nat):Int)-(i:Int):=by rw [Ac,Bp] <;> omega
          simp only [f j A (by omega),Aj (by omega:(j:Int)<(s.size:Int)),cond_true,E,Ad,D,e1,hp]) (fun j A hj hp=>by
          obtain ⟨c,E,D⟩:=Gp (s:=s) (i:=(j:Int)) rfl hj
          simp only [f j A (by omega),Aj (by omega:(j:Int)<(s.size:Int)),cond_true,E,Ad,D,hp,cond_false]) (by
          simp only [f s.size hi (by omega)]; simp) (s.size-(i+1)) (i+1) (by omega) (by omega)
        have e0:((i+1:Nat):Int)-(i:Int)=1:=by omega
        simp only [e0] at I
        simp only [Ad] at I
        rw [I,Ad]
        have q:Dd s (i:Int) (n:Int)=some (s.extract i n):=La rfl rfl (by omega) J
        have a7:(s.extract i n).size=n-i:=by rw [ByteArray.size_extract]; omega
        obtain ⟨b,hb,_⟩:=Atb (s.extract i n) (by omega)
        obtain ⟨b',hb'⟩:∃b':Bool,(bif decide ((n:Int)-(i:Int)>1) then some (bI s i==48) else some false)=some b':=by cases decide ((n:Int)-(i:Int)>1) <;> exact ⟨_,rfl⟩
        simp only [hb',Ad,q,hb,f n (by omega) J]
        cases b' with
        | true=>exact .inr ⟨_,rfl,(by show (2:Int)≠0; decide),k⟩
        | false=>
         simp only [cond_false]
         cases b.2 with
         | true=>exact .inl (R n 3 (by omega) J (by decide))
         | false=>exact .inr ⟨_,rfl,(by show (9:Int)≠0; decide),k⟩
       | false=>
        have q:Dd s (i:Int) (s.size:Int)=some (s.extract i s.size):=La rfl rfl (by omega) (by omega)
        have a7:(s.extract i s.size).size=s.size-i:=by rw [ByteArray.size_extract]; omega
        obtain ⟨r,r1,r2⟩:=Ata (s.extract i s.size) (by omega)
        simp only [cond_false,q,Ad,r1]
        by_cases h0:r=0
        .subst h0
         exact .inr ⟨_,rfl,(by show (2:Int)≠0; decide),k⟩
        .simp only [Bg h0,cond_false]
         obtain ⟨m,hm⟩:∃m:Nat,r=m:=⟨r.toNat,by omega⟩
         subst hm
         have e1:Ac ((i:Int)+(m:Int))=((i+m:Nat):Int):=by rw [Ac,Bp] <;> omega
         rw [e1,La (s:=s) (lo:=(i:Int)) (hi:=((i+m:Nat):Int)) rfl rfl (by omega) (by omega),Ad]
         exact .inl (R (i+m) 5 (by omega) (by omega) (by decide))
   .have:i=s.size:=by omega
    subst this
    refine .inr ⟨.inr o,by simp,by omega,hk,fun u=>?_⟩
    rcases hu u with ⟨h',_⟩ | ⟨_,h'⟩
    .have:=u.1; omega
    .exact h'
  .rintro (⟨l,p,e⟩ | o) hz
   .exact ⟨_,rfl,.inl hz⟩
   .obtain ⟨z1,z2,z3⟩:=hz
    simp only
    rw [C4 (by simp; omega),Ad]
    exact ⟨_,rfl,.inr ⟨rfl,o,_,rfl,z2,z3⟩⟩
 .rintro ⟨l,p,e⟩ (⟨h1,h2⟩ | ⟨h1,o,t,h2,h3,S⟩)
  .simp only at h1
   simp only [Bg h1,cond_false]
   exact ⟨_,rfl,by simp [h2]⟩
  .simp only at h1 h2
   subst h1; subst h2
   simp only [beq_self_eq_true,cond_true]
   match o,h3,S with
   | [],_,S=>exact ⟨false,by simp,by simp; intro u; cases S u⟩
   | [x],h3,S=>
    have e0:Ae ([x]++[t]) 0=some x:=rfl
    simp only [e0,Ad,Y5]
    have e1:((([x]++[t]).length:Int)==2)=true:=rfl
    simp only [e1,cond_true]
    by_cases hx:x.Kind=2
    .simp only [B0 hx,cond_true]
     refine ⟨_,rfl,?_⟩
     rw [decide_eq_true_iff]
     constructor
     .intro h; rw [<-h]; exact h3 x (by simp) hx
     .intro u; have:=S u; simp at this; rw [this]
    .simp only [Bg hx,cond_false]
     refine ⟨_,rfl,?_⟩
     simp only [Bool.false_eq_true,false_iff]
     intro u; have:=S u; simp at this; rw [this] at hx; exact hx rfl
   | x::y::ys,_,S=>
    refine ⟨false,?_,by simp; intro u; have:=S u; simp at this⟩
    rw [Bg]
    .rfl
    .simp; omega
end Go.Ab
namespace Go.Ab
open Go
def Pk (data:List Al) (d:Nat) (v:Int) (y:I1):Prop:=D5 y.Name/\y.Args.length<=6/\y.Args.all (Hk data d v)=true
def Np (data:List Al) (d:Nat) (x:Al):Prop:=0<=x.Vars/\x.Vars<=6/\1<=x.Cons.length/\x.Cons.length<=8/\D5 x.Name/\∀y∈x.Cons,Pk data d x.Vars y
def E8 (x:Al):List ByteArray:=x.Cons.map (·.Name)
def F3 (data:List Al):Prop:=data.length<=12/\(∀d x,data[d]? = some x->Np data d x)/\(data.map (·.Name)).Nodup/\(data.flatMap E8).Nodup
structure DSz (data:List Al):Prop where
 len:data.length<=1048576
 sz:SzD data
 nm:∀x∈data,x.Name.size<=1048576
 cn:∀x∈data,∀y∈x.Cons,y.Name.size<=1048576
theorem Adt (a b:ByteArray):(a==b)=true↔a=b:=by
 constructor
 .intro h
  cases a with | mk a=>cases b with | mk b=>
  have:a=b:=by exact eq_of_beq h
  rw [this]
 .rintro rfl
  cases a with | mk a=>exact beq_self_eq_true a
def Ir (o:List (ByteArray×Bool)) (L:List ByteArray):Prop:=(∀p∈o,p.2=true)/\∀s,Fb o s=true↔s∈L
theorem Ir.nil:Ir [] []:=⟨by simp,by simp [Fb]⟩
theorem Ir.get {o:List (ByteArray×Bool)} {L:List ByteArray} (h:Ir o L) {s:ByteArray} (b:Fb o s=true):H9 o s false=true:=by
 unfold H9
 unfold Fb at b
 rw [List.any_eq_true] at b
 obtain ⟨p,f,c⟩:=b
 cases hf:o.find? (fun p=>s==p.1) with
 | none=>exact absurd c (by have:=List.find?_eq_none.1 hf p f; simpa using this)
 | some q=>exact h.1 q (List.mem_of_find?_eq_some hf)
theorem Atc (o:List (ByteArray×Bool)) (s t:ByteArray) (v:Bool):Fb (Fc o s v) t=(Fb o t||t==s):=by
 induction o with
 | nil=>simp [Fc,Fb]
 | cons p o ih=>
  unfold Fc
  cases hp:(s==p.1) with
  | true=>
   have:s=p.1:=(Adt _ _).1 hp
   subst this
   simp only [cond_true,Fb,List.any_cons]
   cases t==p.1 <;> simp
  | false=>
   simp only [Fb,List.any_cons] at ih ⊢
   simp only [cond_false,List.any_cons,ih,Bool.or_assoc]
theorem Ir.put {o:List (ByteArray×Bool)} {L:List ByteArray} (h:Ir o L) (s:ByteArray):Ir (Fc o s true) (L++[s]):=by
 refine ⟨?_,fun t=>?_⟩
 .have:∀o:List (ByteArray×Bool),(∀p∈o,p.2=true)->∀p∈Fc o s true,p.2=true:=by
   intro o
   induction o with
   | nil=>intro _ p hp; simp [Fc] at hp; rw [hp]
   | cons q o ih=>
    intro b p hp
    unfold Fc at hp
    cases hq:(s==q.1) with
    | true=>
     rw [hq] at hp
     simp only [cond_true,List.mem_cons] at hp
     rcases hp with rfl | hp
     .rfl
     .exact b p (by simp [hp])
    | false=>
     rw [hq] at hp
     simp only [cond_false,List.mem_cons] at hp
     rcases hp with rfl | hp
     .exact b _ (by simp)
     .exact ih (fun p hp=>b p (by simp [hp])) p hp
  exact this o h.1
 .rw [Atc,Bool.or_eq_true,h.2 t,Adt]; simp
theorem Atd (x:Al) {c:Nat} {y:I1} (hy:x.Cons[c]? = some y):E8 x=(x.Cons.take c).map (·.Name)++y.Name::(x.Cons.drop (c+1)).map (·.Name):=by
 have h:=List.take_append_drop c x.Cons
 have hc:=Dh hy
 have e:x.Cons.drop c=y::x.Cons.drop (c+1):=by
  rw [List.drop_eq_getElem_cons hc]
  rw [Bj hc] at hy
  rw [Option.some.inj hy]
 unfold E8
 conv=>lhs; rw [<-h,e]
 simp
theorem Ajt {L m:List ByteArray} {s:ByteArray} (h:(L++s::m).Nodup):s ∉ L:=by
 rw [List.nodup_append] at h
 intro b
 exact h.2.2 s b s (by simp) rfl
theorem Adu {L:List ByteArray} {s:ByteArray} (h:L.Nodup) (c:s ∉ L):(L++[s]).Nodup:=by
 rw [List.nodup_append]
 refine ⟨h,by simp,?_⟩
 intro a ha b hb
 simp at hb; subst hb
 intro e; subst e; exact c ha
theorem Ate {data:List Al} (s:DSz data) {d:Nat} {x:Al} (hx:data[d]? = some x) (J:x.Vars<=6) (o:List (ByteArray×Bool)) (L:List ByteArray) (M:Ir o L) (R:L.Nodup) :
  ∃z,Ak (S:=(Int×(List (ByteArray×Bool)))) (E:=(Bool⊕(Int×(List (ByteArray×Bool))))) (fun (f,g)=>
    bif (decide (f<(x.Cons.length:Int))) then (
    (Ae x.Cons f).bind fun i=>
    (O2 i.Name).bind fun B=>
    bif (!B) then some (.inr (.inl false))
    else (
    bif (Fb g i.Name) then (
    bif (H9 g i.Name (false:Bool)) then some (.inr (.inl false))
    else (
    (M9 data d f).bind fun A=>
    bif (!A) then some (.inr (.inl false))
    else some (.inl ((Ac (f+1)),(Fc g i.Name true)))))
    else (
    (M9 data d f).bind fun u=>
    bif (!u) then some (.inr (.inl false))
    else some (.inl ((Ac (f+1)),(Fc g i.Name true))))))
    else some (.inr (.inr (f,g)))) (0,o)=some z /\
   match z with
   | .inl r=>r=false/\¬((∀y∈x.Cons,Pk data d x.Vars y)/\(L++E8 x).Nodup)
   | .inr (_,o')=>(∀y∈x.Cons,Pk data d x.Vars y)/\(L++E8 x).Nodup/\Ir o' (L++E8 x):=by
 have hxm:=Bi hx
 have N:=(s.sz x hxm).1
 refine Qj (fun (f,g)=>∃c:Nat,f=c/\c<=x.Cons.length/\(∀y∈x.Cons.take c,Pk data d x.Vars y)/\(L++(x.Cons.take c).map (·.Name)).Nodup/\Ir g (L++(x.Cons.take c).map (·.Name)))
  (fun (f,_)=>x.Cons.length-f.toNat) _ ?_ _ ⟨0,rfl,by omega,by simp,by simpa using R,by simpa using M⟩
 rintro ⟨v,g⟩ ⟨c,rfl,hc,h1,h2,h3⟩
 rcases Nat.lt_or_ge c x.Cons.length with h | h
 .have hy:x.Cons[c]? = some x.Cons[c]:=Bj h
  generalize x.Cons[c]=y at hy
  have l:=Bi hy
  obtain ⟨b,b1,b2⟩:=Ajr y.Name (by have:=s.cn x hxm y l; omega)
  have ht:=Cw hy
  have G:L++E8 x=(L++(x.Cons.take c).map (·.Name))++y.Name::(x.Cons.drop (c+1)).map (·.Name):=by rw [Atd x hy]; simp
  simp only [Aj (by omega:(c:Int)<(x.Cons.length:Int)),cond_true,Bn rfl hy,Ad,b1,Asx s.sz d c hx hy J s.len,C5 h (by omega)]
  cases b with
  | false=>
   refine .inr ⟨.inl false,rfl,rfl,fun hh=>?_⟩
   have:=b2.2 (hh.1 y l).1; cases this
  | true=>
   simp only [Cu,cond_false]
   cases k:Fb g y.Name with
   | true=>
    simp only [cond_true,h3.get k]
    refine .inr ⟨.inl false,rfl,rfl,fun hh=>?_⟩
    rw [G] at hh
    exact Ajt hh.2 ((h3.2 _).1 k)
   | false=>
    simp only [cond_false]
    cases j:(decide (y.Args.length<=6)&&y.Args.all (Hk data d x.Vars)) with
    | false=>
     refine .inr ⟨.inl false,rfl,rfl,fun hh=>?_⟩
     have:=hh.1 y l
     rw [this.2.2,Aj this.2.1] at j; cases j
    | true=>
     simp only [Ce,decide_eq_true_eq] at j
     have D:y.Name ∉ L++(x.Cons.take c).map (·.Name):=fun hh=>by rw [(h3.2 _).2 hh] at k; cases k
     have e:L++(x.Cons.take (c+1)).map (·.Name)=(L++(x.Cons.take c).map (·.Name))++[y.Name]:=by rw [ht]; simp
     refine .inl ⟨_,rfl,⟨c+1,rfl,by omega,?_,?_,?_⟩,by simp; omega⟩
     .intro I q
      rw [ht] at q
      rcases List.mem_append.1 q with h' | h'
      .exact h1 I h'
      .simp at h'; subst h'; exact ⟨b2.1 rfl,j.1,j.2⟩
     .rw [e]; exact Adu h2 D
     .rw [e]; exact h3.put _
 .have:c=x.Cons.length:=by omega
  subst this
  rw [List.take_length] at h1 h2 h3
  exact .inr ⟨.inr ((x.Cons.length:Int),g),by simp,h1,h2,h3⟩
theorem Atf {data:List Al} {d:Nat} {x:Al} (hx:data[d]? = some x):data.flatMap E8=((data.take d).flatMap E8++E8 x)++(data.drop (d+1)).flatMap E8/\data.map (·.Name)=(data.take d).map (·.Name)++x.Name::(data.drop (d+1)).map (·.Name):=by
 have h:=List.take_append_drop d data
 have hc:=Dh hx
 have e:data.drop d=x::data.drop (d+1):=by
  rw [List.drop_eq_getElem_cons hc]
  rw [Bj hc] at hx
  rw [Option.some.inj hx]
 constructor
 .conv=>lhs; rw [<-h,e]
  simp [List.flatMap_append]
 .conv=>lhs; rw [<-h,e]
  simp
theorem Atg {data:List Al} (i:DSz data):∃b,T3 data=some b/\(b=true↔F3 data):=by
 have E:=i.len
 unfold T3
 rcases Nat.lt_or_ge 12 data.length with h12 | h12
 .rw [Aj (by omega)]
  exact ⟨false,rfl,by simp; intro h; have:=h.1; omega⟩
 rw [Am (by omega)]
 simp only [cond_false]
 refine D3 (fun (v31,c,f)=>∃d:Nat,v31=d/\d<=data.length/\(∀j x,j<d->data[j]? = some x->Np data j x)/\((data.take d).map (·.Name)).Nodup/\((data.take d).flatMap E8).Nodup/\Ir c ((data.take d).map (·.Name))/\Ir f ((data.take d).flatMap E8))
  (fun (v31,_,_)=>data.length-v31.toNat) (fun z=>match z with | .inl r=>r=false/\¬F3 data | .inr _=>F3 data) ⟨0,rfl,by omega,by intro j x h; omega,by simp,by simp,by simpa using Ir.nil,by simpa using Ir.nil⟩ ?_ ?_
 .rintro ⟨v,c,f⟩ ⟨d,rfl,hd,h1,h2,h3,A,V⟩
  rcases Nat.lt_or_ge d data.length with h | h
  .have hx:data[d]? = some data[d]:=Bj h
   generalize data[d]=x at hx
   have hxm:=Bi hx
   obtain ⟨b,b1,b2⟩:=Ajr x.Name (by have:=i.nm x hxm; omega)
   obtain ⟨f1,f2⟩:=Atf hx
   simp only [Aj (by omega:(d:Int)<(data.length:Int)),cond_true,Bn rfl hx,Ad,b1]
   have bad:∀(u:¬Np data d x),∃e:Bool⊕((List (ByteArray×Bool))×(List (ByteArray×Bool))),(some (Sum.inr (Sum.inl false)):Option ((Int×(List (ByteArray×Bool))×(List (ByteArray×Bool)))⊕(Bool⊕((List (ByteArray×Bool))×(List (ByteArray×Bool))))))=some (.inr e)/\(match e with | .inl r=>r=false/\¬F3 data | .inr _=>F3 data) :=
    fun u=>⟨.inl false,rfl,rfl,fun hh=>u (hh.2.1 d x hx)⟩
   cases b with
   | false=>
    exact .inr (bad fun hh=>by have:=b2.2 hh.2.2.2.2.1; cases this)
   | true=>
    simp only [Cu,cond_false]
    cases g:Fb c x.Name with
    | true=>
     simp only [cond_true,A.get g,Ad]
     refine .inr ⟨.inl false,rfl,rfl,fun hh=>?_⟩
     have:=hh.2.2.1
     rw [f2] at this
     exact Ajt this ((A.2 _).1 g)
    | false=>
     simp only [cond_false]
     by_cases l:x.Vars<0
     .simp only [Aj l,cond_true,Ad]
      exact .inr (bad fun hh=>by have:=hh.1; omega)
     by_cases s:x.Vars>6
     .simp only [Am l,Aj s,cond_true,cond_false,Ad]
      exact .inr (bad fun hh=>by have:=hh.2.1; omega)
     simp only [Am l,Am s,cond_false,Ad]
     by_cases q:(x.Cons.length:Int)<1
     .simp only [Aj q,cond_true,Ad]
      exact .inr (bad fun hh=>by have:=hh.2.2.1; omega)
     by_cases y:(x.Cons.length:Int)>8
     .simp only [Am q,Aj y,cond_true,cond_false,Ad]
      exact .inr (bad fun hh=>by have:=hh.2.2.2.1; omega)
     simp only [Am q,Am y,cond_false,Ad]
     obtain ⟨z,J,z2⟩:=Ate i hx (by omega) f _ V h3
     rw [J,Ad]
     match z,z2 with
     | .inl r,z2=>
      obtain ⟨rfl,z2⟩:=z2
      refine .inr ⟨.inl false,rfl,rfl,fun hh=>z2 ⟨(hh.2.1 d x hx).2.2.2.2.2,?_⟩⟩
      have:=hh.2.2.2
      rw [f1] at this
      exact (List.nodup_append.1 this).1
     | .inr (S,B),z2=>
      obtain ⟨N,M,L⟩:=z2
      have ht:=Cw hx
      have D:x.Name ∉ (data.take d).map (·.Name):=fun hh=>by rw [(A.2 _).2 hh] at g; cases g
      have I:(data.take (d+1)).map (·.Name)=(data.take d).map (·.Name)++[x.Name]:=by rw [ht]; simp
      have G:(data.take (d+1)).flatMap E8=(data.take d).flatMap E8++E8 x:=by rw [ht]; simp [List.flatMap_append]
      refine .inl ⟨(((d+1:Nat):Int),Fc c x.Name true,B),by simp only [C5 h (by omega)],⟨d+1,rfl,by omega,?_,?_,?_,?_,?_⟩,by simp; omega⟩
      .intro j R U k
       rcases Nat.lt_or_ge j d with h' | h'
       .exact h1 j R h' k
       .have:j=d:=by omega
        subst this
        rw [hx] at k; cases k
        exact ⟨by omega,by omega,by omega,by omega,b2.1 rfl,N⟩
      .rw [I]; exact Adu h2 D
      .rw [G]; exact M
      .rw [I]; exact A.put _
      .rw [G]; exact L
  .have:d=data.length:=by omega
   subst this
   rw [List.take_length] at h2 h3
   exact .inr ⟨.inr (c,f),by simp,h12,fun d x hx=>h1 d x (Dh hx) hx,h2,h3⟩
 .rintro (r | ⟨o,o'⟩) i
  .obtain ⟨rfl,i⟩:=i
   exact ⟨false,rfl,by simp [i]⟩
  .exact ⟨true,rfl,by simpa using i⟩
theorem Vi {data:List Al} (c:DSz data):∃b,Oo data=some b/\(b=true↔F3 data):=by
 obtain ⟨b,h1,h2⟩:=Atg c
 refine ⟨b,?_,h2⟩
 unfold Oo
 rw [h1,Ad]
 cases b with
 | false=>rfl
 | true=>rfl
end Go.Ab
