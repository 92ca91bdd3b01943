/- Plain laws: what the plain functions answer. -/
import Derived.Test.YtpedagkdpokpkaaGreatDoorAkPl0
import Derived.Lib.ItoaLen
import Derived.KernelRfl
namespace Go.Ab
open Go Ieee
theorem Ami (n d:Nat):∃c,Toward.even.cut false n d=c/\(n / 2 ^ d<=c)/\c<=n / 2 ^ d+1/\(n % 2 ^ d=0->c=n / 2 ^ d):=by
 refine ⟨_,rfl,?_⟩
 unfold Toward.cut
 simp only [Nat.shiftLeft_eq,Nat.one_mul]
 by_cases hd:d<=n.log2+2
 .rw [Nat.min_eq_left hd]
  generalize h2:2 ^ d=g
  have h:0<g:=by rw [<-h2]; exact Nat.pow_pos (by decide)
  refine ⟨by omega,?_,fun h0=>?_⟩
  .have:=Bool.toNat_le (decide (g<2*(n % g))||(g==2*(n % g)&&n / g % 2==1))
   omega
  .rw [h0]
   have h1:decide (g<2*0)=false:=by simp
   have h3:(g==2*0)=false:=by simp; omega
   rw [h1,h3]; rfl
 .rw [Nat.min_eq_right (by omega)]
  have b:n<2 ^ (n.log2+1):=Nat.lt_log2_self
  have h:2 ^ (n.log2+2)=2*2 ^ (n.log2+1):=by rw [Nat.pow_succ]; omega
  have f:2 ^ (n.log2+2)<=2 ^ d:=Nat.pow_le_pow_right (by decide) (by omega)
  have l:n / 2 ^ (n.log2+2)=0:=Nat.div_eq_of_lt (by omega)
  have k:n % 2 ^ (n.log2+2)=n:=Nat.mod_eq_of_lt (by omega)
  have j:n / 2 ^ d=0:=Nat.div_eq_of_lt (by omega)
  have i:n % 2 ^ d=n:=Nat.mod_eq_of_lt (by omega)
  rw [l,k,j,i]
  have h1:decide (2 ^ (n.log2+2)<2*n)=false:=by simp; omega
  have h3:(2 ^ (n.log2+2)==2*n)=false:=by simp; omega
  rw [h1,h3]
  exact ⟨by simp,by simp,fun _=>rfl⟩
theorem Oa (f:Nat) (place e:Int) (u:f≠0) (E:place+f.log2=e) (h1 : -1000<=e) (h2:e<=900) :
  ∃(m:Nat) (p:Int),double.read (double.nearest false f place) = .number false m p/\4503599627370496<=m/\m<9007199254740992/\(p=e-52\/(p=e-51/\m=4503599627370496)):=by
 have g:max (place+f.log2-(double.fractionBits:Int)) double.leastPlace=e-52:=by
  have a:(double.fractionBits:Int)=52:=rfl
  have b:double.leastPlace = -1074:=by decide
  rw [a,b,E]; omega
 have hw:double.nearest false f place=min ((e-52+1074).toNat*4503599627370496+Toward.even.cut false (f <<< (place-(e-52)).toNat) ((e-52)-place).toNat) (2047*4503599627370496):=by
  unfold Format.nearest
  rw [if_neg u]
  simp only [g]
  have b:double.leastPlace = -1074:=by decide
  have c:double.binade=4503599627370496:=by decide
  have d:double.infRung=2047*4503599627370496:=by decide
  rw [b,c,d]
  unfold Format.word
  simp only [Bool.false_eq_true,if_false]
  congr 3
 have hk:4503599627370496<=Toward.even.cut false (f <<< (place-(e-52)).toNat) ((e-52)-place).toNat/\Toward.even.cut false (f <<< (place-(e-52)).toNat) ((e-52)-place).toNat<=9007199254740992:=by
  obtain ⟨c,hc,s,q,i⟩:=Ami (f <<< (place-(e-52)).toNat) ((e-52)-place).toNat
  rw [hc]
  have D:2 ^ f.log2<=f:=Nat.log2_self_le u
  have B:f<2 ^ (f.log2+1):=Nat.lt_log2_self
  rw [Nat.shiftLeft_eq] at s q i
  rcases Int.le_total place (e-52) with h | h
  .have z:(place-(e-52)).toNat=0:=by omega
   rw [z,Nat.pow_zero,Nat.mul_one] at s q i
   have hd:f.log2=52+((e-52)-place).toNat:=by omega
   have hp:2 ^ f.log2=4503599627370496*2 ^ ((e-52)-place).toNat:=by rw [hd,Nat.pow_add]
   have l:2 ^ (f.log2+1)=9007199254740992*2 ^ ((e-52)-place).toNat:=by rw [Nat.pow_succ,hp]; omega
   have hpos:0<2 ^ ((e-52)-place).toNat:=Nat.pow_pos (by decide)
   have a1:4503599627370496<=f / 2 ^ ((e-52)-place).toNat:=(Nat.le_div_iff_mul_le hpos).2 (by omega)
   have a2:f / 2 ^ ((e-52)-place).toNat<9007199254740992:=(Nat.div_lt_iff_lt_mul hpos).2 (by omega)
   omega
  .have z:((e-52)-place).toNat=0:=by omega
   rw [z,Nat.pow_zero,Nat.div_one] at s q i
   have I:=i (Nat.mod_one _)
   have hd:52=f.log2+(place-(e-52)).toNat:=by omega
   have hp:2 ^ f.log2*2 ^ (place-(e-52)).toNat=4503599627370496:=by rw [<-Nat.pow_add,<-hd]
   have l:2 ^ (f.log2+1)*2 ^ (place-(e-52)).toNat=9007199254740992:=by rw [Nat.pow_succ,Nat.mul_right_comm,hp]
   have hpos:0<2 ^ (place-(e-52)).toNat:=Nat.pow_pos (by decide)
   have a1:=Nat.mul_le_mul_right (2 ^ (place-(e-52)).toNat) D
   have a2:=Nat.mul_lt_mul_of_pos_right B hpos
   omega
 generalize Toward.even.cut false (f <<< (place-(e-52)).toNat) ((e-52)-place).toNat=c at *
 obtain ⟨t,ht⟩:∃t:Nat,(e-52+1074).toNat=t/\t<=1922/\(t:Int)=e+1022:=⟨_,rfl,by omega,by omega⟩
 rw [ht.1] at hw
 rw [Nat.min_eq_left (by omega)] at hw
 rw [hw]
 have b:double.leastPlace = -1074:=by decide
 have G:double.binade=4503599627370496:=by decide
 have d:double.infRung=2047*4503599627370496:=by decide
 have x:double.signWeight=9223372036854775808:=by decide
 unfold Format.read
 rw [b,G,d,x]
 have A:(t*4503599627370496+c) / 9223372036854775808=0:=Nat.div_eq_of_lt (by omega)
 have y:(t*4503599627370496+c) % 9223372036854775808=t*4503599627370496+c:=Nat.mod_eq_of_lt (by omega)
 simp only [A,y]
 rw [if_neg (by omega),if_pos (by omega)]
 by_cases hc:c<9007199254740992
 .refine ⟨c,e-52,?_,hk.1,hc,.inl rfl⟩
  have k:(t*4503599627370496+c) % 4503599627370496=c-4503599627370496:=by omega
  have j:(t*4503599627370496+c) / 4503599627370496=t+1:=by omega
  rw [k,j,show 4503599627370496+(c-4503599627370496)=c by omega,show (-1074:Int)+((t+1-1:Nat):Int)=e-52 by omega]; rfl
 .have hc:c=9007199254740992:=by omega
  subst hc
  refine ⟨4503599627370496,e-51,?_,by decide,by decide,.inr ⟨rfl,rfl⟩⟩
  have k:(t*4503599627370496+9007199254740992) % 4503599627370496=0:=by omega
  have j:(t*4503599627370496+9007199254740992) / 4503599627370496=t+2:=by omega
  rw [k,j,Nat.add_zero,show (-1074:Int)+((t+2-1:Nat):Int)=e-51 by omega]; rfl
theorem Zo (v:Int) (h:0<=v):floatOfInt .f64 v=double.nearest false v.natAbs 0:=by
 have e:decide (v<0)=false:=Bb (by omega)
 show double.nearest (decide (v<0)) v.natAbs 0=_
 rw [e]
theorem Amj:double.read 4876203697187506176 = .number false 7812500000000000 7:=by decide
theorem Uk {n k:Nat} (h1:2 ^ k<=n) (h2:n<2 ^ (k+1)):n.log2=k:=(Nat.log2_eq_iff (by have:=Nat.pow_pos (n:=k) (show 0<2 by decide); omega)).2 ⟨h1,h2⟩
theorem Qo {n k:Nat} (h:n<2 ^ (k+1)):n.log2<=k:=by
 by_cases h0:n=0
 .subst h0; simp
 .have:=(Nat.log2_lt h0).2 h; omega
theorem Zp {n k:Nat} (h:2 ^ k<=n):k<=n.log2:=(Nat.le_log2 (by have:=Nat.pow_pos (n:=k) (show 0<2 by decide); omega)).2 h
theorem Amk (x:Int) (h0:1<=x) (h1:x<1000000000):∃(w:Nat) (m:Nat) (p:Int),floatBits .mul .f64 (floatOfInt .f64 x) 4876203697187506176=some w/\double.read w = .number false m p/\4503599627370496<=m/\m<9007199254740992/\7<=p/\(p<=37\/(p=38/\m=4503599627370496)):=by
 have l:x.natAbs.log2<=29:=Qo (by simp; omega)
 obtain ⟨m1,b,g,a1,a2,a3⟩:=Oa x.natAbs 0 (x.natAbs.log2) (by omega) (by omega) (by omega) (by omega)
 have c:(m1*7812500000000000).log2=104\/((m1*7812500000000000).log2=105/\m1≠4503599627370496):=by
  have b1:2 ^ 104<=m1*7812500000000000:=by omega
  have b2:m1*7812500000000000<2 ^ 106:=by omega
  rcases Nat.lt_or_ge (m1*7812500000000000) (2 ^ 105) with h | h
  .exact .inl (Uk b1 h)
  .exact .inr ⟨Uk h b2,by rintro rfl; omega⟩
 obtain ⟨m2,i,f,k,j,q⟩:=Oa (m1*7812500000000000) (b+7) (b+7+(m1*7812500000000000).log2) (by omega) rfl (by omega) (by omega)
 refine ⟨double.nearest false (m1*7812500000000000) (b+7),m2,i,?_,f,k,j,by omega,by omega⟩
 show ((double.read (floatOfInt .f64 x)).product (double.read 4876203697187506176)).map double.write=_
 rw [Zo x (by omega),g,Amj]; rfl
theorem Aml (w:Nat) (m:Nat) (p:Int) (hw:double.read w = .number false m p) (M:4503599627370496<=m) (L:m<9007199254740992) (I:7<=p) (j:p<=37\/(p=38/\m=4503599627370496)) (y:Int) (h0:0<=y) (h1:y<1000000000000000000) :
  ∃(w':Nat) (g:Nat) (f:Int),floatBits .add .f64 w (floatOfInt .f64 y)=some w'/\double.read w' = .number false g f/\4503599627370496<=g/\g<9007199254740992/\7<=f/\f<=39:=by
 obtain ⟨c,b,x,V,U⟩:∃(c:Nat) (b:Int),double.read (floatOfInt .f64 y) = .number false c b/\b<=8/\c<9007199254740992/\-1074<=b:=by
  rw [Zo y h0]
  by_cases hy:y.natAbs=0
  .rw [hy]; exact ⟨0,-1074,by decide,by decide,by decide,by decide⟩
  .have Z:y.natAbs.log2<=59:=Qo (by simp; omega)
   obtain ⟨m1,D,A,a1,a2,a3⟩:=Oa y.natAbs 0 (y.natAbs.log2) hy (by omega) (by omega) (by omega)
   exact ⟨m1,D,A,by omega,a2,by omega⟩
 generalize hb:min p b=base
 have ht:∃T:Nat,signed false m (p-base).toNat+signed false c (b-base).toNat=(T:Int)/\T=m*2 ^ (p-base).toNat+c*2 ^ (b-base).toNat:=by
  refine ⟨m <<< (p-base).toNat+c <<< (b-base).toNat,rfl,by rw [Nat.shiftLeft_eq,Nat.shiftLeft_eq]⟩
 obtain ⟨T,t1,t2⟩:=ht
 have G:0<2 ^ (p-base).toNat:=Nat.pow_pos (by decide)
 have i:2 ^ (b-base).toNat<=2 ^ (8-base).toNat:=Nat.pow_le_pow_right (by decide) (by omega)
 have J:m*2 ^ (p-base).toNat<=2 ^ (90-base).toNat:=by
  rcases j with h | ⟨rfl,rfl⟩
  .have e:2 ^ (90-base).toNat=2 ^ (p-base).toNat*2 ^ (90-p).toNat:=by rw [<-Nat.pow_add]; congr 1; omega
   have e2:2 ^ 53<=2 ^ (90-p).toNat:=Nat.pow_le_pow_right (by decide) (by omega)
   rw [e,Nat.mul_comm]
   exact Nat.mul_le_mul_left _ (by omega)
  .have e:2 ^ (90-base).toNat=2 ^ (38-base).toNat*2 ^ 52:=by rw [<-Nat.pow_add]; congr 1; omega
   rw [e,Nat.mul_comm]; omega
 have E:c*2 ^ (b-base).toNat<2 ^ (90-base).toNat:=by
  have e:2 ^ (90-base).toNat=2 ^ (8-base).toNat*2 ^ 82:=by rw [<-Nat.pow_add]; congr 1; omega
  have e3:c*2 ^ (b-base).toNat<=c*2 ^ (8-base).toNat:=Nat.mul_le_mul_left _ i
  have N:0<2 ^ (8-base).toNat:=Nat.pow_pos (by decide)
  have e5:c*2 ^ (8-base).toNat<2 ^ 82*2 ^ (8-base).toNat:=Nat.mul_lt_mul_of_pos_right (by omega) N
  rw [e,Nat.mul_comm (2 ^ (8-base).toNat)]; omega
 have s:T<2 ^ ((90-base).toNat+1):=by rw [Nat.pow_succ]; omega
 have q:2 ^ (52+(p-base).toNat)<=T:=by
  have:2 ^ 52*2 ^ (p-base).toNat<=m*2 ^ (p-base).toNat:=Nat.mul_le_mul_right _ (by omega)
  rw [Nat.pow_add]; omega
 have Y:=Qo s
 have X:=Zp q
 have u:T≠0:=by
  have:=Nat.pow_pos (n:=52+(p-base).toNat) (show 0<2 by decide); omega
 obtain ⟨m3,B,z,S,R,c3⟩:=Oa T base (base+T.log2) u rfl (by omega) (by omega)
 refine ⟨double.nearest false T base,m3,B,?_,z,S,R,by omega,by omega⟩
 show ((double.read w).sum (double.read (floatOfInt .f64 y))).map double.write=_
 rw [hw,x]
 have l:¬((T:Int)=0):=by omega
 have k:decide ((T:Int)<0)=false:=Bb (by omega)
 simp only [Datum.sum,hb,t1,if_neg l,k,Option.map_some,Int.natAbs_natCast,Format.write]
theorem Amm {b m N:Nat} {p:Int} (g:double.read b = .number false m p) (i:(Datum.number false m p).toInt .zero=some (N:Int)) (h:N<=9223372036854775808):floatToIntVal .f64 b .u64=some (N:Int):=by
 have hd:FloatKind.f64.decode b = .number false m p:=g
 have f:IntKind.u64.min=0:=by decide
 have c:IntKind.u64.max=18446744073709551615:=by decide
 unfold floatToIntVal
 rw [hd,i]
 simp only [f,c]
 rw [if_pos ⟨by omega,by omega⟩]
theorem Amn (w:Nat) (m:Nat) (p:Int) (hw:double.read w = .number false m p) (R:4503599627370496<=m) (M:m<9007199254740992) (L:7<=p) (J:p<=39) (z:Int) (h0:1000000000<=z) (h1:z<1000000000000000000) :
  ∃(w':Nat) (n:Int),floatBits .quo .f64 w (floatOfInt .f64 z)=some w'/\floatToIntVal .f64 w' .u64=some n/\0<=n/\n<=9223372036854775808:=by
 have U:z.natAbs.log2<=59:=Qo (by simp; omega)
 have S:29<=z.natAbs.log2:=Zp (by simp; omega)
 obtain ⟨f,c,u,a1,a2,a3⟩:=Oa z.natAbs 0 (z.natAbs.log2) (by omega) (by omega) (by omega) (by omega)
 have D:m.log2=52:=Uk (by omega) (by omega)
 have y:f.log2=52:=Uk (by omega) (by omega)
 generalize hq:m*2 ^ 54 / f=q
 generalize l:((m*2 ^ 54 % f != 0).toNat)=s
 have E:s<=1:=by rw [<-l]; exact Bool.toNat_le _
 have I:q<2 ^ 55:=by rw [<-hq]; exact (Nat.div_lt_iff_lt_mul (by omega)).2 (by omega)
 have G:2 ^ 53<=q:=by rw [<-hq]; exact (Nat.le_div_iff_mul_le (by omega)).2 (by omega)
 have B:(2*q+s).log2<=55:=Qo (by omega)
 have A:54<=(2*q+s).log2:=Zp (by omega)
 obtain ⟨m4,b,x,Z,X,Y⟩:=Oa (2*q+s) (p-c-(54:Nat)-1) (p-c-(54:Nat)-1+(2*q+s).log2) (by omega) rfl (by omega) (by omega)
 have j:(Datum.number false m p).quotient (double.fractionBits+2) (Datum.number false f c)=some (.number false (2*q+s) (p-c-(54:Nat)-1)):=by
  have i:¬f=0:=by omega
  have fb:double.fractionBits+2=54:=rfl
  simp only [Datum.quotient,if_neg i,fb,D,y,Nat.shiftLeft_eq,Nat.add_sub_cancel,hq,l,Bool.xor_self]
 have hb:m4*2 ^ b.toNat<=9223372036854775808:=by
  have k:b<=10\/(b=11/\m4=4503599627370496):=by omega
  rcases k with h | ⟨rfl,rfl⟩
  .have:2 ^ b.toNat<=2 ^ 10:=Nat.pow_le_pow_right (by decide) (by omega)
   have:=Nat.mul_le_mul (Nat.le_of_lt X) this
   omega
  .decide
 obtain ⟨N,V,g⟩:∃N:Nat,(Datum.number false m4 b).toInt .zero=some (N:Int)/\N<=9223372036854775808:=by
  refine ⟨(m4 <<< b.toNat) / (1 <<< min (-b).toNat ((m4 <<< b.toNat).log2+2)),?_,?_⟩
  .simp only [Datum.toInt,Datum.integral,Toward.cut,signed,Bool.false_eq_true,if_false,Nat.shiftLeft_zero,Bool.toNat_false,Nat.add_zero]
  .rw [Nat.shiftLeft_eq m4]
   exact Nat.le_trans (Nat.div_le_self _ _) hb
 refine ⟨double.nearest false (2*q+s) (p-c-(54:Nat)-1),(N:Int),?_,?_,by omega,by omega⟩
 .have e:floatBits .quo .f64 w (floatOfInt .f64 z)=((double.read w).quotient (double.fractionBits+2) (double.read (floatOfInt .f64 z))).map double.write:=rfl
  rw [e,hw,Zo z (by omega),u,j]
  simp only [Option.map_some,Format.write]
 .exact Amm x V g
theorem Amo (r n:Nat) (h2:2<=Bc n) (E:Bc r<=Bc n+1) (G:Bc n<1099511627776):∃d:Nat,Py (Ad r) (Ad n)=some (d:Int)/\d<1000000000:=by
 unfold Py
 unfold Bc at h2 E G
 have c:n≠0:=by rintro rfl; rw [D1] at h2; simp at h2
 by_cases V:(Ad r).length<(Ad n).length
 .exact ⟨0,by rw [Ba (by omega)]; rfl,by decide⟩
 .rw [Bb (by omega),cond_false]
  have y:Ac (((Ad n).length:Int)-1)=(((Ad n).length-1:Nat):Int):=by rw [Ac,Cj] <;> omega
  have u:Ac (((Ad n).length:Int)-2)=(((Ad n).length-2:Nat):Int):=by rw [Ac,Cj] <;> omega
  have i1:(Ad n).length-1<(Ad n).length:=by omega
  have i2:(Ad n).length-2<(Ad n).length:=by omega
  have h:(Ad n).length-1<(Ad r).length:=by omega
  have g:(Ad n).length-2<(Ad r).length:=by omega
  have t1:=(Dd n).get i1
  have t2:=(Dd n).get i2
  have M:=(Dd r).get h
  have L:=(Dd r).get g
  have i:(Ad n)[(Ad n).length-1]≠0:=by
   have:=(T7 n).2 (Fr c)
   rwa [List.getLast_eq_getElem] at this
  rw [y,u,Cz rfl i1,Ag,Cz rfl i2,Ag,Cz rfl h,Ag,Cz rfl g,Ag]
  generalize (Ad n)[(Ad n).length-1]=a1 at *
  generalize (Ad n)[(Ad n).length-2]=a2 at *
  generalize (Ad r)[(Ad n).length-1]=b1 at *
  generalize (Ad r)[(Ad n).length-2]=b2 at *
  have l:As (As (As b1*1000000000)+As b2)=b1*1000000000+b2:=by
   rw [show As b1=b1 from Cm (by omega) (by omega),show As b2=b2 from Cm (by omega) (by omega),show As (b1*1000000000)=b1*1000000000 from Cm (by omega) (by omega)]
   exact Cm (by omega) (by omega)
  have j:As (As (As a1*1000000000)+As a2)=a1*1000000000+a2:=by
   rw [show As a1=a1 from Cm (by omega) (by omega),show As a2=a2 from Cm (by omega) (by omega),show As (a1*1000000000)=a1*1000000000 from Cm (by omega) (by omega)]
   exact Cm (by omega) (by omega)
  rw [l,j]
  by_cases X:(Ad r).length=(Ad n).length
  .rw [Fd (by omega),cond_true,G8 (by omega) (by omega) (by omega),Ag]
   have R:0<=(b1*1000000000+b2) / (a1*1000000000+a2):=Int.ediv_nonneg (by omega) (by omega)
   have N:(b1*1000000000+b2) / (a1*1000000000+a2)<1000000000:=Int.ediv_lt_of_lt_mul (by omega) (by omega)
   exact ⟨((b1*1000000000+b2) / (a1*1000000000+a2)).toNat,by congr 1; omega,by omega⟩
  .have hk:(Ad n).length<(Ad r).length:=by omega
   have b:r≠0:=by rintro rfl; rw [D1] at hk; simp at hk
   have J:=(Dd r).get hk
   have f:(Ad r)[(Ad n).length]≠0:=by
    have:=(T7 r).2 (Fr b)
    rw [List.getLast_eq_getElem] at this
    have e:(Ad r).length-1=(Ad n).length:=by omega
    simpa [e] using this
   rw [C6 (by omega),cond_false,Cz rfl hk,Ag]
   generalize (Ad r)[(Ad n).length]=x at *
   obtain ⟨s,m3,A,f1,f2,f3,f4,f5,f6⟩:=Amk x (by omega) (by omega)
   obtain ⟨q,m4,z,g1,g2,g3,g4,g5,g6⟩:=Aml s m3 A f2 f3 f4 f5 f6 (b1*1000000000+b2) (by omega) (by omega)
   obtain ⟨I,k,D,B,U,S⟩:=Amn q m4 z g2 g3 g4 g5 g6 (a1*1000000000+a2) (by omega) (by omega)
   rw [f1,Ag,g1,Ag,D,Ag,B,Ag,show As (k+2)=k+2 from Cm (by omega) (by omega)]
   by_cases hc:(999999999:Int)<k+2
   .exact ⟨999999999,by rw [if_pos hc]; rfl,by decide⟩
   .exact ⟨(k+2).toNat,by rw [if_neg hc]; congr 1; omega,by omega⟩
end Go.Ab
namespace Go.Ab
open Go
theorem Amp (x r:Nat):Bc (x % 1000000000+1000000000*r)<=Bc r+1:=by
 apply Km
 have:=I6 r
 rw [Nat.pow_succ]
 omega
set_option maxHeartbeats 1000000 in
theorem Zq (m n:Nat) (hm:Bc m<137438953472) (hn:Bc n<137438953472) (D:n≠0):Lu (Ad m) (Ad n)=some (Ad (m / n),Ad (m % n)):=by
 unfold Lu
 rw [Ui,Mb m n (by omega) (by omega),Ag]
 have af:=hm
 have ae:=hn
 unfold Bc at hm hn
 by_cases l:m<n
 .rw [show Dg m n = -1 by rw [Dg,if_pos l],Ba (by decide:(-1:Int)<0),cond_true,Md _ (by omega),Ag,Alv (T7 m),Nat.div_eq_of_lt l,Nat.mod_eq_of_lt l,D1]
 .rw [Bb (show ¬Dg m n<0 by rw [Dg,if_neg l]; split <;> decide),cond_false]
  have a8:(Ad n).length≠0:=fun e=>Fr D (List.length_eq_zero_iff.1 e)
  by_cases h1:(Ad n).length=1
  .rw [Fd (by omega:((Ad n).length:Int)=1),cond_true]
   have B:n<1000000000:=by
    have:=I6 n
    rw [show Bc n=1 from h1] at this
    simpa using this
   have Y:Ad n = [(n:Int)]:=by
    rw [Ij D,Nat.div_eq_of_lt B,D1,Nat.mod_eq_of_lt B]
   rw [Y,show Af [(n:Int)] 0=some (n:Int) from rfl,Ag,show As (n:Int)=n from Cm (by omega) (by omega),Amf m n (by omega) (by omega) (by omega),Ag]
   have a7:m % n<n:=Nat.mod_lt _ (by omega)
   rw [Uh,Ko (m % n) (by omega),Ag]
  .rw [C6 (by omega:((Ad n).length:Int)≠1),cond_false]
   have hw:Ac (((Ad m).length:Int)-1)=((Ad m).length:Int)-1:=by rw [Ac,Cj] <;> omega
   rw [I4 rfl rfl (Nat.le_refl _) (by omega) (by omega),hw]
   simp only [Ag]
   have ha:=Dd m
   refine Fy (fun (r,i,q)=>∃(k R:Nat),r=Ad R/\i=(k:Int)-1/\k<=(Ad m).length/\R<n/\q.length=(Ad m).length/\Bk q/\Ah (q.drop k)*n+R=Ah ((Ad m).drop k))
    (fun (_,i,_)=>(i+1).toNat) (fun (r,q)=>∃R:Nat,r=Ad R/\R<n/\q.length=(Ad m).length/\Bk q/\Ah q*n+R=m)
    ⟨(Ad m).length,0,by rw [D1],rfl,Nat.le_refl _,by omega,by simp,Bk.replicate _,by simp [Ah]⟩ ?_ ?_
   .rintro ⟨r,i,q⟩ ⟨k,R,rfl,rfl,hk,J,u,g,A⟩
    cases k with
    | zero=>exact .inr ⟨(Ad R,q),by simp,R,rfl,J,u,g,by simpa [Dm] using A⟩
    | succ j=>
     have hj:j<(Ad m).length:=by omega
     have E:j<q.length:=by omega
     have hx:=ha.get hj
     obtain ⟨x,y⟩:∃x:Nat,(Ad m)[j]=(x:Int):=⟨(Ad m)[j].toNat,by omega⟩
     have L:x<1000000000:=by omega
     have e0:((j+1:Nat):Int)-1=(j:Int):=by omega
     have e1:decide ((j:Int)>=0)=true:=Ba (by omega)
     have Z:Bc R<=Bc n:=E9 (by omega)
     have ac:Bc (x+1000000000*R)<=Bc R+1:=by
      have:=Amp x R
      rwa [Nat.mod_eq_of_lt L] at this
     have ah:(Ad R).length<=(Ad n).length:=Z
     have G:Gn ((x:Int)::Ad R)=some (Ad (x+1000000000*R)):=by
      rw [Md _ (by simp; omega)]
      congr 1
      refine G9 ?_ ?_
      .intro d hd
       rcases List.mem_cons.1 hd with rfl | hd
       .omega
       .exact Dd R d hd
      .simp only [Ah,Dm]; omega
     obtain ⟨d0,U,ag⟩:=Amo (x+1000000000*R) n (by unfold Bc; omega) (by omega) (by omega)
     generalize a6:x+1000000000*R=f at *
     have ab:f<1000000000*n:=by omega
     have s:∀d:Nat,d<18446744073709551616->Jf (d:Int)=some (Ad d)/\Ho (Ad n) (Ad d)=some (Ad (n*d)):=by
      intro d hd
      have:=Ma hd
      exact ⟨by rw [Uh,Ko d hd],N9 n d (by omega) (by omega)⟩
     have I:∀d:Nat,d<18446744073709551616->Kd (Ad (n*d)) (Ad f)=some (Dg (n*d) f):=by
      intro d hd
      have h3:=Ma hd
      have h4:=Er n d
      rw [Ui,Mb _ _ (by omega) (by omega)]
     simp only [e0,e1,cond_true,Cz rfl hj,y,Ag,D7 (show ([(x:Int)].length+(Ad R).length)*4<=_ by simp; omega),List.singleton_append,G,U]
     refine .inl (T5 (G7 (fun d=>∃e:Nat,d=e/\e<=d0) (fun d=>d.toNat) (fun d=>∃e:Nat,d=e/\e<=d0/\n*e<=f) ⟨d0,rfl,Nat.le_refl _⟩ ?_ ?_))
     .rintro d ⟨e,rfl,he⟩
      by_cases X:e=0
      .subst X
       exact .inr ⟨0,rfl,0,rfl,by omega,by simp⟩
      .obtain ⟨m1,m2⟩:=s e (by omega)
       simp only [Ba (by omega:(e:Int)>0),cond_true,m1,m2,I e (by omega),Ag]
       by_cases hc:f<n*e
       .refine .inl ⟨((e-1:Nat):Int),?_,⟨e-1,rfl,by omega⟩,by simp; omega⟩
        rw [show Dg (n*e) f=1 by rw [Dg,if_neg (by omega),if_pos hc],show decide ((1:Int)>0)=true from rfl,cond_true,show As ((e:Int)-1)=((e-1:Nat):Int) by rw [As,Cm] <;> omega]
       .refine .inr ⟨(e:Int),?_,e,rfl,he,by omega⟩
        rw [Bb (show ¬Dg (n*e) f>0 by rw [Dg,if_neg hc]; split <;> decide),cond_false]
     .rintro d ⟨e,rfl,he,N⟩
      obtain ⟨m1,m2⟩:=s e (by omega)
      simp only [m1,m2,Ag,Uj f (n*e) (by omega) N]
      refine G7 (fun (r,d)=>∃(c b:Nat),r=Ad c/\d=b/\n*b+c=f) (fun (r,_)=>(Ah r).toNat) (fun (r,d)=>∃(c b:Nat),r=Ad c/\d=b/\n*b+c=f/\c<n) ⟨f-n*e,e,rfl,rfl,by omega⟩ ?_ ?_
      .rintro ⟨r,d⟩ ⟨c,b,rfl,rfl,M⟩
       have aa:Bc c<=Bc f:=E9 (by omega)
       have V:b<1000000000:=by
        rcases Nat.lt_or_ge b 1000000000 with h | h
        .exact h
        .exfalso
         have:n*1000000000<=n*b:=Nat.mul_le_mul_left n h
         omega
       simp only [Ui,Mb c n (by omega) (by omega),Ag]
       by_cases hc:c<n
       .refine .inr ⟨(Ad c,(b:Int)),?_,c,b,rfl,rfl,M,hc⟩
        rw [Bb (show ¬Dg c n>=0 by rw [Dg,if_pos hc]; decide),cond_false]
       .refine .inl ⟨(Ad (c-n),((b+1:Nat):Int)),?_,⟨c-n,b+1,rfl,rfl,?_⟩,?_⟩
        .rw [Ba (show Dg c n>=0 by rw [Dg,if_neg hc]; split <;> decide),cond_true,Uj c n (by omega) (by omega),Ag,show As ((b:Int)+1)=((b+1:Nat):Int) by rw [As,Cm] <;> omega]
        .rw [Nat.mul_add]; omega
        .simp only [Dm]; omega
      .rintro ⟨r,d⟩ ⟨c,b,rfl,rfl,M,a1⟩
       have V:b<1000000000:=by
        rcases Nat.lt_or_ge b 1000000000 with h | h
        .exact h
        .exfalso
         have:n*1000000000<=n*b:=Nat.mul_le_mul_left n h
         omega
       have w1:Bu (b:Int)=b:=Dx (by omega) (by omega)
       have w8:Ac ((j:Int)-1)=(j:Int)-1:=by rw [Ac,Cj] <;> omega
       refine ⟨_,by simp only [Cz rfl E,Ag,w1,w8,Ep rfl],(Ad c,(j:Int)-1,q.set j (b:Int)),rfl,⟨j,c,rfl,rfl,by omega,a1,by simpa using u,g.set _ (by omega) (by omega),?_⟩,by simp⟩
       have d1:(q.set j (b:Int)).drop j=(b:Int)::q.drop (j+1):=by
        rw [List.drop_eq_getElem_cons (by simpa using E),List.drop_set_of_lt (by omega)]; simp
       rw [d1,List.drop_eq_getElem_cons hj,y]
       simp only [Ah]
       rw [<-A]
       have:((n*b+c:Nat):Int)=((x+1000000000*R:Nat):Int):=by rw [M,a6]
       simp only [Int.natCast_add,Int.natCast_mul] at this
       grind
   .rintro ⟨r,q⟩ ⟨R,rfl,J,u,g,A⟩
    dsimp only
    have ad:=Ej g.u32
    obtain ⟨Q,hQ⟩:∃Q:Nat,Ah q=Q:=⟨(Ah q).toNat,by omega⟩
    rw [hQ] at A
    have z:Q*n+R=m:=by
     have:((Q*n+R:Nat):Int)=(m:Int):=by simp only [Int.natCast_add,Int.natCast_mul]; exact A
     omega
    have hd:m / n=Q:=by rw [<-z,Nat.mul_comm,Nat.mul_add_div (by omega),Nat.div_eq_of_lt J]; rfl
    have S:m % n=R:=by rw [<-z,Nat.mul_comm,Nat.mul_add_mod,Nat.mod_eq_of_lt J]
    rw [Md q (by omega),Ag,G9 g hQ,hd,S]
theorem Amq (m n:Nat) (h:Bc m<137438953472) (g:Bc n<137438953472):Pr (Ad m) (Ad n)=some (Ad (Nat.gcd m n)):=by
 unfold Pr
 refine Fy (fun (a,b)=>∃x y:Nat,a=Ad x/\b=Ad y/\Bc x<137438953472/\Bc y<137438953472/\Nat.gcd x y=Nat.gcd m n) (fun (_,b)=>(Ah b).toNat)
  (fun r=>r=Ad (Nat.gcd m n)) ⟨m,n,rfl,rfl,h,g,rfl⟩ ?_ (by rintro e rfl; rfl)
 rintro ⟨a,b⟩ ⟨x,y,rfl,rfl,hx,hy,f⟩
 by_cases c:y=0
 .subst c
  refine .inr ⟨Ad x,by rw [D1]; rfl,?_⟩
  rw [<-f,Nat.gcd_zero_right]
 .have i:(Ad y).length≠0:=fun e=>Fr c (List.length_eq_zero_iff.1 e)
  have j:decide (((Ad y).length:Int)>0)=true:=Ba (by omega)
  refine .inl ⟨(Ad y,Ad (x % y)),?_,⟨y,x % y,rfl,rfl,hy,by have:=E9 (Nat.mod_le x y); omega,?_⟩,?_⟩
  .simp only [j,cond_true,Zq x y hx hy c,Ag]
  .rw [<-f,Nat.gcd_comm y,<-Nat.gcd_rec,Nat.gcd_comm]
  .simp only [Dm]
   have:=Nat.mod_lt x (by omega:y>0)
   omega
end Go.Ab
namespace Go.Ab
open Go
def Jr (b:Bool) (n d:Nat):Ai:=if d=0 then ⟨false,[],[1]⟩ else Ca b n d
theorem Zr {n:Nat} (h:n≠0):(Ad n).length≠0:=fun e=>Fr h (List.length_eq_zero_iff.1 e)
theorem Zs (c:Bool) (a b:List Int) (ha:Ht a) (hb:Ht b) (s:a.length<137438953400) (q:b.length<137438953400):G5 c a b=some (Jr c (Ah a).toNat (Ah b).toNat):=by
 unfold G5
 have h1:=Ue ha
 have h2:=Ue hb
 rw [Ae6 a ha (by omega),Ag,Ae6 b hb (by omega),Ag]
 generalize (Ah a).toNat=n at *
 generalize (Ah b).toNat=d at *
 by_cases g:n=0
 .subst g
  have:Jr c 0 d=⟨false,[],[1]⟩:=by unfold Jr; split <;> simp [Ca]
  rw [this,D1]; rfl
 .have k:=Zr g
  by_cases hd:d=0
  .subst hd
   simp only [C6 (by omega:((Ad n).length:Int)≠0),cond_false,D1,Ag]
   rfl
  .have l:=Zr hd
   have f:Nat.gcd n d≠0:=by have:=Nat.gcd_pos_of_pos_left d (by omega:0<n); omega
   have x:Bc (Nat.gcd n d)<=Bc n:=E9 (Nat.gcd_le_left d (by omega:0<n))
   simp only [C6 (by omega:((Ad n).length:Int)≠0),cond_false,C6 (by omega:((Ad d).length:Int)≠0),Ag,Amq n d (by omega) (by omega)]
   rw [Jr,if_neg hd,Ca,if_neg g]
   have key:(bif (((Ad (Nat.gcd n d)).length:Int) != (1:Int)) then some true else ((Af (Ad (Nat.gcd n d)) 0).bind fun j=>some (j != (1:Int))))=some (decide (Nat.gcd n d≠1)):=by
    have h3:=Zl (Nat.gcd n d)
    unfold L0 at h3
    by_cases u:(Ad (Nat.gcd n d)).length=1
    .rw [Fd (by omega:((Ad (Nat.gcd n d)).length:Int)=1),cond_true] at h3
     rw [Kl (by omega:((Ad (Nat.gcd n d)).length:Int)=1),cond_false]
     cases i:Af (Ad (Nat.gcd n d)) 0 with
     | none=>rw [i] at h3; cases h3
     | some v=>
      rw [i] at h3
      simp only [Ag] at h3 ⊢
      have h3:=Option.some.inj h3
      congr 1
      rw [bne,h3]; simp
    .rw [C6 (by omega:((Ad (Nat.gcd n d)).length:Int)≠1),cond_false] at h3
     rw [Jn (by omega:((Ad (Nat.gcd n d)).length:Int)≠1),cond_true]
     have h3:=Option.some.inj h3
     have:Nat.gcd n d≠1:=by simpa using h3.symm
     rw [Ba this]
   rw [key,Ag]
   by_cases h:Nat.gcd n d=1
   .rw [Bb (by simpa using h),cond_false,h]; simp
   .rw [Ba h,cond_true,Zq n _ (by omega) (by omega) f,Ag,Zq d _ (by omega) (by omega) f,Ag]
theorem Amr (a:Ai):Jr a.Neg (Ah a.Num).toNat (Ah a.Den).toNat=Ca (sv a) (nv a) (dv a):=by
 unfold Jr sv nv dv
 by_cases b:(Ah a.Num).toNat=0
 .simp [b,Ca]
 .by_cases hd:(Ah a.Den).toNat=0
  .simp [hd,Ca]
  .simp [b,hd]
theorem Qp (a:Ai) (k:Nat) (h:RB k a) (hk:k<137438953400):Jk a=some (Ca (sv a) (nv a) (dv a)):=by
 unfold Jk
 have:=h.nl
 have:=h.dl
 rw [Zs _ _ _ h.num h.den (by omega) (by omega),Ag,Amr]
theorem Qq (s:Bool) (n d:Nat) (hd:d≠0):(Ca s n d).Num=Ad (nv (Ca s n d))/\(Ca s n d).Den=Ad (dv (Ca s n d))/\(Ca s n d).Neg=sv (Ca s n d):=by
 obtain ⟨h1,h2,h3,c⟩:=Ug s n d hd
 rw [h1,h2]
 by_cases h0:n=0
 .subst h0
  rw [c rfl,Zn]
  have b:d / Nat.gcd 0 d=1:=by rw [Nat.gcd_zero_left]; exact Nat.div_self (by omega)
  rw [b,Nat.zero_div,D1,N8]; exact ⟨rfl,rfl,rfl⟩
 .rw [h3 h0]; simp [Ca,h0]
theorem Ob (a:Ai):∃g:Nat,g≠0/\nv a=g*nv (Ca (sv a) (nv a) (dv a))/\dv a=g*dv (Ca (sv a) (nv a) (dv a))/\sv (Ca (sv a) (nv a) (dv a))=sv a:=by
 obtain ⟨h1,h2,h3,b⟩:=Ug (sv a) (nv a) (dv a) (Dn a)
 have hd:=Dn a
 have c:0<Nat.gcd (nv a) (dv a):=Nat.gcd_pos_of_pos_right _ (by omega)
 refine ⟨Nat.gcd (nv a) (dv a),by omega,?_,?_,?_⟩
 .rw [h1]; exact (Nat.mul_div_cancel' (Nat.gcd_dvd_left _ _)).symm
 .rw [h2]; exact (Nat.mul_div_cancel' (Nat.gcd_dvd_right _ _)).symm
 .by_cases h0:nv a=0
  .rw [b h0]
   unfold nv at h0
   unfold sv
   split at h0
   .rename_i hc; rw [if_pos hc]
   .omega
  .exact h3 h0
theorem Ams (s:Bool) (n d:Nat) (h:d≠0):Jr s n d=Ca s n d:=by rw [Jr,if_neg h]
theorem Oc (b:Bool) (n d:Nat) (f:Bc n<137438953400) (hd:Bc d<137438953400) (c:d≠0):G5 b (Ad n) (Ad d)=some (Ca b n d):=by
 unfold Bc at f hd
 rw [Zs b _ _ (Dd n).u32 (Dd d).u32 f hd,Dm,Dm,Int.toNat_natCast,Int.toNat_natCast,Ams _ _ _ c]
theorem Amt {k:Nat} {a:Ai} (h:RB k a):RB (k+1) (Ca (sv a) (nv a) (dv a)):=I7 _ _ _ _ h.nv h.dv (by omega)
theorem Ul {k:Nat} {a:Ai} (h:RB k a):Bc (nv (Ca (sv a) (nv a) (dv a)))<=k+1/\Bc (dv (Ca (sv a) (nv a) (dv a)))<=k+1:=by
 obtain ⟨g,b,h1,h2,_⟩:=Ob a
 have a1:=h.nv
 have a2:=h.dv
 refine ⟨Nat.le_trans (E9 ?_) a1,Nat.le_trans (E9 ?_) a2⟩
 .exact Nat.le_trans (Nat.le_mul_of_pos_left _ (by omega)) (Nat.le_of_eq h1.symm)
 .exact Nat.le_trans (Nat.le_mul_of_pos_left _ (by omega)) (Nat.le_of_eq h2.symm)
theorem Amu (a b:Ai) (j k:Nat) (ha:RB j a) (hb:RB k b) (hj:j<34359738368) (hk:k<34359738368):Ie a b=some (Ca (sv a != sv b) (nv a*nv b) (dv a*dv b)):=by
 unfold Ie
 rw [Qp a j ha (by omega),Ag,Qp b k hb (by omega),Ag]
 obtain ⟨g,i,a1,a2,a3⟩:=Ob a
 obtain ⟨h,f,b1,b2,u⟩:=Ob b
 obtain ⟨f1,f2,f3⟩:=Qq (sv a) (nv a) (dv a) (Dn a)
 obtain ⟨s,q,l⟩:=Qq (sv b) (nv b) (dv b) (Dn b)
 obtain ⟨B,A⟩:=Ul ha
 obtain ⟨y,x⟩:=Ul hb
 rw [f1,f2,f3,s,q,l,a3,u]
 generalize hc:Ca (sv a) (nv a) (dv a)=c at *
 generalize hd:Ca (sv b) (nv b) (dv b)=d at *
 have m1:=Er (nv c) (nv d)
 have m2:=Er (dv c) (dv d)
 have z:dv c*dv d≠0:=Nat.mul_ne_zero (Dn c) (Dn d)
 rw [N9 _ _ (by omega) (by omega),Ag,N9 _ _ (by omega) (by omega),Ag,Oc _ _ _ (by omega) (by omega) z,Ag]
 rw [a1,a2,b1,b2,show g*nv c*(h*nv d)=g*h*(nv c*nv d) by grind,show g*dv c*(h*dv d)=g*h*(dv c*dv d) by grind,Qm _ _ _ _ (Nat.mul_ne_zero i f)]
theorem Amv (l:Bool) (c j:Nat) (k:Bool) (b i g h:Nat) (y:g≠0) (x:h≠0):Fz l (g*c) (g*j) k (h*b) (h*i)=g*h*Fz l c j k b i/\Gw l (g*c) (g*j) k (h*b) (h*i)=Gw l c j k b i:=by
 have u:g*c*(h*i)=g*h*(c*i):=by grind
 have s:h*b*(g*j)=g*h*(b*j):=by grind
 have hc:(g*h*(b*j)<=g*h*(c*i))↔(b*j<=c*i):=Nat.mul_le_mul_left_iff (Nat.mul_pos (by omega) (by omega))
 unfold Fz Gw
 rw [u,s]
 by_cases q:l=k
 .simp only [if_pos q]
  exact ⟨by rw [Nat.mul_add],trivial⟩
 .simp only [if_neg q]
  by_cases f:b*j<=c*i
  .simp only [if_pos f,if_pos (hc.2 f)]
   exact ⟨by rw [Nat.mul_sub],trivial⟩
  .simp only [if_neg f,if_neg (fun h=>f (hc.1 h))]
   exact ⟨by rw [Nat.mul_sub],trivial⟩
theorem Amw (a b:Ai) (j k:Nat) (ha:RB j a) (hb:RB k b) (hj:j<34359738368) (hk:k<34359738368) :
  Hk a b=some (Ca (Gw (sv a) (nv a) (dv a) (sv b) (nv b) (dv b)) (Fz (sv a) (nv a) (dv a) (sv b) (nv b) (dv b)) (dv a*dv b)):=by
 unfold Hk
 rw [Qp a j ha (by omega),Ag,Qp b k hb (by omega),Ag]
 obtain ⟨g,q,a1,a2,a3⟩:=Ob a
 obtain ⟨h,l,b1,b2,B⟩:=Ob b
 obtain ⟨f1,f2,f3⟩:=Qq (sv a) (nv a) (dv a) (Dn a)
 obtain ⟨A,y,x⟩:=Qq (sv b) (nv b) (dv b) (Dn b)
 obtain ⟨I,G⟩:=Ul ha
 obtain ⟨E,D⟩:=Ul hb
 rw [f1,f2,f3,A,y,x,a3,B]
 generalize hc:Ca (sv a) (nv a) (dv a)=c at *
 generalize hd:Ca (sv b) (nv b) (dv b)=d at *
 have m1:=Er (nv c) (dv d)
 have m2:=Er (nv d) (dv c)
 have m3:=Er (dv c) (dv d)
 have m4:=Qk (nv c*dv d) (nv d*dv c)
 have m5:=E9 (Nat.sub_le (nv c*dv d) (nv d*dv c))
 have m6:=E9 (Nat.sub_le (nv d*dv c) (nv c*dv d))
 have z:dv c*dv d≠0:=Nat.mul_ne_zero (Dn c) (Dn d)
 obtain ⟨u,s⟩:=Amv (sv a) (nv c) (dv c) (sv b) (nv d) (dv d) g h q l
 rw [a1,a2,b1,b2,u,s,show g*dv c*(h*dv d)=g*h*(dv c*dv d) by grind,Qm _ _ _ _ (Nat.mul_ne_zero q l)]
 rw [N9 _ _ (by omega) (by omega),Ag,N9 _ _ (by omega) (by omega),Ag,N9 _ _ (by omega) (by omega),Ag]
 unfold Gw Fz
 by_cases i:sv a=sv b
 .have e:(sv a==sv b)=true:=by rw [i]; exact beq_self_eq_true _
  rw [e,cond_true,Amh _ _ (by omega) (by omega),Ag,Oc _ _ _ (by omega) (by omega) z,Ag,if_pos i,if_pos i]
 .have e:(sv a==sv b)=false:=by simpa using i
  rw [e,cond_false,Ui,Mb _ _ (by omega) (by omega),Ag,if_neg i,if_neg i]
  by_cases f:nv d*dv c<=nv c*dv d
  .rw [Ba (show Dg (nv c*dv d) (nv d*dv c)>=0 by rw [Dg,if_neg (by omega)]; split <;> decide),cond_true,Uj _ _ (by omega) f,Ag,Oc _ _ _ (by omega) (by omega) z,Ag,if_pos f,if_pos f]
  .rw [Bb (show ¬Dg (nv c*dv d) (nv d*dv c)>=0 by rw [Dg,if_pos (by omega)]; decide),cond_false,Uj _ _ (by omega) (by omega),Ag,Oc _ _ _ (by omega) (by omega) z,Ag,if_neg f,if_neg f]
theorem Amx (a:Ai) (k:Nat) (h:RB k a) (hk:k<137438953400):Jh a=some (Gv (sv a) (nv a)):=by
 unfold Jh
 rw [Qp a k h hk,Ag]
 obtain ⟨g,b,a1,a2,a3⟩:=Ob a
 obtain ⟨f1,f2,f3⟩:=Qq (sv a) (nv a) (dv a) (Dn a)
 rw [f1,f3,a3,Gv]
 by_cases h0:nv a=0
 .have:nv (Ca (sv a) (nv a) (dv a))=0:=by
   rw [h0] at a1
   rcases Nat.mul_eq_zero.1 a1.symm with h | h
   .exact (b h).elim
   .rw [h0]; exact h
  rw [this,D1,if_pos h0]; rfl
 .have:nv (Ca (sv a) (nv a) (dv a))≠0:=by
   intro e; rw [e,Nat.mul_zero] at a1; exact h0 a1
  have:=Zr this
  rw [C6 (by omega),cond_false,if_neg h0]
  cases sv a <;> rfl
theorem Amy (a:Ai) (k:Nat) (h:RB k a) (hk:k<137438953400):Pw a=some (Ca (!sv a) (nv a) (dv a)):=by
 unfold Pw
 have:=h.nl
 have:=h.dl
 rw [Zs _ _ _ h.num h.den (by omega) (by omega),Ag]
 congr 1
 unfold Jr sv nv dv
 by_cases b:(Ah a.Num).toNat=0
 .simp [b,Ca]
 .by_cases hd:(Ah a.Den).toNat=0
  .simp [hd,Ca]
  .simp [b,hd]
theorem Amz (z:Int) (h1 : -9223372036854775808<=z) (h2:z<=9223372036854775807):G4 z=some (Ca (decide (z<0)) z.natAbs 1):=by
 unfold G4
 have j:=Ma (n:=z.natAbs) (by omega)
 have c:([1]:List Int)=Ad 1:=N8.symm
 by_cases h:z<0
 .have i:Ac (z+1)=z+1:=Cj (by omega) (by omega)
  have g:Ac (0-(z+1))=0-(z+1):=Cj (by omega) (by omega)
  have f:As (0-(z+1))=0-(z+1):=Cm (by omega) (by omega)
  have b:As (0-(z+1)+1)=((z.natAbs:Nat):Int):=by rw [As,Cm (by omega) (by omega)]; omega
  rw [Ba h,cond_true,i,g,f,b,Uh,Ko _ (by omega),Ag,c,Oc _ _ _ (by omega) (by rw [Kr]; decide) (by decide),Ag]
 .have b:As z=((z.natAbs:Nat):Int):=by rw [As,Cm (by omega) (by omega)]; omega
  rw [Bb h,cond_false,b,Uh,Ko _ (by omega),Ag,c,Oc _ _ _ (by omega) (by rw [Kr]; decide) (by decide),Ag]
end Go.Ab
namespace Go.Ab
open Go
theorem Ae7 (s:Bool) (n d:Nat) (hd:d≠0):∃g:Nat,g≠0/\n=g*nv (Ca s n d)/\d=g*dv (Ca s n d)/\(n≠0->sv (Ca s n d)=s)/\(n=0->sv (Ca s n d)=false):=by
 obtain ⟨h1,h2,h3,b⟩:=Ug s n d hd
 have c:0<Nat.gcd n d:=Nat.gcd_pos_of_pos_right _ (by omega)
 exact ⟨Nat.gcd n d,by omega,by rw [h1]; exact (Nat.mul_div_cancel' (Nat.gcd_dvd_left _ _)).symm,by rw [h2]; exact (Nat.mul_div_cancel' (Nat.gcd_dvd_right _ _)).symm,h3,b⟩
end Go.Ab
namespace Go.Ab
open Go
mutual
def tsz:Aw->Nat
 | ⟨_,_,l⟩=>1+Kt l
def Kt:List Aw->Nat
 | []=>0
 | x::xs=>tsz x+Kt xs
end
theorem Ae8 (t:Aw):tsz t=1+Kt t.Args:=by cases t; simp only [tsz]
theorem Am0 (t:Aw):1<=tsz t:=by rw [Ae8]; omega
theorem Am1 {l:List Aw} {a:Aw} (h:a∈l):tsz a<=Kt l:=by
 induction l with
 | nil=>cases h
 | cons x xs ih=>
  simp only [Kt]
  rcases List.mem_cons.1 h with rfl | h
  .omega
  .have:=ih h; omega
theorem Ae9 (l:List Aw):l.length<=Kt l:=by
 induction l with
 | nil=>simp
 | cons x xs ih=>simp only [Kt,List.length_cons]; have:=Am0 x; omega
end Go.Ab
namespace Go.Ab
open Go
def Am2 (a:Aw) (i:Int):Bool:=a.Kind==4&&a.Num==i&&a.Args.length==0
def Am3 (l:List Aw):Bool:=l.zipIdx.all fun q=>Am2 q.1 q.2
def Am4 (t:Aw) (d vars:Int):Bool:=t.Kind==5&&t.Num==d&&(t.Args.length:Int)==vars&&Am3 t.Args
def Am5 (data:List B3) (d c:Int):List Bool :=
 match Af data d with
 | none=>[]
 | some x=>match Af x.Cons c with
  | none=>[]
  | some y=>y.Args.map fun t=>Am4 t d x.Vars
end Go.Ab
namespace Go.Ab
open Go
def SzD (data:List B3):Prop:=∀x∈data,x.Cons.length<=1048576/\∀y∈x.Cons,Kt y.Args<=1048576
end Go.Ab
namespace Go.Ab
open Go
end Go.Ab
namespace Go.Ab
open Go
end Go.Ab
namespace Go.Ab
open Go
theorem Afa (a b:ByteArray):(a==b)=true↔a=b:=by
 constructor
 .intro h
  cases a with | mk a=>cases b with | mk b=>
  have:a=b:=by exact eq_of_beq h
  rw [this]
 .rintro rfl
  cases a with | mk a=>exact beq_self_eq_true a
def Me (o:List (ByteArray×Bool)) (L:List ByteArray):Prop:=(∀p∈o,p.2=true)/\∀s,Eu o s=true↔s∈L
theorem Me.nil:Me [] []:=⟨by simp,by simp [Eu]⟩
theorem Me.get {o:List (ByteArray×Bool)} {L:List ByteArray} (h:Me o L) {s:ByteArray} (b:Eu o s=true):Hi o s false=true:=by
 unfold Hi
 unfold Eu at b
 rw [List.any_eq_true] at b
 obtain ⟨p,g,f⟩:=b
 cases c:o.find? (fun p=>s==p.1) with
 | none=>exact absurd f (by have:=List.find?_eq_none.1 c p g; simpa using this)
 | some q=>exact h.1 q (List.mem_of_find?_eq_some c)
theorem Am6 (o:List (ByteArray×Bool)) (s t:ByteArray) (v:Bool):Eu (E7 o s v) t=(Eu o t||t==s):=by
 induction o with
 | nil=>simp [E7,Eu]
 | cons p o ih=>
  unfold E7
  cases hp:(s==p.1) with
  | true=>
   have:s=p.1:=(Afa _ _).1 hp
   subst this
   simp only [cond_true,Eu,List.any_cons]
   cases t==p.1 <;> simp
  | false=>
   simp only [Eu,List.any_cons] at ih ⊢
   simp only [cond_false,List.any_cons,ih,Bool.or_assoc]
theorem Me.put {o:List (ByteArray×Bool)} {L:List ByteArray} (h:Me o L) (s:ByteArray):Me (E7 o s true) (L++[s]):=by
 refine ⟨?_,fun t=>?_⟩
 .have:∀o:List (ByteArray×Bool),(∀p∈o,p.2=true)->∀p∈E7 o s true,p.2=true:=by
   intro o
   induction o with
   | nil=>intro _ p hp; simp [E7] at hp; rw [hp]
   | cons q o ih=>
    intro b p hp
    unfold E7 at hp
    cases hq:(s==q.1) with
    | true=>
     rw [hq] at hp
     simp only [cond_true,List.mem_cons] at hp
     rcases hp with rfl | hp
     .rfl
     .exact b p (by simp [hp])
    | false=>
     rw [hq] at hp
     simp only [cond_false,List.mem_cons] at hp
     rcases hp with rfl | hp
     .exact b _ (by simp)
     .exact ih (fun p hp=>b p (by simp [hp])) p hp
  exact this o h.1
 .rw [Am6,Bool.or_eq_true,h.2 t,Afa]; simp
end Go.Ab
namespace Go.Ab
open Go
theorem SzD.args {data:List B3} (h:SzD data) {x:B3} (hx:x∈data) {y:Yv} (hy:y∈x.Cons) {t:Aw} (ht:t∈y.Args):tsz t<=1048576/\t.Args.length<=1048576/\y.Args.length<=1048576:=by
 have h1:=(h x hx).2 y hy
 have h3:=Am1 ht
 have f:=Ae8 t
 have c:=Ae9 t.Args
 have b:=Ae9 y.Args
 omega
end Go.Ab
namespace Go.Ab
open Go
def isV (σ:List Aw) (k n:Int):Bool:=k==4&&decide (0<=n)&&decide (n<(σ.length:Int))
mutual
def sub (σ:List Aw):Aw->Aw
 | ⟨k,n,l⟩=>match (if isV σ k n then σ[n.toNat]? else none) with
  | some s=>s
  | none=>⟨k,n,Afb σ l⟩
def Afb (σ:List Aw):List Aw->List Aw
 | []=>[]
 | x::xs=>sub σ x::Afb σ xs
end
def Am7 (data:List B3) (t:Aw) (c:Int):Option (List Aw) :=
 if t.Kind=5 then
  match Af data t.Num with
  | none=>none
  | some x=>if (t.Args.length:Int)=x.Vars then
    match Af x.Cons c with
    | none=>none
    | some y=>if (y.Args.map (sub t.Args)).all (fun a=>decide (tsz a<=200)) then some (y.Args.map (sub t.Args)) else none
   else none
 else none
end Go.Ab
namespace Go.Ab
open Go
def Am8 (l:List Aw) (r:List Bool):List Aw:=((l.zip r).filter fun p=>!p.2).map (·.1)
def Am9 (data:List B3) (t:Aw) (c:Int):Option (List Aw):=(Am7 data t c).map fun l=>Am8 l (Am5 data t.Num c)
end Go.Ab
namespace Go.Ab
open Go
mutual
def isz:Cq->Nat
 | ⟨_,l⟩=>1+Qs l
def Qs:List Cq->Nat
 | []=>0
 | x::xs=>isz x+Qs xs
end
theorem Um (t:Cq):isz t=1+Qs t.Kids:=by cases t; simp only [isz]
theorem Ana {l:List Cq} {a:Cq} (h:a∈l):isz a<=Qs l:=by
 induction l with
 | nil=>cases h
 | cons x xs ih=>
  simp only [Qs]
  rcases List.mem_cons.1 h with rfl | h
  .omega
  .have:=ih h; omega
mutual
def Afc (data:List B3):Cq->Aw->Option Nat
 | ⟨n,kids⟩,t=>
  if t.Kind=6 then (if n=0 then Zt data kids t.Args else none)
  else if t.Kind=7 then (if 0<=n/\n<=6/\kids.length=0 then some n.toNat else none)
  else if t.Kind=5 then (if n=0 then Afd data kids t else none)
  else if n=0/\kids.length=0 then some 0 else none
def Zt (data:List B3):List Cq->List Aw->Option Nat
 | [],[]=>some 0
 | i::is,t::ts=>(Afc data i t).bind fun a=>(Zt data is ts).map (a + ·)
 | [],_::_=>none
 | _::_,[]=>none
def Afd (data:List B3):List Cq->Aw->Option Nat
 | [],_=>some 0
 | ⟨n,kids⟩::es,t=>(Am9 data t n).bind fun ts=>(Zt data kids ts).bind fun a=>(Afd data es t).map (1+a + ·)
end
def Anb (o:Option Nat):Int:=match o with | some d=>if d<=6 then (d:Int) else -1 | none => -1
theorem Mf {α:Type} {l:List α} {j:Nat} {x:α} (h:l[j]? = some x):l.drop j=x::l.drop (j+1):=by
 have hj:=Fe h
 rw [List.drop_eq_getElem_cons hj]
 rw [Cr hj] at h
 rw [Option.some.inj h]
end Go.Ab
namespace Go.Ab
open Go
end Go.Ab
namespace Go.Ab
open Go
def I64 (n:Int):Prop:= -9223372036854775808<=n/\n<=9223372036854775807
def ti (n:Int):List Int:=(Lib.itoa n).map fun c=>(c.toNat:Int)
def Qt (c:Int):Bool:=c==45||(decide (48<=c)&&decide (c<=57))
theorem Zu {d:Nat} (h:d<10):(UInt8.ofNat (48+d)).toNat=48+d:=by
 rw [UInt8.toNat_ofNat']; omega
theorem Zv:∀(n u:Nat),u<=n->∀c∈Lib.decDigits u,48<=c.toNat/\c.toNat<=57:=by
 intro n
 induction n with
 | zero=>
  intro u hu c hc
  rw [Lib.decDigits,dif_pos (by omega)] at hc
  simp only [List.mem_singleton] at hc
  subst hc; rw [Zu (by omega)]; omega
 | succ n ih=>
  intro u hu c hc
  rw [Lib.decDigits] at hc
  split at hc
  .simp only [List.mem_singleton] at hc
   subst hc; rw [Zu (by omega)]; omega
  .rcases List.mem_append.1 hc with h | h
   .exact ih (u / 10) (by omega) c h
   .simp only [List.mem_singleton] at h
    subst h; rw [Zu (by omega)]; omega
theorem Anc (u:Nat):Lib.decDigits u≠[]:=by
 rw [Lib.decDigits]; split <;> simp
theorem Zw (n:Int):∀c∈ti n,Qt c=true:=by
 intro c hc
 unfold ti at hc
 obtain ⟨b,hb,rfl⟩:=List.mem_map.1 hc
 have key:b=45\/(48<=b.toNat/\b.toNat<=57):=by
  unfold Lib.itoa at hb
  split at hb
  .rcases List.mem_cons.1 hb with h | h
   .exact .inl h
   .exact .inr (Zv _ _ (Nat.le_refl _) b h)
  .exact .inr (Zv _ _ (Nat.le_refl _) b hb)
 unfold Qt
 rcases key with rfl | ⟨h1,h2⟩
 .decide
 .rw [Bool.or_eq_true,bae,decide_eq_true_eq,decide_eq_true_eq]; right; omega
theorem Ane (n:Int):ti n≠[]:=by
 unfold ti Lib.itoa
 split
 .simp
 .simpa using Anc _
mutual
def wx:Cq->List Int
 | ⟨n,kids⟩=>ti n++(if kids.length=0 then [] else 40::(wxs kids++[41]))
def wxs:List Cq->List Int
 | []=>[]
 | x::xs=>wx x++44::wxs xs
end
mutual
def iR:Cq->Prop
 | ⟨n,l⟩=>I64 n/\iRs l
def iRs:List Cq->Prop
 | []=>True
 | x::xs=>iR x/\iRs xs
end
def Zx (v:Int) (i:Cq):List Int:=118::(ti v++58::wx i)
mutual
theorem Afe:∀i:Cq,∀c∈wx i,0<=c/\c<256
 | ⟨n,l⟩,c,h=>by
  simp only [wx,List.mem_append] at h
  rcases h with h | h
  .have:=Zw n c h
   simp only [Qt,Bool.or_eq_true,bae,beq_iff_eq,decide_eq_true_eq] at this
   omega
  .by_cases hl:l.length=0
   .rw [if_pos hl] at h; cases h
   .rw [if_neg hl] at h
    simp only [List.mem_cons,List.mem_append,List.not_mem_nil,or_false] at h
    rcases h with h | h | h
    .omega
    .exact Aff l c h
    .omega
theorem Aff:∀l:List Cq,∀c∈wxs l,0<=c/\c<256
 | [],c,h=>by simp [wxs] at h
 | x::xs,c,h=>by
  simp only [wxs,List.mem_append,List.mem_cons] at h
  rcases h with h | h | h
  .exact Afe x c h
  .omega
  .exact Aff xs c h
end
theorem Anf (v:Int) (i:Cq):∀c∈Zx v i,0<=c/\c<256:=by
 intro c h
 simp only [Zx,List.mem_cons,List.mem_append] at h
 rcases h with h | h | h | h
 .omega
 .have:=Zw v c h
  simp only [Qt,Bool.or_eq_true,bae,beq_iff_eq,decide_eq_true_eq] at this
  omega
 .omega
 .exact Afe i c h
end Go.Ab
namespace Go.Ab
open Go
def tyX (vars:List Aw) (res:Aw) (v:Int):Option Aw:=if v = -1 then some res else Af vars v
end Go.Ab
namespace Go.Ab
open Go
def D2 (a b:Int):Int:=if a<b then -1 else if a>b then 1 else 0
def orI (a b:Int):Int:=if a=0 then b else a
theorem Qu {a b:Int}:D2 a b=0↔a=b:=by unfold D2; split <;> (try split) <;> omega
theorem Ang (a b:Int):G6 a b=some (D2 a b):=by
 unfold G6 Lz D2
 simp only [Ag,bne_self_eq_false,cond_false]
 by_cases h:a<b
 .rw [Ba h,if_pos h]; rfl
 .rw [Bb h,if_neg h]
  by_cases h':a>b
  .rw [Ba h',if_pos h']; rfl
  .rw [Bb h',if_neg h']; rfl
def E2 {α:Type} (g:α->α->Int):List α->List α->Int
 | x::xs,y::ys=>orI (g x y) (E2 g xs ys)
 | _,_=>0
def Zy (x y:Ax):Int:=orI (D2 x.Var y.Var) (D2 x.Coef y.Coef)
def Un (a b:Ao):Int:=if a.Terms.length=b.Terms.length then orI (E2 Zy a.Terms b.Terms) (D2 a.Const b.Const) else D2 a.Terms.length b.Terms.length
mutual
def Js:Cq->Cq->Int
 | ⟨n,k⟩,j=>if n=j.Num then (if k.length=j.Kids.length then Mh k j.Kids else D2 k.length j.Kids.length) else D2 n j.Num
def Mh:List Cq->List Cq->Int
 | x::xs,y::ys=>orI (Js x y) (Mh xs ys)
 | [],_=>0
 | _::_,[]=>0
end
theorem Anh (i j:Cq):Js i j=if i.Num=j.Num then (if i.Kids.length=j.Kids.length then Mh i.Kids j.Kids else D2 i.Kids.length j.Kids.length) else D2 i.Num j.Num:=by cases i; simp only [Js]
theorem Afg:∀l m:List Cq,Mh l m=E2 Js l m
 | x::xs,y::ys=>by simp only [Mh,E2,Afg xs ys]
 | [],_=>by simp [Mh,E2]
 | _::_,[]=>by simp [Mh,E2]
def Zz (x y:Cu):Int:=orI (D2 x.Var y.Var) (Js x.Index y.Index)
def Z0 (x y:B5):Int:=orI (Un x.Lin y.Lin) (D2 x.Deg y.Deg)
def Dz (a b:Ce):Int :=
 if a.Factors.length=b.Factors.length then
  orI (E2 Zz a.Factors b.Factors) (if a.Atoms.length=b.Atoms.length then E2 Z0 a.Atoms b.Atoms else D2 a.Atoms.length b.Atoms.length)
 else D2 a.Factors.length b.Factors.length
structure MSz (m:Ce):Prop where
 nf:m.Factors.length<=1048576
 na:m.Atoms.length<=1048576
 fi:∀f∈m.Factors,isz f.Index<=1048576
 fr:∀f∈m.Factors,iR f.Index/\I64 f.Var
 al:∀a∈m.Atoms,a.Lin.Terms.length<=1048576
def Jt {α:Type} (f:α->Int) (l:List α) (x:α) (j:Nat):Bool:=j==0||(match l[j-1]? with | some y=>decide (f y<f x) | none=>false)
def Ik (l:List Ax) (x:Ax) (j:Nat):Bool:=decide (-1<=x.Var/\x.Var<3000/\x.Coef≠0/\-1048576<=x.Coef/\x.Coef<=1048576)&&Jt (·.Var) l x j
def Cd (a:Ao):Bool:=decide (-1048576<=a.Const/\a.Const<=1048576/\a.Terms.length<=16)&&a.Terms.zipIdx.all (fun q=>Ik a.Terms q.1 q.2)
theorem Afh (n:Int):Nr n=some (decide (-1048576<=n/\n<=1048576)):=by
 unfold Nr
 by_cases h:(-1048576:Int)<=n <;> simp [h]
theorem Ani (n:Int):Ph n=some (decide (-1<=n/\n<3000)):=by
 unfold Ph
 by_cases h:(-1:Int)<=n <;> simp [h]
theorem Z1 {α S E:Type} (f:α->Int) (l:List α) {x:α} {j:Nat} (hx:l[j]? = some x) (i:l.length<4611686018427387904) (c b:Option (S⊕E)) :
  (bif decide ((j:Int)>0) then ((Af l (Ac ((j:Int)-1))).bind fun g=>bif decide (f g>=f x) then c else b) else b)=bif Jt f l x j then b else c:=by
 have hj:=Fe hx
 unfold Jt
 by_cases h:j=0
 .subst h; rfl
 .rw [Ba (by omega)]
  have e:Ac ((j:Int)-1)=((j-1:Nat):Int):=by rw [Ac,Cj] <;> omega
  have hy:l[j-1]? = some l[j-1]:=Cr (by omega)
  rw [e,Ew rfl hy,hy]
  have h0:(j==0)=false:=by simpa using h
  simp only [cond_true,Ag,h0,Bool.false_or]
  by_cases hc:f l[j-1]<f x
  .rw [Bb (by omega),Ba hc]; rfl
  .rw [Ba (by omega),Bb hc]; rfl
theorem Il (a:Ao):Fw a=some (Cd a):=by
 unfold Fw Cd
 rw [Afh]
 simp only [Ag]
 by_cases h1 : -1048576<=a.Const/\a.Const<=1048576
 .rw [Ba h1]
  by_cases h2:a.Terms.length<=16
  .rw [Bb (by omega:¬(a.Terms.length:Int)>16),Ba ⟨h1.1,h1.2,h2⟩]
   simp only [bnt,cond_false,Ag,Bool.true_and]
   refine (T9 a.Terms (fun q=>Ik a.Terms q.1 q.2) (fun j=>(j:Int)) rfl (by omega) (rt:=true) (rf:=false) ?_ ?_).trans (by rw [L9])
   .intro j x hx _ h1 h2 h3
    simp only [h1,h2,h3,cond_true,Ag,Ani,Afh,Z1 (·.Var) a.Terms hx (by omega),Ik]
    by_cases g1 : -1<=x.Var/\x.Var<3000
    .by_cases g2:x.Coef=0
     .rw [Ba g1,Fd g2,Bb (fun h=>h.2.2.1 g2)]
      exact ⟨(fun h=>by cases h),fun _=>⟨.inl false,rfl,rfl⟩⟩
     .by_cases g3 : -1048576<=x.Coef/\x.Coef<=1048576
      .rw [Ba g1,C6 g2,Ba g3,Ba ⟨g1.1,g1.2,g2,g3.1,g3.2⟩]
       cases Jt (·.Var) a.Terms x j with
       | true=>exact ⟨fun _=>rfl,fun h=>by cases h⟩
       | false=>exact ⟨(fun h=>by cases h),fun _=>⟨.inl false,rfl,rfl⟩⟩
      .rw [Ba g1,C6 g2,Bb g3,Bb (fun h=>g3 h.2.2.2)]
       exact ⟨(fun h=>by cases h),fun _=>⟨.inl false,rfl,rfl⟩⟩
    .rw [Bb g1,Bb (fun h=>g1 ⟨h.1,h.2.1⟩)]
     exact ⟨(fun h=>by cases h),fun _=>⟨.inl false,rfl,rfl⟩⟩
   .intro h _
    exact ⟨.inr (),by simp only [h]; rfl,rfl⟩
  .rw [Ba (by omega:(a.Terms.length:Int)>16),Bb (fun h=>h2 h.2.2)]; rfl
 .rw [Bb h1,Bb (fun h : -1048576<=a.Const/\a.Const<=1048576/\a.Terms.length<=16=>h1 ⟨h.1,h.2.1⟩)]; rfl
theorem Mi (a:Ao):Ic a=some (Cd a):=by
 unfold Ic Cd
 by_cases h2:a.Terms.length<=16
 .rw [Bb (by omega:¬(a.Terms.length:Int)>16)]
  by_cases h1 : -1048576<=a.Const
  .rw [Bb (by omega:¬a.Const < -1048576)]
   by_cases h3:a.Const<=1048576
   .rw [Bb (by omega:¬a.Const>1048576),Ba ⟨h1,h3,h2⟩]
    simp only [cond_false,Ag,Bool.true_and]
    refine (T9 a.Terms (fun q=>Ik a.Terms q.1 q.2) (fun j=>(j:Int)) rfl (by omega) (rt:=true) (rf:=false) ?_ ?_).trans (by rw [L9])
    .intro j x hx _ h1 h2 h3
     simp only [h1,h2,h3,cond_true,Ag,Z1 (·.Var) a.Terms hx (by omega),Ik]
     by_cases g1:x.Var < -1
     .rw [Ba g1,Bb (fun h=>by omega)]
      exact ⟨(fun h=>by cases h),fun _=>⟨.inl false,rfl,rfl⟩⟩
     by_cases g2:x.Var>=3000
     .rw [Bb g1,Ba g2,Bb (fun h=>by omega)]
      exact ⟨(fun h=>by cases h),fun _=>⟨.inl false,rfl,rfl⟩⟩
     by_cases g3:x.Coef=0
     .rw [Bb g1,Bb g2,Fd g3,Bb (fun h=>by omega)]
      exact ⟨(fun h=>by cases h),fun _=>⟨.inl false,rfl,rfl⟩⟩
     by_cases g4:x.Coef < -1048576
     .rw [Bb g1,Bb g2,C6 g3,Ba g4,Bb (fun h=>by omega)]
      exact ⟨(fun h=>by cases h),fun _=>⟨.inl false,rfl,rfl⟩⟩
     by_cases g5:x.Coef>1048576
     .rw [Bb g1,Bb g2,C6 g3,Bb g4,Ba g5,Bb (fun h=>by omega)]
      exact ⟨(fun h=>by cases h),fun _=>⟨.inl false,rfl,rfl⟩⟩
     rw [Bb g1,Bb g2,C6 g3,Bb g4,Bb g5,Ba (by omega)]
     cases Jt (·.Var) a.Terms x j with
     | true=>exact ⟨fun _=>rfl,fun h=>by cases h⟩
     | false=>exact ⟨(fun h=>by cases h),fun _=>⟨.inl false,rfl,rfl⟩⟩
    .intro h _
     exact ⟨.inr (),by simp only [h]; rfl,rfl⟩
   .rw [Ba (by omega:a.Const>1048576),Bb (fun h : -1048576<=a.Const/\a.Const<=1048576/\a.Terms.length<=16=>by omega)]; rfl
  .rw [Ba (by omega:a.Const < -1048576),Bb (fun h : -1048576<=a.Const/\a.Const<=1048576/\a.Terms.length<=16=>by omega)]; rfl
 .rw [Ba (by omega:(a.Terms.length:Int)>16),Bb (fun h : -1048576<=a.Const/\a.Const<=1048576/\a.Terms.length<=16=>by omega)]; rfl
end Go.Ab
namespace Go.Ab
open Go
section
variable (b1:List (ByteArray×Int)) (b2:List (ByteArray×List Db)) (data:List B3) (vars:List Aw) (res:Aw)
def Anj (t:Ax):Bool:=match tyX vars res t.Var with | some u=>u.Kind==1 | none=>false
def Ank (l:Ao):Bool:=l.Terms.all (Anj vars res)
def Afi (f:Cu):Int:=match tyX vars res f.Var with | some t=>Anb (Afc data f.Index t) | none => -1
def Anl (l:List Cu):Int:=(l.map (Afi data vars res)).sum
def Anm (l:List B5):Int:=(l.map (·.Deg)).sum
def Ano (l:List B5) (x:B5) (j:Nat):Bool:=j==0||(match l[j-1]? with | some y=>decide (Un y.Lin x.Lin<0) | none=>false)
def Anp (l:List Cu) (f:Cu) (j:Nat):Bool:=decide (1<=Afi data vars res f)&&Jt (·.Var) l f j
def Anq (l:List B5) (a:B5) (j:Nat):Bool:=decide (1<=a.Deg)&&Cd a.Lin && !(a.Lin.Terms.length==0)&&Ank vars res a.Lin&&Ano l a j
def Uo (m:Ce):Bool:=m.Factors.zipIdx.all (fun q=>Anp data vars res m.Factors q.1 q.2)&&m.Atoms.zipIdx.all (fun q=>Anq vars res m.Atoms q.1 q.2)&&decide (Anl data vars res m.Factors+Anm m.Atoms<=6)
variable {b1 data vars res}
end
end Go.Ab
namespace Go.Ab
open Go
section
variable {b1:List (ByteArray×Int)} (b2:List (ByteArray×List Db)) {data:List B3} {vars:List Aw} {res:Aw}
end
end Go.Ab
namespace Go.Ab
open Go
def Z2 (a b:Ai):Bool:=a.Neg==b.Neg&&decide (a.Num=b.Num)&&decide (a.Den=b.Den)
theorem Anr (a b:Ai):Z2 a b=true↔a=b:=by
 unfold Z2
 simp only [bae,beq_iff_eq,decide_eq_true_eq]
 constructor
 .rintro ⟨⟨h1,h2⟩,h3⟩; cases a; cases b; simp_all
 .rintro rfl; simp
def Up (c:Ai):Bool:=Z2 (Ca (sv c) (nv c) (dv c)) c && !(nv c==0)
structure TSz (t:Az):Prop where
 co:RB 1048576 t.Coef
 mo:MSz t.Mono
def Uq (l:List Az) (x:Az) (j:Nat):Bool:=j==0||(match l[j-1]? with | some y=>decide (Dz y.Mono x.Mono<0) | none=>false)
def Z3 (data:List B3) (vars:List Aw) (res:Aw) (l:List Az) (t:Az) (j:Nat):Bool:=Up t.Coef&&Uo data vars res t.Mono&&Uq l t j
def Z4 (data:List B3) (vars:List Aw) (res:Aw) (p:List Az):Bool:=decide (p.length<=1000)&&p.zipIdx.all (fun q=>Z3 data vars res p q.1 q.2)
end Go.Ab
namespace Go.Ab
open Go
end Go.Ab
namespace Go.Ab
open Go
end Go.Ab
namespace Go.Ab
open Go
end Go.Ab
namespace Go.Ab
open Go
end Go.Ab
namespace Go.Ab
open Go
theorem Ans (a b:Ai) (j k:Nat) (ha:RB j a) (hb:RB k b) (hj:j<34359738000) (hk:k<34359738000):∃c,Ez a b=some c/\Ie a b=some c/\RB (j+k+2) c:=by
 refine ⟨_,Uf a b j k ha hb (by omega) (by omega),Amu a b j k ha hb (by omega) (by omega),?_⟩
 have h1:=ha.nv
 have h2:=ha.dv
 have h3:=hb.nv
 have h:=hb.dv
 have g:=Er (nv a) (nv b)
 have f:=Er (dv a) (dv b)
 exact I7 _ _ _ _ (by omega) (by omega) (by omega)
theorem Ant (a b:Ai) (j k:Nat) (ha:RB j a) (hb:RB k b) (hj:j<34359738000) (hk:k<34359738000):∃c,Jg a b=some c/\Hk a b=some c/\RB (j+k+3) c:=by
 refine ⟨_,Zm a b j k ha hb (by omega) (by omega),Amw a b j k ha hb (by omega) (by omega),?_⟩
 have h1:=ha.nv
 have h2:=ha.dv
 have h3:=hb.nv
 have s:=hb.dv
 have q:=Er (nv a) (dv b)
 have l:=Er (nv b) (dv a)
 have i:=Er (dv a) (dv b)
 have f:Fz (sv a) (nv a) (dv a) (sv b) (nv b) (dv b)<=nv a*dv b+nv b*dv a:=by
  unfold Fz
  split
  .omega
  .split <;> omega
 have h:=E9 f
 have g:=Qk (nv a*dv b) (nv b*dv a)
 exact I7 _ _ _ _ (by omega) (by omega) (by omega)
end Go.Ab
namespace Go.Ab
open Go
end Go.Ab
namespace Go.Ab
open Go
end Go.Ab
namespace Go.Ab
open Go
end Go.Ab
namespace Go.Ab
open Go
def sg (s:Bool) (n:Nat):Int:=if s then -(n:Int) else n
def rq (a:Ai):Rat:=mkRat (sg (sv a) (nv a)) (dv a)
def Fs (a:Ai):Prop:=a=Ca (sv a) (nv a) (dv a)
theorem I8 (s:Bool) (n d:Nat) (hd:d≠0):rq (Ca s n d)=mkRat (sg s n) d:=by
 obtain ⟨g,i,h1,h2,h3,j⟩:=Ae7 s n d hd
 unfold rq
 rw [Rat.mkRat_eq_iff (Dn _) hd]
 generalize nv (Ca s n d)=b at *
 generalize dv (Ca s n d)=k at *
 generalize sv (Ca s n d)=f at *
 by_cases c:n=0
 .have:b=0:=by
   rcases Nat.eq_zero_or_pos b with h | h
   .exact h
   .have:=Nat.mul_pos (Nat.pos_of_ne_zero i) h; omega
  subst this; subst c
  cases s <;> cases f <;> simp [sg]
 .rw [h3 c,h1,h2]
  cases s <;> simp only [sg,if_true,if_false,Bool.false_eq_true,Int.natCast_mul] <;> grind
theorem Ku (s:Bool) (n d:Nat) (hd:d≠0):Fs (Ca s n d):=by
 obtain ⟨g,b,h1,h2,h3,i⟩:=Ae7 s n d hd
 unfold Fs
 generalize hc:Ca s n d=c at h1 h2 h3 i
 have e:=Qm s (nv c) (dv c) g b
 rw [<-h1,<-h2,hc] at e
 by_cases f:n=0
 .have h0:nv c=0:=by
   rcases Nat.eq_zero_or_pos (nv c) with h | h
   .exact h
   .have:=Nat.mul_pos (Nat.pos_of_ne_zero b) h; omega
  rw [h0,Zn] at e ⊢
  exact e
 .rw [h3 f]; exact e
theorem Afj (n m:Int) {d e:Nat} (hd:d≠0) (g:e≠0):mkRat n d<mkRat m e↔n*e<m*d:=by
 have c:(0:Rat)<(d:Rat):=Rat.natCast_pos.2 (by omega)
 have b:(0:Rat)<(e:Rat):=Rat.natCast_pos.2 (by omega)
 rw [Rat.mkRat_eq_div,Rat.mkRat_eq_div,Rat.div_lt_iff c]
 rw [<-Rat.mul_lt_mul_right b]
 have f:(m:Rat) / (e:Rat)*(d:Rat)*(e:Rat)=(m:Rat)*(d:Rat):=by grind
 rw [f]
 have a1:(n:Rat)*(e:Rat)=((n*(e:Int):Int):Rat):=by rw [Rat.intCast_mul]; rfl
 have a2:(m:Rat)*(d:Rat)=((m*(d:Int):Int):Rat):=by rw [Rat.intCast_mul]; rfl
 rw [a1,a2,Rat.intCast_lt_intCast]
theorem Afk {a b:Ai} (ha:Fs a) (hb:Fs b) (h:rq a=rq b):a=b:=by
 unfold rq at h
 rw [Rat.mkRat_eq_iff (Dn _) (Dn _)] at h
 rw [ha,hb]
 have q:=Dn a
 have l:=Dn b
 generalize nv a=n at *
 generalize dv a=d at *
 generalize sv a=s at *
 generalize nv b=m at *
 generalize dv b=e at *
 generalize sv b=t at *
 have f:n*e=m*d/\(n≠0->s=t):=by
  have c:n≠0->0<n*e:=fun h=>Nat.mul_pos (by omega) (by omega)
  have g:m≠0->0<m*d:=fun h=>Nat.mul_pos (by omega) (by omega)
  have x:((n*e:Nat):Int)=(n:Int)*e:=by simp
  have u:((m*d:Nat):Int)=(m:Int)*d:=by simp
  cases s <;> cases t <;> simp only [sg,if_true,if_false,Bool.false_eq_true,Int.neg_mul] at h
  .exact ⟨by omega,fun _=>rfl⟩
  .have:n*e=0/\m*d=0:=by omega
   refine ⟨by omega,fun i=>?_⟩
   have:=c i; omega
  .have:n*e=0/\m*d=0:=by omega
   refine ⟨by omega,fun i=>?_⟩
   have:=c i; omega
  .exact ⟨by omega,fun _=>rfl⟩
 have k:=Qm s n d e l
 have j:=Qm t m e d q
 rw [<-k,<-j,Nat.mul_comm e n,f.1,Nat.mul_comm e d,Nat.mul_comm m d]
 refine Amd fun h0=>f.2 ?_
 rintro rfl
 rw [Nat.zero_mul] at f
 have:=f.1
 rw [Nat.mul_comm d m] at h0
 omega
theorem Afl (j:Bool) (c g:Nat) (i:Bool) (b f:Nat):sg (Gw j c g i b f) (Fz j c g i b f)=sg j c*f+sg i b*g:=by
 unfold Gw Fz sg
 have l:((c*f:Nat):Int)=(c:Int)*f:=by simp
 have k:((b*g:Nat):Int)=(b:Int)*g:=by simp
 cases j <;> cases i <;> simp only [if_true,if_false,Bool.false_eq_true,Bool.true_eq_false,Int.neg_mul]
 .omega
 .by_cases h:b*g<=c*f
  .simp only [if_pos h]; simp only [if_false,Bool.false_eq_true]; omega
  .simp only [if_neg h]; simp only [if_true]; omega
 .by_cases h:b*g<=c*f
  .simp only [if_pos h]; simp only [if_true]; omega
  .simp only [if_neg h]; simp only [if_false,Bool.false_eq_true]; omega
 .omega
theorem Z5 {a b:Ai} {j k:Nat} (ha:RB j a) (hb:RB k b) (hj:j<34359738000) (hk:k<34359738000):∃c,Jg a b=some c/\Hk a b=some c/\RB (j+k+3) c/\Fs c/\rq c=rq a+rq b:=by
 obtain ⟨c,h1,h2,h3⟩:=Ant a b j k ha hb hj hk
 have e:=Zm a b j k ha hb (by omega) (by omega)
 rw [h1] at e
 have e:=Option.some.inj e
 have hd:dv a*dv b≠0:=Nat.mul_ne_zero (Dn a) (Dn b)
 refine ⟨c,h1,h2,h3,?_,?_⟩
 .rw [e]; exact Ku _ _ _ hd
 .rw [e,I8 _ _ _ hd,Afl,rq,rq,Rat.mkRat_add_mkRat _ _ (Dn a) (Dn b)]
theorem Afm (s t:Bool) (n m:Nat):sg (s != t) (n*m)=sg s n*sg t m:=by
 unfold sg
 cases s <;> cases t <;> simp [Int.neg_mul,Int.mul_neg]
theorem Anu {a b:Ai} {j k:Nat} (ha:RB j a) (hb:RB k b) (hj:j<34359738000) (hk:k<34359738000):∃c,Ez a b=some c/\RB (j+k+2) c/\Fs c/\rq c=rq a*rq b:=by
 have hd:dv a*dv b≠0:=Nat.mul_ne_zero (Dn a) (Dn b)
 have h1:=ha.nv
 have h2:=ha.dv
 have h3:=hb.nv
 have h:=hb.dv
 have g:=Er (nv a) (nv b)
 have f:=Er (dv a) (dv b)
 refine ⟨_,Uf a b j k ha hb (by omega) (by omega),I7 _ _ _ _ (by omega) (by omega) (by omega),Ku _ _ _ hd,?_⟩
 rw [I8 _ _ _ hd,Afm,rq,rq,Rat.mkRat_mul_mkRat]
theorem Afn {a b:Ai} {j k:Nat} (ha:RB j a) (hb:RB k b) (hj:j<34359738000) (hk:k<34359738000):∃c,Ez a b=some c/\Ie a b=some c/\RB (j+k+2) c/\Fs c/\rq c=rq a*rq b:=by
 obtain ⟨c,h1,h2,h3⟩:=Ans a b j k ha hb hj hk
 have e:=Uf a b j k ha hb (by omega) (by omega)
 rw [h1] at e
 have e:=Option.some.inj e
 have hd:dv a*dv b≠0:=Nat.mul_ne_zero (Dn a) (Dn b)
 refine ⟨c,h1,h2,h3,?_,?_⟩
 .rw [e]; exact Ku _ _ _ hd
 .rw [e,I8 _ _ _ hd,Afm,rq,rq,Rat.mkRat_mul_mkRat]
def Gx (x:Rat):Int:=if x<0 then -1 else if 0<x then 1 else 0
theorem Anv (a:Ai):rq a<0↔Gv (sv a) (nv a) = -1:=by
 have e:(0:Rat)=mkRat 0 1:=by simp
 rw [rq,e,Afj _ _ (Dn a) (by decide)]
 unfold sg Gv
 split <;> split <;> simp <;> omega
theorem Anw (a:Ai):0<rq a↔Gv (sv a) (nv a)=1:=by
 have e:(0:Rat)=mkRat 0 1:=by simp
 rw [rq,e,Afj _ _ (by decide) (Dn a)]
 unfold sg Gv
 split <;> split <;> simp <;> omega
theorem Anx (a:Ai):Gv (sv a) (nv a)=Gx (rq a):=by
 have h1:=Anv a
 have h2:=Anw a
 have h3:Gv (sv a) (nv a) = -1\/Gv (sv a) (nv a)=0\/Gv (sv a) (nv a)=1:=by unfold Gv; split <;> (try split) <;> simp
 unfold Gx
 split
 .rename_i h; exact h1.1 h
 .rename_i h
  split
  .rename_i h'; exact h2.1 h'
  .rename_i h'
   rcases h3 with h3 | h3 | h3
   .exact (h (h1.2 h3)).elim
   .exact h3
   .exact (h' (h2.2 h3)).elim
theorem Kv {a:Ai} {k:Nat} (h:RB k a) (hk:k<34359738000):Fp a=some (Gx (rq a))/\Jh a=some (Gx (rq a)):=by
 rw [<-Anx]
 exact ⟨Amb a k h (by omega),Amx a k h (by omega)⟩
end Go.Ab
namespace Go.Ab
open Go
structure Dh {α:Type} (S:α->Prop) (g:α->α->Int):Prop where
 zero:∀a b,S a->S b->(g a b=0↔a=b)
 anti:∀a b,S a->S b->g b a = - g a b
 trans:∀a b c,S a->S b->S c->g a b<0->g b c<0->g a c<0
theorem Dh.cmpI:Dh (fun _:Int=>True) D2:=by
 refine ⟨fun a b _ _=>Qu,fun a b _ _=>?_,fun a b c _ _ _=>?_⟩
 .unfold Go.Ab.D2; split <;> split <;> (try split) <;> (try split) <;> omega
 .unfold Go.Ab.D2; intro h1 h2; split at h1 <;> (try split at h1) <;> split at h2 <;> (try split at h2) <;> first | omega | (rw [if_pos (by omega)]; decide)
theorem Afo {x y:Int}:orI x y<0↔x<0\/(x=0/\y<0):=by unfold orI; split <;> omega
theorem Afp {x y:Int}:orI x y=0↔x=0/\y=0:=by unfold orI; split <;> omega
theorem Dh.or {α β γ:Type} {S:α->Prop} {s:β->Prop} {l:γ->Prop} {j:β->β->Int} {i:γ->γ->Int} (p:α->β) (q:α->γ) (g:∀a b,p a=p b->q a=q b->a=b) (h1:Dh s j) (h2:Dh l i) (f:∀a,S a->s (p a)/\l (q a)) :
  Dh S (fun a b=>orI (j (p a) (p b)) (i (q a) (q b))):=by
 refine ⟨fun a b ha hb=>?_,fun a b ha hb=>?_,fun a b c ha hb hc=>?_⟩
 .rw [Afp,h1.zero _ _ (f a ha).1 (f b hb).1,h2.zero _ _ (f a ha).2 (f b hb).2]
  exact ⟨fun h=>g a b h.1 h.2,fun h=>by subst h; exact ⟨rfl,rfl⟩⟩
 .show orI (j (p b) (p a)) (i (q b) (q a)) = - orI (j (p a) (p b)) (i (q a) (q b))
  have z:=h1.anti _ _ (f a ha).1 (f b hb).1
  have y:=h2.anti _ _ (f a ha).2 (f b hb).2
  rw [z,y]; unfold orI; split <;> split <;> omega
 .show orI _ _<0->orI _ _<0->orI _ _<0
  simp only [Afo]
  have u:=h1.zero _ _ (f a ha).1 (f b hb).1
  have z2:=h1.zero _ _ (f b hb).1 (f c hc).1
  have t1:=h1.trans _ _ _ (f a ha).1 (f b hb).1 (f c hc).1
  have t2:=h2.trans _ _ _ (f a ha).2 (f b hb).2 (f c hc).2
  rintro (h | ⟨h,h'⟩) (k | ⟨k,x⟩)
  .exact .inl (t1 h k)
  .rw [<-z2.1 k]; exact .inl h
  .rw [u.1 h]; exact .inl k
  .rw [<-z2.1 k,h]; exact .inr ⟨rfl,t2 h' x⟩
theorem Dh.mono {α:Type} {S i:α->Prop} {g:α->α->Int} (h:Dh S g) (f:∀a,i a->S a):Dh i g :=
 ⟨fun a b ha hb=>h.zero a b (f a ha) (f b hb),fun a b ha hb=>h.anti a b (f a ha) (f b hb),fun a b c ha hb hc=>h.trans a b c (f a ha) (f b hb) (f c hc)⟩
theorem Dh.congr {α:Type} {S:α->Prop} {g c:α->α->Int} (h:Dh S g) (e:∀a b,c a b=g a b):Dh S c:=by
 have:c=g:=funext fun a=>funext fun b=>e a b
 rw [this]; exact h
def LL {α:Type} (g:α->α->Int) (l m:List α):Int:=if l.length=m.length then E2 g l m else Go.Ab.D2 l.length m.length
theorem Afq {α:Type} {S:α->Prop} {g:α->α->Int} (h:Dh S g):∀l m:List α,l.length=m.length->(∀x∈l,S x)->(∀x∈m,S x)->(E2 g l m=0↔l=m)
 | [],[],_,_,_=>by simp [E2]
 | x::xs,y::ys,b,h1,h2=>by
  simp only [E2,Afp,h.zero x y (h1 x (by simp)) (h2 y (by simp)),Afq h xs ys (by simpa using b) (fun z c=>h1 z (by simp [c])) (fun z c=>h2 z (by simp [c])),List.cons.injEq]
 | [],_::_,b,_,_=>by simp at b
 | _::_,[],b,_,_=>by simp at b
theorem Afr {α:Type} {S:α->Prop} {g:α->α->Int} (h:Dh S g):∀l m:List α,l.length=m.length->(∀x∈l,S x)->(∀x∈m,S x)->E2 g m l = - E2 g l m
 | [],[],_,_,_=>by simp [E2]
 | x::xs,y::ys,b,h1,h2=>by
  simp only [E2,h.anti x y (h1 x (by simp)) (h2 y (by simp)),Afr h xs ys (by simpa using b) (fun z c=>h1 z (by simp [c])) (fun z c=>h2 z (by simp [c]))]
  unfold orI; split <;> split <;> omega
 | [],_::_,b,_,_=>by simp at b
 | _::_,[],b,_,_=>by simp at b
theorem Afs {α:Type} {S:α->Prop} {g:α->α->Int} (h:Dh S g):∀l m n:List α,l.length=m.length->m.length=n.length->(∀x∈l,S x)->(∀x∈m,S x)->(∀x∈n,S x)->E2 g l m<0->E2 g m n<0->E2 g l n<0
 | [],[],_,_,_,_,_,_=>by intro h; simp [E2] at h
 | x::xs,y::ys,z::j,f,i,h1,h2,h3=>by
  simp only [E2,Afo]
  have k:=h.zero x y (h1 x (by simp)) (h2 y (by simp))
  have z2:=h.zero y z (h2 y (by simp)) (h3 z (by simp))
  have t1:=h.trans x y z (h1 x (by simp)) (h2 y (by simp)) (h3 z (by simp))
  have t2:=Afs h xs ys j (by simpa using f) (by simpa using i) (fun z c=>h1 z (by simp [c])) (fun z c=>h2 z (by simp [c])) (fun z c=>h3 z (by simp [c]))
  rintro (a | ⟨a,s⟩) (b | ⟨b,q⟩)
  .exact .inl (t1 a b)
  .rw [<-z2.1 b]; exact .inl a
  .rw [k.1 a]; exact .inl b
  .rw [<-z2.1 b,a]; exact .inr ⟨rfl,t2 s q⟩
 | _::_,_::_,[],_,i,_,_,_=>by simp at i
 | [],_::_,_,f,_,_,_,_=>by simp at f
 | _::_,[],_,f,_,_,_,_=>by simp at f
theorem Dh.ll {α:Type} {S:α->Prop} {g:α->α->Int} (h:Dh S g):Dh (fun l=>∀x∈l,S x) (LL g):=by
 have c:=Dh.cmpI
 refine ⟨fun a b ha hb=>?_,fun a b ha hb=>?_,fun x y z hx hy q=>?_⟩
 .unfold LL
  split
  .rename_i i; exact Afq h a b i ha hb
  .rename_i i
   rw [Qu]
   exact ⟨fun e=>(i (by omega)).elim,fun e=>(i (by rw [e])).elim⟩
 .unfold LL
  by_cases i:a.length=b.length
  .rw [if_pos i,if_pos i.symm]; exact Afr h a b i ha hb
  .rw [if_neg i,if_neg (fun e=>i e.symm)]; exact c.anti _ _ trivial trivial
 .unfold LL
  intro h1 h2
  have neg:∀a b:Int,Go.Ab.D2 a b<0->a<b:=by intro a b h; unfold Go.Ab.D2 at h; split at h <;> (try split at h) <;> omega
  have f:∀a b:Int,a<b->Go.Ab.D2 a b<0:=by intro a b h; unfold Go.Ab.D2; rw [if_pos h]; decide
  by_cases k:x.length=y.length
  .rw [if_pos k] at h1
   by_cases j:y.length=z.length
   .rw [if_pos j] at h2; rw [if_pos (by omega)]; exact Afs h x y z k j hx hy q h1 h2
   .rw [if_neg j] at h2; rw [if_neg (by omega)]
    have:=neg _ _ h2; exact f _ _ (by omega)
  .rw [if_neg k] at h1
   have:=neg _ _ h1
   by_cases j:y.length=z.length
   .rw [if_neg (by omega)]; exact f _ _ (by omega)
   .rw [if_neg j] at h2
    have:=neg _ _ h2
    rw [if_neg (by omega)]; exact f _ _ (by omega)
theorem Aft {α:Type} (g:α->α->Int) (l m:List α) (y:Int):orI (LL g l m) y=if l.length=m.length then orI (E2 g l m) y else Go.Ab.D2 l.length m.length:=by
 unfold LL
 by_cases h:l.length=m.length
 .rw [if_pos h,if_pos h]
 .rw [if_neg h,if_neg h]
  unfold orI
  rw [if_neg (fun e=>h (by have:=Qu.1 e; omega))]
theorem Anz:Dh (fun _=>True) Zy :=
 (Dh.or (S:=fun _=>True) (fun t:Ax=>t.Var) (fun t=>t.Coef) (fun a b h1 h2=>by cases a; cases b; cases h1; cases h2; rfl) Dh.cmpI Dh.cmpI (fun _ _=>⟨trivial,trivial⟩)).congr fun _ _=>rfl
theorem An0:Dh (fun _=>True) Un :=
 (Dh.or (S:=fun _=>True) (fun t:Ao=>t.Terms) (fun t=>t.Const) (fun a b h1 h2=>by cases a; cases b; cases h1; cases h2; rfl) Anz.ll Dh.cmpI (fun _ _=>⟨fun _ _=>trivial,trivial⟩)).congr fun a b=>by
  show Un a b=orI (LL Zy a.Terms b.Terms) (Go.Ab.D2 a.Const b.Const)
  rw [Aft]; rfl
theorem An1 (i j:Cq):Js i j=orI (Go.Ab.D2 i.Num j.Num) (LL Js i.Kids j.Kids):=by
 rw [Anh,Afg]
 unfold orI LL
 by_cases h:i.Num=j.Num
 .rw [if_pos h,if_pos (Qu.2 h)]
 .rw [if_neg h,if_neg (fun e=>h (Qu.1 e))]
theorem Z6:∀n:Nat,Dh (fun i=>isz i<=n) Js:=by
 intro n
 induction n with
 | zero=>exact ⟨fun a _ ha=>by have:=Um a; omega,fun a _ ha=>by have:=Um a; omega,fun a _ _ ha=>by have:=Um a; omega⟩
 | succ n ih=>
  refine (Dh.or (S:=fun i=>isz i<=n+1) (fun i:Cq=>i.Num) (fun i=>i.Kids) (fun a b h1 h2=>by cases a; cases b; cases h1; cases h2; rfl) Dh.cmpI ih.ll ?_).congr An1
  intro i c
  refine ⟨trivial,fun x hx=>?_⟩
  have h1:=Ana hx
  have h2:=Um i
  show isz x<=n
  omega
theorem An2:Dh (fun _=>True) Js :=
 ⟨fun a b _ _=>(Z6 (max (isz a) (isz b))).zero a b (by show isz a<=_; omega) (by show isz b<=_; omega),fun a b _ _=>(Z6 (max (isz a) (isz b))).anti a b (by show isz a<=_; omega) (by show isz b<=_; omega),
  fun a b c _ _ _=>(Z6 (max (isz a) (max (isz b) (isz c)))).trans a b c (by show isz a<=_; omega) (by show isz b<=_; omega) (by show isz c<=_; omega)⟩
theorem An3:Dh (fun _=>True) Zz :=
 (Dh.or (S:=fun _=>True) (fun t:Cu=>t.Var) (fun t=>t.Index) (fun a b h1 h2=>by cases a; cases b; cases h1; cases h2; rfl) Dh.cmpI An2 (fun _ _=>⟨trivial,trivial⟩)).congr fun _ _=>rfl
theorem An4:Dh (fun _=>True) Z0 :=
 (Dh.or (S:=fun _=>True) (fun t:B5=>t.Lin) (fun t=>t.Deg) (fun a b h1 h2=>by cases a; cases b; cases h1; cases h2; rfl) An0 Dh.cmpI (fun _ _=>⟨trivial,trivial⟩)).congr fun _ _=>rfl
theorem Z7:Dh (fun _=>True) Dz :=
 (Dh.or (S:=fun _=>True) (fun t:Ce=>t.Factors) (fun t=>t.Atoms) (fun a b h1 h2=>by cases a; cases b; cases h1; cases h2; rfl) An3.ll An4.ll (fun _ _=>⟨fun _ _=>trivial,fun _ _=>trivial⟩)).congr fun a b=>by
  show Dz a b=orI (LL Zz a.Factors b.Factors) (LL Z0 a.Atoms b.Atoms)
  rw [Aft]; rfl
theorem Qv {a b:Ce}:Dz a b=0↔a=b:=Z7.zero a b trivial trivial
theorem Afu (a b:Ce):Dz b a = - Dz a b:=Z7.anti a b trivial trivial
theorem Z8 {a b c:Ce} (h:Dz a b<0) (h':Dz b c<0):Dz a c<0:=Z7.trans a b c trivial trivial trivial h h'
end Go.Ab
namespace Go.Ab
open Go
theorem An5 (m:Ce):Dz m m=0:=Qv.2 rfl
theorem An6 {a b:Ce}:0<Dz a b↔Dz b a<0:=by rw [Afu a b]; omega
def cf:List Az->Ce->Rat
 | [],_=>0
 | t::p,m=>(if Dz t.Mono m=0 then rq t.Coef else 0)+cf p m
def ltT (t u:Az):Prop:=Dz t.Mono u.Mono<0
structure CP (p:List Az):Prop where
 srt:p.Pairwise ltT
 coe:∀t∈p,Fs t.Coef/\rq t.Coef≠0
theorem CP.tail {t:Az} {p:List Az} (h:CP (t::p)):CP p:=⟨(List.pairwise_cons.1 h.srt).2,fun u hu=>h.coe u (by simp [hu])⟩
theorem CP.head {t:Az} {p:List Az} (h:CP (t::p)):∀u∈p,Dz t.Mono u.Mono<0:=(List.pairwise_cons.1 h.srt).1
theorem CP.nil:CP []:=⟨List.Pairwise.nil,fun _ h=>by cases h⟩
theorem CP.cons {t:Az} {p:List Az} (h:CP p) (h1:∀u∈p,Dz t.Mono u.Mono<0) (h2:Fs t.Coef) (h3:rq t.Coef≠0):CP (t::p) :=
 ⟨List.pairwise_cons.2 ⟨h1,h.srt⟩,fun u hu=>by
  rcases List.mem_cons.1 hu with rfl | hu
  .exact ⟨h2,h3⟩
  .exact h.coe u hu⟩
theorem An7 {p:List Az} {m:Ce} (h:∀t∈p,Dz t.Mono m≠0):cf p m=0:=by
 induction p with
 | nil=>rfl
 | cons t p ih=>
  simp only [cf]
  rw [if_neg (h t (by simp)),ih (fun u hu=>h u (by simp [hu]))]; grind
theorem Mj {p:List Az} {m:Ce} (h:∀t∈p,Dz m t.Mono<0):cf p m=0 :=
 An7 fun t ht e=>by have:=h t ht; rw [Afu,e] at this; omega
theorem Mk {t:Az} {p:List Az} (h:CP (t::p)):cf (t::p) t.Mono=rq t.Coef:=by
 simp only [cf]
 rw [if_pos (An5 _),Mj h.head]; grind
theorem Z9 {t:Az} {p:List Az} {m:Ce} (h:Dz t.Mono m≠0):cf (t::p) m=cf p m:=by
 simp only [cf]; rw [if_neg h]; grind
theorem An8 (p q:List Az) (m:Ce):cf (p++q) m=cf p m+cf q m:=by
 induction p with
 | nil=>simp only [List.nil_append,cf]; grind
 | cons t p ih=>simp only [List.cons_append,cf,ih]; grind
theorem An9 {p:List Az} (h:CP p) {t:Az} (ht:t∈p):cf p t.Mono=rq t.Coef:=by
 induction p with
 | nil=>cases ht
 | cons u p ih=>
  rcases List.mem_cons.1 ht with rfl | ht
  .exact Mk h
  .have:=h.head t ht
   rw [Z9 (by omega)]; exact ih h.tail ht
theorem CP.ext:∀{p q:List Az},CP p->CP q->(∀m,cf p m=cf q m)->p=q
 | [],[],_,_,_=>rfl
 | [],u::q,_,h2,h=>by
  have:=h u.Mono
  rw [Mk h2] at this
  exact ((h2.coe u (by simp)).2 this.symm).elim
 | t::p,[],h1,_,h=>by
  have:=h t.Mono
  rw [Mk h1] at this
  exact ((h1.coe t (by simp)).2 this).elim
 | t::p,u::q,h1,h2,h=>by
  have b:Dz t.Mono u.Mono=0:=by
   rcases Int.lt_trichotomy (Dz t.Mono u.Mono) 0 with k | k | k
   .have e:=h t.Mono
    rw [Mk h1,Mj (p:=u::q)] at e
    .exact ((h1.coe t (by simp)).2 e).elim
    .intro w hw
     rcases List.mem_cons.1 hw with rfl | hw
     .exact k
     .exact Z8 k (h2.head w hw)
   .exact k
   .have k:=An6.1 k
    have e:=h u.Mono
    rw [Mk h2,Mj (p:=t::p)] at e
    .exact ((h2.coe u (by simp)).2 e.symm).elim
    .intro w hw
     rcases List.mem_cons.1 hw with rfl | hw
     .exact k
     .exact Z8 k (h1.head w hw)
  have c:=Qv.1 b
  have hc:t.Coef=u.Coef:=by
   refine Afk (h1.coe t (by simp)).1 (h2.coe u (by simp)).1 ?_
   have e:=h t.Mono
   rw [Mk h1,c,Mk h2] at e
   exact e
  have ht:t=u:=by cases t; cases u; simp_all
  subst ht
  congr 1
  refine CP.ext h1.tail h2.tail fun m=>?_
  by_cases e:Dz t.Mono m=0
  .rw [<-Qv.1 e,Mj h1.head,Mj h2.head]
  .have:=h m
   rwa [Z9 e,Z9 e] at this
theorem Afv (c:Ai):Up c=true↔Fs c/\rq c≠0:=by
 unfold Up Fs
 rw [bae,Anr]
 have h:(!(nv c==0))=true↔rq c≠0:=by
  have e:rq c=0↔nv c=0:=by
   unfold rq
   rw [Rat.mkRat_eq_zero (Dn c)]
   unfold sg; split <;> omega
  rw [Ne,e]; simp
 rw [h]
 exact ⟨fun ⟨a,b⟩=>⟨a.symm,b⟩,fun ⟨a,b⟩=>⟨a.symm,b⟩⟩
theorem Aoa {l:List Az} (h:∀(j:Nat) (x y:Az),l[j]? = some x->l[j+1]? = some y->Dz x.Mono y.Mono<0):l.Pairwise ltT:=by
 induction l with
 | nil=>exact List.Pairwise.nil
 | cons t l ih=>
  have ih:=ih fun j x y hx hy=>h (j+1) x y (by simpa using hx) (by simpa using hy)
  refine List.pairwise_cons.2 ⟨?_,ih⟩
  cases l with
  | nil=>intro u hu; cases hu
  | cons v l=>
   have h0:=h 0 t v rfl rfl
   intro u hu
   rcases List.mem_cons.1 hu with rfl | hu
   .exact h0
   .exact Z8 h0 ((List.pairwise_cons.1 ih).1 u hu)
theorem Ur {data:List B3} {vars:List Aw} {res:Aw} {p:List Az}:Z4 data vars res p=true↔p.length<=1000/\CP p/\∀t∈p,Uo data vars res t.Mono=true:=by
 unfold Z4
 rw [bae,decide_eq_true_eq]
 constructor
 .rintro ⟨h1,h2⟩
  have g:∀(j:Nat) (t:Az),p[j]? = some t->Up t.Coef=true/\Uo data vars res t.Mono=true/\Uq p t j=true:=by
   intro j t hj
   have:=Ql h2 hj
   simp only [Z3,bae] at this
   exact ⟨this.1.1,this.1.2,this.2⟩
  refine ⟨h1,⟨Aoa fun j x y hx hy=>?_,fun t ht=>?_⟩,fun t ht=>?_⟩
  .have:=(g _ _ hy).2.2
   unfold Uq at this
   rw [show j+1-1=j by omega,hx] at this
   simpa using this
  .obtain ⟨j,hj⟩:=List.getElem?_of_mem ht
   exact (Afv _).1 (g j t hj).1
  .obtain ⟨j,hj⟩:=List.getElem?_of_mem ht
   exact (g j t hj).2.1
 .rintro ⟨h1,h2,h3⟩
  refine ⟨h1,List.all_eq_true.2 fun q hq=>?_⟩
  have hq:=List.mem_zipIdx' hq
  have hj:p[q.2]? = some q.1:=(Cr hq.1).trans (congrArg some hq.2.symm)
  have c:q.1∈p:=lmo hj
  simp only [Z3,bae]
  refine ⟨⟨(Afv _).2 (h2.coe _ c),h3 _ c⟩,?_⟩
  unfold Uq
  by_cases h0:q.2=0
  .rw [h0]; rfl
  .have b:q.2-1<p.length:=by omega
   rw [Cr b]
   have:=List.pairwise_iff_getElem.1 h2.srt (q.2-1) q.2 b hq.1 (by omega)
   rw [<-hq.2] at this
   simp only [Bool.or_eq_true,decide_eq_true_eq]
   exact .inr this
end Go.Ab
namespace Go.Ab
open Go
end Go.Ab
namespace Go.Ab
open Go
structure TB (k:Nat) (t:Az):Prop where
 co:RB k t.Coef
 mo:MSz t.Mono
theorem TSz.tb {t:Az} (h:TSz t):TB 1048576 t:=⟨h.co,h.mo⟩
theorem TB.mono {j k:Nat} {t:Az} (h:TB j t) (hk:j<=k):TB k t:=⟨h.co.mono hk,h.mo⟩
def Ml (c:Ai) (m:Ce):List Az:=if nv c=0 then [] else [⟨Ca (sv c) (nv c) (dv c),m⟩]
theorem Afw (c:Ai):rq c=0↔nv c=0:=by
 unfold rq
 rw [Rat.mkRat_eq_zero (Dn c)]
 unfold sg; split <;> omega
theorem Aob (c:Ai) (m n:Ce):cf (Ml c m) n=if Dz m n=0 then rq c else 0:=by
 unfold Ml
 split
 .rename_i h
  rw [(Afw c).2 h]; simp [cf]
 .simp only [cf,I8 _ _ _ (Dn c)]
  show (if Dz m n=0 then rq c else 0)+0=_
  grind
structure Mg (F:Rat->Rat->Rat) (k:Nat) (p q R:List Az):Prop where
 cp:CP R
 val:∀m,cf R m=F (cf p m) (cf q m)
 mon:∀t∈R,(∃u∈p,u.Mono=t.Mono)\/(∃u∈q,u.Mono=t.Mono)
 len:R.length<=p.length+q.length
 rb:∀t∈R,RB (k+1) t.Coef
theorem Aoc {k:Nat} {c:Ai} {m:Ce} (hc:RB k c):(∀t∈Ml c m,t.Mono=m/\Fs t.Coef/\rq t.Coef≠0/\RB (k+1) t.Coef)/\(Ml c m).length<=1:=by
 unfold Ml
 split
 .exact ⟨fun _ h=>(by cases h),by simp⟩
 .rename_i h
  refine ⟨fun t ht=>?_,by simp⟩
  simp only [List.mem_singleton] at ht
  subst ht
  exact ⟨rfl,Ku _ _ _ (Dn c),by rw [I8 _ _ _ (Dn c)]; exact fun e=>h ((Afw c).1 e),Amt hc⟩
theorem Mg.step {F:Rat->Rat->Rat} {k:Nat} {p q g f R:List Az} {c:Ai} {m:Ce} (h:Mg F k g f R) (z:F 0 0=0) (hc:RB k c)
  (s:∀n,Dz m n≠0->cf p n=cf g n/\cf q n=cf f n) (h0:rq c=F (cf p m) (cf q m)) (l:∀u∈g,Dz m u.Mono<0) (j:∀u∈f,Dz m u.Mono<0)
  (x:(∃u∈p,u.Mono=m)\/(∃u∈q,u.Mono=m)) (hp:∀u∈g,u∈p) (hq:∀u∈f,u∈q) (B:g.length+f.length+1<=p.length+q.length):Mg F k p q (Ml c m++R):=by
 obtain ⟨i,A⟩:=Aoc (m:=m) hc
 have y:∀t∈R,Dz m t.Mono<0:=by
  intro t ht
  rcases h.mon t ht with ⟨u,hu,e⟩ | ⟨u,hu,e⟩
  .rw [<-e]; exact l u hu
  .rw [<-e]; exact j u hu
 refine ⟨?_,?_,?_,?_,?_⟩
 .refine ⟨List.pairwise_append.2 ⟨?_,h.cp.srt,?_⟩,?_⟩
  .unfold Ml; split
   .exact List.Pairwise.nil
   .exact List.pairwise_singleton _ _
  .intro a ha b hb
   show Dz a.Mono b.Mono<0
   rw [(i a ha).1]; exact y b hb
  .intro t ht
   rcases List.mem_append.1 ht with ht | ht
   .exact ⟨(i t ht).2.1,(i t ht).2.2.1⟩
   .exact h.cp.coe t ht
 .intro n
  rw [An8,Aob,h.val n]
  by_cases e:Dz m n=0
  .rw [if_pos e]
   have e':=Qv.1 e
   subst e'
   rw [Mj l,Mj j,z,h0]; grind
  .rw [if_neg e,(s n e).1,(s n e).2]; grind
 .intro t ht
  rcases List.mem_append.1 ht with ht | ht
  .rw [(i t ht).1]; exact x
  .rcases h.mon t ht with ⟨u,hu,e⟩ | ⟨u,hu,e⟩
   .exact .inl ⟨u,hp u hu,e⟩
   .exact .inr ⟨u,hq u hu,e⟩
 .rw [List.length_append]; have:=h.len; omega
 .intro t ht
  rcases List.mem_append.1 ht with ht | ht
  .exact (i t ht).2.2.2
  .exact h.rb t ht
end Go.Ab
namespace Go.Ab
open Go
def Us (n:Int) (f:Bool):List Int:=if f then (if n<0 then [45] else []) else (if n<0 then [32,45,32] else [32,43,32])
def Aaa (n:Int):List Int:=if n.natAbs=1 then [] else ti n.natAbs++[42]
def Aab (v:Int):List Int:=if v = -1 then [114,101,115] else 118::ti v
def tT (f:Bool) (t:Ax):List Int:=Us t.Coef f++(Aaa t.Coef++Aab t.Var)
def Ut:Bool->List Ax->Int->List Int
 | f,[],c=>if c≠0\/f=true then Us c f++ti c.natAbs else []
 | f,t::b,c=>tT f t++Ut false b c
def Aod (l:Ao):List Int:=Ut true l.Terms l.Const
def Uu (X:List Int):Prop:=∀c m,X=c::m->c=97
theorem Uu.nil:Uu []:=by intro c m h; cases h
theorem Uu.cons (X:List Int):Uu (97::X):=by intro c m h; cases h; rfl
theorem Aoe (n:Nat):∃c m,ti n=c::m/\48<=c/\c<=57:=by
 have b:=Ane (n:Int)
 cases h:ti (n:Int) with
 | nil=>exact (b h).elim
 | cons c m=>
  refine ⟨c,m,rfl,?_⟩
  have hc:c∈ti (n:Int):=by rw [h]; simp
  unfold ti at hc
  obtain ⟨x,hx,rfl⟩:=List.mem_map.1 hc
  have e:Lib.itoa (n:Int)=Lib.decDigits n:=by
   unfold Lib.itoa
   first | rfl | (rw [if_neg (by omega)]; simp) | simp
  rw [e] at hx
  have:=Zv n n (Nat.le_refl _) x hx
  omega
def NoM (P:List Int):Prop:=∃c m,P=c::m/\c≠45
theorem NoM.ti (n:Nat) (X:List Int):NoM (Go.Ab.ti n++X):=by
 obtain ⟨c,m,e,h⟩:=Aoe n
 exact ⟨c,m++X,by rw [e]; rfl,by omega⟩
def Afx (a:B5):List Int:=97::(ti a.Deg++58::Aod a.Lin)
def Afy (f:Cu):List Int:=Zx f.Var f.Index
def Aof (m:Ce):List Int:=m.Factors.flatMap Afy++m.Atoms.flatMap Afx
def By (l:List Int):Prop:=∀c∈l,0<=c/\c<256
theorem By.app {l m:List Int} (h:By l) (h':By m):By (l++m):=by
 intro c hc
 rcases List.mem_append.1 hc with k | k
 .exact h c k
 .exact h' c k
theorem By.ti (n:Int):By (Go.Ab.ti n):=by
 intro c h
 have:=Zw n c h
 simp only [Qt,Bool.or_eq_true,bae,beq_iff_eq,decide_eq_true_eq] at this
 omega
theorem By.cons {c:Int} {l:List Int} (hc:0<=c/\c<256) (h:By l):By (c::l):=by
 intro d hd
 rcases List.mem_cons.1 hd with rfl | k
 .exact hc
 .exact h d k
theorem By.nil:By []:=fun c h=>by cases h
theorem By.sgn (n:Int) (f:Bool):By (Us n f):=by
 unfold Us
 split <;> split <;> intro c hc <;> simp at hc <;> omega
theorem By.mag (n:Int):By (Aaa n):=by
 unfold Aaa
 split
 .exact By.nil
 .exact (By.ti _).app (By.cons (by omega) By.nil)
theorem By.var (n:Int):By (Aab n):=by
 unfold Aab
 split
 .intro c hc; simp at hc; omega
 .exact By.cons (by omega) (By.ti _)
theorem By.tT (f:Bool) (t:Ax):By (tT f t):=(By.sgn _ _).app ((By.mag _).app (By.var _))
theorem By.lins:∀(l:List Ax) (f:Bool) (c:Int),By (Ut f l c)
 | [],f,c=>by
  simp only [Ut]
  split
  .exact (By.sgn _ _).app (By.ti _)
  .exact By.nil
 | t::l,f,c=>(By.tT f t).app (By.lins l false c)
theorem By.at (a:B5):By (Afx a):=By.cons (by omega) ((By.ti _).app (By.cons (by omega) (By.lins _ _ _)))
theorem By.flat {α:Type} {g:α->List Int} (h:∀a,By (g a)) (l:List α):By (l.flatMap g):=by
 intro c hc
 obtain ⟨a,_,k⟩:=List.mem_flatMap.1 hc
 exact h a c k
theorem By.fac (f:Cu):By (Afy f):=Anf f.Var f.Index
theorem By.mono (m:Ce):By (Aof m):=(By.flat By.fac _).app (By.flat By.at _)
def bs (l:List Int):ByteArray:=⟨(Es l).toArray⟩
end Go.Ab
namespace Go.Ab
open Go
theorem bnd {α β:Type} {X:Option α} {a:α} {K:α->Option β} {r:Option β} (h:X=some a) (k:K a=r):X.bind K=r:=by rw [h]; exact k
end Go.Ab
namespace Go.Ab
open Go
def Dst (b:List Az):Prop:=b.Pairwise fun t u=>t.Mono≠u.Mono
theorem Dst.set {b:List Az} (h:Dst b) {j:Nat} {t u:Az} (ht:b[j]? = some t) (c:u.Mono=t.Mono):Dst (b.set j u):=by
 have e:(b.set j u).map (·.Mono)=b.map (·.Mono):=by
  apply List.ext_getElem?
  intro i
  rw [List.getElem?_map,List.getElem?_map,List.getElem?_set]
  by_cases e:j=i
  .subst e; rw [if_pos rfl,if_pos (Fe ht),ht]; simp [c]
  .rw [if_neg e]
 have k:∀l:List Az,Dst l↔(l.map (·.Mono)).Pairwise (·≠·):=fun l=>by rw [List.pairwise_map]; exact Iff.rfl
 rw [k,e,<-k]; exact h
structure Col (k:Nat) (P:Ce->Prop) (ts:List Az):Prop where
 dst:Dst ts
 tb:∀t∈ts,RB k t.Coef
 mo:∀t∈ts,P t.Mono
theorem Col.nil (k:Nat) (P:Ce->Prop):Col k P []:=⟨List.Pairwise.nil,fun _ h=>(by cases h),fun _ h=>(by cases h)⟩
end Go.Ab
namespace Go.Ab
open Go
theorem Aac {α:Type} {n:Nat} {l:List α} (h:n=l.length):Ec n l=some ():=by unfold Ec; rw [if_pos h]
theorem Aog {s:ByteArray} {i:Int} (h0:0<=i) (h:i.toNat<s.size):∃c,Hh s i=some c:=by
 unfold Hh
 rw [if_pos h0]
 exact ⟨_,getElem?_pos s i.toNat h⟩
set_option maxRecDepth 20000 in
theorem Aoh {n:Nat} (h:n<256):∃v,Lv (As (n:Int))=some v:=by
 unfold Lv Ta
 rw [As,Cm (by omega) (by omega),Bb (by omega)]
 simp only [cond_false,Ag]
 rw [Bb (by omega)]
 simp only [cond_false,Ag]
 rw [Bb (by omega)]
 simp only [cond_false,Ag]
 have b:wu8 (n:Int)=(n:Int):=by
  rw [wu8]; unfold IntKind.wrap; simp [IntKind.bits,IntKind.signed]; omega
 rw [b]
 generalize g:ByteArray.mk _=T
 have f:T.size=256:=by rw [<-g]; rfl
 obtain ⟨c,hc⟩:=Aog (s:=T) (i:=(n:Int)) (by omega) (by rw [f]; simpa using h)
 rw [hc]
 exact ⟨_,rfl⟩
end Go.Ab
namespace Go.Ab
open Go
def Qw (x:Df) (m:Ce):Prop:=Uo x.Data x.Vars x.Res m=true/\MSz m
structure Hw (x:Df) (p:List Az):Prop where
 can:Z4 x.Data x.Vars x.Res p=true
 sz:∀t∈p,TSz t
theorem Hw.cp {x:Df} {p:List Az} (h:Hw x p):CP p:=(Ur.1 h.can).2.1
theorem Hw.mo {x:Df} {p:List Az} (h:Hw x p):∀t∈p,Qw x t.Mono:=fun t ht=>⟨(Ur.1 h.can).2.2 t ht,(h.sz t ht).mo⟩
theorem Hw.of {x:Df} {p:List Az} (hc:CP p) (b:∀t∈p,Qw x t.Mono) (c:∀t∈p,RB 1048576 t.Coef) (f:p.length<=1000):Hw x p :=
 ⟨Ur.2 ⟨f,hc,fun t ht=>(b t ht).1⟩,fun t ht=>⟨c t ht,(b t ht).2⟩⟩
theorem Hw.tb {x:Df} {p:List Az} (h:Hw x p):∀t∈p,RB 1048576 t.Coef/\Qw x t.Mono:=fun t ht=>⟨(h.sz t ht).co,h.mo t ht⟩
end Go.Ab
namespace Go.Ab
open Go
end Go.Ab
namespace Go.Ab
open Go
def bc:Nat->Nat->Nat
 | _,0=>1
 | 0,_+1=>0
 | n+1,k+1=>bc n k+bc n (k+1)
theorem Ju (n:Nat):bc n 0=1:=by cases n <;> rfl
def cR (n:Nat):Ai:=Ca false n 1
theorem Aad (n:Nat):sv (cR n)=false/\nv (cR n)=n/\dv (cR n)=1:=by
 obtain ⟨g,f,c,b⟩:=Ug false n 1 (by decide)
 refine ⟨?_,?_,?_⟩
 .by_cases h:n=0
  .exact b h
  .exact c h
 .unfold cR; rw [g]; simp
 .unfold cR; rw [f]; simp
theorem Aoi {n k:Nat} (h:Bc n<=k) (hk:1<=k):RB k (cR n):=I7 _ _ _ _ h (by rw [Kr]; exact hk) hk
end Go.Ab
namespace Go.Ab
open Go
end Go.Ab
namespace Go.Ab
open Go
end Go.Ab
namespace Go.Ab
open Go
theorem Aoj:Ps []=some []:=by kernel_rfl
theorem Aok (l:List Int):Ps l=some (l.mergeSort fun x y=>decide (x<=y)):=by
 cases l with
 | nil=>rw [Aoj]; simp
 | cons a l=>rfl
theorem Aol (l:List Int):(l.mergeSort fun x y=>decide (x<=y)).Pairwise (·<=·):=by
 have:=List.pairwise_mergeSort (le:=fun x y:Int=>decide (x<=y)) (fun a b c h1 h2=>by simp only [decide_eq_true_eq] at *; omega) (fun a b=>by simp only [Bool.or_eq_true,decide_eq_true_eq]; omega) l
 exact this.imp (fun h=>by simpa using h)
structure Asc (b:List Int) (n:Nat) (l:List Int):Prop where
 up:l.Pairwise (· < ·)
 mem:∀y,y∈l↔y∈b.take n
theorem Aom {b:List Int} (f:b.Pairwise (·<=·)) {q:Nat} {p:Int} (hp:b[q]? = some p):∀y∈b.take (q+1),y<=p:=by
 intro y hy
 obtain ⟨i,c⟩:=List.getElem?_of_mem hy
 rw [List.getElem?_take] at c
 split at c
 .rename_i g
  by_cases e:i=q
  .subst e; rw [c] at hp; cases hp; exact Int.le_refl _
  .have h1:=Fe c
   have h2:=Fe hp
   have:=(List.pairwise_iff_getElem.1 f) i q h1 h2 (by omega)
   rw [Cr h1] at c
   rw [Cr h2] at hp
   cases c; cases hp; exact this
 .cases c
theorem Asc.step {b:List Int} (g:b.Pairwise (·<=·)) {q:Nat} {l:List Int} {p x:Int} (h:Asc b (q+1) l) (hp:b[q]? = some p) (hx:b[q+1]? = some x) (j:x≠p):Asc b (q+2) (l++[x]):=by
 have f:=Aom g hp
 have i:p<x:=by
  have h1:=Fe hp
  have h2:=Fe hx
  have:=(List.pairwise_iff_getElem.1 g) q (q+1) h1 h2 (by omega)
  rw [Cr h1] at hp
  rw [Cr h2] at hx
  cases hp; cases hx; omega
 refine ⟨?_,fun y=>?_⟩
 .rw [List.pairwise_append]
  refine ⟨h.up,by simp,fun a ha c hc=>?_⟩
  rw [List.mem_singleton] at hc
  subst hc
  have:=f a ((h.mem a).1 ha)
  omega
 .rw [F6 hx,List.mem_append,List.mem_append,h.mem y]
theorem Asc.same {b:List Int} {q:Nat} {l:List Int} {x:Int} (h:Asc b (q+1) l) (hp:b[q]? = some x) (hx:b[q+1]? = some x):Asc b (q+2) l:=by
 refine ⟨h.up,fun y=>?_⟩
 rw [F6 hx,List.mem_append,h.mem y]
 constructor
 .exact .inl
 .rintro (h1 | h1)
  .exact h1
  .rw [List.mem_singleton] at h1
   subst h1
   rw [F6 hp]; simp
theorem I9 {α:Type} {l:List α} {off n:Nat} {i:Int} {j:Nat} {x:α} (b:i=j) (hj:j<n) (h:l[off+j]? = some x):Dj l off n i=some x:=by
 subst b
 unfold Dj
 rw [if_pos (by omega)]; simpa using h
theorem Aon {X:Option (Nat×List Int)} {Q:Nat×List Int->Prop} (h:∃r,X=some r/\Q r):∃(m:Nat) (o:List Int),X=some (m,o)/\Q (m,o):=by
 obtain ⟨⟨m,o⟩,h1,h2⟩:=h
 exact ⟨m,o,h1,h2⟩
theorem Aoo {X:Option (Int⊕((Nat×List Int)⊕Unit))} {P:Nat->List Int->Prop} {b:Prop} (h:∃r,X=some r/\∃(m:Nat) (o:List Int),r = .inr (.inl (m,o))/\P m o) :
  ∃e,X=some (.inr e)/\((∃(m:Nat) (o:List Int),e = .inl (m,o)/\P m o)\/(e = .inr ()/\b)):=by
 obtain ⟨_,h1,m,o,rfl,h2⟩:=h
 exact ⟨_,h1,.inl ⟨m,o,rfl,h2⟩⟩
theorem Aop (b:List Int) (R:b.Pairwise (·<=·)) (hl:b.length<=1099511627776):∃(m:Nat) (o:List Int),Nw b.length b=some (m,o)/\m<=o.length/\Asc b b.length (o.take m):=by
 unfold Nw
 by_cases h2:b.length<2
 .rw [Ba (by omega),cond_true]
  refine ⟨b.length,b,rfl,Nat.le_refl _,?_,fun y=>Iff.rfl⟩
  rw [List.take_length]
  match b,h2 with
  | [],_=>simp
  | [_],_=>simp
 .rw [Bb (by omega),cond_false]
  refine Aon (Q:=fun r:Nat×List Int=>r.1<=r.2.length/\Asc b b.length (r.2.take r.1)) ?_
  .refine G7 (Q:=fun r:Nat×List Int=>r.1<=r.2.length/\Asc b b.length (r.2.take r.1)) (fun v=>∃j:Nat,v=((j+1:Nat):Int)/\j+1<=b.length/\Asc b (j+1) (b.take (j+1))) (fun v=>b.length-v.toNat) (fun e:((Nat×List Int)⊕Unit)=>(∃(m:Nat) (o:List Int),e = .inl (m,o)/\m<=o.length/\Asc b b.length (o.take m))\/(e = .inr ()/\Asc b b.length (b.take b.length))) ?_ ?_ ?_ (J:=fun z:((Nat×List Int)⊕Unit)=>match z with | .inl (G,E)=>some (G,E) | .inr _=>some (b.length,b))
   .exact ⟨0,rfl,by omega,by
     refine ⟨?_,fun y=>Iff.rfl⟩
     match b,h2 with
     | a::_,_=>simp
     | [],h=>simp at h⟩
   .rintro v ⟨j,rfl,hj,N⟩
    rcases Nat.lt_or_ge (j+1) b.length with h | h
    .have hx:b[j+1]? = some b[j+1]:=Cr h
     have hp:b[j]? = some b[j]:=Cr (by omega)
     generalize b[j+1]=x at hx
     generalize b[j]=p at hp
     have X:Ac (((j+1:Nat):Int)-1)=((j:Nat):Int):=by rw [show (((j+1:Nat):Int)-1)=(j:Int) by omega,Ac,Cj] <;> omega
     simp only [Ba (by omega:((j+1:Nat):Int)<(b.length:Int)),cond_true,I9 (l:=b) (off:=0) (n:=b.length) (i:=((j+1:Nat):Int)) rfl h (by rw [Nat.zero_add]; exact hx),X,
      I9 (l:=b) (off:=0) (n:=b.length) (i:=((j:Nat):Int)) rfl (by omega) (by rw [Nat.zero_add]; exact hp),Ag,F5 h (by omega)]
     by_cases e:x=p
     .subst e
      rw [Fd rfl,cond_true]
      have A:F2 b.length ((j+1:Nat):Int) ((b.length:Nat):Int)=some (j+1,b.length):=by
       unfold F2
       rw [if_pos (by omega)]; simp
      rw [A,Ag]
      dsimp only
      refine .inr ?_
      refine Aoo (G7 (Q:=fun z:(Int⊕((Nat×List Int)⊕Unit))=>∃(m:Nat) (o:List Int),z = .inr (.inl (m,o))/\m<=o.length/\Asc b b.length (o.take m)) (fun z=>∃(w k:Nat) (o:List Int),z=((w:Int),(k:Int),o)/\o.length=b.length/\w<=j+k/\1<=k/\j+1+k<=b.length/\Asc b (j+1+k) (o.take w)/\∀i,w<=i->o[i]? = b[i]?)
       (fun z=>b.length-(j+1)-z.2.1.toNat) (fun z=>∃(w k:Nat) (o:List Int),z=((w:Int),(k:Int),o)/\o.length=b.length/\w<=b.length/\Asc b b.length (o.take w)) ?_ ?_ ?_)
      .refine ⟨j+1,1,b,rfl,rfl,by omega,by omega,by omega,?_,fun _ _=>rfl⟩
       exact N.same hp hx
      .rintro z ⟨w,k,o,rfl,D,hw,hk,Z,f,c⟩
       rcases Nat.lt_or_ge (j+1+k) b.length with h' | h'
       .have hy:b[j+1+k]? = some b[j+1+k]:=Cr h'
        have hq:b[j+k]? = some b[j+k]:=Cr (by omega)
        generalize b[j+1+k]=y at hy
        generalize b[j+k]=q at hq
        have V:Ac ((k:Int)-1)=((k-1:Nat):Int):=by rw [show ((k:Int)-1)=((k-1:Nat):Int) by omega,Ac,Cj] <;> omega
        have U:Ac ((k:Int)+1)=((k+1:Nat):Int):=F5 (n:=b.length) (by omega) (by omega)
        have S:Ac ((w:Int)+1)=((w+1:Nat):Int):=F5 (n:=b.length) (by omega) (by omega)
        have i1:Dj o (0+(j+1)) (b.length-(j+1)) (k:Int)=some y:=I9 rfl (by omega) (by rw [Nat.zero_add,c _ (by omega)]; exact hy)
        have i2:Dj o (0+(j+1)) (b.length-(j+1)) ((k-1:Nat):Int)=some q:=I9 rfl (by omega) (by rw [Nat.zero_add,c _ (by omega),show j+1+(k-1)=j+k by omega]; exact hq)
        have I:o[w]? = some (o[w]'(by omega)):=Cr _
        have i3:Dj o 0 b.length (w:Int)=some (o[w]'(by omega)):=I9 rfl (by omega) (by rw [Nat.zero_add]; exact I)
        simp only [Ba (by omega:(k:Int)<((b.length-(j+1):Nat):Int)),cond_true,i1,i2,i3,V,U,S,Ag]
        by_cases e:y=q
        .subst e
         rw [Kl rfl,cond_false]
         refine .inl ⟨_,rfl,⟨w,k+1,o,rfl,D,by omega,by omega,by omega,?_,c⟩,by simp only [Int.toNat_natCast]; omega⟩
         have:=Asc.same (q:=j+k) (x:=y) (by rw [show j+k+1=j+1+k by omega]; exact f) hq (by rw [show j+k+1=j+1+k by omega]; exact hy)
         rw [show j+1+(k+1)=j+k+2 by omega]; exact this
        .rw [Jn e,cond_true]
         have B:Bt o (((0:Nat):Int)+(w:Int)) y=o.set w y:=Ep (n:=w) (by omega) y
         have s:(o.set w y).take (w+1)=o.take w++[y]:=by
          rw [F6 (x:=y) (by rw [List.getElem?_set,if_pos rfl,if_pos (by omega)]),List.take_set_of_le (Nat.le_refl _)]
         rw [B]
         refine .inl ⟨_,rfl,⟨w+1,k+1,o.set w y,rfl,by simpa using D,by omega,by omega,by omega,?_,?_⟩,by simp only [Int.toNat_natCast]; omega⟩
         .rw [s]
          have:=Asc.step R (q:=j+k) (x:=y) (p:=q) (by rw [show j+k+1=j+1+k by omega]; exact f) hq (by rw [show j+k+1=j+1+k by omega]; exact hy) e
          rw [show j+1+(k+1)=j+k+2 by omega]; exact this
         .intro i hi
          rw [List.getElem?_set,if_neg (by omega)]
          exact c i (by omega)
       .have L:j+1+k=b.length:=by omega
        refine .inr ⟨((w:Int),(k:Int),o),?_,w,k,o,rfl,D,by omega,by rw [<-L]; exact f⟩
        simp only [Bb (by omega:¬(k:Int)<((b.length-(j+1):Nat):Int)),cond_false]
      .rintro z ⟨w,k,o,rfl,D,hw,f⟩
       dsimp only
       have g:Jd b.length (w:Int)=some w:=by
        unfold Jd
        rw [if_pos (by omega)]; simp
       by_cases Y:w=0\/w<b.length
       .have u:Fb b.length (w:Int) ((b.length:Nat):Int)=some (.inl (w,b.length)):=by
         unfold Fb
         rw [if_pos (by omega),if_pos (by omega)]; simp
        have M:J7 o (0+w) (b.length-w) (0:Int)=some (Co o (0+w) (List.replicate (b.length-w) 0)):=by
         unfold J7
         rw [if_pos (by omega)]
        rw [u,Ag]
        dsimp only
        rw [M,Ag,g,Ag]
        have s:(Co o (0+w) (List.replicate (b.length-w) (0:Int))).take w=o.take w:=by
         unfold Co
         rw [Nat.zero_add,List.append_assoc,List.take_append_of_le_length (by simp; omega),List.take_take,Nat.min_self]
        refine ⟨_,rfl,w,_,rfl,?_,?_⟩
        .unfold Co; simp; omega
        .rw [s]; exact f
       .have u:Fb b.length (w:Int) ((b.length:Nat):Int)=some (.inr ()):=by
         unfold Fb
         rw [if_pos (by omega),if_neg (by omega)]
        rw [u,Ag]
        dsimp only
        rw [g,Ag]
        exact ⟨_,rfl,w,o,rfl,by omega,f⟩
     .rw [C6 e,cond_false]
      refine .inl ⟨_,rfl,⟨j+1,rfl,by omega,?_⟩,by simp only [Int.toNat_natCast]; omega⟩
      have:=Asc.step R N hp hx e
      rw [<-F6 hx] at this
      exact this
    .have:j+1=b.length:=by omega
     refine .inr ⟨.inr (),?_,.inr ⟨rfl,by rw [<-this]; exact N⟩⟩
     rw [Bb (by omega)]; rfl
   .rintro e (⟨m,o,rfl,h1,h2⟩ | ⟨rfl,h1⟩)
    .exact ⟨(m,o),rfl,h1,h2⟩
    .exact ⟨(b.length,b),rfl,Nat.le_refl _,h1⟩
end Go.Ab
namespace Go.Ab
open Go
end Go.Ab
namespace Go.Ab
open Go
end Go.Ab
namespace Go.Ab
open Go
end Go.Ab
namespace Go.Ab
open Go
end Go.Ab
namespace Go.Ab
open Go
end Go.Ab
namespace Go.Ab
open Go
theorem Aoq {α:Type} (F:List α) (g:α->Int) (o:List Int) (h:o.length+F.length<=1000000) {R:Type} {J:Int×List Int->Option R} {r:R} (l:J ((F.length:Int),o++F.map g)=some r) :
  (An (S:=(Int×(List Int))) (E:=(Int×(List Int))) (fun (v164,b)=>
   bif (decide (v164<(F.length:Int))) then (
   (Af F v164).bind fun c=>
   (Bz 8 b [g c]).bind fun i=>
   some (.inl ((Ac (v164+1)),i)))
   else some (.inr (v164,b))) (0,o)).bind J=some r:=by
 refine Aev F (fun j=>((j:Int),o++(F.take j).map g)) (by simp) (by omega) ?_ ?_
 .intro j f hj k h1 h2 h3
  simp only [h1,h2,h3,cond_true,Ag]
  rw [D7 (by simp; omega),F6 k]; simp
 .intro h1
  exact ⟨_,by simp only [h1]; rfl,by rw [List.take_length]; exact l⟩
theorem Aor {α:Type} (f:α->List Int) (l:List α) (j:Nat):((l.take j).flatMap f).length<=(l.flatMap f).length:=by
 have:l.flatMap f=(l.take j).flatMap f++(l.drop j).flatMap f:=by rw [<-List.flatMap_append,List.take_append_drop]
 rw [this,List.length_append]; omega
theorem Afz {α:Type} (f:α->List Int) {l:List α} {j:Nat} {x:α} (h:l[j]? = some x):((l.take j).flatMap f).length+(f x).length<=(l.flatMap f).length:=by
 have:=Aor f l (j+1)
 rw [F6 h,List.flatMap_append] at this
 simpa using this
end Go.Ab
namespace Go.Ab
open Go
end Go.Ab
namespace Go.Ab
open Go
end Go.Ab
namespace Go.Ab
open Go
end Go.Ab
namespace Go.Ab
open Go
end Go.Ab
namespace Go.Ab
open Go
theorem Aos {α:Type} (b:List α) (n k:Nat) (z x:α) (D:n<=b.length) (hk:k<=n) (hb:n<=1000000) :
  ∃c:List α,((Fb (n+1) (Ac ((k:Int)+1)) (((n+1:Nat):Nat):Int)).bind fun v8=>
    match v8 with
    | .inl v9=>
     (F2 (n+1) (k:Int) (((n+1:Nat):Nat):Int)).bind fun f=>
     (Iw (Co b n [z]) (0+v9.1) (v9.2-v9.1) (0+f.1) (f.2-f.1)).bind fun l=>some l
    | .inr _=>(F2 (n+1) (k:Int) (((n+1:Nat):Nat):Int)).bind fun v12=>some (Co b n [z]))=some c/\c.length=max b.length (n+1) /\
   (c.set k x).take (n+1)=(b.take n).take k++x::(b.take n).drop k:=by
 have g:(Co b n [z]).length=max b.length (n+1):=by rw [Is D]; rfl
 have s:∀i,i<n->(Co b n [z])[i]? = b[i]?:=fun i u=>by rw [K1 D,if_pos u]
 have G:Ac ((k:Int)+1)=((k+1:Nat):Int):=F5 (n:=n+1) (by omega) (by omega)
 have y:F2 (n+1) (k:Int) (((n+1:Nat):Nat):Int)=some (k,n+1):=by
  unfold F2
  rw [if_pos (by omega)]; simp
 have key:∃c:List α,((Fb (n+1) (Ac ((k:Int)+1)) (((n+1:Nat):Nat):Int)).bind fun v8=>
    match v8 with
    | .inl v9=>
     (F2 (n+1) (k:Int) (((n+1:Nat):Nat):Int)).bind fun f=>
     (Iw (Co b n [z]) (0+v9.1) (v9.2-v9.1) (0+f.1) (f.2-f.1)).bind fun l=>some l
    | .inr _=>(F2 (n+1) (k:Int) (((n+1:Nat):Nat):Int)).bind fun v12=>some (Co b n [z]))=some c/\c.length=max b.length (n+1)/\(∀i,i<k->c[i]? = b[i]?)/\∀i,k<=i->i<n->c[i+1]? = b[i]?:=by
  rw [G,y]
  by_cases I:k<n
  .have q:Fb (n+1) ((k+1:Nat):Int) (((n+1:Nat):Nat):Int)=some (.inl (k+1,n+1)):=by
    unfold Fb
    rw [if_pos (by omega),if_pos (by omega)]; simp
   rw [q,Ag]
   dsimp only
   have B:Iw (Co b n [z]) (0+(k+1)) (n+1-(k+1)) (0+k) (n+1-k)=some (Co (Co b n [z]) (0+(k+1)) (((Co b n [z]).drop (0+k)).take (min (n+1-k) (n+1-(k+1))))):=by
    unfold Iw
    rw [if_pos (by omega)]
   rw [Ag]
   dsimp only
   rw [B,Ag]
   have hd:(((Co b n [z]).drop (0+k)).take (min (n+1-k) (n+1-(k+1)))).length=n-k:=by
    rw [List.length_take,List.length_drop,g]; omega
   refine ⟨_,rfl,?_,fun i u=>?_,fun i u h=>?_⟩
   .rw [Is (by rw [g]; omega),g,hd]; omega
   .rw [K1 (by rw [g]; omega),if_pos (by omega),s i (by omega)]
   .rw [K1 (by rw [g]; omega),if_neg (by omega),if_pos (by rw [hd]; omega),List.getElem?_take,if_pos (by omega),List.getElem?_drop,show 0+k+(i+1-(0+(k+1)))=i by omega,s i h]
  .have E:k=n:=by omega
   have q:Fb (n+1) ((k+1:Nat):Int) (((n+1:Nat):Nat):Int)=some (.inr ()):=by
    unfold Fb
    rw [if_pos (by omega),if_neg (by omega)]
   rw [q,Ag]
   dsimp only
   rw [Ag]
   exact ⟨_,rfl,g,fun i u=>s i (by omega),fun i u h=>by omega⟩
 obtain ⟨c,g1,g2,g3,g4⟩:=key
 refine ⟨c,g1,g2,?_⟩
 have A:((b.take n).take k).length=k:=by rw [List.length_take,List.length_take]; omega
 apply List.ext_getElem?
 intro i
 rw [List.getElem?_take,List.getElem?_set]
 by_cases h1:i<k
 .rw [if_pos (by omega),if_neg (by omega),g3 i h1,List.getElem?_append_left (by omega),List.getElem?_take,if_pos h1,List.getElem?_take,if_pos (by omega)]
 .rw [List.getElem?_append_right (by omega),A]
  by_cases h2:i=k
  .subst h2
   rw [if_pos (by omega),if_pos rfl,if_pos (by omega),Nat.sub_self]; rfl
  .obtain ⟨j,hj⟩:∃j,i=j+1:=⟨i-1,by omega⟩
   subst hj
   rw [show j+1-k=(j-k)+1 by omega,List.getElem?_cons_succ,List.getElem?_drop,show k+(j-k)=j by omega,List.getElem?_take]
   by_cases h3:j<n
   .rw [if_pos (by omega),if_neg (by omega),g4 j (by omega) h3,if_pos h3]
   .rw [if_neg (by omega),if_neg h3]
theorem Aot {α:Type} (c:Nat) (b:List α) (n k:Nat) (u:n<=b.length) (hk:k<n) (hb:(b.length+n)*c<=140737488355328) (q:n<=1000000) :
  ∃o:List α,((Fb n (Ac ((k:Int)+1)) ((n:Nat):Int)).bind fun v21=>
    match v21 with
    | .inl v22=>(M6 c b k (0+v22.1) (v22.2-v22.1)).bind fun v23=>some (v23.2,v23.1)
    | .inr _=>(Jc c b k []).bind fun v24=>some (v24.2,v24.1))=some (n-1,o)/\n-1<=o.length/\o.length<=b.length/\o.take (n-1)=(b.take n).take k++(b.take n).drop (k+1):=by
 have l:Ac ((k:Int)+1)=((k+1:Nat):Int):=F5 (n:=n+1) (by omega) (by omega)
 rw [l]
 by_cases h:k+1<n
 .have f:Fb n ((k+1:Nat):Int) ((n:Nat):Int)=some (.inl (k+1,n)):=by
   unfold Fb
   rw [if_pos (by omega),if_pos (by omega)]; simp
  rw [f,Ag]
  dsimp only
  have hq:M6 c b k (0+(k+1)) (n-(k+1))=some (Co b k ((b.drop (0+(k+1))).take (n-(k+1))),k+(n-(k+1))):=by
   unfold M6
   rw [if_pos ⟨by omega,by omega,Nat.le_trans (Nat.mul_le_mul_right _ (by omega)) hb⟩]
  rw [hq,Ag]
  have hd:((b.drop (0+(k+1))).take (n-(k+1))).length=n-(k+1):=by rw [List.length_take,List.length_drop]; omega
  refine ⟨_,by rw [show k+(n-(k+1))=n-1 by omega],?_,?_,?_⟩
  .rw [Is (by omega),hd]; omega
  .rw [Is (by omega),hd]; omega
  .have j:((b.take n).take k).length=k:=by rw [List.length_take,List.length_take]; omega
   apply List.ext_getElem?
   intro i
   rw [List.getElem?_take]
   by_cases h1:i<k
   .rw [if_pos (by omega),K1 (by omega),if_pos h1,List.getElem?_append_left (by omega),List.getElem?_take,if_pos h1,List.getElem?_take,if_pos (by omega)]
   .rw [List.getElem?_append_right (by omega),j,List.getElem?_drop,List.getElem?_take]
    by_cases h2:i<n-1
    .rw [if_pos h2,K1 (by omega),if_neg h1,if_pos (by rw [hd]; omega),List.getElem?_take,if_pos (by omega),List.getElem?_drop,if_pos (by omega),show 0+(k+1)+(i-k)=k+1+(i-k) by omega]
    .rw [if_neg h2,if_neg (by omega)]
 .have s:k+1=n:=by omega
  have f:Fb n ((k+1:Nat):Int) ((n:Nat):Int)=some (.inr ()):=by
   unfold Fb
   rw [if_pos (by omega),if_neg (by omega)]
  rw [f,Ag]
  dsimp only
  have hq:Jc c b k []=some (Co b k [],k):=by
   unfold Jc
   rw [if_pos ⟨by omega,Nat.le_trans (Nat.mul_le_mul_right _ (by simp)) hb⟩]; rfl
  rw [hq,Ag]
  have g:Co b k []=b:=by unfold Co; simp
  rw [g]
  refine ⟨b,by rw [show n-1=k by omega],by omega,Nat.le_refl _,?_⟩
  have:(b.take n).drop (k+1) = []:=by rw [List.drop_eq_nil_iff,List.length_take]; omega
  rw [this,List.append_nil,List.take_take,show min k n=n-1 by omega]
end Go.Ab
namespace Go.Ab
open Go
end Go.Ab
namespace Go.Ab
open Go
theorem Uv (x:Rat):Gx x=0↔x=0:=by
 unfold Gx
 constructor
 .intro h
  split at h
  .cases h
  .split at h
   .cases h
   .grind
 .rintro rfl
  rw [if_neg (by grind),if_neg (by grind)]
end Go.Ab
namespace Go.Ab
open Go
structure PSt (K:Nat) (n:Nat) (b:List Az):Prop where
 le:n<=b.length
 cp:CP (b.take n)
 tm:∀t∈b.take n,RB K t.Coef/\MSz t.Mono
end Go.Ab
namespace Go.Ab
open Go
theorem PSt.mono {K c n:Nat} {b:List Az} (h:PSt K n b) (f:K<=c):PSt c n b:=⟨h.le,h.cp,fun t ht=>⟨((h.tm t ht).1).mono f,(h.tm t ht).2⟩⟩
end Go.Ab
namespace Go.Ab
open Go
end Go.Ab
namespace Go.Ab
open Go
theorem CP.dst {p:List Az} (h:CP p):Dst p:=h.srt.imp fun {a b} hab e=>by
 unfold ltT at hab
 rw [Qv.2 e] at hab; omega
end Go.Ab
namespace Go.Ab
open Go
end Go.Ab
namespace Go.Ab
open Go
structure PR (x:Df) (n:Nat) (f:Ce->Rat) (R:List Az):Prop where
 cp:CP R
 val:∀m,cf R m=f m
 tb:∀t∈R,Qw x t.Mono/\RB 8589934592 t.Coef
 len:R.length<=n
theorem PR.of {x:Df} {n m:Nat} {f g:Ce->Rat} {R:List Az} (h:PR x n f R) (b:n<=m) (c:∀a,f a=g a):PR x m g R :=
 ⟨h.cp,fun a=>by rw [h.val,c],h.tb,Nat.le_trans h.len b⟩
theorem Hw.nil (x:Df):Hw x []:=⟨Ur.2 ⟨by simp,CP.nil,fun t ht=>by cases ht⟩,fun t ht=>by cases ht⟩
end Go.Ab
namespace Go.Ab
open Go
end Go.Ab
namespace Go.Ab
open Go
def Sm (a:Nat):Prop:=a<=5000 ^ 6
theorem Sm.of {a d:Nat} (h:a<=5000 ^ d) (hd:d<=6):Sm a:=Nat.le_trans h (Nat.pow_le_pow_right (by decide) hd)
end Go.Ab
namespace Go.Ab
open Go
theorem Aou (a b:Ai) (j k:Nat) (ha:RB j a) (hb:RB k b) (hj:j<68719476736) (hk:k<68719476736) :
  Jj a b=some (Ca (Gw (sv a) (nv a) (dv a) (!sv b) (nv b) (dv b)) (Fz (sv a) (nv a) (dv a) (!sv b) (nv b) (dv b)) (dv a*dv b)):=by
 unfold Jj N0
 have h1:=ha.nv
 have h2:=ha.dv
 have h3:=hb.nv
 have s:=hb.dv
 have q:=Er (nv a) (dv b)
 have l:=Er (nv b) (dv a)
 have i:=Er (dv a) (dv b)
 have h:=Qk (nv a*dv b) (nv b*dv a)
 have g:=E9 (Nat.sub_le (nv a*dv b) (nv b*dv a))
 have f:=E9 (Nat.sub_le (nv b*dv a) (nv a*dv b))
 rw [Ks b k hb (by omega),Ag,Ks a j ha (by omega),Ag]
 dsimp only
 rw [Kp _ _ (by omega) (by omega),Ag,Kp _ _ (by omega) (by omega),Ag,Kp _ _ (by omega) (by omega),Ag]
 by_cases c:sv a = !sv b
 .have e:(sv a == !sv b)=true:=by rw [c]; exact beq_self_eq_true _
  rw [e,cond_true,Aey _ _ (by omega) (by omega),Ag,Ag,Jq _ _ _ (by omega) (by omega),Gw,Fz,if_pos c,if_pos c]; rfl
 .have e:(sv a == !sv b)=false:=by
   cases h1:sv a <;> cases h2:sv b <;> simp_all
  rw [e,cond_false,Mb _ _ (by omega) (by omega),Ag,Gw,Fz,if_neg c,if_neg c]
  by_cases hc:nv b*dv a<=nv a*dv b
  .rw [Ba (show Dg (nv a*dv b) (nv b*dv a)>=0 by rw [Dg,if_neg (by omega)]; split <;> decide),cond_true,Ub _ _ (by omega) hc,Ag,Ag,Jq _ _ _ (by omega) (by omega),if_pos hc,if_pos hc]; rfl
  .rw [Bb (show ¬Dg (nv a*dv b) (nv b*dv a)>=0 by rw [Dg,if_pos (by omega)]; decide),cond_false,Ub _ _ (by omega) (by omega),Ag,Ag,Jq _ _ _ (by omega) (by omega),if_neg hc,if_neg hc]; rfl
theorem Af0 (s:Bool) (n:Nat):sg (!s) n = - sg s n:=by
 unfold sg; cases s <;> simp
theorem Aov {a b:Ai} {j k:Nat} (ha:RB j a) (hb:RB k b) (hj:j<34359738000) (hk:k<34359738000):∃c,Jj a b=some c/\RB (j+k+3) c/\Fs c/\rq c=rq a-rq b:=by
 have e:=Aou a b j k ha hb (by omega) (by omega)
 have hd:dv a*dv b≠0:=Nat.mul_ne_zero (Dn a) (Dn b)
 have h1:=ha.nv
 have h2:=ha.dv
 have h3:=hb.nv
 have s:=hb.dv
 have q:=Er (nv a) (dv b)
 have l:=Er (nv b) (dv a)
 have i:=Er (dv a) (dv b)
 have h:=Qk (nv a*dv b) (nv b*dv a)
 have g:=E9 (Nat.sub_le (nv a*dv b) (nv b*dv a))
 have f:=E9 (Nat.sub_le (nv b*dv a) (nv a*dv b))
 refine ⟨_,e,?_,Ku _ _ _ hd,?_⟩
 .refine I7 _ _ _ _ ?_ (by omega) (by omega)
  unfold Fz
  split
  .omega
  .split <;> omega
 .rw [I8 _ _ _ hd,Afl,Af0,rq,rq,show mkRat (sg (sv a) (nv a)) (dv a)-mkRat (sg (sv b) (nv b)) (dv b)=mkRat (sg (sv a) (nv a)) (dv a)+mkRat (-sg (sv b) (nv b)) (dv b) by rw [<-Rat.neg_mkRat]; grind,Rat.mkRat_add_mkRat _ _ (Dn a) (Dn b)]
theorem Aae (z:Int):mkRat z 1=(z:Rat):=by
 rw [Rat.mkRat_eq_div,show ((1:Nat):Rat)=1 from rfl]; grind
theorem Af1 (z:Int) (h1 : -9223372036854775808<=z) (h2:z<=9223372036854775807):∃r,Ee z=some r/\RB 3 r/\Fs r/\rq r=(z:Rat):=by
 have b:Bc z.natAbs<=3:=Ma (n:=z.natAbs) (by omega)
 refine ⟨_,Ae4 z h1 h2,I7 _ _ _ _ b (by rw [Kr]; decide) (by decide),Ku _ _ _ (by decide),?_⟩
 rw [I8 _ _ _ (by decide),Aae]
 congr 1
 unfold sg
 by_cases h:z<0
 .rw [Ba h,if_pos rfl]; omega
 .rw [Bb h,if_neg (by decide)]; omega
theorem Qx (z:Int) (h1 : -9223372036854775808<=z) (h2:z<=9223372036854775807):∃r,Ee z=some r/\G4 z=some r/\RB 3 r/\Fs r/\rq r=(z:Rat):=by
 have b:Bc z.natAbs<=3:=Ma (n:=z.natAbs) (by omega)
 refine ⟨_,Ae4 z h1 h2,Amz z h1 h2,I7 _ _ _ _ b (by rw [Kr]; decide) (by decide),Ku _ _ _ (by decide),?_⟩
 rw [I8 _ _ _ (by decide),Aae]
 congr 1
 unfold sg
 by_cases h:z<0
 .rw [Ba h,if_pos rfl]; omega
 .rw [Bb h,if_neg (by decide)]; omega
end Go.Ab
namespace Go.Ab
open Go
end Go.Ab
namespace Go.Ab
open Go
end Go.Ab
namespace Go.Ab
open Go
end Go.Ab
namespace Go.Ab
open Go
theorem Aow {a b:Ai} {j k:Nat} (ha:RB j a) (hb:RB k b) (hj:j<34359737000) (hk:k<34359737000):∃c,Pq a b=some c/\RB (j+k+4) c/\Fs c/\rq c=rq a-rq b:=by
 have e:=Amy b k hb (by omega)
 have f:RB (k+1) (Ca (!sv b) (nv b) (dv b)):=I7 _ _ _ _ hb.nv hb.dv (by omega)
 obtain ⟨c,_,l,i,h,g⟩:=Z5 ha f (by omega) (by omega)
 refine ⟨c,?_,i.mono (by omega),h,?_⟩
 .unfold Pq
  rw [e,Ag,l]; rfl
 .rw [g,I8 _ _ _ (Dn _),Af0,show rq b=mkRat (sg (sv b) (nv b)) (dv b) from rfl,<-Rat.neg_mkRat]; grind
theorem Af2 {a b:Ai} {j k:Nat} (ha:RB j a) (hb:RB k b) (hj:j<17179868000) (hk:k<17179868000):Nm a b=some (Gx (rq a-rq b)):=by
 obtain ⟨c,h,g,i,f⟩:=Aow ha hb (by omega) (by omega)
 unfold Nm
 rw [h,Ag,(Kv g (by omega)).2,f]; rfl
end Go.Ab
namespace Go.Ab
open Go
def sm:Nat->(Nat->Nat)->Nat
 | 0,_=>0
 | n+1,f=>sm n f+f n
theorem Uw {f g:Nat->Nat}:∀{n:Nat},(∀k,k<n->f k=g k)->sm n f=sm n g
 | 0,_=>rfl
 | n+1,h=>by rw [sm,sm,Uw (n:=n) fun k hk=>h k (by omega),h n (by omega)]
theorem Qy (f g:Nat->Nat):∀n,sm n (fun k=>f k+g k)=sm n f+sm n g
 | 0=>rfl
 | n+1=>by simp only [sm,Qy f g n]; omega
theorem Af3 (c:Nat) (f:Nat->Nat):∀n,sm n (fun k=>c*f k)=c*sm n f
 | 0=>rfl
 | n+1=>by simp only [sm,Af3 c f n,Nat.mul_add]
theorem Ux {f:Nat->Nat}:∀{n:Nat},(∀k,k<n->f k=0)->sm n f=0
 | 0,_=>rfl
 | n+1,h=>by rw [sm,Ux (n:=n) fun k hk=>h k (by omega),h n (by omega)]
theorem Aaf (f:Nat->Nat):∀n,sm (n+1) f=f 0+sm n (fun k=>f (k+1))
 | 0=>by simp [sm]
 | n+1=>by rw [sm,Aaf f n,sm]; omega
theorem Af4 {f:Nat->Nat} {n k:Nat} (hk:k<n) (b:∀j,j≠k->f j=0):sm n f=f k:=by
 induction n with
 | zero=>omega
 | succ n ih=>
  rw [sm]
  by_cases e:k=n
  .subst e
   rw [Ux fun j hj=>b j (by omega),Nat.zero_add]
  .rw [ih (by omega),b n (by omega),Nat.add_zero]
theorem Od:∀n,bc n n=1
 | 0=>rfl
 | n+1=>by
  rw [bc,Od n]
  have:bc n (n+1)=0:=by have:=bc_big2 n (n+1) (by omega); exact this
  omega
where bc_big2:∀n k,n<k->bc n k=0
 | n,0,h=>absurd h (by omega)
 | 0,k+1,_=>rfl
 | n+1,k+1,h=>by rw [bc,bc_big2 n k (by omega),bc_big2 n (k+1) (by omega)]
theorem Aag {n k:Nat} (h:n<k):bc n k=0:=Od.bc_big2 n k h
theorem Oe (n k:Nat):bc (n+1) (k+1)=bc n k+bc n (k+1):=by rw [bc]
def Rc (a b k:Nat):Nat:=if b<=k then bc k a*bc a (k-b) else 0
theorem Af5 (b k:Nat):Rc 0 b k=if k=b then 1 else 0:=by
 unfold Rc
 by_cases h:k=b
 .subst h; rw [if_pos (Nat.le_refl _),if_pos rfl,Nat.sub_self,Ju,Ju]
 .rw [if_neg h]
  split
  .rw [Aag (show 0<k-b by omega),Nat.mul_zero]
  .rfl
theorem Af6 (a k:Nat):Rc a 0 k=if k=a then 1 else 0:=by
 unfold Rc
 rw [if_pos (Nat.zero_le _),Nat.sub_zero]
 by_cases h:k=a
 .subst h; rw [if_pos rfl,Od]
 .rw [if_neg h]
  rcases Nat.lt_or_ge k a with h2 | h2
  .rw [Aag h2,Nat.zero_mul]
  .rw [Aag (show a<k by omega),Nat.mul_zero]
theorem Aox (a b k:Nat):Rc (a+1) (b+1) (k+1)=Rc a (b+1) k+Rc (a+1) b k+Rc a b k:=by
 unfold Rc
 by_cases h:b<=k
 .rw [if_pos (by omega),if_pos h,if_pos h,show k+1-(b+1)=k-b by omega,Oe]
  by_cases h2:b+1<=k
  .rw [if_pos h2]
   obtain ⟨j,hj⟩:∃j,k-b=j+1:=⟨k-b-1,by omega⟩
   rw [hj,show k-(b+1)=j by omega,Oe]
   simp only [Nat.add_mul,Nat.mul_add]; omega
  .rw [if_neg h2,show k-b=0 by omega,Ju,Ju]; omega
 .rw [if_neg (by omega),if_neg h,if_neg h,if_neg (by omega)]
theorem Aoy (a b:Nat):Rc (a+1) (b+1) 0=0:=by
 unfold Rc; rw [if_neg (by omega)]
theorem Aoz (f:Nat->Nat) (n N:Nat):sm (N+1) (fun k=>f k*bc (n+1) k)=sm (N+1) (fun k=>f k*bc n k)+sm N (fun k=>f (k+1)*bc n k):=by
 rw [Aaf,Aaf (fun k=>f k*bc n k),Ju,Ju]
 have:sm N (fun k=>f (k+1)*bc (n+1) (k+1))=sm N (fun k=>f (k+1)*bc n (k+1))+sm N (fun k=>f (k+1)*bc n k):=by
  rw [<-Qy]
  exact Uw fun k _=>by rw [Oe,Nat.mul_add]; omega
 rw [this]; omega
theorem Qz:∀(n a b N:Nat),a+b<N->sm N (fun k=>Rc a b k*bc n k)=bc n a*bc n b
 | n,0,b,N,h=>by
  rw [Ju,Nat.one_mul,Af4 (k:=b) (by omega) fun j hj=>by rw [Af5,if_neg hj,Nat.zero_mul],Af5,if_pos rfl,Nat.one_mul]
 | n,a+1,0,N,h=>by
  rw [Ju,Nat.mul_one,Af4 (k:=a+1) (by omega) fun j hj=>by rw [Af6,if_neg hj,Nat.zero_mul],Af6,if_pos rfl,Nat.one_mul]
 | 0,a+1,b+1,N,h=>by
  rw [show bc 0 (a+1)=0 from rfl,Nat.zero_mul]
  refine Ux fun k _=>?_
  cases k with
  | zero=>rw [Aoy,Nat.zero_mul]
  | succ k=>rw [show bc 0 (k+1)=0 from rfl,Nat.mul_zero]
 | n+1,a+1,b+1,N,h=>by
  obtain ⟨N,rfl⟩:∃M,N=M+1:=⟨N-1,by omega⟩
  rw [Aoz,Qz n (a+1) (b+1) (N+1) h]
  have h1:=Qz n a (b+1) N (by omega)
  have h2:=Qz n (a+1) b N (by omega)
  have h3:=Qz n a b N (by omega)
  have c:sm N (fun k=>Rc (a+1) (b+1) (k+1)*bc n k)=sm N (fun k=>Rc a (b+1) k*bc n k)+sm N (fun k=>Rc (a+1) b k*bc n k)+sm N (fun k=>Rc a b k*bc n k):=by
   rw [<-Qy,<-Qy]
   exact Uw fun k _=>by rw [Aox,Nat.add_mul,Nat.add_mul]
  rw [c,h1,h2,h3,Oe,Oe,Nat.add_mul,Nat.mul_add,Nat.mul_add]; omega
end Go.Ab
namespace Go.Ab
open Go
noncomputable def Of {α:Type} (cmp:α->α->Option Int) (a0:Int):Int×List α->Option ((Int×List α)⊕(Int×List α)):=fun (v31,b)=>
 (show Option Bool from
 bif (decide (v31>a0)) then (
 (Af b v31).bind fun v33=>
 (Af b (Ac (v31-1))).bind fun g=>
 (cmp v33 g).bind fun v35=>
 some (decide (v35<(0:Int))))
 else some false).bind fun f=>
 bif f then (
 (Af b (Ac (v31-1))).bind fun v37=>
 (Af b v31).bind fun c=>
 (Af b v31).bind fun v39=>
 (Af (Bt b v31 v37) (Ac (v31-1))).bind fun v40=>
 some (.inl ((Ac (v31-1)),(Bt (Bt b v31 v37) (Ac (v31-1)) c))))
 else some (.inr (v31,b))
noncomputable def Aah {α:Type} (cmp:α->α->Option Int) (a0 a1:Int) (g:List α):Option (List α) :=
 (An (S:=(Int×(List α))) (E:=(List α)) (fun (v21,b)=>
 bif (decide (v21<a1)) then (
 (An (Of cmp a0) (v21,b)).bind fun (v41,f)=>
 some (.inl ((Ac (v21+1)),f))
 )
 else (
 some (.inr b)
 )
  ) ((Ac (a0+1)),g)).bind fun c=>
 some c
theorem Ao0 {α:Type} (A R:List α) (x y:α):((A++y::x::R).set (A.length+1) y).set A.length x=A++x::y::R:=by
 induction A with
 | nil=>rfl
 | cons a A ih=>simp only [List.cons_append,List.length_cons,List.set_cons_succ,ih]
theorem Aai {α:Type} (A R:List α) (x:α):(A++x::R)[A.length]? = some x:=by simp
theorem Ao1 {α:Type} (A R:List α) (x y:α):(A++y::x::R)[A.length+1]? = some x:=by
 induction A with
 | nil=>rfl
 | cons a A ih=>simp
theorem Ao2 {α:Type} (cmp:α->α->Option Int) (y:α) (R:List α):Of cmp 0 (0,y::R)=some (.inr (0,y::R)):=by
 unfold Of
 simp only [Bb (by omega:¬(0:Int)>0),cond_false,Ag]
theorem Ao3 {α:Type} {cmp:α->α->Option Int} {c:α->α->Int} {N:Nat} (i:N<=1099511627776) (A R:List α) (u y:α) (b:cmp u y=some (c u y)) (f:(A++y::u::R).length<=N):Of cmp 0 (((A.length+1:Nat):Int),A++y::u::R) =
  if c u y<0 then some (.inl ((A.length:Int),A++u::y::R)) else some (.inr (((A.length+1:Nat):Int),A++y::u::R)):=by
 have h:A.length+1<N:=by simp at f; omega
 have g:Ac (((A.length+1:Nat):Int)-1)=(A.length:Int):=by rw [Ac,Cj] <;> omega
 unfold Of
 simp only [Ba (by omega:((A.length+1:Nat):Int)>0),cond_true,g,Ew (n:=A.length+1) rfl (Ao1 A R u y),Ew (n:=A.length) rfl (Aai A (u::R) y),Ag,b]
 by_cases hc:c u y<0
 .rw [Ba hc,if_pos hc]
  simp only [cond_true]
  rw [Ep (n:=A.length+1) rfl,Ep (n:=A.length) rfl,Ao0]
  have:Af ((A++y::u::R).set (A.length+1) y) (A.length:Int)=some y:=by
   refine Ew rfl ?_
   rw [List.getElem?_set_ne (by omega)]; exact Aai A (u::R) y
  rw [this]; rfl
 .rw [Bb hc,if_neg hc]; rfl
theorem Ao4 {α:Type} {cmp:α->α->Option Int} {c:α->α->Int} {N:Nat} (s:N<=1099511627776) :
  ∀(n:Nat) (A R:List α) (x:α),A.length=n->(∀t∈A,cmp x t=some (c x t))->(A++x::R).length<=N ->
   ∃f i,An (Of cmp 0) ((A.length:Int),A++x::R)=some ((f.length:Int),f++x::(i++R))/\A=f++i/\(∀a∈i,c x a<0)/\∀k y,f=k++[y]->¬c x y<0:=by
 intro n
 induction n with
 | zero=>
  intro A R x g _ _
  have:A = []:=List.length_eq_zero_iff.1 g
  subst this
  exact ⟨[],[],M4 (Ao2 cmp x R),rfl,(fun _ h=>by cases h),(fun k y h=>by simp at h)⟩
 | succ n ih=>
  intro A R x g l b
  obtain ⟨B,y,rfl⟩:∃B y,A=B++[y]:=by
   rcases List.eq_nil_or_concat A with h | ⟨B,y,h⟩
   .rw [h] at g; cases g
   .exact ⟨B,y,by simpa using h⟩
  have u:B.length=n:=by simpa using g
  have E:(B++[y])++x::R=B++y::x::R:=by simp
  have el:(((B++[y]).length:Nat):Int)=((B.length+1:Nat):Int):=by simp
  rw [E] at b ⊢
  rw [el]
  have j:=Ao3 (cmp:=cmp) (c:=c) s B R x y (l y (by simp)) b
  by_cases hc:c x y<0
  .rw [if_pos hc] at j
   obtain ⟨f,i,h1,h2,h3,D⟩:=ih B (y::R) x u (fun t ht=>l t (by simp [ht])) (by simpa using b)
   refine ⟨f,i++[y],?_,by rw [h2]; simp,?_,D⟩
   .rw [Sd j,h1]; simp
   .intro a ha
    rcases List.mem_append.1 ha with ha | ha
    .exact h3 a ha
    .simp only [List.mem_singleton] at ha
     subst ha; exact hc
  .rw [if_neg hc] at j
   refine ⟨B++[y],[],?_,by simp,(fun _ h=>by cases h),?_⟩
   .rw [M4 j]; simp
   .intro k z q
    have:=List.append_inj' q rfl
    have e:y=z:=by simpa using this.2
    subst e; exact hc
theorem Ao5 {α:Type} {c:α->α->Int} (L:Sp c) {f j:List α} {x:α} (s:(f++j).Pairwise (fun a b=>¬c b a<0)) (h2:∀a∈j,c x a<0) (h1:∀g y,f=g++[y]->¬c x y<0):(f++x::j).Pairwise (fun a b=>¬c b a<0):=by
 obtain ⟨i,l,k⟩:=List.pairwise_append.1 s
 have hx:∀a∈f,¬c x a<0:=by
  intro a ha
  rcases List.eq_nil_or_concat f with h | ⟨g,y,h⟩
  .rw [h] at ha; cases ha
  .have h:f=g++[y]:=by simpa using h
   have q:=h1 g y h
   rw [h] at ha i
   rcases List.mem_append.1 ha with ha | ha
   .exact L.ntr x y a q ((List.pairwise_append.1 i).2.2 a ha y (by simp))
   .simp only [List.mem_singleton] at ha
    subst ha; exact q
 refine List.pairwise_append.2 ⟨i,List.pairwise_cons.2 ⟨fun a ha h=>L.irr x (L.trs x a x (h2 a ha) h),l⟩,fun a ha b hb=>?_⟩
 rcases List.mem_cons.1 hb with rfl | hb
 .exact hx a ha
 .exact k a ha b hb
theorem Ao6 {α:Type} {cmp:α->α->Option Int} {c:α->α->Int} (L:Sp c) (f:List α) (A:∀x∈f,∀y∈f,cmp x y=some (c x y)) (J:f.length<=1099511627776) :
  ∃R,Aah cmp 0 (f.length:Int) f=some R/\R.Perm f/\R.Pairwise (fun a b=>¬c b a<0):=by
 unfold Aah
 cases f with
 | nil=>
  refine ⟨[],?_,List.Perm.refl _,List.Pairwise.nil⟩
  refine Jo 0 (fun _=>((1:Int),([]:List α))) (by simp [Ac,Cj]) (fun j hj=>by omega) ⟨[],?_,rfl⟩
  simp
 | cons z0 B=>
 generalize k:z0::B=f at *
 have hpos:1<=f.length:=by rw [<-k]; simp
 refine G7 (fun s=>∃(i:Nat) (S:List α),s=((i:Int),S++f.drop i)/\1<=i/\i<=f.length/\S.length=i/\S.Perm (f.take i)/\S.Pairwise (fun a b=>¬c b a<0)) (fun s=>f.length-s.1.toNat)
  (fun R=>R.Perm f/\R.Pairwise (fun a b=>¬c b a<0)) ⟨1,[z0],by rw [<-k]; simp [Ac,Cj],by omega,hpos,rfl,by rw [<-k]; simp,List.pairwise_singleton _ _⟩ ?_ ?_
 .rintro _ ⟨i,S,rfl,G,M,E,g,l⟩
  rcases Nat.lt_or_ge i f.length with h | h
  .have hx:f[i]? = some f[i]:=Cr h
   have hxm:f[i]∈f:=List.getElem_mem h
   generalize f[i]=x at hx hxm
   have D:f.drop i=x::f.drop (i+1):=Mf hx
   have z:(S++x::f.drop (i+1)).length=f.length:=by simp; omega
   simp only [Ba (by omega:(i:Int)<(f.length:Int)),cond_true,F5 h (by omega)]
   rw [D]
   left
   obtain ⟨u,q,h1,h2,h3,I⟩:=Ao4 (cmp:=cmp) (c:=c) (N:=f.length) (by omega) S.length S (f.drop (i+1)) x rfl (fun t ht=>A x hxm t (List.mem_of_mem_take (g.mem_iff.1 ht))) (by rw [z]; exact Nat.le_refl _)
   rw [E] at h1
   have hp:(u++x::q).Perm (f.take (i+1)):=by
    rw [F6 hx]
    have:(u++x::q).Perm ((u++q)++[x]):=by
     rw [List.append_assoc]
     exact List.Perm.append_left u (List.perm_append_singleton x q).symm
    exact this.trans (by rw [<-h2]; exact g.append_right [x])
   refine ⟨(((i+1:Nat):Int),(u++x::q)++f.drop (i+1)),bnd h1 (by simp),⟨i+1,u++x::q,rfl,by omega,by omega,?_,hp,?_⟩,by simp; omega⟩
   .rw [hp.length_eq,List.length_take]; omega
   .rw [h2] at l
    exact Ao5 L l h3 I
  .have:i=f.length:=by omega
   subst this
   rw [List.take_length] at g
   simp only [Bb (by omega:¬(f.length:Int)<(f.length:Int)),cond_false,List.drop_length,List.append_nil]
   exact .inr ⟨S,rfl,g,l⟩
 .rintro R ⟨h1,h2⟩
  exact ⟨R,rfl,h1,h2⟩
noncomputable def Af7 {α:Type} (B:Nat) (gr:Int->Option (List α)) (a0:List (List α)):Option (List α) :=
 (An (S:=(Int×Int)) (E:=Int) (fun (v2,v3)=>
 bif (decide (v3<(a0.length:Int))) then (
 (Af a0 v3).bind fun v4=>
 bif (decide ((Ac (v2+(v4.length:Int)))<(0:Int))) then (
 none
 )
 else (
 some (.inl ((Ac (v2+(v4.length:Int))),(Ac (v3+1))))
 )
 )
 else (
 some (.inr v2)
 )
  ) (0,0)).bind fun v5=>
 (gr v5).bind fun i=>
 (An (S:=(Int×(List α))) (E:=(List α)) (fun (b,c)=>
 bif (decide (b<(a0.length:Int))) then (
 (Af a0 b).bind fun f=>
 (Bz B c f).bind fun h=>
 some (.inl ((Ac (b+1)),h))
 )
 else (
 some (.inr c)
 )
  ) (0,i)).bind fun g=>
 some g
theorem Ao7 {α:Type} {B:Nat} (g:B<=1024) {gr:Int->Option (List α)} (l:∀n:Nat,n<=1000000->gr (n:Int)=some []) (a b:List α) (h:a.length+b.length<=1000000):Af7 B gr [a,b]=some (a++b):=by
 have m1:a.length*B<=1000000*1024:=Nat.mul_le_mul (by omega) g
 have m2:(a.length+b.length)*B<=1000000*1024:=Nat.mul_le_mul h g
 have f:Ac 1=1:=by rw [Ac,Cj] <;> omega
 have c:Ac 2=2:=by rw [Ac,Cj] <;> omega
 have k:Ac (a.length:Int)=(a.length:Int):=by rw [Ac,Cj] <;> omega
 have i:Ac ((a.length:Int)+(b.length:Int))=((a.length:Int)+(b.length:Int)):=by rw [Ac,Cj] <;> omega
 have i0:Af [a,b] 0=some a:=rfl
 have i1:Af [a,b] 1=some b:=rfl
 have s:Bz B [] a=some a:=by rw [D7 (by simp; omega)]; rfl
 have q:Bz B a b=some (a++b):=D7 (by omega)
 unfold Af7
 refine Jo 2 (fun j=>if j=0 then (0,0) else if j=1 then ((a.length:Int),1) else (((a.length+b.length:Nat):Int),2)) rfl ?_ ⟨((a.length+b.length:Nat):Int),?_,?_⟩
 .intro j hj
  rcases (by omega:j=0\/j=1) with rfl | rfl
  .have:¬((a.length:Int)<0):=by omega
   simp [i0,k,f,this]
  .have:¬((a.length:Int)+(b.length:Int)<0):=by omega
   simp [i1,i,c,this]
 .simp
 .rw [l _ h,Ag]
  refine Jo 2 (fun j=>if j=0 then (0,[]) else if j=1 then (1,a) else (2,a++b)) rfl ?_ ⟨a++b,?_,rfl⟩
  .intro j hj
   rcases (by omega:j=0\/j=1) with rfl | rfl
   .simp [i0,f,s]
   .simp [i1,c,q]
  .simp
end Go.Ab
namespace Go.Ab
open Go
structure Np (x:Ai) (a:Nat):Prop where
 rb:RB 200 x
 s:sv x=false
 n:nv x=a
 d:dv x=1
theorem Np.cR {a:Nat} (h:Bc a<=200):Np (cR a) a:=⟨Aoi h (by decide),(Aad a).1,(Aad a).2.1,(Aad a).2.2⟩
theorem Np.add {x y:Ai} {a b:Nat} (hx:Np x a) (hy:Np y b):Jg x y=some (Ab.cR (a+b)):=by
 rw [Zm _ _ 200 200 hx.rb hy.rb (by omega) (by omega),hx.s,hx.n,hx.d,hy.s,hy.n,hy.d]
 simp [Gw,Fz,Ab.cR]
theorem Np.mul {x y:Ai} {a b:Nat} (hx:Np x a) (hy:Np y b):Ez x y=some (Ab.cR (a*b)):=by
 rw [Uf _ _ 200 200 hx.rb hy.rb (by omega) (by omega),hx.s,hx.n,hx.d,hy.s,hy.n,hy.d]
 simp [Ab.cR]
theorem Np.can {x:Ai} {a:Nat} (hx:Np x a):Kb x=some (Ab.cR a):=by
 rw [Al9 _ 200 hx.rb (by omega),hx.s,hx.n,hx.d]; rfl
end Go.Ab
namespace Go.Ab
open Go
def Kw (n d:Nat) (f:Nat->Nat) (k:Nat):Nat:=sm n fun a=>f a*Rc a d k
theorem Ao8 (a d:Nat):0<Rc a d (a+d):=by
 unfold Rc
 rw [if_pos (by omega),show a+d-d=a by omega,Od]
 have:0<bc (a+d) a:=by
  have h:∀d,0<bc (a+d) a:=by
   intro d
   induction d with
   | zero=>rw [Nat.add_zero,Od]; decide
   | succ d ih=>
    cases a with
    | zero=>rw [Ju]; decide
    | succ a=>rw [show a+1+(d+1)=(a+1+d)+1 by omega,Oe]; omega
  exact h d
 omega
end Go.Ab
