/- Plain laws: what the plain functions answer. -/
import Derived.Test.YtidkdnlhdbbbjaaGreatDoorAsPl0
import Derived.Lib.ItoaLen
namespace Go.Ab
open Go Ieee
theorem As0 (n d:Nat):∃c,Toward.even.cut false n d=c/\(n / 2 ^ d<=c)/\c<=n / 2 ^ d+1/\(n % 2 ^ d=0->c=n / 2 ^ d):=by
 refine ⟨_,rfl,?_⟩
 unfold Toward.cut
 simp only [Nat.shiftLeft_eq,Nat.one_mul]
 by_cases hd:d<=n.log2+2
 .rw [Nat.min_eq_left hd]
  generalize h2:2 ^ d=g
  have h:0<g:=by rw [<-h2]; exact Nat.pow_pos (by decide)
  refine ⟨by omega,?_,fun h0=>?_⟩
  .have:=Bool.toNat_le (decide (g<2*(n % g))||(g==2*(n % g)&&n / g % 2==1))
   omega
  .rw [h0]
   have h1:decide (g<2*0)=false:=by simp
   have h3:(g==2*0)=false:=by simp; omega
   rw [h1,h3]; rfl
 .rw [Nat.min_eq_right (by omega)]
  have b:n<2 ^ (n.log2+1):=Nat.lt_log2_self
  have h:2 ^ (n.log2+2)=2*2 ^ (n.log2+1):=by rw [Nat.pow_succ]; omega
  have f:2 ^ (n.log2+2)<=2 ^ d:=Nat.pow_le_pow_right (by decide) (by omega)
  have l:n / 2 ^ (n.log2+2)=0:=Nat.div_eq_of_lt (by omega)
  have k:n % 2 ^ (n.log2+2)=n:=Nat.mod_eq_of_lt (by omega)
  have j:n / 2 ^ d=0:=Nat.div_eq_of_lt (by omega)
  have i:n % 2 ^ d=n:=Nat.mod_eq_of_lt (by omega)
  rw [l,k,j,i]
  have h1:decide (2 ^ (n.log2+2)<2*n)=false:=by simp; omega
  have h3:(2 ^ (n.log2+2)==2*n)=false:=by simp; omega
  rw [h1,h3]
  exact ⟨by simp,by simp,fun _=>rfl⟩
theorem Rv (f:Nat) (place e:Int) (u:f≠0) (E:place+f.log2=e) (h1 : -1000<=e) (h2:e<=900) :
  ∃(m:Nat) (p:Int),double.read (double.nearest false f place) = .number false m p/\4503599627370496<=m/\m<9007199254740992/\(p=e-52\/(p=e-51/\m=4503599627370496)):=by
 have g:max (place+f.log2-(double.fractionBits:Int)) double.leastPlace=e-52:=by
  have a:(double.fractionBits:Int)=52:=rfl
  have b:double.leastPlace = -1074:=by decide
  rw [a,b,E]; omega
 have hw:double.nearest false f place=min ((e-52+1074).toNat*4503599627370496+Toward.even.cut false (f <<< (place-(e-52)).toNat) ((e-52)-place).toNat) (2047*4503599627370496):=by
  unfold Format.nearest
  rw [if_neg u]
  simp only [g]
  have b:double.leastPlace = -1074:=by decide
  have c:double.binade=4503599627370496:=by decide
  have d:double.infRung=2047*4503599627370496:=by decide
  rw [b,c,d]
  unfold Format.word
  simp only [Bool.false_eq_true,if_false]
  congr 3
 have hk:4503599627370496<=Toward.even.cut false (f <<< (place-(e-52)).toNat) ((e-52)-place).toNat/\Toward.even.cut false (f <<< (place-(e-52)).toNat) ((e-52)-place).toNat<=9007199254740992:=by
  obtain ⟨c,hc,s,q,i⟩:=As0 (f <<< (place-(e-52)).toNat) ((e-52)-place).toNat
  rw [hc]
  have D:2 ^ f.log2<=f:=Nat.log2_self_le u
  have B:f<2 ^ (f.log2+1):=Nat.lt_log2_self
  rw [Nat.shiftLeft_eq] at s q i
  rcases Int.le_total place (e-52) with h | h
  .have z:(place-(e-52)).toNat=0:=by omega
   rw [z,Nat.pow_zero,Nat.mul_one] at s q i
   have hd:f.log2=52+((e-52)-place).toNat:=by omega
   have hp:2 ^ f.log2=4503599627370496*2 ^ ((e-52)-place).toNat:=by rw [hd,Nat.pow_add]
   have l:2 ^ (f.log2+1)=9007199254740992*2 ^ ((e-52)-place).toNat:=by rw [Nat.pow_succ,hp]; omega
   have hpos:0<2 ^ ((e-52)-place).toNat:=Nat.pow_pos (by decide)
   have a1:4503599627370496<=f / 2 ^ ((e-52)-place).toNat:=(Nat.le_div_iff_mul_le hpos).2 (by omega)
   have a2:f / 2 ^ ((e-52)-place).toNat<9007199254740992:=(Nat.div_lt_iff_lt_mul hpos).2 (by omega)
   omega
  .have z:((e-52)-place).toNat=0:=by omega
   rw [z,Nat.pow_zero,Nat.div_one] at s q i
   have I:=i (Nat.mod_one _)
   have hd:52=f.log2+(place-(e-52)).toNat:=by omega
   have hp:2 ^ f.log2*2 ^ (place-(e-52)).toNat=4503599627370496:=by rw [<-Nat.pow_add,<-hd]
   have l:2 ^ (f.log2+1)*2 ^ (place-(e-52)).toNat=9007199254740992:=by rw [Nat.pow_succ,Nat.mul_right_comm,hp]
   have hpos:0<2 ^ (place-(e-52)).toNat:=Nat.pow_pos (by decide)
   have a1:=Nat.mul_le_mul_right (2 ^ (place-(e-52)).toNat) D
   have a2:=Nat.mul_lt_mul_of_pos_right B hpos
   omega
 generalize Toward.even.cut false (f <<< (place-(e-52)).toNat) ((e-52)-place).toNat=c at *
 obtain ⟨t,ht⟩:∃t:Nat,(e-52+1074).toNat=t/\t<=1922/\(t:Int)=e+1022:=⟨_,rfl,by omega,by omega⟩
 rw [ht.1] at hw
 rw [Nat.min_eq_left (by omega)] at hw
 rw [hw]
 have b:double.leastPlace = -1074:=by decide
 have G:double.binade=4503599627370496:=by decide
 have d:double.infRung=2047*4503599627370496:=by decide
 have x:double.signWeight=9223372036854775808:=by decide
 unfold Format.read
 rw [b,G,d,x]
 have A:(t*4503599627370496+c) / 9223372036854775808=0:=Nat.div_eq_of_lt (by omega)
 have y:(t*4503599627370496+c) % 9223372036854775808=t*4503599627370496+c:=Nat.mod_eq_of_lt (by omega)
 simp only [A,y]
 rw [if_neg (by omega),if_pos (by omega)]
 by_cases hc:c<9007199254740992
 .refine ⟨c,e-52,?_,hk.1,hc,.inl rfl⟩
  have k:(t*4503599627370496+c) % 4503599627370496=c-4503599627370496:=by omega
  have j:(t*4503599627370496+c) / 4503599627370496=t+1:=by omega
  rw [k,j,show 4503599627370496+(c-4503599627370496)=c by omega,show (-1074:Int)+((t+1-1:Nat):Int)=e-52 by omega]; rfl
 .have hc:c=9007199254740992:=by omega
  subst hc
  refine ⟨4503599627370496,e-51,?_,by decide,by decide,.inr ⟨rfl,rfl⟩⟩
  have k:(t*4503599627370496+9007199254740992) % 4503599627370496=0:=by omega
  have j:(t*4503599627370496+9007199254740992) / 4503599627370496=t+2:=by omega
  rw [k,j,Nat.add_zero,show (-1074:Int)+((t+2-1:Nat):Int)=e-51 by omega]; rfl
theorem Acw (v:Int) (h:0<=v):floatOfInt .f64 v=double.nearest false v.natAbs 0:=by
 have e:decide (v<0)=false:=As (by omega)
 show double.nearest (decide (v<0)) v.natAbs 0=_
 rw [e]
theorem As1:double.read 4876203697187506176 = .number false 7812500000000000 7:=by decide
theorem Yw {n k:Nat} (h1:2 ^ k<=n) (h2:n<2 ^ (k+1)):n.log2=k:=(Nat.log2_eq_iff (by have:=Nat.pow_pos (n:=k) (show 0<2 by decide); omega)).2 ⟨h1,h2⟩
theorem Uz {n k:Nat} (h:n<2 ^ (k+1)):n.log2<=k:=by
 by_cases h0:n=0
 .subst h0; simp
 .have:=(Nat.log2_lt h0).2 h; omega
theorem Acx {n k:Nat} (h:2 ^ k<=n):k<=n.log2:=(Nat.le_log2 (by have:=Nat.pow_pos (n:=k) (show 0<2 by decide); omega)).2 h
theorem As2 (x:Int) (h0:1<=x) (h1:x<1000000000):∃(w:Nat) (m:Nat) (p:Int),floatBits .mul .f64 (floatOfInt .f64 x) 4876203697187506176=some w/\double.read w = .number false m p/\4503599627370496<=m/\m<9007199254740992/\7<=p/\(p<=37\/(p=38/\m=4503599627370496)):=by
 have l:x.natAbs.log2<=29:=Uz (by simp; omega)
 obtain ⟨m1,b,g,a1,a2,a3⟩:=Rv x.natAbs 0 (x.natAbs.log2) (by omega) (by omega) (by omega) (by omega)
 have c:(m1*7812500000000000).log2=104\/((m1*7812500000000000).log2=105/\m1≠4503599627370496):=by
  have b1:2 ^ 104<=m1*7812500000000000:=by omega
  have b2:m1*7812500000000000<2 ^ 106:=by omega
  rcases Nat.lt_or_ge (m1*7812500000000000) (2 ^ 105) with h | h
  .exact .inl (Yw b1 h)
  .exact .inr ⟨Yw h b2,by rintro rfl; omega⟩
 obtain ⟨m2,i,f,k,j,q⟩:=Rv (m1*7812500000000000) (b+7) (b+7+(m1*7812500000000000).log2) (by omega) rfl (by omega) (by omega)
 refine ⟨double.nearest false (m1*7812500000000000) (b+7),m2,i,?_,f,k,j,by omega,by omega⟩
 show ((double.read (floatOfInt .f64 x)).product (double.read 4876203697187506176)).map double.write=_
 rw [Acw x (by omega),g,As1]; rfl
theorem As3 (w:Nat) (m:Nat) (p:Int) (hw:double.read w = .number false m p) (M:4503599627370496<=m) (L:m<9007199254740992) (I:7<=p) (j:p<=37\/(p=38/\m=4503599627370496)) (y:Int) (h0:0<=y) (h1:y<1000000000000000000) :
  ∃(w':Nat) (g:Nat) (f:Int),floatBits .add .f64 w (floatOfInt .f64 y)=some w'/\double.read w' = .number false g f/\4503599627370496<=g/\g<9007199254740992/\7<=f/\f<=39:=by
 obtain ⟨c,b,x,V,U⟩:∃(c:Nat) (b:Int),double.read (floatOfInt .f64 y) = .number false c b/\b<=8/\c<9007199254740992/\-1074<=b:=by
  rw [Acw y h0]
  by_cases hy:y.natAbs=0
  .rw [hy]; exact ⟨0,-1074,by decide,by decide,by decide,by decide⟩
  .have Z:y.natAbs.log2<=59:=Uz (by simp; omega)
   obtain ⟨m1,D,A,a1,a2,a3⟩:=Rv y.natAbs 0 (y.natAbs.log2) hy (by omega) (by omega) (by omega)
   exact ⟨m1,D,A,by omega,a2,by omega⟩
 generalize hb:min p b=base
 have ht:∃T:Nat,signed false m (p-base).toNat+signed false c (b-base).toNat=(T:Int)/\T=m*2 ^ (p-base).toNat+c*2 ^ (b-base).toNat:=by
  refine ⟨m <<< (p-base).toNat+c <<< (b-base).toNat,rfl,by rw [Nat.shiftLeft_eq,Nat.shiftLeft_eq]⟩
 obtain ⟨T,t1,t2⟩:=ht
 have G:0<2 ^ (p-base).toNat:=Nat.pow_pos (by decide)
 have i:2 ^ (b-base).toNat<=2 ^ (8-base).toNat:=Nat.pow_le_pow_right (by decide) (by omega)
 have J:m*2 ^ (p-base).toNat<=2 ^ (90-base).toNat:=by
  rcases j with h | ⟨rfl,rfl⟩
  .have e:2 ^ (90-base).toNat=2 ^ (p-base).toNat*2 ^ (90-p).toNat:=by rw [<-Nat.pow_add]; congr 1; omega
   have e2:2 ^ 53<=2 ^ (90-p).toNat:=Nat.pow_le_pow_right (by decide) (by omega)
   rw [e,Nat.mul_comm]
   exact Nat.mul_le_mul_left _ (by omega)
  .have e:2 ^ (90-base).toNat=2 ^ (38-base).toNat*2 ^ 52:=by rw [<-Nat.pow_add]; congr 1; omega
   rw [e,Nat.mul_comm]; omega
 have E:c*2 ^ (b-base).toNat<2 ^ (90-base).toNat:=by
  have e:2 ^ (90-base).toNat=2 ^ (8-base).toNat*2 ^ 82:=by rw [<-Nat.pow_add]; congr 1; omega
  have e3:c*2 ^ (b-base).toNat<=c*2 ^ (8-base).toNat:=Nat.mul_le_mul_left _ i
  have N:0<2 ^ (8-base).toNat:=Nat.pow_pos (by decide)
  have e5:c*2 ^ (8-base).toNat<2 ^ 82*2 ^ (8-base).toNat:=Nat.mul_lt_mul_of_pos_right (by omega) N
  rw [e,Nat.mul_comm (2 ^ (8-base).toNat)]; omega
 have s:T<2 ^ ((90-base).toNat+1):=by rw [Nat.pow_succ]; omega
 have q:2 ^ (52+(p-base).toNat)<=T:=by
  have:2 ^ 52*2 ^ (p-base).toNat<=m*2 ^ (p-base).toNat:=Nat.mul_le_mul_right _ (by omega)
  rw [Nat.pow_add]; omega
 have Y:=Uz s
 have X:=Acx q
 have u:T≠0:=by
  have:=Nat.pow_pos (n:=52+(p-base).toNat) (show 0<2 by decide); omega
 obtain ⟨m3,B,z,S,R,c3⟩:=Rv T base (base+T.log2) u rfl (by omega) (by omega)
 refine ⟨double.nearest false T base,m3,B,?_,z,S,R,by omega,by omega⟩
 show ((double.read w).sum (double.read (floatOfInt .f64 y))).map double.write=_
 rw [hw,x]
 have l:¬((T:Int)=0):=by omega
 have k:decide ((T:Int)<0)=false:=As (by omega)
 simp only [Datum.sum,hb,t1,if_neg l,k,Option.map_some,Int.natAbs_natCast,Format.write]
theorem As4 {b m N:Nat} {p:Int} (g:double.read b = .number false m p) (i:(Datum.number false m p).toInt .zero=some (N:Int)) (h:N<=9223372036854775808):floatToIntVal .f64 b .u64=some (N:Int):=by
 have hd:FloatKind.f64.decode b = .number false m p:=g
 have f:IntKind.u64.min=0:=by decide
 have c:IntKind.u64.max=18446744073709551615:=by decide
 unfold floatToIntVal
 rw [hd,i]
 simp only [f,c]
 rw [if_pos ⟨by omega,by omega⟩]
theorem As5 (w:Nat) (m:Nat) (p:Int) (hw:double.read w = .number false m p) (R:4503599627370496<=m) (M:m<9007199254740992) (L:7<=p) (J:p<=39) (z:Int) (h0:1000000000<=z) (h1:z<1000000000000000000) :
  ∃(w':Nat) (n:Int),floatBits .quo .f64 w (floatOfInt .f64 z)=some w'/\floatToIntVal .f64 w' .u64=some n/\0<=n/\n<=9223372036854775808:=by
 have U:z.natAbs.log2<=59:=Uz (by simp; omega)
 have S:29<=z.natAbs.log2:=Acx (by simp; omega)
 obtain ⟨f,c,u,a1,a2,a3⟩:=Rv z.natAbs 0 (z.natAbs.log2) (by omega) (by omega) (by omega) (by omega)
 have D:m.log2=52:=Yw (by omega) (by omega)
 have y:f.log2=52:=Yw (by omega) (by omega)
 generalize hq:m*2 ^ 54 / f=q
 generalize l:((m*2 ^ 54 % f != 0).toNat)=s
 have E:s<=1:=by rw [<-l]; exact Bool.toNat_le _
 have I:q<2 ^ 55:=by rw [<-hq]; exact (Nat.div_lt_iff_lt_mul (by omega)).2 (by omega)
 have G:2 ^ 53<=q:=by rw [<-hq]; exact (Nat.le_div_iff_mul_le (by omega)).2 (by omega)
 have B:(2*q+s).log2<=55:=Uz (by omega)
 have A:54<=(2*q+s).log2:=Acx (by omega)
 obtain ⟨m4,b,x,c1,Y,Z⟩:=Rv (2*q+s) (p-c-(54:Nat)-1) (p-c-(54:Nat)-1+(2*q+s).log2) (by omega) rfl (by omega) (by omega)
 have j:(Datum.number false m p).quotient (double.fractionBits+2) (Datum.number false f c)=some (.number false (2*q+s) (p-c-(54:Nat)-1)):=by
  have i:¬f=0:=by omega
  have X:double.fractionBits+2=54:=rfl
  simp only [Datum.quotient,if_neg i,X,D,y,Nat.shiftLeft_eq,Nat.add_sub_cancel,hq,l,Bool.xor_self]
 have hb:m4*2 ^ b.toNat<=9223372036854775808:=by
  have k:b<=10\/(b=11/\m4=4503599627370496):=by omega
  rcases k with h | ⟨rfl,rfl⟩
  .have:2 ^ b.toNat<=2 ^ 10:=Nat.pow_le_pow_right (by decide) (by omega)
   have:=Nat.mul_le_mul (Nat.le_of_lt Y) this
   omega
  .decide
 obtain ⟨N,V,g⟩:∃N:Nat,(Datum.number false m4 b).toInt .zero=some (N:Int)/\N<=9223372036854775808:=by
  refine ⟨(m4 <<< b.toNat) / (1 <<< min (-b).toNat ((m4 <<< b.toNat).log2+2)),?_,?_⟩
  .simp only [Datum.toInt,Datum.integral,Toward.cut,signed,Bool.false_eq_true,if_false,Nat.shiftLeft_zero,Bool.toNat_false,Nat.add_zero]
  .rw [Nat.shiftLeft_eq m4]
   exact Nat.le_trans (Nat.div_le_self _ _) hb
 refine ⟨double.nearest false (2*q+s) (p-c-(54:Nat)-1),(N:Int),?_,?_,by omega,by omega⟩
 .have e:floatBits .quo .f64 w (floatOfInt .f64 z)=((double.read w).quotient (double.fractionBits+2) (double.read (floatOfInt .f64 z))).map double.write:=rfl
  rw [e,hw,Acw z (by omega),u,j]
  simp only [Option.map_some,Format.write]
 .exact As4 x V g
theorem As6 (r n:Nat) (h2:2<=A9 n) (E:A9 r<=A9 n+1) (G:A9 n<1099511627776):∃d:Nat,Ub (Ae r) (Ae n)=some (d:Int)/\d<1000000000:=by
 unfold Ub
 unfold A9 at h2 E G
 have c:n≠0:=by rintro rfl; rw [Er] at h2; simp at h2
 by_cases V:(Ae r).length<(Ae n).length
 .exact ⟨0,by rw [Am (by omega)]; rfl,by decide⟩
 .rw [As (by omega),cond_false]
  have y:Ac (((Ae n).length:Int)-1)=(((Ae n).length-1:Nat):Int):=by rw [Ac,Bs] <;> omega
  have u:Ac (((Ae n).length:Int)-2)=(((Ae n).length-2:Nat):Int):=by rw [Ac,Bs] <;> omega
  have i1:(Ae n).length-1<(Ae n).length:=by omega
  have i2:(Ae n).length-2<(Ae n).length:=by omega
  have h:(Ae n).length-1<(Ae r).length:=by omega
  have g:(Ae n).length-2<(Ae r).length:=by omega
  have t1:=(D1 n).get i1
  have t2:=(D1 n).get i2
  have M:=(D1 r).get h
  have L:=(D1 r).get g
  have i:(Ae n)[(Ae n).length-1]≠0:=by
   have:=(Yi n).2 (G3 c)
   rwa [List.getLast_eq_getElem] at this
  rw [y,u,De rfl i1,Ad,De rfl i2,Ad,De rfl h,Ad,De rfl g,Ad]
  generalize (Ae n)[(Ae n).length-1]=a1 at *
  generalize (Ae n)[(Ae n).length-2]=a2 at *
  generalize (Ae r)[(Ae n).length-1]=b1 at *
  generalize (Ae r)[(Ae n).length-2]=b2 at *
  have l:Au (Au (Au b1*1000000000)+Au b2)=b1*1000000000+b2:=by
   rw [show Au b1=b1 from Cx (by omega) (by omega),show Au b2=b2 from Cx (by omega) (by omega),show Au (b1*1000000000)=b1*1000000000 from Cx (by omega) (by omega)]
   exact Cx (by omega) (by omega)
  have j:Au (Au (Au a1*1000000000)+Au a2)=a1*1000000000+a2:=by
   rw [show Au a1=a1 from Cx (by omega) (by omega),show Au a2=a2 from Cx (by omega) (by omega),show Au (a1*1000000000)=a1*1000000000 from Cx (by omega) (by omega)]
   exact Cx (by omega) (by omega)
  rw [l,j]
  by_cases X:(Ae r).length=(Ae n).length
  .rw [Fa (by omega),cond_true,Jh (by omega) (by omega) (by omega),Ad]
   have R:0<=(b1*1000000000+b2) / (a1*1000000000+a2):=Int.ediv_nonneg (by omega) (by omega)
   have N:(b1*1000000000+b2) / (a1*1000000000+a2)<1000000000:=Int.ediv_lt_of_lt_mul (by omega) (by omega)
   exact ⟨((b1*1000000000+b2) / (a1*1000000000+a2)).toNat,by congr 1; omega,by omega⟩
  .have hk:(Ae n).length<(Ae r).length:=by omega
   have b:r≠0:=by rintro rfl; rw [Er] at hk; simp at hk
   have J:=(D1 r).get hk
   have f:(Ae r)[(Ae n).length]≠0:=by
    have:=(Yi r).2 (G3 b)
    rw [List.getLast_eq_getElem] at this
    have e:(Ae r).length-1=(Ae n).length:=by omega
    simpa [e] using this
   rw [C6 (by omega),cond_false,De rfl hk,Ad]
   generalize (Ae r)[(Ae n).length]=x at *
   obtain ⟨s,m3,A,f1,f2,f3,f4,f5,f6⟩:=As2 x (by omega) (by omega)
   obtain ⟨q,m4,z,g1,g2,g3,g4,g5,g6⟩:=As3 s m3 A f2 f3 f4 f5 f6 (b1*1000000000+b2) (by omega) (by omega)
   obtain ⟨I,k,D,B,U,S⟩:=As5 q m4 z g2 g3 g4 g5 g6 (a1*1000000000+a2) (by omega) (by omega)
   rw [f1,Ad,g1,Ad,D,Ad,B,Ad,show Au (k+2)=k+2 from Cx (by omega) (by omega)]
   by_cases hc:(999999999:Int)<k+2
   .exact ⟨999999999,by rw [if_pos hc]; rfl,by decide⟩
   .exact ⟨(k+2).toNat,by rw [if_neg hc]; congr 1; omega,by omega⟩
end Go.Ab
namespace Go.Ab
open Go
theorem As7 (x r:Nat):A9 (x % 1000000000+1000000000*r)<=A9 r+1:=by
 apply Ix
 have:=Lg r
 rw [Nat.pow_succ]
 omega
set_option maxHeartbeats 1000000 in
theorem Acy (m n:Nat) (hm:A9 m<137438953472) (hn:A9 n<137438953472) (D:n≠0):Ol (Ae m) (Ae n)=some (Ae (m / n),Ae (m % n)):=by
 unfold Ol
 rw [Yt,Rr m n (by omega) (by omega),Ad]
 have af:=hm
 have ae:=hn
 unfold A9 at hm hn
 by_cases l:m<n
 .rw [show Eg m n = -1 by rw [Eg,if_pos l],Am (by decide:(-1:Int)<0),cond_true,Pf _ (by omega),Ad,Ash (Yi m),Nat.div_eq_of_lt l,Nat.mod_eq_of_lt l,Er]
 .rw [As (show ¬Eg m n<0 by rw [Eg,if_neg l]; split <;> decide),cond_false]
  have a8:(Ae n).length≠0:=fun e=>G3 D (List.length_eq_zero_iff.1 e)
  by_cases h1:(Ae n).length=1
  .rw [Fa (by omega:((Ae n).length:Int)=1),cond_true]
   have B:n<1000000000:=by
    have:=Lg n
    rw [show A9 n=1 from h1] at this
    simpa using this
   have Y:Ae n = [(n:Int)]:=by
    rw [Kp D,Nat.div_eq_of_lt B,Er,Nat.mod_eq_of_lt B]
   rw [Y,show Ag [(n:Int)] 0=some (n:Int) from rfl,Ad,show Au (n:Int)=n from Cx (by omega) (by omega),Asx m n (by omega) (by omega) (by omega),Ad]
   have a7:m % n<n:=Nat.mod_lt _ (by omega)
   rw [Ai3,Rq (m % n) (by omega),Ad]
  .rw [C6 (by omega:((Ae n).length:Int)≠1),cond_false]
   have hw:Ac (((Ae m).length:Int)-1)=((Ae m).length:Int)-1:=by rw [Ac,Bs] <;> omega
   rw [Ia rfl rfl (Nat.le_refl _) (by omega) (by omega),hw]
   simp only [Ad]
   have ha:=D1 m
   refine G2 (fun (r,i,q)=>∃(k R:Nat),r=Ae R/\i=(k:Int)-1/\k<=(Ae m).length/\R<n/\q.length=(Ae m).length/\Bl q/\Ah (q.drop k)*n+R=Ah ((Ae m).drop k))
    (fun (_,i,_)=>(i+1).toNat) (fun (r,q)=>∃R:Nat,r=Ae R/\R<n/\q.length=(Ae m).length/\Bl q/\Ah q*n+R=m)
    ⟨(Ae m).length,0,by rw [Er],rfl,Nat.le_refl _,by omega,by simp,Bl.replicate _,by simp [Ah]⟩ ?_ ?_
   .rintro ⟨r,i,q⟩ ⟨k,R,rfl,rfl,hk,J,u,g,A⟩
    cases k with
    | zero=>exact .inr ⟨(Ae R,q),by simp,R,rfl,J,u,g,by simpa [D9] using A⟩
    | succ j=>
     have hj:j<(Ae m).length:=by omega
     have E:j<q.length:=by omega
     have hx:=ha.get hj
     obtain ⟨x,y⟩:∃x:Nat,(Ae m)[j]=(x:Int):=⟨(Ae m)[j].toNat,by omega⟩
     have L:x<1000000000:=by omega
     have e0:((j+1:Nat):Int)-1=(j:Int):=by omega
     have e1:decide ((j:Int)>=0)=true:=Am (by omega)
     have Z:A9 R<=A9 n:=G4 (by omega)
     have ac:A9 (x+1000000000*R)<=A9 R+1:=by
      have:=As7 x R
      rwa [Nat.mod_eq_of_lt L] at this
     have ah:(Ae R).length<=(Ae n).length:=Z
     have G:Iq ((x:Int)::Ae R)=some (Ae (x+1000000000*R)):=by
      rw [Pf _ (by simp; omega)]
      congr 1
      refine Ji ?_ ?_
      .intro d hd
       rcases List.mem_cons.1 hd with rfl | hd
       .omega
       .exact D1 R d hd
      .simp only [Ah,D9]; omega
     obtain ⟨d0,U,ag⟩:=As6 (x+1000000000*R) n (by unfold A9; omega) (by omega) (by omega)
     generalize a6:x+1000000000*R=f at *
     have ab:f<1000000000*n:=by omega
     have s:∀d:Nat,d<18446744073709551616->Oz (d:Int)=some (Ae d)/\La (Ae n) (Ae d)=some (Ae (n*d)):=by
      intro d hd
      have:=Rp hd
      exact ⟨by rw [Ai3,Rq d hd],Yv n d (by omega) (by omega)⟩
     have I:∀d:Nat,d<18446744073709551616->M6 (Ae (n*d)) (Ae f)=some (Eg (n*d) f):=by
      intro d hd
      have h3:=Rp hd
      have h4:=Hi n d
      rw [Yt,Rr _ _ (by omega) (by omega)]
     simp only [e0,e1,cond_true,De rfl hj,y,Ad,Du (show ([(x:Int)].length+(Ae R).length)*4<=_ by simp; omega),List.singleton_append,G,U]
     refine .inl (Ye (E8 (fun d=>∃e:Nat,d=e/\e<=d0) (fun d=>d.toNat) (fun d=>∃e:Nat,d=e/\e<=d0/\n*e<=f) ⟨d0,rfl,Nat.le_refl _⟩ ?_ ?_))
     .rintro d ⟨e,rfl,he⟩
      by_cases X:e=0
      .subst X
       exact .inr ⟨0,rfl,0,rfl,by omega,by simp⟩
      .obtain ⟨m1,m2⟩:=s e (by omega)
       simp only [Am (by omega:(e:Int)>0),cond_true,m1,m2,I e (by omega),Ad]
       by_cases hc:f<n*e
       .refine .inl ⟨((e-1:Nat):Int),?_,⟨e-1,rfl,by omega⟩,by simp; omega⟩
        rw [show Eg (n*e) f=1 by rw [Eg,if_neg (by omega),if_pos hc],show decide ((1:Int)>0)=true from rfl,cond_true,show Au ((e:Int)-1)=((e-1:Nat):Int) by rw [Au,Cx] <;> omega]
       .refine .inr ⟨(e:Int),?_,e,rfl,he,by omega⟩
        rw [As (show ¬Eg (n*e) f>0 by rw [Eg,if_neg hc]; split <;> decide),cond_false]
     .rintro d ⟨e,rfl,he,N⟩
      obtain ⟨m1,m2⟩:=s e (by omega)
      simp only [m1,m2,Ad,Yu f (n*e) (by omega) N]
      refine E8 (fun (r,d)=>∃(c b:Nat),r=Ae c/\d=b/\n*b+c=f) (fun (r,_)=>(Ah r).toNat) (fun (r,d)=>∃(c b:Nat),r=Ae c/\d=b/\n*b+c=f/\c<n) ⟨f-n*e,e,rfl,rfl,by omega⟩ ?_ ?_
      .rintro ⟨r,d⟩ ⟨c,b,rfl,rfl,M⟩
       have aa:A9 c<=A9 f:=G4 (by omega)
       have V:b<1000000000:=by
        rcases Nat.lt_or_ge b 1000000000 with h | h
        .exact h
        .exfalso
         have:n*1000000000<=n*b:=Nat.mul_le_mul_left n h
         omega
       simp only [Yt,Rr c n (by omega) (by omega),Ad]
       by_cases hc:c<n
       .refine .inr ⟨(Ae c,(b:Int)),?_,c,b,rfl,rfl,M,hc⟩
        rw [As (show ¬Eg c n>=0 by rw [Eg,if_pos hc]; decide),cond_false]
       .refine .inl ⟨(Ae (c-n),((b+1:Nat):Int)),?_,⟨c-n,b+1,rfl,rfl,?_⟩,?_⟩
        .rw [Am (show Eg c n>=0 by rw [Eg,if_neg hc]; split <;> decide),cond_true,Yu c n (by omega) (by omega),Ad,show Au ((b:Int)+1)=((b+1:Nat):Int) by rw [Au,Cx] <;> omega]
        .rw [Nat.mul_add]; omega
        .simp only [D9]; omega
      .rintro ⟨r,d⟩ ⟨c,b,rfl,rfl,M,a1⟩
       have V:b<1000000000:=by
        rcases Nat.lt_or_ge b 1000000000 with h | h
        .exact h
        .exfalso
         have:n*1000000000<=n*b:=Nat.mul_le_mul_left n h
         omega
       have w1:Bx (b:Int)=b:=En (by omega) (by omega)
       have w8:Ac ((j:Int)-1)=(j:Int)-1:=by rw [Ac,Bs] <;> omega
       refine ⟨_,by simp only [De rfl E,Ad,w1,w8,E9 rfl],(Ae c,(j:Int)-1,q.set j (b:Int)),rfl,⟨j,c,rfl,rfl,by omega,a1,by simpa using u,g.set _ (by omega) (by omega),?_⟩,by simp⟩
       have d1:(q.set j (b:Int)).drop j=(b:Int)::q.drop (j+1):=by
        rw [List.drop_eq_getElem_cons (by simpa using E),List.drop_set_of_lt (by omega)]; simp
       rw [d1,List.drop_eq_getElem_cons hj,y]
       simp only [Ah]
       rw [<-A]
       have:((n*b+c:Nat):Int)=((x+1000000000*R:Nat):Int):=by rw [M,a6]
       simp only [Int.natCast_add,Int.natCast_mul] at this
       grind
   .rintro ⟨r,q⟩ ⟨R,rfl,J,u,g,A⟩
    dsimp only
    have ad:=Fp g.u32
    obtain ⟨Q,hQ⟩:∃Q:Nat,Ah q=Q:=⟨(Ah q).toNat,by omega⟩
    rw [hQ] at A
    have z:Q*n+R=m:=by
     have:((Q*n+R:Nat):Int)=(m:Int):=by simp only [Int.natCast_add,Int.natCast_mul]; exact A
     omega
    have hd:m / n=Q:=by rw [<-z,Nat.mul_comm,Nat.mul_add_div (by omega),Nat.div_eq_of_lt J]; rfl
    have S:m % n=R:=by rw [<-z,Nat.mul_comm,Nat.mul_add_mod,Nat.mod_eq_of_lt J]
    rw [Pf q (by omega),Ad,Ji g hQ,hd,S]
theorem As8 (m n:Nat) (h:A9 m<137438953472) (g:A9 n<137438953472):Tx (Ae m) (Ae n)=some (Ae (Nat.gcd m n)):=by
 unfold Tx
 refine G2 (fun (a,b)=>∃x y:Nat,a=Ae x/\b=Ae y/\A9 x<137438953472/\A9 y<137438953472/\Nat.gcd x y=Nat.gcd m n) (fun (_,b)=>(Ah b).toNat)
  (fun r=>r=Ae (Nat.gcd m n)) ⟨m,n,rfl,rfl,h,g,rfl⟩ ?_ (by rintro e rfl; rfl)
 rintro ⟨a,b⟩ ⟨x,y,rfl,rfl,hx,hy,f⟩
 by_cases c:y=0
 .subst c
  refine .inr ⟨Ae x,by rw [Er]; rfl,?_⟩
  rw [<-f,Nat.gcd_zero_right]
 .have i:(Ae y).length≠0:=fun e=>G3 c (List.length_eq_zero_iff.1 e)
  have j:decide (((Ae y).length:Int)>0)=true:=Am (by omega)
  refine .inl ⟨(Ae y,Ae (x % y)),?_,⟨y,x % y,rfl,rfl,hy,by have:=G4 (Nat.mod_le x y); omega,?_⟩,?_⟩
  .simp only [j,cond_true,Acy x y hx hy c,Ad]
  .rw [<-f,Nat.gcd_comm y,<-Nat.gcd_rec,Nat.gcd_comm]
  .simp only [D9]
   have:=Nat.mod_lt x (by omega:y>0)
   omega
end Go.Ab
namespace Go.Ab
open Go
def L8 (b:Bool) (n d:Nat):Ap:=if d=0 then ⟨false,[],[1]⟩ else Bh b n d
theorem Acz {n:Nat} (h:n≠0):(Ae n).length≠0:=fun e=>G3 h (List.length_eq_zero_iff.1 e)
theorem Ac0 (c:Bool) (a b:List Int) (ha:Ko a) (hb:Ko b) (s:a.length<137438953400) (q:b.length<137438953400):K7 c a b=some (L8 c (Ah a).toNat (Ah b).toNat):=by
 unfold K7
 have h1:=Ys ha
 have h2:=Ys hb
 rw [Ai2 a ha (by omega),Ad,Ai2 b hb (by omega),Ad]
 generalize (Ah a).toNat=n at *
 generalize (Ah b).toNat=d at *
 by_cases g:n=0
 .subst g
  have:L8 c 0 d=⟨false,[],[1]⟩:=by unfold L8; split <;> simp [Bh]
  rw [this,Er]; rfl
 .have k:=Acz g
  by_cases hd:d=0
  .subst hd
   simp only [C6 (by omega:((Ae n).length:Int)≠0),cond_false,Er,Ad]
   rfl
  .have l:=Acz hd
   have f:Nat.gcd n d≠0:=by have:=Nat.gcd_pos_of_pos_left d (by omega:0<n); omega
   have x:A9 (Nat.gcd n d)<=A9 n:=G4 (Nat.gcd_le_left d (by omega:0<n))
   simp only [C6 (by omega:((Ae n).length:Int)≠0),cond_false,C6 (by omega:((Ae d).length:Int)≠0),Ad,As8 n d (by omega) (by omega)]
   rw [L8,if_neg hd,Bh,if_neg g]
   have key:(bif (((Ae (Nat.gcd n d)).length:Int) != (1:Int)) then some true else ((Ag (Ae (Nat.gcd n d)) 0).bind fun j=>some (j != (1:Int))))=some (decide (Nat.gcd n d≠1)):=by
    have h3:=Acp (Nat.gcd n d)
    unfold Ow at h3
    by_cases u:(Ae (Nat.gcd n d)).length=1
    .rw [Fa (by omega:((Ae (Nat.gcd n d)).length:Int)=1),cond_true] at h3
     rw [Ek (by omega:((Ae (Nat.gcd n d)).length:Int)=1),cond_false]
     cases i:Ag (Ae (Nat.gcd n d)) 0 with
     | none=>rw [i] at h3; cases h3
     | some v=>
      rw [i] at h3
      simp only [Ad] at h3 ⊢
      have h3:=Option.some.inj h3
      congr 1
      rw [bne,h3]; simp
    .rw [C6 (by omega:((Ae (Nat.gcd n d)).length:Int)≠1),cond_false] at h3
     rw [Dx (by omega:((Ae (Nat.gcd n d)).length:Int)≠1),cond_true]
     have h3:=Option.some.inj h3
     have:Nat.gcd n d≠1:=by simpa using h3.symm
     rw [Am this]
   rw [key,Ad]
   by_cases h:Nat.gcd n d=1
   .rw [As (by simpa using h),cond_false,h]; simp
   .rw [Am h,cond_true,Acy n _ (by omega) (by omega) f,Ad,Acy d _ (by omega) (by omega) f,Ad]
theorem As9 (a:Ap):L8 a.Neg (Ah a.Num).toNat (Ah a.Den).toNat=Bh (sv a) (nv a) (dv a):=by
 unfold L8 sv nv dv
 by_cases b:(Ah a.Num).toNat=0
 .simp [b,Bh]
 .by_cases hd:(Ah a.Den).toNat=0
  .simp [hd,Bh]
  .simp [b,hd]
theorem Ac1 (a:Ap) (k:Nat) (h:RB k a) (hk:k<137438953400):Ob a=some (Bh (sv a) (nv a) (dv a)):=by
 unfold Ob
 have:=h.nl
 have:=h.dl
 rw [Ac0 _ _ _ h.num h.den (by omega) (by omega),Ad,As9]
theorem Ac2 (s:Bool) (n d:Nat) (hd:d≠0):(Bh s n d).Num=Ae (nv (Bh s n d))/\(Bh s n d).Den=Ae (dv (Bh s n d))/\(Bh s n d).Neg=sv (Bh s n d):=by
 obtain ⟨h1,h2,h3,c⟩:=Ru s n d hd
 rw [h1,h2]
 by_cases h0:n=0
 .subst h0
  rw [c rfl,Rt]
  have b:d / Nat.gcd 0 d=1:=by rw [Nat.gcd_zero_left]; exact Nat.div_self (by omega)
  rw [b,Nat.zero_div,Er,Ux]; exact ⟨rfl,rfl,rfl⟩
 .rw [h3 h0]; simp [Bh,h0]
theorem Yx (a:Ap):∃g:Nat,g≠0/\nv a=g*nv (Bh (sv a) (nv a) (dv a))/\dv a=g*dv (Bh (sv a) (nv a) (dv a))/\sv (Bh (sv a) (nv a) (dv a))=sv a:=by
 obtain ⟨h1,h2,h3,b⟩:=Ru (sv a) (nv a) (dv a) (Ev a)
 have hd:=Ev a
 have c:0<Nat.gcd (nv a) (dv a):=Nat.gcd_pos_of_pos_right _ (by omega)
 refine ⟨Nat.gcd (nv a) (dv a),by omega,?_,?_,?_⟩
 .rw [h1]; exact (Nat.mul_div_cancel' (Nat.gcd_dvd_left _ _)).symm
 .rw [h2]; exact (Nat.mul_div_cancel' (Nat.gcd_dvd_right _ _)).symm
 .by_cases h0:nv a=0
  .rw [b h0]
   unfold nv at h0
   unfold sv
   split at h0
   .rename_i hc; rw [if_pos hc]
   .omega
  .exact h3 h0
theorem Ata (s:Bool) (n d:Nat) (h:d≠0):L8 s n d=Bh s n d:=by rw [L8,if_neg h]
theorem Ac3 (b:Bool) (n d:Nat) (f:A9 n<137438953400) (hd:A9 d<137438953400) (c:d≠0):K7 b (Ae n) (Ae d)=some (Bh b n d):=by
 unfold A9 at f hd
 rw [Ac0 b _ _ (D1 n).u32 (D1 d).u32 f hd,D9,D9,Int.toNat_natCast,Int.toNat_natCast,Ata _ _ _ c]
theorem Ai4 {k:Nat} {a:Ap} (h:RB k a):RB (k+1) (Bh (sv a) (nv a) (dv a)):=Lh _ _ _ _ h.nv h.dv (by omega)
theorem Ai5 {k:Nat} {a:Ap} (h:RB k a):A9 (nv (Bh (sv a) (nv a) (dv a)))<=k+1/\A9 (dv (Bh (sv a) (nv a) (dv a)))<=k+1:=by
 obtain ⟨g,b,h1,h2,_⟩:=Yx a
 have a1:=h.nv
 have a2:=h.dv
 refine ⟨Nat.le_trans (G4 ?_) a1,Nat.le_trans (G4 ?_) a2⟩
 .exact Nat.le_trans (Nat.le_mul_of_pos_left _ (by omega)) (Nat.le_of_eq h1.symm)
 .exact Nat.le_trans (Nat.le_mul_of_pos_left _ (by omega)) (Nat.le_of_eq h2.symm)
theorem Atb (l:Bool) (c j:Nat) (k:Bool) (b i g h:Nat) (y:g≠0) (x:h≠0):Hr l (g*c) (g*j) k (h*b) (h*i)=g*h*Hr l c j k b i/\Kq l (g*c) (g*j) k (h*b) (h*i)=Kq l c j k b i:=by
 have u:g*c*(h*i)=g*h*(c*i):=by grind
 have s:h*b*(g*j)=g*h*(b*j):=by grind
 have hc:(g*h*(b*j)<=g*h*(c*i))↔(b*j<=c*i):=Nat.mul_le_mul_left_iff (Nat.mul_pos (by omega) (by omega))
 unfold Hr Kq
 rw [u,s]
 by_cases q:l=k
 .simp only [if_pos q]
  exact ⟨by rw [Nat.mul_add],trivial⟩
 .simp only [if_neg q]
  by_cases f:b*j<=c*i
  .simp only [if_pos f,if_pos (hc.2 f)]
   exact ⟨by rw [Nat.mul_sub],trivial⟩
  .simp only [if_neg f,if_neg (fun h=>f (hc.1 h))]
   exact ⟨by rw [Nat.mul_sub],trivial⟩
theorem Ai6 (a b:Ap) (j k:Nat) (ha:RB j a) (hb:RB k b) (hj:j<34359738368) (hk:k<34359738368) :
  Oj a b=some (Bh (Kq (sv a) (nv a) (dv a) (sv b) (nv b) (dv b)) (Hr (sv a) (nv a) (dv a) (sv b) (nv b) (dv b)) (dv a*dv b)):=by
 unfold Oj
 rw [Ac1 a j ha (by omega),Ad,Ac1 b k hb (by omega),Ad]
 obtain ⟨g,q,a1,a2,a3⟩:=Yx a
 obtain ⟨h,l,b1,b2,B⟩:=Yx b
 obtain ⟨f1,f2,f3⟩:=Ac2 (sv a) (nv a) (dv a) (Ev a)
 obtain ⟨A,y,x⟩:=Ac2 (sv b) (nv b) (dv b) (Ev b)
 obtain ⟨I,G⟩:=Ai5 ha
 obtain ⟨E,D⟩:=Ai5 hb
 rw [f1,f2,f3,A,y,x,a3,B]
 generalize hc:Bh (sv a) (nv a) (dv a)=c at *
 generalize hd:Bh (sv b) (nv b) (dv b)=d at *
 have m1:=Hi (nv c) (dv d)
 have m2:=Hi (nv d) (dv c)
 have m3:=Hi (dv c) (dv d)
 have m4:=Yl (nv c*dv d) (nv d*dv c)
 have m5:=G4 (Nat.sub_le (nv c*dv d) (nv d*dv c))
 have m6:=G4 (Nat.sub_le (nv d*dv c) (nv c*dv d))
 have z:dv c*dv d≠0:=Nat.mul_ne_zero (Ev c) (Ev d)
 obtain ⟨u,s⟩:=Atb (sv a) (nv c) (dv c) (sv b) (nv d) (dv d) g h q l
 rw [a1,a2,b1,b2,u,s,show g*dv c*(h*dv d)=g*h*(dv c*dv d) by grind,Pe _ _ _ _ (Nat.mul_ne_zero q l)]
 rw [Yv _ _ (by omega) (by omega),Ad,Yv _ _ (by omega) (by omega),Ad,Yv _ _ (by omega) (by omega),Ad]
 unfold Kq Hr
 by_cases i:sv a=sv b
 .have e:(sv a==sv b)=true:=by rw [i]; exact beq_self_eq_true _
  rw [e,cond_true,Asz _ _ (by omega) (by omega),Ad,Ac3 _ _ _ (by omega) (by omega) z,Ad,if_pos i,if_pos i]
 .have e:(sv a==sv b)=false:=by simpa using i
  rw [e,cond_false,Yt,Rr _ _ (by omega) (by omega),Ad,if_neg i,if_neg i]
  by_cases f:nv d*dv c<=nv c*dv d
  .rw [Am (show Eg (nv c*dv d) (nv d*dv c)>=0 by rw [Eg,if_neg (by omega)]; split <;> decide),cond_true,Yu _ _ (by omega) f,Ad,Ac3 _ _ _ (by omega) (by omega) z,Ad,if_pos f,if_pos f]
  .rw [As (show ¬Eg (nv c*dv d) (nv d*dv c)>=0 by rw [Eg,if_pos (by omega)]; decide),cond_false,Yu _ _ (by omega) (by omega),Ad,Ac3 _ _ _ (by omega) (by omega) z,Ad,if_neg f,if_neg f]
theorem Ai7 (a:Ap) (k:Nat) (h:RB k a) (hk:k<137438953400):Ql a=some (Hj (sv a) (nv a)):=by
 unfold Ql
 rw [Ac1 a k h hk,Ad]
 obtain ⟨g,b,a1,a2,a3⟩:=Yx a
 obtain ⟨f1,f2,f3⟩:=Ac2 (sv a) (nv a) (dv a) (Ev a)
 rw [f1,f3,a3,Hj]
 by_cases h0:nv a=0
 .have:nv (Bh (sv a) (nv a) (dv a))=0:=by
   rw [h0] at a1
   rcases Nat.mul_eq_zero.1 a1.symm with h | h
   .exact (b h).elim
   .rw [h0]; exact h
  rw [this,Er,if_pos h0]; rfl
 .have:nv (Bh (sv a) (nv a) (dv a))≠0:=by
   intro e; rw [e,Nat.mul_zero] at a1; exact h0 a1
  have:=Acz this
  rw [C6 (by omega),cond_false,if_neg h0]
  cases sv a <;> rfl
theorem Atc (a:Ap) (k:Nat) (h:RB k a) (hk:k<137438953400):To a=some (Bh (!sv a) (nv a) (dv a)):=by
 unfold To
 have:=h.nl
 have:=h.dl
 rw [Ac0 _ _ _ h.num h.den (by omega) (by omega),Ad]
 congr 1
 unfold L8 sv nv dv
 by_cases b:(Ah a.Num).toNat=0
 .simp [b,Bh]
 .by_cases hd:(Ah a.Den).toNat=0
  .simp [hd,Bh]
  .simp [b,hd]
theorem Atd (a:Ap) (k:Nat) (h:RB k a) (hk:k<8589934592):Tc a a=some 0:=by
 unfold Tc Xf
 have h1:=h.nv
 have h2:=h.dv
 have u:=Atc a k h (by omega)
 have i:RB (k+1) (Bh (!sv a) (nv a) (dv a)):=Lh _ _ _ _ h1 h2 (by omega)
 obtain ⟨j,q,l,A⟩:=Ru (!sv a) (nv a) (dv a) (Ev a)
 rw [u,Ad,Ai6 a _ k (k+1) h i (by omega) (by omega),Ad,Ad]
 generalize hc:Bh (!sv a) (nv a) (dv a)=c at *
 have B:0<Nat.gcd (nv a) (dv a):=Nat.gcd_pos_of_pos_right _ (by have:=Ev a; omega)
 have y:nv a=Nat.gcd (nv a) (dv a)*nv c:=by rw [j]; exact (Nat.mul_div_cancel' (Nat.gcd_dvd_left _ _)).symm
 have z:dv a=Nat.gcd (nv a) (dv a)*dv c:=by rw [q]; exact (Nat.mul_div_cancel' (Nat.gcd_dvd_right _ _)).symm
 have b:Hr (sv a) (nv a) (dv a) (sv c) (nv c) (dv c)=0:=by
  by_cases h0:nv a=0
  .have:nv c=0:=by rw [j,h0]; simp
   unfold Hr
   rw [h0,this]
   split
   .simp
   .split <;> simp
  .have s:sv a≠sv c:=by rw [l h0]; cases sv a <;> decide
   have:nv c*dv a=nv a*dv c:=by
    generalize Nat.gcd (nv a) (dv a)=g at *
    rw [y,z]; grind
   unfold Hr
   rw [if_neg s,this,if_pos (Nat.le_refl _),Nat.sub_self]
 rw [b,Rt]
 have f:RB 1 ⟨false,[],[1]⟩:=by
  refine ⟨(fun _ h=>by cases h),(fun x h=>?_),by simp,by simp⟩
  simp at h; subst h; decide
 rw [Ai7 _ 1 f (by decide)]
 rfl
end Go.Ab
namespace Go.Ab
open Go
theorem Yy (s:Bool) (n d:Nat) (hd:d≠0):∃g:Nat,g≠0/\n=g*nv (Bh s n d)/\d=g*dv (Bh s n d)/\(n≠0->sv (Bh s n d)=s)/\(n=0->sv (Bh s n d)=false):=by
 obtain ⟨h1,h2,h3,b⟩:=Ru s n d hd
 have c:0<Nat.gcd n d:=Nat.gcd_pos_of_pos_right _ (by omega)
 exact ⟨Nat.gcd n d,by omega,by rw [h1]; exact (Nat.mul_div_cancel' (Nat.gcd_dvd_left _ _)).symm,by rw [h2]; exact (Nat.mul_div_cancel' (Nat.gcd_dvd_right _ _)).symm,h3,b⟩
theorem Ate (s t:Bool) (n d m e:Nat) (hd:d≠0) (q:e≠0):Bh (sv (Bh s n d) != sv (Bh t m e)) (nv (Bh s n d)*nv (Bh t m e)) (dv (Bh s n d)*dv (Bh t m e))=Bh (s != t) (n*m) (d*e):=by
 obtain ⟨g,l,a1,a2,a3,_⟩:=Yy s n d hd
 obtain ⟨h,k,b1,b2,x,_⟩:=Yy t m e q
 have u:Bh (s != t) (n*m) (d*e)=Bh (sv (Bh s n d) != sv (Bh t m e)) (n*m) (d*e):=by
  apply Ai0
  intro b
  have i:n≠0:=fun e=>b (by rw [e]; simp)
  have j:m≠0:=fun e=>b (by rw [e]; simp)
  rw [a3 i,x j]
 rw [u]
 generalize Bh s n d=c at *
 generalize Bh t m e=f at *
 rw [a1,a2,b1,b2,show g*nv c*(h*nv f)=g*h*(nv c*nv f) by grind,show g*dv c*(h*dv f)=g*h*(dv c*dv f) by grind,Pe _ _ _ _ (Nat.mul_ne_zero l k)]
def Fi (n:Nat):Nat->Nat
 | 0=>1
 | k+1=>Fi n k*(n-k)
def fct:Nat->Nat
 | 0=>1
 | k+1=>fct k*(k+1)
theorem Yz:∀k,fct k≠0
 | 0=>by decide
 | k+1=>Nat.mul_ne_zero (Yz k) (by omega)
theorem Atf {n k:Nat} (h:n<k):Fi n k=0:=by
 induction k with
 | zero=>omega
 | succ k ih=>
  simp only [Fi]
  rcases Nat.lt_or_ge n k with h' | h'
  .rw [ih h']; simp
  .have:n-k=0:=by omega
   rw [this]; simp
theorem Atg (n k:Nat) (b:n<1000000000):A9 (Fi n k)<=k+1:=by
 induction k with
 | zero=>simp [Fi,Nm]
 | succ k ih=>
  have h1:=Hi (Fi n k) (n-k)
  have h2:A9 (n-k)<=1:=Ix (by simp; omega)
  simp only [Fi]; omega
theorem Ath (k:Nat) (hk:k<1000000000):A9 (fct k)<=k+1:=by
 induction k with
 | zero=>simp [fct,Nm]
 | succ k ih=>
  have h1:=Hi (fct k) (k+1)
  have h2:A9 (k+1)<=1:=Ix (by simp; omega)
  simp only [fct]
  have:=ih (by omega)
  omega
theorem Ai8 {n:Nat} (h:n<1000000000):A9 n<=1:=Ix (by simpa using h)
theorem Ati (n k:Nat) (b:n<1000000000) (hk:k<=64):RB (k+1) (Bh false (Fi n k) (fct k)) :=
 Lh _ _ _ _ (Atg n k b) (Ath k (by omega)) (by omega)
theorem Ai9 (a:Ap):Ap.mk a.Neg a.Num a.Den=a:=by cases a; rfl
theorem Aja (n k:Nat) (A:n<1000000000) (hk:k<=64):Oy (n:Int) (k:Int)=some (Bh false (Fi n k) (fct k)):=by
 unfold Oy
 have B:Fy 1=some (Bh false (Fi n 0) (fct 0)):=Uy 1 (by decide) (by decide)
 rw [B,Ad]
 refine G2 (fun (i,s,b,c)=>∃q:Nat,i=q/\q<=k/\q<=n/\Ap.mk s b c=Bh false (Fi n q) (fct q)) (fun (i,_,_,_)=>k-i.toNat)
  (fun e=>match e with | .inl r=>r=Bh false (Fi n k) (fct k) | .inr (s,b,c)=>Ap.mk s b c=Bh false (Fi n k) (fct k)) ⟨0,rfl,by omega,by omega,Ai9 _⟩ ?_ ?_
 .rintro ⟨i,s,b,c⟩ ⟨q,rfl,hq,z,ha⟩
  rcases Nat.lt_or_ge q k with h | h
  .simp only [Am (by omega:(q:Int)<(k:Int)),cond_true]
   by_cases x:n=q
   .subst x
    refine .inr ⟨.inl (Bh false 0 1),?_,?_⟩
    .rw [Fa rfl,cond_true,Uy 0 (by decide) (by decide)]; rfl
    .show Bh false 0 1=_
     rw [Atf h,Rt,Rt]
   .have u:Ac ((n:Int)-(q:Int))=((n-q:Nat):Int):=by rw [Ac,Bs] <;> omega
    have l:Ac ((q:Int)+1)=((q+1:Nat):Int):=Jj h (by omega)
    have y:Oe ((n-q:Nat):Int) ((q+1:Nat):Int)=some (Bh false (n-q) (q+1)):=by
     rw [Asv _ _ (by omega) (by omega) (by omega) (by omega) (by omega),As (by omega:¬((n-q:Nat):Int)<0),As (by omega:¬((q+1:Nat):Int)<0)]; rfl
    have g:RB 1 (Bh false (n-q) (q+1)):=Lh _ _ _ _ (Ai8 (by omega)) (Ai8 (by omega)) (by omega)
    have j:=Acu _ _ _ _ (Ati n q A (by omega)) g (by omega) (by omega)
    rw [Ate false false (Fi n q) (fct q) (n-q) (q+1) (Yz q) (by omega)] at j
    refine .inl ⟨(((q+1:Nat):Int),(Bh false (Fi n (q+1)) (fct (q+1))).Neg,(Bh false (Fi n (q+1)) (fct (q+1))).Num,(Bh false (Fi n (q+1)) (fct (q+1))).Den),?_,⟨q+1,rfl,by omega,by omega,Ai9 _⟩,by simp; omega⟩
    rw [C6 (by omega),cond_false,u,l,y,Ad,ha,j,Ad]; rfl
  .have:q=k:=by omega
   subst this
   refine .inr ⟨.inr (s,b,c),by simp,ha⟩
 .rintro (e | ⟨s,b,c⟩) f
  .simp only at f ⊢; rw [f]
  .simp only at f ⊢; rw [f]
end Go.Ab
namespace Go.Ab
open Go
mutual
def Bu:Ai->Nat
 | ⟨_,_,l⟩=>1+Cq l
def Cq:List Ai->Nat
 | []=>0
 | x::xs=>Bu x+Cq xs
end
theorem J1 (t:Ai):Bu t=1+Cq t.Args:=by cases t; simp only [Bu]
theorem Rw (t:Ai):1<=Bu t:=by rw [J1]; omega
theorem Kr {l:List Ai} {a:Ai} (h:a∈l):Bu a<=Cq l:=by
 induction l with
 | nil=>cases h
 | cons x xs ih=>
  simp only [Cq]
  rcases List.mem_cons.1 h with rfl | h
  .omega
  .have:=ih h; omega
theorem Li (l:List Ai):l.length<=Cq l:=by
 induction l with
 | nil=>simp
 | cons x xs ih=>simp only [Cq,List.length_cons]; have:=Rw x; omega
theorem Y0 (l m:List Ai):Cq (l++m)=Cq l+Cq m:=by
 induction l with
 | nil=>simp [Cq]
 | cons x xs ih=>simp only [List.cons_append,Cq,ih]; omega
def J2 (data:List A3) (vars k n:Int) (len:Nat):Bool :=
 if k=1\/k=2\/k=3 then n==0&&len==0
 else if k=4 then decide (0<=n)&&decide (n<vars)&&len==0
 else if k=5 then decide (0<=n)&&(match data[n.toNat]? with | some d=>(len:Int)==d.Vars | none=>false)
 else if k=6 then n==0&&decide (2<=len)&&decide (len<=6)
 else if k=7\/k=8 then n==0&&len==1
 else if k=9 then n==0&&decide (1<=len)&&decide (len<=7)
 else false
mutual
def Fq (data:List A3) (vars:Int):Ai->Bool
 | ⟨k,n,l⟩=>J2 data vars k n l.length&&E2 data vars l
def E2 (data:List A3) (vars:Int):List Ai->Bool
 | []=>true
 | x::xs=>Fq data vars x&&E2 data vars xs
end
theorem Ac4 (data:List A3) (vars:Int) (t:Ai):Fq data vars t=(J2 data vars t.Kind t.Num t.Args.length&&E2 data vars t.Args):=by cases t; simp only [Fq]
theorem Atj {α:Type} (l:List α) (n:Nat):((l.length:Int)==(n:Int))=(l.length==n):=by
 by_cases h:l.length=n
 .subst h; simp
 .rw [C6 (by omega)]; simp [h]
theorem Atl (k:Nat) (t:Ai) (data:List A3) (vars left:Int) (h1:1<=left) (h2:left<=1000) :
  Kj (k+1) t ⟨data,vars,left⟩=bif J2 data vars t.Kind t.Num t.Args.length then ((Rl k t.Args ⟨data,vars,left-1⟩).bind fun v12=>some ((!v12.1),v12.2)) else some (false,⟨data,vars,left-1⟩):=by
 have hw:Ac (left-1)=left-1:=Bs (by omega) (by omega)
 have b:¬left-1<0:=by omega
 rw [Kj]
 simp only [hw,As b,cond_false]
 generalize g:(Rl k t.Args ⟨data,vars,left-1⟩).bind (fun v12=>some ((!v12.1),v12.2))=X
 generalize f:(some (false,⟨data,vars,left-1⟩):Option (Bool×Fe))=Y
 unfold J2 Ag
 generalize t.Args.length=len
 generalize t.Kind=c
 generalize t.Num=n
 cases hd:data[n.toNat]? <;> simp only [Bool.cond_eq_ite,Ase,Ad,Option.bind_none,hd] <;> grind
theorem Ac5 {l:List Ai} {j:Nat} (h:j<l.length):Cq (l.take (j+1))=Cq (l.take j)+Bu l[j]:=by
 rw [List.take_succ_eq_append_getElem h,Y0]; simp [Cq]
theorem Ajb (data:List A3) (vars:Int) (l m:List Ai):E2 data vars (l++m)=(E2 data vars l&&E2 data vars m):=by
 induction l with
 | nil=>simp [E2]
 | cons x xs ih=>simp only [List.cons_append,E2,ih,Bool.and_assoc]
theorem Ajc (data:List A3) (vars:Int) {l:List Ai} {j:Nat} (h:j<l.length):E2 data vars (l.take (j+1))=(E2 data vars (l.take j)&&Fq data vars l[j]):=by
 rw [List.take_succ_eq_append_getElem h,Ajb]; simp [E2]
theorem Ac6 (l:List Ai) (j:Nat):Cq (l.take j)<=Cq l:=by
 have:=Y0 (l.take j) (l.drop j)
 rw [List.take_append_drop] at this; omega
theorem Atm (data:List A3) (vars:Int) (l:List Ai) (j:Nat) (h:E2 data vars l=true):E2 data vars (l.take j)=true:=by
 have:=Ajb data vars (l.take j) (l.drop j)
 rw [List.take_append_drop,h] at this
 have:=this.symm
 simp only [Dq] at this
 exact this.1
theorem Atn (data:List A3) (vars:Int) (k:Nat) (l:List Ai) (c:Nat) (G:l.length<1099511627776)
  (ih:∀(a:Ai),a∈l->∀f:Nat,f<=c->∃g:Int,Kj k a ⟨data,vars,f⟩=some (Fq data vars a&&decide (Bu a<=f),⟨data,vars,g⟩)/\((Fq data vars a&&decide (Bu a<=f))=true->g=(f:Int)-Bu a)) :
  ∃p:Int×Int,Up (k+2) l ⟨data,vars,c⟩=some (p.1,⟨data,vars,p.2⟩)/\((E2 data vars l&&decide (Cq l<=c))=true->p.1 = -1/\p.2=(c:Int)-Cq l)/\((E2 data vars l&&decide (Cq l<=c))=false->0<=p.1):=by
 rw [Up]
 refine Yf (fun p:Int×Int=>(p.1,Fe.mk data vars p.2)) (E8
  (fun (v3,v4,v5,s)=>∃j:Nat,v3=j/\j<=l.length/\v4=data/\v5=vars/\E2 data vars (l.take j)=true/\Cq (l.take j)<=c/\s=(c:Int)-Cq (l.take j))
  (fun (v3,_,_,_)=>l.length-v3.toNat)
  (fun z=>match z with | .inl (i,b)=>0<=i/\(∃g,b=⟨data,vars,g⟩)/\(E2 data vars l&&decide (Cq l<=c))=false | .inr (v4,v5,s)=>v4=data/\v5=vars/\(E2 data vars l&&decide (Cq l<=c))=true/\s=(c:Int)-Cq l)
  ⟨0,rfl,by omega,rfl,rfl,rfl,by simp [Cq],by simp [Cq]⟩ ?_ ?_)
 .rintro ⟨v3,v4,v5,s⟩ ⟨j,rfl,hj,rfl,rfl,x,A,rfl⟩
  rcases Nat.lt_or_ge j l.length with h | h
  .obtain ⟨u,y⟩:∃u:Nat,(c:Int)-Cq (l.take j)=u/\u<=c:=⟨c-Cq (l.take j),by omega,by omega⟩
   obtain ⟨g,E,D⟩:=ih l[j] (List.getElem_mem h) u y.2
   simp only [Am (by omega:(j:Int)<(l.length:Int)),cond_true,De rfl h,Ad,Tz,y.1,E]
   cases hb:(Fq v4 v5 l[j]&&decide (Bu l[j]<=u)) with
   | true=>
    have I:=D hb
    simp only [Dq,decide_eq_true_eq] at hb
    refine .inl ⟨(((j+1:Nat):Int),v4,v5,g),?_,⟨j+1,rfl,by omega,rfl,rfl,?_,?_,?_⟩,by simp; omega⟩
    .simp only [bnt,cond_false]
     rw [show Ac ((j:Int)+1)=((j+1:Nat):Int) by rw [Ac,Bs] <;> omega]
    .rw [Ajc _ _ h,x,hb.1]; rfl
    .rw [Ac5 h]; omega
    .show g=_
     rw [Ac5 h]; omega
   | false=>
    refine .inr ⟨.inl ((j:Int),⟨v4,v5,g⟩),by simp,by omega,⟨g,rfl⟩,?_⟩
    cases q:(E2 v4 v5 l&&decide (Cq l<=c)) with
    | false=>rfl
    | true=>
     exfalso
     simp only [Dq,decide_eq_true_eq] at q
     have a1:=Atm v4 v5 l (j+1) q.1
     rw [Ajc _ _ h] at a1
     simp only [Dq] at a1
     have a2:=Ac6 l (j+1)
     rw [Ac5 h] at a2
     rw [a1.2,Bool.true_and,decide_eq_false_iff_not] at hb
     omega
  .have:j=l.length:=by omega
   subst this
   rw [List.take_length] at *
   refine .inr ⟨.inr (v4,v5,(c:Int)-Cq l),by simp,rfl,rfl,by simp [x,A],rfl⟩
 .rintro (⟨i,b⟩ | ⟨v4,v5,s⟩) B
  .obtain ⟨a1,⟨g,rfl⟩,a3⟩:=B
   exact ⟨_,rfl,(i,g),rfl,(fun h=>by rw [a3] at h; cases h),fun _=>a1⟩
  .obtain ⟨rfl,rfl,a3,rfl⟩:=B
   exact ⟨_,rfl,(-1,_),rfl,fun _=>⟨rfl,rfl⟩,fun h=>by rw [a3] at h; cases h⟩
theorem Ato (data:List A3) (vars:Int):∀(left:Nat) (t:Ai) (k:Nat),left<=200->4*left+4<=k->Bu t<1099511627776 ->
  ∃f:Int,Kj k t ⟨data,vars,left⟩=some (Fq data vars t&&decide (Bu t<=left),⟨data,vars,f⟩)/\((Fq data vars t&&decide (Bu t<=left))=true->f=(left:Int)-Bu t):=by
 intro left
 induction left using Nat.strongRecOn with
 | _ left s=>
  intro t k B hk ht
  have hp:=Rw t
  obtain ⟨g,rfl⟩:∃g,k=g+1:=⟨k-1,by omega⟩
  cases left with
  | zero=>
   refine ⟨-1,?_,fun h=>by simp at h; omega⟩
   rw [Kj]
   have hd:decide (Bu t<=0)=false:=As (by omega)
   rw [hd,Bool.and_false]
   rfl
  | succ b=>
   rw [Atl g t data vars ((b+1:Nat):Int) (by omega) (by omega)]
   have z:((b+1:Nat):Int)-1=(b:Int):=by omega
   rw [z,Ac4]
   cases A:J2 data vars t.Kind t.Num t.Args.length with
   | false=>exact ⟨b,by simp,fun h=>by simp at h⟩
   | true=>
    obtain ⟨q,rfl⟩:∃q,g=q+3:=⟨g-3,by omega⟩
    have j:=J1 t
    have x:=Li t.Args
    obtain ⟨⟨i,f⟩,h1,h2,h3⟩:=Atn data vars q t.Args b (by omega) (fun a ha c y=>by
     have:=Kr ha
     exact s c (by omega) a q (by omega) (by omega) (by omega))
    have l:decide (Bu t<=b+1)=decide (Cq t.Args<=b):=by
     rw [j]; congr 1; simp only [eq_iff_iff]; omega
    simp only [cond_true,Rl,h1,Ad,Bool.true_and,l]
    refine ⟨f,?_,fun h=>?_⟩
    .cases hb:(E2 data vars t.Args&&decide (Cq t.Args<=b)) with
     | true=>
      have u:i = -1:=(h2 hb).1
      rw [As (by omega:¬i>=0)]; rfl
     | false=>
      have u:0<=i:=h3 hb
      rw [Am (by omega:i>=0)]; rfl
    .have u:f=(b:Int)-Cq t.Args:=(h2 h).2
     rw [u,j]; omega
theorem U1 (data:List A3) (t:Ai) (vars:Int) (ht:Bu t<1099511627776):M2 data t vars=some (Fq data vars t&&decide (Bu t<=200)):=by
 unfold M2
 obtain ⟨b,h1,_⟩:=Ato data vars 200 t 4000000 (by decide) (by decide) ht
 have h1:Kj 4000000 t ⟨data,vars,200⟩=_:=h1
 rw [h1]; rfl
end Go.Ab
namespace Go.Ab
open Go
def Pg (a:Ai) (i:Int):Bool:=a.Kind==4&&a.Num==i&&a.Args.length==0
def Ajd (l:List Ai):Bool:=l.zipIdx.all fun q=>Pg q.1 q.2
def Iz (t:Ai) (d vars:Int):Bool:=t.Kind==5&&t.Num==d&&(t.Args.length:Int)==vars&&Ajd t.Args
def Ie (data:List A3) (d c:Int):List Bool :=
 match Ag data d with
 | none=>[]
 | some x=>match Ag x.Cons c with
  | none=>[]
  | some y=>y.Args.map fun t=>Iz t d x.Vars
theorem Jk {α:Type} {l:List α} {i:Int} {x:α} (h:Ag l i=some x):0<=i/\i<l.length/\l[i.toNat]? = some x/\x∈l:=by
 unfold Ag at h
 split at h
 .have h1:i.toNat<l.length:=Ez h
  exact ⟨by assumption,by omega,h,Cw h⟩
 .cases h
theorem U2 {α:Type} {l:List α} {i:Int} (h:Ag l i=none):i<0\/(l.length:Int)<=i:=by
 unfold Ag at h
 split at h
 .rw [List.getElem?_eq_none_iff] at h
  right; omega
 .left; omega
theorem Atp {R:Type} (data:List A3) (d c:Int) (F:A3->L7->Option R) (z:R) (X:Option R)
  (f:X=((bif (decide (d<(0:Int))) then some true else bif (decide (d>=(data.length:Int))) then some true else bif (decide (c<(0:Int))) then some true else
   (Ag data d).bind fun b=>some (decide (c>=(b.Cons.length:Int))):Option Bool).bind fun v2=>bif v2 then some z else (Ag data d).bind fun v3=>(Ag v3.Cons c).bind fun v4=>F v3 v4)) :
  X=match Ag data d with
   | none=>some z
   | some x=>match Ag x.Cons c with
    | none=>some z
    | some y=>F x y:=by
 subst f
 cases hx:Ag data d with
 | none=>
  rcases U2 hx with h | h
  .simp only [Am h,cond_true,Ad]
  .by_cases h':d<0
   .simp only [Am h',cond_true,Ad]
   .simp only [As h',Am (show d>=(data.length:Int) from h),cond_true,cond_false,Ad]
 | some x=>
  obtain ⟨a1,a2,_,_⟩:=Jk hx
  simp only [As (by omega:¬d<0),As (by omega:¬d>=(data.length:Int)),cond_false,Ad]
  cases hy:Ag x.Cons c with
  | none=>
   rcases U2 hy with h | h
   .simp only [Am h,cond_true,Ad]
   .by_cases h':c<0
    .simp only [Am h',cond_true,Ad]
    .simp only [As h',Am (show c>=(x.Cons.length:Int) from h),cond_true,cond_false,Ad]
  | some y=>
   obtain ⟨b1,b2,_,_⟩:=Jk hy
   simp only [As (by omega:¬c<0),As (by omega:¬c>=(x.Cons.length:Int)),cond_false,Ad]
def Atq (l:List Ai):Prop:=l.length<=4194304/\∀a∈l,a.Args.length<=4194304
def U3 (data:List A3):Prop:=∀x∈data,∀y∈x.Cons,Atq y.Args
theorem Ac7 {α:Type} (l m:List α) (y x:α) (i:Int) (n:Nat) (h:i=n) (b:n=l.length):Cg (l++y::m) i x=l++x::m:=by
 rw [E9 h]; subst b; simp
theorem Ac8 {α:Type} (l m:List α) (y:α) (i:Int) (n:Nat) (h:i=n) (b:n=l.length):Ag (l++y::m) i=some y:=by
 rw [Cj h]; subst b; simp
theorem Atr (l:List Ai) (k f:List Bool) (i:Int) (n:Nat) (b:Bool) (h:i=n) (s:n=k.length) (A:l.length<1099511627776) {R:Type} {J:Int×List Bool->Option R} {r:R}
  (z:J ((l.length:Int),k++(b&&Ajd l)::f)=some r) :
  (Al (S:=(Int×(List Bool))) (E:=(Int×(List Bool))) (fun (c,g)=>
   bif (decide (c<(l.length:Int))) then (
   (Ag l c).bind fun v44=>
   bif (v44.Kind != (4:Int)) then (
   (Ag g i).bind fun v46=>
   some (.inl ((Ac (c+1)),(Cg g i false)))
   )
   else (
   bif (v44.Num != c) then (
   (Ag g i).bind fun y=>
   some (.inl ((Ac (c+1)),(Cg g i false)))
   )
   else (
   bif (decide ((v44.Args.length:Int)>(0:Int))) then (
   (Ag g i).bind fun u=>
   some (.inl ((Ac (c+1)),(Cg g i false)))
   )
   else (
   some (.inl ((Ac (c+1)),g))
   )
   )
   )
   )
   else (
   some (.inr (c,g))
   )
    ) (0,k++b::f)).bind J=some r:=by
 refine Iy l (fun j=>((j:Int),k++(b&&(l.take j).zipIdx.all (fun q=>Pg q.1 q.2))::f)) (by simp) (by omega) ?_ ?_
 .intro j x hj hx h1 h2 h3
  have e:(l.take (j+1)).zipIdx.all (fun q=>Pg q.1 q.2)=((l.take j).zipIdx.all (fun q=>Pg q.1 q.2)&&Pg x j):=by
   rw [Dy hx,List.zipIdx_append,List.all_append]; simp [Nat.min_eq_left (Nat.le_of_lt hj)]
  simp only [h1,h2,h3,cond_true,Ad,Ac8 k f _ i n h s,Ac7 k f _ _ i n h s,e]
  unfold Pg
  by_cases g1:x.Kind=4
  .by_cases g2:x.Num=j
   .by_cases g3:x.Args.length=0
    .rw [As (by omega)]; simp [g1,g2,g3]
    .rw [Am (by omega)]
     have:(x.Args.length==0)=false:=by simpa using g3
     simp [g1,g2,this]
   .simp [g1,g2,Dx g2]
  .simp [g1,Dx g1]
 .intro h1
  refine ⟨_,by simp only [h1]; rfl,?_⟩
  rw [List.take_length]
  exact z
theorem Aje (data:List A3) (d c:Int) (hd:U3 data):Q4 data d c=some (Ie data d c):=by
 unfold Q4
 rw [Atp data d c (fun v3 v4=>_) [] _ rfl]
 unfold Ie
 cases hx:Ag data d with
 | none=>rfl
 | some x=>
  cases hy:Ag x.Cons c with
  | none=>simp only [hy]
  | some y=>
   simp only [hy]
   have f:=hd x (Jk hx).2.2.2 y (Jk hy).2.2.2
   have g:=f.1
   rw [Ia (n:=y.Args.length) (c:=y.Args.length) rfl rfl (by omega) (by omega) (by omega),Ad]
   refine Iy y.Args (fun j=>((j:Int),((y.Args.take j).map fun t=>Iz t d x.Vars)++List.replicate (y.Args.length-j) false)) rfl (by omega) ?_ ?_
   .intro j t hj ht h1 h2 h3
    obtain ⟨m,h⟩:∃m,y.Args.length-j=m+1:=⟨y.Args.length-j-1,by omega⟩
    have i:y.Args.length-(j+1)=m:=by omega
    have b:j=((y.Args.take j).map fun t=>Iz t d x.Vars).length:=by simp; omega
    simp only [h1,h2,cond_true,Ad,h,i,List.replicate_succ,Dy ht,List.map_append,List.map_cons,List.map_nil,List.append_assoc,List.cons_append,List.nil_append,
     Ac8 _ _ _ (j:Int) j rfl b,Ac7 _ _ _ _ (j:Int) j rfl b]
    have hb:(bif t.Kind==5 then bif t.Num==d then some (List.map (fun t=>Iz t d x.Vars) (List.take j y.Args)++((t.Args.length:Int)==x.Vars)::List.replicate m false)
       else some (List.map (fun t=>Iz t d x.Vars) (List.take j y.Args)++false::List.replicate m false)
      else some (List.map (fun t=>Iz t d x.Vars) (List.take j y.Args)++false::List.replicate m false))=some (List.map (fun t=>Iz t d x.Vars) (List.take j y.Args)++(t.Kind==5&&t.Num==d&&((t.Args.length:Int)==x.Vars))::List.replicate m false):=by
     cases t.Kind==5 <;> cases t.Num==d <;> simp
    rw [hb,Ad]
    refine Atr t.Args _ _ (j:Int) j _ rfl b (by have:=f.2 t (Cw ht); omega) ?_
    rw [h3]; rfl
   .intro h1
    exact ⟨_,by simp only [h1]; rfl,by simp⟩
mutual
def mnt (d:Int):Ai->Bool
 | ⟨k,n,l⟩=>(k==5&&n==d)||L9 d l
def L9 (d:Int):List Ai->Bool
 | []=>false
 | x::xs=>mnt d x||L9 d xs
end
theorem Ats (d:Int) (t:Ai):mnt d t=((t.Kind==5&&t.Num==d)||L9 d t.Args):=by cases t; simp only [mnt]
theorem Att (d:Int) (l:List Ai):L9 d l=l.any (mnt d):=by
 induction l with
 | nil=>rfl
 | cons x xs ih=>simp only [L9,ih,List.any_cons]
theorem Atu (d:Int):∀(n:Nat) (t:Ai) (k:Nat),Bu t<=n->4*n+4<=k->n<1099511627776->O2 k t d=some (mnt d t):=by
 intro n
 induction n with
 | zero=>intro t k h; have:=Rw t; omega
 | succ n ih=>
  intro t k h hk l
  obtain ⟨k,rfl⟩:∃c,k=c+4:=⟨k-4,by omega⟩
  have f:=J1 t
  have b:=Li t.Args
  have key:Rk (k+3) t.Args d=some (L9 d t.Args):=by
   rw [Rk,X4]
   rw [Att]
   refine Uv (Air t.Args (mnt d) (by omega) ?_ (fun h=>by simp only [h]; rfl) (fun _=>rfl) rfl) (fun i g=>by rw [g])
   intro j x hx h1 h2 h3
   have q:=Kr hx
   simp only [h1,h2,h3,cond_true,Ad,Ui,ih x k (by omega) (by omega) (by omega)]
  rw [O2,key,Ats]
  cases t.Kind==5 <;> cases t.Num==d <;> simp
end Go.Ab
namespace Go.Ab
open Go
theorem Atv (data:List A3) (v:Int) (l:List Ai):E2 data v l=l.all (Fq data v):=by
 induction l with
 | nil=>rfl
 | cons x xs ih=>simp only [E2,ih,List.all_cons]
theorem Atw (data:List A3) (d:Nat) (v k n:Int) (len:Nat):(J2 (data.take (d+1)) v k n len && !(k==5&&n==(d:Int)))=J2 (data.take d) v k n len:=by
 by_cases hk:k=5
 .subst hk
  unfold J2
  simp only [beq_self_eq_true,Bool.true_and,List.getElem?_take]
  by_cases b:n=d
  .subst b; simp
  .by_cases h0:0<=n
   .have e:(n==(d:Int))=false:=C6 b
    rcases Nat.lt_or_ge n.toNat d with h | h
    .simp [h,e,show n.toNat<d+1 by omega]
    .simp [e,show ¬n.toNat<d by omega,show ¬n.toNat<d+1 by omega]
   .simp [h0]
 .have e:(k==(5:Int))=false:=C6 hk
  simp only [e,Bool.false_and,Bool.not_false,Bool.and_true,J2,hk,if_false]
mutual
theorem Ajf (data:List A3) (d:Nat) (v:Int):∀t:Ai,(Fq (data.take (d+1)) v t && !mnt d t)=Fq (data.take d) v t
 | ⟨k,n,l⟩=>by
  have h1:=Ajg data d v l
  have h2:=Atw data d v k n l.length
  simp only [Fq,mnt]
  rw [<-h1,<-h2]
  cases J2 (data.take (d+1)) v k n l.length <;> cases (k==5&&n==(d:Int)) <;> cases E2 (data.take (d+1)) v l <;> simp
theorem Ajg (data:List A3) (d:Nat) (v:Int):∀l:List Ai,(E2 (data.take (d+1)) v l && !L9 d l)=E2 (data.take d) v l
 | []=>by simp [E2,L9]
 | x::xs=>by
  have h1:=Ajf data d v x
  have h2:=Ajg data d v xs
  simp only [E2,L9]
  rw [<-h1,<-h2]
  cases Fq (data.take (d+1)) v x <;> cases mnt d x <;> cases E2 (data.take (d+1)) v xs <;> simp
end
theorem Ajh:∀l:List Ai,(∀a∈l,a.Args.length=0)->Cq l=l.length
 | [],_=>rfl
 | x::xs,h=>by
  have h1:=h x (by simp)
  simp only [Cq,List.length_cons]
  rw [Ajh xs (fun a ha=>h a (by simp [ha])),J1,List.length_eq_zero_iff.1 h1]
  simp only [Cq]; omega
theorem Aji {data:List A3} {d:Nat} {x:A3} (hx:data[d]? = some x) (g:x.Vars<=6) {t:Ai} (h:Iz t d x.Vars=true):Fq (data.take (d+1)) x.Vars t=true/\Bu t<=200:=by
 unfold Iz at h
 simp only [Dq,beq_iff_eq] at h
 obtain ⟨⟨⟨h1,h2⟩,h3⟩,f⟩:=h
 have ha:∀a∈t.Args,∃i:Nat,i<t.Args.length/\a.Kind=4/\a.Num=i/\a.Args.length=0:=by
  intro a ha
  obtain ⟨i,c⟩:=List.getElem?_of_mem ha
  have:=J0 f c
  simp only [Pg,Dq,beq_iff_eq] at this
  exact ⟨i,Ez c,this.1.1,this.1.2,this.2⟩
 refine ⟨?_,?_⟩
 .rw [Ac4,Atv,Dq]
  constructor
  .rw [h1,h2]
   unfold J2
   simp [hx,h3]
  .rw [List.all_eq_true]
   intro a b
   obtain ⟨i,i1,i2,i3,i4⟩:=ha a b
   rw [Ac4,i2,i3,i4,List.length_eq_zero_iff.1 i4]
   unfold J2
   simp [E2]; omega
 .rw [J1,Ajh _ (fun a h=>(ha a h).choose_spec.2.2.2)]
  omega
def Ph (data:List A3) (d:Nat) (v:Int) (t:Ai):Bool:=Iz t d v||(Fq (data.take d) v t&&decide (Bu t<=200))
theorem Atx {data:List A3} {d:Nat} {x:A3} (hx:data[d]? = some x) (b:x.Vars<=6) (t:Ai):((Fq (data.take (d+1)) x.Vars t&&decide (Bu t<=200))&&(Iz t d x.Vars || !mnt d t))=Ph data d x.Vars t:=by
 unfold Ph
 cases h:Iz t d x.Vars with
 | true=>
  obtain ⟨h1,h2⟩:=Aji hx b h
  rw [h1,Am h2]; rfl
 | false=>
  rw [<-Ajf data d x.Vars t]
  cases Fq (data.take (d+1)) x.Vars t <;> cases decide (Bu t<=200) <;> simp
def SzD (data:List A3):Prop:=∀x∈data,x.Cons.length<=1048576/\∀y∈x.Cons,Cq y.Args<=1048576
theorem SzD.short {data:List A3} (h:SzD data):U3 data:=fun x hx y hy=>by
 have h1:=(h x hx).2 y hy
 have h2:=Li y.Args
 refine ⟨by omega,fun a ha=>?_⟩
 have h3:=Kr ha
 have c:=J1 a
 have b:=Li a.Args
 omega
theorem Aty {data:List A3} (g:SzD data) (d c:Nat) {x:A3} {y:L7} (hx:data[d]? = some x) (hy:x.Cons[c]? = some y) (q:x.Vars<=6) (hd:data.length<=1048576) :
  M8 data d c=some (decide (y.Args.length<=6)&&y.Args.all (Ph data d x.Vars)):=by
 have b:=Ez hx
 have l:=(g x (Cw hx)).2 y (Cw hy)
 unfold M8
 rw [Cj rfl hx,Ad,Cj rfl hy,Ad,Aje data d c g.short]
 by_cases k:y.Args.length<=6
 .rw [As (by omega:¬(y.Args.length:Int)>6),Am k]
  simp only [cond_false,Bool.true_and,Ad]
  refine (Yn y.Args (Ph data d x.Vars) (fun j=>(j:Int)) rfl (by omega) (rt:=true) (rf:=false) ?_ ?_).trans (by rw [Yo])
  .intro j t ht h1 h2 h3
   have s:=Kr (Cw ht)
   have u:Ag (Ie data d c) (j:Int)=some (Iz t d x.Vars):=by
    unfold Ie
    simp only [Cj rfl hx,Cj rfl hy]
    rw [Cj rfl]
    simp [ht]
   simp only [h1,h2,h3,cond_true,Ad,show Ac ((d:Int)+1)=((d+1:Nat):Int) from Dr b (by omega),Yg rfl (show d+1<=data.length from b),Cj rfl hx,
    U1 (data.take (d+1)) t x.Vars (by omega),u]
   rw [<-Atx hx q t]
   cases i:(Fq (data.take (d+1)) x.Vars t&&decide (Bu t<=200)) with
   | false=>exact ⟨(fun h=>by cases h),fun _=>⟨.inl false,rfl,rfl⟩⟩
   | true=>
    have f:Bu t<=200:=by simp only [Dq,decide_eq_true_eq] at i; exact i.2
    simp only [bnt,cond_false,Bool.true_and]
    cases z:Iz t d x.Vars with
    | true=>exact ⟨fun _=>rfl,fun h=>by cases h⟩
    | false=>
     simp only [Bool.not_false,cond_true,Atu d 200 t 4000000 f (by omega) (by omega),Ad,Bool.false_or]
     cases mnt d t with
     | true=>exact ⟨(fun h=>by cases h),fun _=>⟨.inl false,rfl,rfl⟩⟩
     | false=>exact ⟨fun _=>rfl,fun h=>by cases h⟩
  .intro h
   exact ⟨.inr (),by simp only [h]; rfl,rfl⟩
 .rw [Am (by omega:(y.Args.length:Int)>6),As k]; rfl
end Go.Ab
namespace Go.Ab
open Go
def bI (s:ByteArray) (i:Nat):Int:=if h:i<s.size then (s[i].toNat:Int) else 0
def loI (c:Int):Bool:=decide (97<=c)&&decide (c<=122)
def upI (c:Int):Bool:=decide (65<=c)&&decide (c<=90)
def diI (c:Int):Bool:=decide (48<=c)&&decide (c<=57)
def wiI (c:Int):Bool:=loI c||upI c||diI c||c==95
def Gr (s:ByteArray):Prop:=1<=s.size/\s.size<=24/\upI (bI s 0)=true/\∀i,i<s.size->wiI (bI s i)=true
theorem Ma {s:ByteArray} {i:Int} {n:Nat} (b:i=n) (h:n<s.size):∃c:UInt8,Hb s i=some c/\(c.toNat:Int)=bI s n:=by
 subst b
 refine ⟨s[n],?_,?_⟩
 .unfold Hb
  rw [if_pos (by omega),show ((n:Int)).toNat=n from rfl]
  simp [h]
 .unfold bI; simp [h]
theorem U4 {s:ByteArray} {a b j:Nat} (hb:b<=s.size) (h:a+j<b):bI (s.extract a b) j=bI s (a+j):=by
 unfold bI
 have h1:j<(s.extract a b).size:=by rw [ByteArray.size_extract]; omega
 rw [dif_pos h1,dif_pos (by omega),ByteArray.getElem_extract]
theorem U5 {s:ByteArray} {lo c:Int} {a b:Nat} (h1:lo=a) (h2:c=b) (h3:a<=b) (f:b<=s.size):Et s lo c=some (s.extract a b):=by
 subst h1; subst h2; unfold Et; rw [if_pos (by omega)]; rfl
theorem Ajj {a b:ByteArray} (h:a.toList=b.toList):a=b:=by
 rw [ByteArray.toList_eq,ByteArray.toList_eq] at h
 have:a.data=b.data:=Array.toList_inj.1 h
 cases a; cases b; simp at this; subst this; rfl
theorem Ajk (a b:ByteArray):(a.toList==b.toList)=decide (a=b):=by
 by_cases h:a=b
 .subst h; simp
 .rw [As h]
  cases hb:(a.toList==b.toList) with
  | false=>rfl
  | true=>exact absurd (Ajj (by simpa using hb)) h
theorem Ajl (c:Int):Rf c=some (loI c):=by unfold Rf loI; by_cases h:(97:Int)<=c <;> simp [h]
theorem Ajm (c:Int):O7 c=some (upI c):=by unfold O7 upI; by_cases h:(65:Int)<=c <;> simp [h]
theorem Y1 (c:Int):Nc c=some (diI c):=by unfold Nc diI; by_cases h:(48:Int)<=c <;> simp [h]
theorem Ajn (c:Int):Rg c=some (wiI c):=by
 unfold Rg wiI
 rw [Ajl,Ajm,Y1]
 simp only [Ad]
 cases loI c <;> cases upI c <;> cases diI c <;> rfl
theorem Ac9 {S E:Type} {step:S->Option (S⊕E)} (s:ByteArray) (p:Int->Bool) (b:Nat->S) (f:Nat->E) (lo:Nat)
  (h1:∀j,lo<=j->j<s.size->p (bI s j)=true->step (b j)=some (.inl (b (j+1)))) (h2:∀j,lo<=j->j<s.size->p (bI s j)=false->step (b j)=some (.inr (f j))) (h3:step (b s.size)=some (.inr (f s.size))) :
  ∀(m i:Nat),lo<=i->i+m=s.size->∃n,i<=n/\n<=s.size/\(∀j,i<=j->j<n->p (bI s j)=true)/\(n<s.size->p (bI s n)=false)/\Al step (b i)=some (f n):=by
 intro m
 induction m with
 | zero=>
  intro i _ g
  have:i=s.size:=by omega
  subst this
  exact ⟨s.size,by omega,by omega,fun j _ _=>by omega,fun h=>by omega,Em h3⟩
 | succ m ih=>
  intro i c g
  cases hp:p (bI s i) with
  | true=>
   obtain ⟨n,a1,a2,a3,a4,a5⟩:=ih (i+1) (by omega) (by omega)
   refine ⟨n,by omega,a2,fun j b1 b2=>?_,a4,by rw [Jd (h1 i c (by omega) hp)]; exact a5⟩
   rcases Nat.lt_or_ge i j with h | h
   .exact a3 j h b2
   .have:j=i:=by omega
    subst this; exact hp
  | false=>exact ⟨i,by omega,by omega,fun j _ _=>by omega,fun _=>hp,Em (h2 i c (by omega) hp)⟩
theorem Atz (s:ByteArray) (k:s.size<1099511627776):∃n,n<=s.size/\(∀j,j<n->wiI (bI s j)=true)/\(n<s.size->wiI (bI s n)=false)/\Uk s=some (s.extract 0 n):=by
 have H:=Ac9 (step:=fun v3:Int=>bif (decide (v3<(s.size:Int))) then ((Hb s v3).bind fun h=>(Rg (h.toNat:Int)).bind fun v5=>bif v5 then some (.inl (Ac (v3+1))) else some (.inr v3)) else some (.inr v3))
  s wiI (fun j=>(j:Int)) (fun j=>(j:Int)) 0 (fun j _ hj hp=>by
   obtain ⟨c,g,f⟩:=Ma (s:=s) (i:=(j:Int)) rfl hj
   simp only [Am (by omega:(j:Int)<(s.size:Int)),cond_true,g,Ad,f,Ajn,hp,Dr hj (by omega)]) (fun j _ hj hp=>by
   obtain ⟨c,g,f⟩:=Ma (s:=s) (i:=(j:Int)) rfl hj
   simp only [Am (by omega:(j:Int)<(s.size:Int)),cond_true,g,Ad,f,Ajn,hp,cond_false]) (by simp) s.size 0 (by omega) (by omega)
 obtain ⟨n,_,a2,a3,a4,a5⟩:=H
 refine ⟨n,a2,fun j hj=>a3 j (by omega) hj,a4,?_⟩
 unfold Uk
 have a5:Al _ (0:Int)=some (n:Int):=a5
 rw [a5,Ad,U5 (lo:=0) (a:=0) (b:=n) rfl rfl (by omega) a2]; rfl
theorem At0 (s:ByteArray) (k:s.size<1099511627776):∃n,n<=s.size/\(∀j,j<n->diI (bI s j)=true)/\(n<s.size->diI (bI s n)=false)/\X3 s=some (s.extract 0 n):=by
 have H:=Ac9 (step:=fun v3:Int=>bif (decide (v3<(s.size:Int))) then ((Hb s v3).bind fun h=>(Nc (h.toNat:Int)).bind fun v5=>bif v5 then some (.inl (Ac (v3+1))) else some (.inr v3)) else some (.inr v3))
  s diI (fun j=>(j:Int)) (fun j=>(j:Int)) 0 (fun j _ hj hp=>by
   obtain ⟨c,g,f⟩:=Ma (s:=s) (i:=(j:Int)) rfl hj
   simp only [Am (by omega:(j:Int)<(s.size:Int)),cond_true,g,Ad,f,Y1,hp,Dr hj (by omega)]) (fun j _ hj hp=>by
   obtain ⟨c,g,f⟩:=Ma (s:=s) (i:=(j:Int)) rfl hj
   simp only [Am (by omega:(j:Int)<(s.size:Int)),cond_true,g,Ad,f,Y1,hp,cond_false]) (by simp) s.size 0 (by omega) (by omega)
 obtain ⟨n,_,a2,a3,a4,a5⟩:=H
 refine ⟨n,a2,fun j hj=>a3 j (by omega) hj,a4,?_⟩
 unfold X3
 have a5:Al _ (0:Int)=some (n:Int):=a5
 rw [a5,Ad,U5 (lo:=0) (a:=0) (b:=n) rfl rfl (by omega) a2]; rfl
theorem Rx {R:Type} {c:Bool} {X Y:Option R} {Q:R->Prop} (h1:∃r,X=some r/\Q r) (h2:∃r,Y=some r/\Q r):∃r,(bif c then X else Y)=some r/\Q r:=by cases c <;> assumption
theorem Ada {A R:Type} {X:Option A} {f:A->Option R} {Q:R->Prop} (P:A->Prop) (h1:∃a,X=some a/\P a) (h2:∀a,P a->∃r,f a=some r/\Q r):∃r,X.bind f=some r/\Q r:=by
 obtain ⟨a,e,h⟩:=h1
 rw [e]; exact h2 a h
theorem At1 (s:ByteArray):∃b,Ul s=some b/\True:=by
 unfold Ul
 repeat' first | refine Rx ?_ ?_ | exact ⟨_,rfl,trivial⟩
theorem At2 (s:ByteArray) (h1:1<=s.size):∃r,Un s=some r/\(r.size<=s.size):=by
 have g:Et s 0 1=some (s.extract 0 1):=U5 rfl rfl (by omega) h1
 have c:(s.extract 0 1).size<=s.size:=by rw [ByteArray.size_extract]; omega
 unfold Un
 refine Ada (fun z=>∀r,z = .inl r->r.size<=s.size) ?_ ?_
 .by_cases h2:2<=s.size
  .have f:Et s 0 2=some (s.extract 0 2):=U5 rfl rfl (by omega) h2
   have b:∀r,(Sum.inl (s.extract 0 2):ByteArray⊕Unit) = .inl r->r.size<=s.size:=by rintro r ⟨⟩; rw [ByteArray.size_extract]; omega
   simp only [f,Ad]
   repeat' first | refine Rx ?_ ?_ | with_reducible exact ⟨_,rfl,b⟩ | exact ⟨_,rfl,fun r h=>by cases h⟩
  .rw [As (by omega)]
   exact ⟨_,rfl,fun r h=>by cases h⟩
 .rintro (r | u) i
  .exact ⟨_,rfl,i r rfl⟩
  .simp only [g,Ad]
   have h0:(ByteArray.mk #[]).size<=s.size:=Nat.zero_le _
   repeat' first | refine Rx ?_ ?_ | with_reducible exact ⟨_,rfl,c⟩ | with_reducible exact ⟨_,rfl,h0⟩
theorem At3 (s:ByteArray) (g:s.size<1099511627776):∃b,Um s=some b/\True:=by
 unfold Um
 refine E8 (fun (_,i)=>∃j:Nat,i=j/\j<=s.size) (fun (_,i)=>s.size-i.toNat) (fun _=>True) ⟨0,rfl,by omega⟩ ?_ ?_
 .rintro ⟨v,i⟩ ⟨j,rfl,hj⟩
  rcases Nat.lt_or_ge j s.size with h | h
  .obtain ⟨c,f,_⟩:=Ma (s:=s) (i:=(j:Int)) rfl h
   simp only [Am (by omega:(j:Int)<(s.size:Int)),cond_true,f,Ad,Dr h (by omega)]
   cases decide (Ac (Ac (v*10)+Ac (wu8 ((c.toNat:Int)-48)))>1000000) with
   | true=>exact .inr ⟨_,rfl,trivial⟩
   | false=>exact .inl ⟨_,rfl,⟨j+1,rfl,by omega⟩,by simp; omega⟩
  .have:j=s.size:=by omega
   subst this
   exact .inr ⟨.inr (),by simp,trivial⟩
 .rintro (r | u) _ <;> exact ⟨_,rfl,trivial⟩
theorem At4 (s:ByteArray) (i:Nat) (J:i<s.size) (S:s.size<1099511627776) :
  ∃r,Uh s i=some r/\(r.2=0->1<=r.1.Text.size/\i+r.1.Text.size<=s.size/\(r.1.Kind=2->Gr r.1.Text))/\(Gr s->i=0->r=(⟨2,s,0⟩,0)):=by
 obtain ⟨c,N,M⟩:=Ma (s:=s) (i:=(i:Int)) rfl J
 have u:Et s (i:Int) (s.size:Int)=some (s.extract i s.size):=U5 rfl rfl (by omega) (by omega)
 have I:(s.extract i s.size).size=s.size-i:=by rw [ByteArray.size_extract]; omega
 have x:bI (s.extract i s.size) 0=bI s i:=U4 (by omega) (by omega)
 unfold Uh
 simp only [N,Ad,M,Ajl,Ajm,Y1,u]
 have hw:(bif loI (bI s i) then some true else some (upI (bI s i)))=some (loI (bI s i)||upI (bI s i)):=by cases loI (bI s i) <;> rfl
 rw [hw]
 simp only [Ad]
 cases l:(loI (bI s i)||upI (bI s i)) with
 | true=>
  obtain ⟨n,G,D,y,n4⟩:=Atz (s.extract i s.size) (by omega)
  have A:1<=n:=by
   rcases Nat.eq_zero_or_pos n with h | h
   .subst h
    have:=y (by omega)
    rw [x] at this
    unfold wiI at this
    rw [l] at this; cases this
   .exact h
  have hx:(s.extract i s.size).extract 0 n=s.extract i (i+n):=by rw [ByteArray.extract_extract]; congr 1; omega
  have q:(s.extract i (i+n)).size=n:=by rw [ByteArray.size_extract]; omega
  rw [hx] at n4
  simp only [cond_true,n4,Ad,q]
  have g:Gr s->i=0->n=s.size:=by
   intro hu h0
   rcases Nat.lt_or_ge n s.size with h | h
   .have:=y (by omega)
    rw [U4 (by omega) (by omega),hu.2.2.2 _ (by omega)] at this; cases this
   .omega
  by_cases L:n<=24
  .rw [As (by omega)]
   cases k:upI (bI s i) with
   | true=>
    refine ⟨_,rfl,fun _=>⟨?_,?_,fun _=>⟨?_,?_,?_,?_⟩⟩,?_⟩
    .show 1<=(s.extract i (i+n)).size; omega
    .show i+(s.extract i (i+n)).size<=s.size; omega
    .show 1<=(s.extract i (i+n)).size; omega
    .show (s.extract i (i+n)).size<=24; omega
    .show upI (bI (s.extract i (i+n)) 0)=true
     rw [U4 (by omega) (by omega)]; exact k
    .show ∀j,j<(s.extract i (i+n)).size->wiI (bI (s.extract i (i+n)) j)=true
     intro j hj
     rw [U4 (by omega) (by omega)]
     have:=D j (by omega)
     rw [U4 (by omega) (by omega)] at this; exact this
    .intro hu h0
     have:=g hu h0
     subst h0; subst this
     rw [Nat.zero_add,ByteArray.extract_zero_size]; rfl
   | false=>
    obtain ⟨b,hb,_⟩:=At1 (s.extract i (i+n))
    simp only [cond_false,hb,Ad]
    have f:Gr s->i=0->False:=by
     intro hu h0
     subst h0
     rw [hu.2.2.1] at k; cases k
    cases b with
    | true=>exact ⟨_,rfl,fun _=>⟨by show 1<=(s.extract i (i+n)).size; omega,by show i+(s.extract i (i+n)).size<=s.size; omega,fun h=>by cases h⟩,fun hu h0=>(f hu h0).elim⟩
    | false=>exact ⟨_,rfl,fun _=>⟨by show 1<=(s.extract i (i+n)).size; omega,by show i+(s.extract i (i+n)).size<=s.size; omega,fun h=>by cases h⟩,fun hu h0=>(f hu h0).elim⟩
  .rw [Am (by omega)]
   refine ⟨_,rfl,(fun h=>by cases h),fun hu h0=>?_⟩
   have:=g hu h0
   have:=hu.2.1
   omega
 | false=>
  have f:Gr s->i=0->False:=by
   intro hu h0
   subst h0
   rw [hu.2.2.1,Bool.or_true] at l; cases l
  simp only [cond_false]
  cases hd:diI (bI s i) with
  | true=>
   obtain ⟨n,G,D,y,n4⟩:=At0 (s.extract i s.size) (by omega)
   have A:1<=n:=by
    rcases Nat.eq_zero_or_pos n with h | h
    .subst h
     have:=y (by omega)
     rw [x,hd] at this; cases this
    .exact h
   have hx:(s.extract i s.size).extract 0 n=s.extract i (i+n):=by rw [ByteArray.extract_extract]; congr 1; omega
   have q:(s.extract i (i+n)).size=n:=by rw [ByteArray.size_extract]; omega
   rw [hx] at n4
   obtain ⟨b,hb,_⟩:=At3 (s.extract i (i+n)) (by omega)
   simp only [cond_true,n4,Ad,hb]
   refine Ada (fun _=>True) ?_ ?_
   .exact Rx ⟨_,rfl,trivial⟩ ⟨_,rfl,trivial⟩
   .intro v _
    refine Rx ⟨_,rfl,(fun h=>by cases h),fun hu h0=>(f hu h0).elim⟩ (Rx ⟨_,rfl,(fun h=>by cases h),fun hu h0=>(f hu h0).elim⟩ ⟨_,rfl,fun _=>⟨?_,?_,fun h=>by cases h⟩,fun hu h0=>(f hu h0).elim⟩)
    .show 1<=(s.extract i (i+n)).size; omega
    .show i+(s.extract i (i+n)).size<=s.size; omega
  | false=>
   obtain ⟨r,E,R⟩:=At2 (s.extract i s.size) (by omega)
   simp only [cond_false,E,Ad]
   rw [Ajk]
   by_cases z:r=ByteArray.mk #[]
   .rw [Am z]
    exact ⟨_,rfl,(fun h=>by cases h),fun hu h0=>(f hu h0).elim⟩
   .rw [As z]
    refine ⟨_,rfl,fun _=>⟨?_,?_,fun h=>by cases h⟩,fun hu h0=>(f hu h0).elim⟩
    .show 1<=r.size
     rcases Nat.eq_zero_or_pos r.size with h | h
     .have B:r.data.toList.length=0:=by simpa using h
      exact absurd (Ajj (by rw [ByteArray.toList_eq,List.length_eq_zero_iff.1 B,ByteArray.toList_eq])) z
     .exact h
    .show i+r.size<=s.size; omega
theorem At5 (c:Int):Ug c=some (c==9||c==10||c==13||c==32):=by
 unfold Ug
 cases c==9 <;> cases c==10 <;> cases c==13 <;> rfl
theorem Ajo (s:ByteArray) (U:s.size<1099511627776):∃b,On s=some b/\(b=true↔Gr s):=by
 unfold On Xr
 by_cases q:(s.size:Int)>16384
 .rw [Am q]
  refine ⟨false,rfl,by simp; rintro ⟨_,h,_⟩; omega⟩
 rw [As q]
 simp only [cond_false]
 refine Ada (fun r:List Hh×Int×Int=>(r.2.2≠0/\¬Gr s)\/(r.2.2=0/\∃o e,r.1=o++[e]/\(∀t∈o,t.Kind=2->Gr t.Text)/\(Gr s->o = [⟨2,s,0⟩]))) ?_ ?_
 .refine E8 (fun (v26,f)=>∃i:Nat,v26=i/\i<=s.size/\f.length<=i/\(∀t∈f,t.Kind=2->Gr t.Text)/\(Gr s->(i=0/\f = [])\/(i=s.size/\f = [⟨2,s,0⟩])))
   (fun (v26,_)=>s.size-v26.toNat)
   (fun z=>match z with | .inl o=>o.length<=16384/\(∀t∈o,t.Kind=2->Gr t.Text)/\(Gr s->o = [⟨2,s,0⟩]) | .inr (_,_,e)=>e≠0/\¬Gr s)
   ⟨0,rfl,by omega,by simp,by simp,fun _=>.inl ⟨rfl,rfl⟩⟩ ?_ ?_
  .rintro ⟨v,o⟩ ⟨i,rfl,hi,ho,hk,hu⟩
   rcases Nat.lt_or_ge i s.size with h | h
   .obtain ⟨c,G,E⟩:=Ma (s:=s) (i:=(i:Int)) rfl h
    have g:Gr s->i=0/\o = []:=fun u=>by
     rcases hu u with h' | h'
     .exact h'
     .omega
    simp only [Am (by omega:(i:Int)<(s.size:Int)),cond_true,G,Ad,E,At5]
    cases J:(bI s i==9||bI s i==10||bI s i==13||bI s i==32) with
    | true=>
     have k:¬Gr s:=by
      intro u
      have h0:=(g u).1
      subst h0
      have:=u.2.2.1
      simp only [upI,Dq,decide_eq_true_eq] at this
      simp only [Bool.or_eq_true,beq_iff_eq] at J
      omega
     exact .inl ⟨(((i+1:Nat):Int),o),by simp only [cond_true]; rw [Dr h (by omega)],⟨i+1,rfl,by omega,(by show o.length<=i+1; omega),hk,fun u=>(k u).elim⟩,by simp; omega⟩
    | false=>
     simp only [cond_false]
     cases B:(bI s i==35) with
     | true=>
      have k:¬Gr s:=by
       intro u
       have h0:=(g u).1
       subst h0
       have:=u.2.2.1
       simp only [upI,Dq,decide_eq_true_eq] at this
       simp only [beq_iff_eq] at B
       omega
      simp only [cond_true]
      obtain ⟨n,n1,n2,n3,n4,I⟩:=Ac9 (step:=fun v32:Int=>bif (decide (v32<(s.size:Int))) then ((Hb s v32).bind fun L=>bif ((L.toNat:Int)==(10:Int)) then some (.inr (.inl v32)) else some (.inl (Ac (v32+1)))) else some (.inr (.inr v32)))
       s (fun c=>!(c==10)) (fun j=>(j:Int)) (fun j=>if j<s.size then Sum.inl (j:Int) else Sum.inr (j:Int)) 0 (fun j _ hj hp=>by
        obtain ⟨c,G,E⟩:=Ma (s:=s) (i:=(j:Int)) rfl hj
        simp only [Bool.not_eq_true'] at hp
        simp only [Am (by omega:(j:Int)<(s.size:Int)),cond_true,G,Ad,E,hp,Dr hj (by omega),cond_false]) (fun j _ hj hp=>by
        obtain ⟨c,G,E⟩:=Ma (s:=s) (i:=(j:Int)) rfl hj
        simp only [Bool.not_eq_false'] at hp
        simp only [Am (by omega:(j:Int)<(s.size:Int)),cond_true,G,Ad,E,hp,if_pos hj]) (by simp) (s.size-i) i (by omega) (by omega)
      have V:i<n:=by
       rcases Nat.lt_or_ge i n with h' | h'
       .exact h'
       .have:n=i:=by omega
        subst this
        have:=n4 h
        simp only [beq_iff_eq] at B
        rw [B] at this; cases this
      have I:Al _ (i:Int)=_:=I
      rw [I,Ad]
      rcases Nat.lt_or_ge n s.size with h' | h'
      .rw [if_pos h']
       exact .inl ⟨((n:Int),o),rfl,⟨n,rfl,by omega,(by show o.length<=n; omega),hk,fun u=>(k u).elim⟩,by simp; omega⟩
      .rw [if_neg (by omega)]
       exact .inr ⟨.inl o,rfl,by omega,hk,fun u=>(k u).elim⟩
     | false=>
      obtain ⟨r,S,R,M⟩:=At4 s i h U
      simp only [cond_false,S,Ad]
      by_cases D:r.2=0
      .obtain ⟨a1,a2,a3⟩:=R D
       simp only [Ek D,cond_false]
       rw [Du (by simp; omega),Ad]
       refine .inl ⟨(((i+r.1.Text.size:Nat):Int),o++[r.1]),?_,⟨i+r.1.Text.size,rfl,a2,by simp; omega,?_,?_⟩,by simp; omega⟩
       .rw [show Ac ((i:Int)+(r.1.Text.size:Int))=((i+r.1.Text.size:Nat):Int) by rw [Ac,Bs] <;> omega]
       .intro t ht
        rcases List.mem_append.1 ht with h' | h'
        .exact hk t h'
        .simp at h'; subst h'; exact a3
       .intro u
        obtain ⟨b1,b2⟩:=g u
        have:=M u b1
        subst b1; subst b2; subst this
        exact .inr ⟨by simp,rfl⟩
      .simp only [Dx D,cond_true]
       refine .inr ⟨_,rfl,D,fun u=>?_⟩
       rw [M u (g u).1] at D
       exact D rfl
   .have:i=s.size:=by omega
    subst this
    refine .inr ⟨.inl o,by simp,by omega,hk,fun u=>?_⟩
    rcases hu u with ⟨h',_⟩ | ⟨_,h'⟩
    .have:=u.1; omega
    .exact h'
  .rintro (o | ⟨l,p,e⟩) N
   .obtain ⟨Z,z2,z3⟩:=N
    simp only
    rw [Du (by simp; omega),Ad]
    exact ⟨_,rfl,.inr ⟨rfl,o,_,rfl,z2,z3⟩⟩
   .exact ⟨_,rfl,.inl N⟩
 .rintro ⟨l,p,e⟩ (⟨h1,h2⟩ | ⟨h1,o,t,h2,h3,A⟩)
  .simp only at h1
   simp only [C6 h1,cond_false]
   exact ⟨_,rfl,by simp [h2]⟩
  .simp only at h1 h2
   subst h1; subst h2
   simp only [beq_self_eq_true,cond_true]
   match o,h3,A with
   | [],_,A=>exact ⟨false,by simp,by simp; intro u; cases A u⟩
   | [x],h3,A=>
    have Y:Ag ([x]++[t]) 0=some x:=rfl
    simp only [Y,Ad,Ajk]
    have X:((([x]++[t]).length:Int)==2)=true:=rfl
    simp only [X,cond_true]
    by_cases hx:x.Kind=2
    .simp only [Fa hx,cond_true]
     refine ⟨_,rfl,?_⟩
     rw [decide_eq_true_iff]
     constructor
     .intro h; rw [<-h]; exact h3 x (by simp) hx
     .intro u; have:=A u; simp at this; rw [this]
    .simp only [C6 hx,cond_false]
     refine ⟨_,rfl,?_⟩
     simp only [Bool.false_eq_true,false_iff]
     intro u; have:=A u; simp at this; rw [this] at hx; exact hx rfl
   | x::y::ys,_,A=>
    refine ⟨false,?_,by simp; intro u; have:=A u; simp at this⟩
    rw [C6]
    .rfl
    .simp; omega
end Go.Ab
namespace Go.Ab
open Go
end Go.Ab
namespace Go.Ab
open Go
def Y2 (data:List A3) (d:Nat) (v:Int) (y:L7):Prop:=Gr y.Name/\y.Args.length<=6/\y.Args.all (Ph data d v)=true
def Adb (data:List A3) (d:Nat) (x:A3):Prop:=0<=x.Vars/\x.Vars<=6/\1<=x.Cons.length/\x.Cons.length<=8/\Gr x.Name/\∀y∈x.Cons,Y2 data d x.Vars y
def Hs (x:A3):List ByteArray:=x.Cons.map (·.Name)
def Lj (data:List A3):Prop:=data.length<=12/\(∀d x,data[d]? = some x->Adb data d x)/\(data.map (·.Name)).Nodup/\(data.flatMap Hs).Nodup
structure DSz (data:List A3):Prop where
 len:data.length<=1048576
 sz:SzD data
 nm:∀x∈data,x.Name.size<=1048576
 cn:∀x∈data,∀y∈x.Cons,y.Name.size<=1048576
theorem Pi (a b:ByteArray):(a==b)=true↔a=b:=by
 constructor
 .intro h
  cases a with | mk a=>cases b with | mk b=>
  have:a=b:=by exact eq_of_beq h
  rw [this]
 .rintro rfl
  cases a with | mk a=>exact beq_self_eq_true a
def I0 (o:List (ByteArray×Bool)) (L:List ByteArray):Prop:=(∀p∈o,p.2=true)/\∀s,Ei o s=true↔s∈L
theorem I0.nil:I0 [] []:=⟨by simp,by simp [Ei]⟩
theorem I0.get {o:List (ByteArray×Bool)} {L:List ByteArray} (h:I0 o L) {s:ByteArray} (b:Ei o s=true):Hc o s false=true:=by
 unfold Hc
 unfold Ei at b
 rw [List.any_eq_true] at b
 obtain ⟨p,g,f⟩:=b
 cases c:o.find? (fun p=>s==p.1) with
 | none=>exact absurd f (by have:=List.find?_eq_none.1 c p g; simpa using this)
 | some q=>exact h.1 q (List.mem_of_find?_eq_some c)
theorem At6 (o:List (ByteArray×Bool)) (s t:ByteArray) (v:Bool):Ei (Eu o s v) t=(Ei o t||t==s):=by
 induction o with
 | nil=>simp [Eu,Ei]
 | cons p o ih=>
  unfold Eu
  cases hp:(s==p.1) with
  | true=>
   have:s=p.1:=(Pi _ _).1 hp
   subst this
   simp only [cond_true,Ei,List.any_cons]
   cases t==p.1 <;> simp
  | false=>
   simp only [Ei,List.any_cons] at ih ⊢
   simp only [cond_false,List.any_cons,ih,Bool.or_assoc]
theorem I0.put {o:List (ByteArray×Bool)} {L:List ByteArray} (h:I0 o L) (s:ByteArray):I0 (Eu o s true) (L++[s]):=by
 refine ⟨?_,fun t=>?_⟩
 .have:∀o:List (ByteArray×Bool),(∀p∈o,p.2=true)->∀p∈Eu o s true,p.2=true:=by
   intro o
   induction o with
   | nil=>intro _ p hp; simp [Eu] at hp; rw [hp]
   | cons q o ih=>
    intro b p hp
    unfold Eu at hp
    cases hq:(s==q.1) with
    | true=>
     rw [hq] at hp
     simp only [cond_true,List.mem_cons] at hp
     rcases hp with rfl | hp
     .rfl
     .exact b p (by simp [hp])
    | false=>
     rw [hq] at hp
     simp only [cond_false,List.mem_cons] at hp
     rcases hp with rfl | hp
     .exact b _ (by simp)
     .exact ih (fun p hp=>b p (by simp [hp])) p hp
  exact this o h.1
 .rw [At6,Bool.or_eq_true,h.2 t,Pi]; simp
theorem At7 (x:A3) {c:Nat} {y:L7} (hy:x.Cons[c]? = some y):Hs x=(x.Cons.take c).map (·.Name)++y.Name::(x.Cons.drop (c+1)).map (·.Name):=by
 have h:=List.take_append_drop c x.Cons
 have hc:=Ez hy
 have e:x.Cons.drop c=y::x.Cons.drop (c+1):=by
  rw [List.drop_eq_getElem_cons hc]
  rw [Cp hc] at hy
  rw [Option.some.inj hy]
 unfold Hs
 conv=>lhs; rw [<-h,e]
 simp
theorem Ajp {L m:List ByteArray} {s:ByteArray} (h:(L++s::m).Nodup):s ∉ L:=by
 rw [List.nodup_append] at h
 intro b
 exact h.2.2 s b s (by simp) rfl
theorem Ajq {L:List ByteArray} {s:ByteArray} (h:L.Nodup) (c:s ∉ L):(L++[s]).Nodup:=by
 rw [List.nodup_append]
 refine ⟨h,by simp,?_⟩
 intro a ha b hb
 simp at hb; subst hb
 intro e; subst e; exact c ha
theorem At8 {data:List A3} (s:DSz data) {d:Nat} {x:A3} (hx:data[d]? = some x) (I:x.Vars<=6) (o:List (ByteArray×Bool)) (L:List ByteArray) (J:I0 o L) (N:L.Nodup) :
  ∃z,Al (S:=(Int×(List (ByteArray×Bool)))) (E:=(Bool⊕(Int×(List (ByteArray×Bool))))) (fun (f,g)=>
    bif (decide (f<(x.Cons.length:Int))) then (
    (Ag x.Cons f).bind fun v54=>
    (On v54.Name).bind fun A=>
    bif (!A) then some (.inr (.inl false))
    else (
    bif (Ei g v54.Name) then (
    bif (Hc g v54.Name (false:Bool)) then some (.inr (.inl false))
    else (
    (M8 data d f).bind fun u=>
    bif (!u) then some (.inr (.inl false))
    else some (.inl ((Ac (f+1)),(Eu g v54.Name true)))))
    else (
    (M8 data d f).bind fun v58=>
    bif (!v58) then some (.inr (.inl false))
    else some (.inl ((Ac (f+1)),(Eu g v54.Name true))))))
    else some (.inr (.inr (f,g)))) (0,o)=some z /\
   match z with
   | .inl r=>r=false/\¬((∀y∈x.Cons,Y2 data d x.Vars y)/\(L++Hs x).Nodup)
   | .inr (_,o')=>(∀y∈x.Cons,Y2 data d x.Vars y)/\(L++Hs x).Nodup/\I0 o' (L++Hs x):=by
 have hxm:=Cw hx
 have M:=(s.sz x hxm).1
 refine Lq (fun (f,g)=>∃c:Nat,f=c/\c<=x.Cons.length/\(∀y∈x.Cons.take c,Y2 data d x.Vars y)/\(L++(x.Cons.take c).map (·.Name)).Nodup/\I0 g (L++(x.Cons.take c).map (·.Name)))
  (fun (f,_)=>x.Cons.length-f.toNat) _ ?_ _ ⟨0,rfl,by omega,by simp,by simpa using N,by simpa using J⟩
 rintro ⟨v,g⟩ ⟨c,rfl,hc,h1,h2,h3⟩
 rcases Nat.lt_or_ge c x.Cons.length with h | h
 .have hy:x.Cons[c]? = some x.Cons[c]:=Cp h
  generalize x.Cons[c]=y at hy
  have l:=Cw hy
  obtain ⟨b,b1,b2⟩:=Ajo y.Name (by have:=s.cn x hxm y l; omega)
  have ht:=Dy hy
  have D:L++Hs x=(L++(x.Cons.take c).map (·.Name))++y.Name::(x.Cons.drop (c+1)).map (·.Name):=by rw [At7 x hy]; simp
  simp only [Am (by omega:(c:Int)<(x.Cons.length:Int)),cond_true,Cj rfl hy,Ad,b1,Aty s.sz d c hx hy I s.len,Dr h (by omega)]
  cases b with
  | false=>
   refine .inr ⟨.inl false,rfl,rfl,fun k=>?_⟩
   have:=b2.2 (k.1 y l).1; cases this
  | true=>
   simp only [bnt,cond_false]
   cases j:Ei g y.Name with
   | true=>
    simp only [cond_true,h3.get j]
    refine .inr ⟨.inl false,rfl,rfl,fun k=>?_⟩
    rw [D] at k
    exact Ajp k.2 ((h3.2 _).1 j)
   | false=>
    simp only [cond_false]
    cases i:(decide (y.Args.length<=6)&&y.Args.all (Ph data d x.Vars)) with
    | false=>
     refine .inr ⟨.inl false,rfl,rfl,fun k=>?_⟩
     have:=k.1 y l
     rw [this.2.2,Am this.2.1] at i; cases i
    | true=>
     simp only [Dq,decide_eq_true_eq] at i
     have B:y.Name ∉ L++(x.Cons.take c).map (·.Name):=fun k=>by rw [(h3.2 _).2 k] at j; cases j
     have e:L++(x.Cons.take (c+1)).map (·.Name)=(L++(x.Cons.take c).map (·.Name))++[y.Name]:=by rw [ht]; simp
     refine .inl ⟨_,rfl,⟨c+1,rfl,by omega,?_,?_,?_⟩,by simp; omega⟩
     .intro G q
      rw [ht] at q
      rcases List.mem_append.1 q with h' | h'
      .exact h1 G h'
      .simp at h'; subst h'; exact ⟨b2.1 rfl,i.1,i.2⟩
     .rw [e]; exact Ajq h2 B
     .rw [e]; exact h3.put _
 .have:c=x.Cons.length:=by omega
  subst this
  rw [List.take_length] at h1 h2 h3
  exact .inr ⟨.inr ((x.Cons.length:Int),g),by simp,h1,h2,h3⟩
theorem At9 {data:List A3} {d:Nat} {x:A3} (hx:data[d]? = some x):data.flatMap Hs=((data.take d).flatMap Hs++Hs x)++(data.drop (d+1)).flatMap Hs/\data.map (·.Name)=(data.take d).map (·.Name)++x.Name::(data.drop (d+1)).map (·.Name):=by
 have h:=List.take_append_drop d data
 have hc:=Ez hx
 have e:data.drop d=x::data.drop (d+1):=by
  rw [List.drop_eq_getElem_cons hc]
  rw [Cp hc] at hx
  rw [Option.some.inj hx]
 constructor
 .conv=>lhs; rw [<-h,e]
  simp [List.flatMap_append]
 .conv=>lhs; rw [<-h,e]
  simp
theorem Aua {data:List A3} (j:DSz data):∃b,Tp data=some b/\(b=true↔Lj data):=by
 have G:=j.len
 unfold Tp
 rcases Nat.lt_or_ge 12 data.length with h12 | h12
 .rw [Am (by omega)]
  exact ⟨false,rfl,by simp; intro h; have:=h.1; omega⟩
 rw [As (by omega)]
 simp only [cond_false]
 refine E8 (fun (v31,f,g)=>∃d:Nat,v31=d/\d<=data.length/\(∀k x,k<d->data[k]? = some x->Adb data k x)/\((data.take d).map (·.Name)).Nodup/\((data.take d).flatMap Hs).Nodup/\I0 f ((data.take d).map (·.Name))/\I0 g ((data.take d).flatMap Hs))
  (fun (v31,_,_)=>data.length-v31.toNat) (fun z=>match z with | .inl r=>r=false/\¬Lj data | .inr _=>Lj data) ⟨0,rfl,by omega,by intro k x h; omega,by simp,by simp,by simpa using I0.nil,by simpa using I0.nil⟩ ?_ ?_
 .rintro ⟨v,f,g⟩ ⟨d,rfl,hd,h1,h2,h3,B,V⟩
  rcases Nat.lt_or_ge d data.length with h | h
  .have hx:data[d]? = some data[d]:=Cp h
   generalize data[d]=x at hx
   have hxm:=Cw hx
   obtain ⟨b,b1,b2⟩:=Ajo x.Name (by have:=j.nm x hxm; omega)
   obtain ⟨f1,f2⟩:=At9 hx
   simp only [Am (by omega:(d:Int)<(data.length:Int)),cond_true,Cj rfl hx,Ad,b1]
   have bad:∀(y:¬Adb data d x),∃e:Bool⊕((List (ByteArray×Bool))×(List (ByteArray×Bool))),(some (Sum.inr (Sum.inl false)):Option ((Int×(List (ByteArray×Bool))×(List (ByteArray×Bool)))⊕(Bool⊕((List (ByteArray×Bool))×(List (ByteArray×Bool))))))=some (.inr e)/\(match e with | .inl r=>r=false/\¬Lj data | .inr _=>Lj data) :=
    fun y=>⟨.inl false,rfl,rfl,fun c=>y (c.2.1 d x hx)⟩
   cases b with
   | false=>
    exact .inr (bad fun c=>by have:=b2.2 c.2.2.2.2.1; cases this)
   | true=>
    simp only [bnt,cond_false]
    cases i:Ei f x.Name with
    | true=>
     simp only [cond_true,B.get i,Ad]
     refine .inr ⟨.inl false,rfl,rfl,fun c=>?_⟩
     have:=c.2.2.1
     rw [f2] at this
     exact Ajp this ((B.2 _).1 i)
    | false=>
     simp only [cond_false]
     by_cases q:x.Vars<0
     .simp only [Am q,cond_true,Ad]
      exact .inr (bad fun c=>by have:=c.1; omega)
     by_cases u:x.Vars>6
     .simp only [As q,Am u,cond_true,cond_false,Ad]
      exact .inr (bad fun c=>by have:=c.2.1; omega)
     simp only [As q,As u,cond_false,Ad]
     by_cases s:(x.Cons.length:Int)<1
     .simp only [Am s,cond_true,Ad]
      exact .inr (bad fun c=>by have:=c.2.2.1; omega)
     by_cases A:(x.Cons.length:Int)>8
     .simp only [As s,Am A,cond_true,cond_false,Ad]
      exact .inr (bad fun c=>by have:=c.2.2.2.1; omega)
     simp only [As s,As A,cond_false,Ad]
     obtain ⟨z,L,z2⟩:=At8 j hx (by omega) g _ V h3
     rw [L,Ad]
     match z,z2 with
     | .inl r,z2=>
      obtain ⟨rfl,z2⟩:=z2
      refine .inr ⟨.inl false,rfl,rfl,fun c=>z2 ⟨(c.2.1 d x hx).2.2.2.2.2,?_⟩⟩
      have:=c.2.2.2
      rw [f1] at this
      exact (List.nodup_append.1 this).1
     | .inr (v60,D),z2=>
      obtain ⟨R,N,M⟩:=z2
      have ht:=Dy hx
      have E:x.Name ∉ (data.take d).map (·.Name):=fun c=>by rw [(B.2 _).2 c] at i; cases i
      have J:(data.take (d+1)).map (·.Name)=(data.take d).map (·.Name)++[x.Name]:=by rw [ht]; simp
      have I:(data.take (d+1)).flatMap Hs=(data.take d).flatMap Hs++Hs x:=by rw [ht]; simp [List.flatMap_append]
      refine .inl ⟨(((d+1:Nat):Int),Eu f x.Name true,D),by simp only [Dr h (by omega)],⟨d+1,rfl,by omega,?_,?_,?_,?_,?_⟩,by simp; omega⟩
      .intro k S U l
       rcases Nat.lt_or_ge k d with h' | h'
       .exact h1 k S h' l
       .have:k=d:=by omega
        subst this
        rw [hx] at l; cases l
        exact ⟨by omega,by omega,by omega,by omega,b2.1 rfl,R⟩
      .rw [J]; exact Ajq h2 E
      .rw [I]; exact N
      .rw [J]; exact B.put _
      .rw [I]; exact M
  .have:d=data.length:=by omega
   subst this
   rw [List.take_length] at h2 h3
   exact .inr ⟨.inr (f,g),by simp,h12,fun d x hx=>h1 d x (Ez hx) hx,h2,h3⟩
 .rintro (r | ⟨o,o'⟩) j
  .obtain ⟨rfl,j⟩:=j
   exact ⟨false,rfl,by simp [j]⟩
  .exact ⟨true,rfl,by simpa using j⟩
theorem Ajr {data:List A3} (c:DSz data):∃b,Te data=some b/\(b=true↔Lj data):=by
 obtain ⟨b,h1,h2⟩:=Aua c
 refine ⟨b,?_,h2⟩
 unfold Te
 rw [h1,Ad]
 cases b with
 | false=>rfl
 | true=>rfl
end Go.Ab
namespace Go.Ab
open Go
theorem SzD.args {data:List A3} (h:SzD data) {x:A3} (hx:x∈data) {y:L7} (hy:y∈x.Cons) {t:Ai} (ht:t∈y.Args):Bu t<=1048576/\t.Args.length<=1048576/\y.Args.length<=1048576:=by
 have h1:=(h x hx).2 y hy
 have h3:=Kr ht
 have f:=J1 t
 have c:=Li t.Args
 have b:=Li y.Args
 omega
end Go.Ab
namespace Go.Ab
open Go
def isV (σ:List Ai) (k n:Int):Bool:=k==4&&decide (0<=n)&&decide (n<(σ.length:Int))
mutual
def Dc (σ:List Ai):Ai->Ai
 | ⟨k,n,l⟩=>match (if isV σ k n then σ[n.toNat]? else none) with
  | some s=>s
  | none=>⟨k,n,Mb σ l⟩
def Mb (σ:List Ai):List Ai->List Ai
 | []=>[]
 | x::xs=>Dc σ x::Mb σ xs
end
theorem Aub (σ l:List Ai):Mb σ l=l.map (Dc σ):=by
 induction l with
 | nil=>rfl
 | cons x xs ih=>simp only [Mb,ih,List.map_cons]
theorem Adc {σ:List Ai} {k n:Int} (h:isV σ k n=true):∃s,σ[n.toNat]? = some s/\Ag σ n=some s/\s∈σ:=by
 simp only [isV,Dq,decide_eq_true_eq] at h
 have b:n.toNat < σ.length:=by omega
 refine ⟨σ[n.toNat],Cp b,?_,List.getElem_mem b⟩
 unfold Ag
 rw [if_pos (by omega),Cp b]
theorem Add {σ:List Ai} {t s:Ai} (h:isV σ t.Kind t.Num=true) (b:σ[t.Num.toNat]? = some s):Dc σ t=s:=by
 cases t; simp only [Dc] at *; simp [h,b]
theorem Ajs {σ:List Ai} {t:Ai} (h:isV σ t.Kind t.Num=false):Dc σ t=⟨t.Kind,t.Num,t.Args.map (Dc σ)⟩:=by
 cases t; simp only [Dc] at *; simp [h,Aub]
mutual
theorem Ajt:∀t:Ai,Dc [] t=t
 | ⟨k,n,l⟩=>by
  have hv:isV [] k n=false:=by
   unfold isV
   by_cases h:0<=n
   .rw [As (by simp; omega:¬n<(([]:List Ai).length:Int))]; simp
   .rw [As h]; simp
  simp only [Dc,hv,Aju l]; rfl
theorem Aju:∀l:List Ai,Mb [] l=l
 | []=>rfl
 | x::xs=>by simp only [Mb,Ajt x,Aju xs]
end
mutual
theorem Ajv (σ:List Ai) (M:Nat) (hM:1<=M) (hσ:∀s∈σ,Bu s<=M):∀t:Ai,Bu (Dc σ t)<=Bu t*M
 | ⟨k,n,l⟩=>by
  cases hv:isV σ k n with
  | true=>
   obtain ⟨s,h1,_,h3⟩:=Adc hv
   rw [Add (t:=⟨k,n,l⟩) hv h1]
   have:=hσ s h3
   have h2:=Rw ⟨k,n,l⟩
   calc Bu s<=1*M:=by omega
    _<=_:=Nat.mul_le_mul_right M h2
  | false=>
   have:=Ajw σ M hM hσ l
   simp only [Dc,hv,Bu]
   simp only [Bool.false_eq_true,if_false,Bu]
   rw [Nat.add_mul]; omega
theorem Ajw (σ:List Ai) (M:Nat) (hM:1<=M) (hσ:∀s∈σ,Bu s<=M):∀l:List Ai,Cq (Mb σ l)<=Cq l*M
 | []=>by simp [Mb,Cq]
 | x::xs=>by
  have h1:=Ajv σ M hM hσ x
  have h2:=Ajw σ M hM hσ xs
  simp only [Mb,Cq]
  rw [Nat.add_mul]; omega
end
theorem Ajx (σ:List Ai) (t:Ai):(bif t.Kind==(4:Int) then bif decide (t.Num>=(0:Int)) then some (decide (t.Num<(σ.length:Int))) else some false else some false)=some (isV σ t.Kind t.Num):=by
 unfold isV
 cases t.Kind==4 <;> simp
 by_cases h:0<=t.Num <;> simp [h]
theorem Auc:∀(k:Nat) (t:Ai) (σ:List Ai) (M:Nat),(∀s∈σ,Bu s<=M)->Bu t+M+1<=k->k<1099511627776->Na k t σ=some (Dc σ t):=by
 intro k
 induction k with
 | zero=>intro t σ M _ h; omega
 | succ k ih=>
  intro t σ M c h hk
  have g:=J1 t
  have f:=Li t.Args
  rw [Na]
  rw [show (show Option Bool from bif t.Kind==(4:Int) then bif decide (t.Num>=(0:Int)) then some (decide (t.Num<(σ.length:Int))) else some false else some false)=some (isV σ t.Kind t.Num) from Ajx σ t,Ad]
  cases b:isV σ t.Kind t.Num with
  | true=>
   obtain ⟨s,h1,h2,h3⟩:=Adc b
   have:=c s h3
   simp only [cond_true,h2,Ad,Add b h1,ih s [] 0 (by simp) (by omega) (by omega),Ajt]
  | false=>
   rw [Ajs b]
   simp only [cond_false]
   refine Iy t.Args (fun j=>((j:Int),(t.Args.take j).map (Dc σ))) rfl (by omega) ?_ ?_
   .intro j x hj hx h1 h2 h3
    have:=Kr (Cw hx)
    simp only [h1,h2,h3,cond_true,Ad,ih x σ M c (by omega) (by omega)]
    rw [Du (by simp; omega),Ad,Dy hx]; simp
   .intro h1
    exact ⟨t.Args.map (Dc σ),by simp,rfl⟩
theorem Aud:∀(k:Nat) (t:Ai),Bu t<=k->Bu t<1099511627776->Ou k t=some (Bu t:Int):=by
 intro k
 induction k with
 | zero=>intro t h; have:=Rw t; omega
 | succ k ih=>
  intro t h ht
  have b:=J1 t
  have c:=Li t.Args
  rw [Ou]
  refine Iy t.Args (fun j=>(1+(Cq (t.Args.take j):Int),(j:Int))) rfl (by omega) ?_ ?_
  .intro j x hj hx h1 h2 h3
   have g:=Kr (Cw hx)
   have f:=Ac6 t.Args (j+1)
   have e:Cq (t.Args.take (j+1))=Cq (t.Args.take j)+Bu x:=by rw [Dy hx,Y0]; simp [Cq]
   simp only [h1,h2,h3,cond_true,Ad,ih x (by omega) (by omega)]
   rw [show Ac (1+(Cq (t.Args.take j):Int)+(Bu x:Int))=1+(Cq (t.Args.take (j+1)):Int) by rw [e,Ac,Bs] <;> omega]
  .intro h1
   exact ⟨1+(Cq t.Args:Int),by simp,by rw [b]; simp⟩
theorem Aue (σ:List Ai) (M:Nat) (G:1<=M) (u:M<=1048576) (A:∀s∈σ,Bu s<=M):∀(k:Nat) (t:Ai),Bu t<=k->Bu t<=1048576 ->
  ∃v:Nat,Ov k t (σ.map fun s=>(Bu s:Int))=some (v:Int)/\v<=Bu (Dc σ t)/\((v=Bu (Dc σ t))\/200<v):=by
 intro k
 induction k with
 | zero=>intro t h; have:=Rw t; omega
 | succ k ih=>
  intro t h ht
  have B:=J1 t
  have z:=Li t.Args
  have l:∀x,Bu x<=1048576->Bu (Dc σ x)<=1099511627776:=fun x hx=>by
   have:=Ajv σ M G A x
   have:Bu x*M<=1048576*1048576:=Nat.mul_le_mul hx u
   omega
  rw [Ov]
  rw [show (show Option Bool from bif t.Kind==(4:Int) then bif decide (t.Num>=(0:Int)) then some (decide (t.Num<((σ.map fun s=>(Bu s:Int)).length:Int))) else some false else some false)=some (isV σ t.Kind t.Num) by rw [List.length_map]; exact Ajx σ t,Ad]
  cases f:isV σ t.Kind t.Num with
  | true=>
   obtain ⟨s,h1,h2,h3⟩:=Adc f
   have E:Ag (σ.map fun s=>(Bu s:Int)) t.Num=some (Bu s:Int):=by
    have:=Jk h2
    rw [Cj (n:=t.Num.toNat) (by omega)]
    simp [h1]
   simp only [cond_true,E,Ad,Add f h1]
   exact ⟨Bu s,rfl,Nat.le_refl _,.inl rfl⟩
  | false=>
   have y:=l t ht
   rw [Ajs f] at y ⊢
   simp only [cond_false]
   have g:Bu ⟨t.Kind,t.Num,t.Args.map (Dc σ)⟩=1+Cq (t.Args.map (Dc σ)):=by simp only [Bu]
   rw [g] at y ⊢
   refine Yf (fun v:Nat=>(v:Int)) (E8 (fun (n,i)=>∃j:Nat,i=j/\j<=t.Args.length/\n=1+(Cq ((t.Args.map (Dc σ)).take j):Int)) (fun (_,i)=>t.Args.length-i.toNat)
    (fun n=>∃v:Nat,n=v/\v<=1+Cq (t.Args.map (Dc σ))/\(v=1+Cq (t.Args.map (Dc σ))\/200<v)) ⟨0,rfl,by omega,by simp [Cq]⟩ ?_ ?_)
   .rintro ⟨n,i⟩ ⟨j,rfl,hj,q⟩
    have q:n=_:=q
    subst q
    rcases Nat.lt_or_ge j t.Args.length with h' | h'
    .have hx:t.Args[j]? = some t.Args[j]:=Cp h'
     generalize t.Args[j]=x at hx
     have J:=Kr (Cw hx)
     obtain ⟨v,b,v2,v3⟩:=ih x (by omega) (by omega)
     have c:(t.Args.map (Dc σ))[j]? = some (Dc σ x):=by simp [hx]
     have e:Cq ((t.Args.map (Dc σ)).take (j+1))=Cq ((t.Args.map (Dc σ)).take j)+Bu (Dc σ x):=by rw [Dy c,Y0]; simp [Cq]
     have D:=Ac6 (t.Args.map (Dc σ)) (j+1)
     have I:Ac (1+(Cq ((t.Args.map (Dc σ)).take j):Int)+(v:Int))=((1+Cq ((t.Args.map (Dc σ)).take j)+v:Nat):Int):=by rw [Ac,Bs] <;> omega
     simp only [Am (by omega:(j:Int)<(t.Args.length:Int)),cond_true,Cj rfl hx,Ad,b,Dr h' (by omega),I]
     by_cases hb:1+Cq ((t.Args.map (Dc σ)).take j)+v>200
     .rw [Am (by omega)]
      exact .inr ⟨_,rfl,_,rfl,by omega,.inr hb⟩
     .rw [As (by omega)]
      refine .inl ⟨_,rfl,⟨j+1,rfl,by omega,?_⟩,by simp; omega⟩
      have:v=Bu (Dc σ x):=by omega
      subst this
      rw [e]; omega
    .have:j=t.Args.length:=by omega
     subst this
     refine .inr ⟨_,by simp; rfl,1+Cq (t.Args.map (Dc σ)),?_,by omega,.inl rfl⟩
     rw [List.take_of_length_le (by simp)]; omega
   .rintro n ⟨v,rfl,b,v2⟩
    exact ⟨_,rfl,v,rfl,b,v2⟩
def Nn (data:List A3) (t:Ai) (c:Int):Option (List Ai) :=
 if t.Kind=5 then
  match Ag data t.Num with
  | none=>none
  | some x=>if (t.Args.length:Int)=x.Vars then
    match Ag x.Cons c with
    | none=>none
    | some y=>if (y.Args.map (Dc t.Args)).all (fun a=>decide (Bu a<=200)) then some (y.Args.map (Dc t.Args)) else none
   else none
 else none
def okL (o:Option (List Ai)):List Ai×Bool:=match o with | none=>([],false) | some l=>(l,true)
def Szv (data:List A3):Prop:=∀x∈data,∀y∈x.Cons,y.Args.length<=6/\∀a∈y.Args,Bu a<=200
theorem Lj.szv {data:List A3} (h:Lj data):Szv data:=by
 intro x hx y hy
 obtain ⟨d,hd⟩:=List.getElem?_of_mem hx
 have h1:=h.2.1 d x hd
 obtain ⟨_,c,b⟩:=h1.2.2.2.2.2 y hy
 refine ⟨c,fun a ha=>?_⟩
 have:=List.all_eq_true.1 b a ha
 unfold Ph at this
 rw [Bool.or_eq_true] at this
 rcases this with h' | h'
 .exact (Aji hd h1.2.1 h').2
 .simp only [Dq,decide_eq_true_eq] at h'; exact h'.2
end Go.Ab
namespace Go.Ab
open Go
theorem Auf {data:List A3} (B:Szv data) (t:Ai) (ht:Bu t<=200) (c:Int):X5 data t c=some (okL (Nn data t c)):=by
 have D:=J1 t
 have u:=Li t.Args
 unfold X5 Nn
 by_cases hk:t.Kind=5
 .simp only [Ek hk,cond_false,if_pos hk]
  cases hx:Ag data t.Num with
  | none=>
   rcases U2 hx with h | h
   .simp only [Am h,cond_true,Ad,okL]
   .by_cases h':t.Num<0
    .simp only [Am h',cond_true,Ad,okL]
    .simp only [As h',Am (show t.Num>=(data.length:Int) from h),cond_true,cond_false,Ad,okL]
  | some x=>
   obtain ⟨a1,a2,_,hxm⟩:=Jk hx
   simp only [As (by omega:¬t.Num<0),As (by omega:¬t.Num>=(data.length:Int)),cond_false,Ad]
   by_cases g:(t.Args.length:Int)=x.Vars
   .simp only [Ek g,cond_false,if_pos g]
    cases hy:Ag x.Cons c with
    | none=>
     rcases U2 hy with h | h
     .simp only [Am h,cond_true,Ad,okL]
     .by_cases h':c<0
      .simp only [Am h',cond_true,Ad,okL]
      .simp only [As h',Am (show c>=(x.Cons.length:Int) from h),cond_true,cond_false,Ad,okL]
    | some y=>
     obtain ⟨b1,b2,_,k⟩:=Jk hy
     obtain ⟨I,b⟩:=B x hxm y k
     simp only [As (by omega:¬c<0),As (by omega:¬c>=(x.Cons.length:Int)),cond_false,Ad]
     rw [Ia (n:=t.Args.length) (c:=t.Args.length) rfl rfl (by omega) (by omega) (by omega),Ad]
     refine Iy t.Args (fun j=>((j:Int),((t.Args.take j).map fun s=>(Bu s:Int))++List.replicate (t.Args.length-j) 0)) rfl (by omega) ?_ ?_
     .intro j s hj i h1 h2 h3
      have:=Kr (Cw i)
      obtain ⟨m,E⟩:∃m,t.Args.length-j=m+1:=⟨t.Args.length-j-1,by omega⟩
      have G:t.Args.length-(j+1)=m:=by omega
      have l:j=((t.Args.take j).map fun s=>(Bu s:Int)).length:=by simp; omega
      simp only [h1,h2,h3,cond_true,Ad,Aud 4000000 s (by omega) (by omega),E,G,List.replicate_succ,Ac8 _ _ _ (j:Int) j rfl l,Ac7 _ _ _ _ (j:Int) j rfl l,Dy i]
      simp
     .intro h1
      refine ⟨t.Args.map fun s=>(Bu s:Int),by simp,?_⟩
      have q:∀s∈t.Args,Bu s<=200:=fun s i=>by have:=Kr i; omega
      refine (Yn (rt:=(y.Args.map (Dc t.Args),true)) (rf:=([],false)) y.Args (fun a=>decide (Bu (Dc t.Args a)<=200)) (fun j=>(j:Int)) rfl (by omega) ?_ ?_).trans ?_
      .intro j a ha h1 h2 h3
       have A:=b a (Cw ha)
       obtain ⟨v,z,v2,v3⟩:=Aue t.Args 200 (by omega) (by omega) q 4000000 a (by omega) (by omega)
       simp only [h1,h2,h3,cond_true,Ad,z]
       by_cases hb:Bu (Dc t.Args a)<=200
       .rw [Am hb,As (by omega)]
        exact ⟨fun _=>rfl,fun h=>by cases h⟩
       .rw [As hb,Am (by omega)]
        exact ⟨(fun h=>by cases h),fun _=>⟨_,rfl,rfl⟩⟩
      .intro h1
       refine ⟨.inr (),by simp,?_⟩
       simp only
       refine Iy y.Args (fun j=>((j:Int),(y.Args.take j).map (Dc t.Args))) rfl (by omega) ?_ ?_
       .intro j a hj ha h1 h2 h3
        have A:=b a (Cw ha)
        simp only [h1,h2,h3,cond_true,Ad,Auc 4000000 a t.Args 200 q (by omega) (by omega)]
        rw [Du (by simp; omega),Ad,Dy ha]; simp
       .intro h1
        exact ⟨y.Args.map (Dc t.Args),by simp,rfl⟩
      .rw [List.all_map]
       cases f:y.Args.all ((fun a=>decide (Bu a<=200)) ∘ Dc t.Args) with
       | true=>rw [if_pos rfl]; rw [show (y.Args.all fun a=>decide (Bu (Dc t.Args a)<=200))=true from f]; rfl
       | false=>rw [show (y.Args.all fun a=>decide (Bu (Dc t.Args a)<=200))=false from f]; rfl
   .simp only [Dx g,cond_true,Ad,if_neg g,okL]
 .simp only [Dx hk,cond_true,Ad,if_neg hk,okL]
theorem Ade {data:List A3} {t:Ai} {c:Int} {l:List Ai} (h:Nn data t c=some l) :
  ∃x y,t.Kind=5/\Ag data t.Num=some x/\(t.Args.length:Int)=x.Vars/\Ag x.Cons c=some y/\l=y.Args.map (Dc t.Args)/\∀a∈l,Bu a<=200:=by
 unfold Nn at h
 by_cases hk:t.Kind=5
 .rw [if_pos hk] at h
  cases hx:Ag data t.Num with
  | none=>rw [hx] at h; cases h
  | some x=>
   rw [hx] at h
   simp only at h
   by_cases f:(t.Args.length:Int)=x.Vars
   .rw [if_pos f] at h
    cases hy:Ag x.Cons c with
    | none=>rw [hy] at h; cases h
    | some y=>
     rw [hy] at h
     simp only at h
     by_cases b:(y.Args.map (Dc t.Args)).all (fun a=>decide (Bu a<=200))=true
     .rw [if_pos b] at h
      cases h
      refine ⟨x,y,hk,rfl,f,hy,rfl,fun a ha=>?_⟩
      have:=List.all_eq_true.1 b a ha
      simpa using this
     .rw [if_neg b] at h; cases h
   .rw [if_neg f] at h; cases h
 .rw [if_neg hk] at h; cases h
def I1 (l:List Ai) (r:List Bool):List Ai:=((l.zip r).filter fun p=>!p.2).map (·.1)
def Ks (data:List A3) (t:Ai) (c:Int):Option (List Ai):=(Nn data t c).map fun l=>I1 l (Ie data t.Num c)
theorem Aug {data:List A3} {t:Ai} {c:Int} {l:List Ai} (h:Nn data t c=some l):(Ie data t.Num c).length=l.length:=by
 obtain ⟨x,y,_,hx,_,hy,rfl,_⟩:=Ade h
 unfold Ie
 simp only [hx,hy,List.length_map]
theorem Auh {l:List Ai} {r:List Bool} {j:Nat} {a:Ai} {b:Bool} (h1:l[j]? = some a) (h2:r[j]? = some b):I1 (l.take (j+1)) (r.take (j+1))=I1 (l.take j) (r.take j)++bif b then [] else [a]:=by
 unfold I1
 have f:=Ez h1
 have c:=Ez h2
 rw [Dy h1,Dy h2,List.zip_append (by simp; omega)]
 cases b <;> simp
theorem Aui (l:List Ai) (r:List Bool):(I1 l r).length<=l.length:=by
 unfold I1
 rw [List.length_map]
 refine Nat.le_trans (List.length_filter_le _ _) ?_
 rw [List.length_zip]; omega
theorem Auj {data:List A3} {t:Ai} {c:Int} {l:List Ai} (h:Ks data t c=some l):(∀a∈l,Bu a<=200)/\∃x,Ag data t.Num=some x/\0<=c/\c<x.Cons.length:=by
 unfold Ks at h
 cases b:Nn data t c with
 | none=>rw [b] at h; cases h
 | some m=>
  rw [b] at h
  cases h
  obtain ⟨x,y,_,hx,_,hy,_,g⟩:=Ade b
  refine ⟨fun a ha=>?_,x,hx,(Jk hy).1,(Jk hy).2.1⟩
  unfold I1 at ha
  obtain ⟨p,f,rfl⟩:=List.mem_map.1 ha
  exact g _ (List.of_mem_zip (List.mem_filter.1 f).1).1
end Go.Ab
namespace Go.Ab
open Go
mutual
def Dl:Bp->Nat
 | ⟨_,l⟩=>1+Fj l
def Fj:List Bp->Nat
 | []=>0
 | x::xs=>Dl x+Fj xs
end
theorem Gt (t:Bp):Dl t=1+Fj t.Kids:=by cases t; simp only [Dl]
theorem Pj {l:List Bp} {a:Bp} (h:a∈l):Dl a<=Fj l:=by
 induction l with
 | nil=>cases h
 | cons x xs ih=>
  simp only [Fj]
  rcases List.mem_cons.1 h with rfl | h
  .omega
  .have:=ih h; omega
theorem Ry (l:List Bp):l.length<=Fj l:=by
 induction l with
 | nil=>simp
 | cons x xs ih=>simp only [Fj,List.length_cons]; have:=Gt x; omega
mutual
def Ig (data:List A3):Bp->Ai->Option Nat
 | ⟨n,kids⟩,t=>
  if t.Kind=6 then (if n=0 then Fr data kids t.Args else none)
  else if t.Kind=7 then (if 0<=n/\n<=6/\kids.length=0 then some n.toNat else none)
  else if t.Kind=5 then (if n=0 then Jl data kids t else none)
  else if n=0/\kids.length=0 then some 0 else none
def Fr (data:List A3):List Bp->List Ai->Option Nat
 | [],[]=>some 0
 | i::is,t::ts=>(Ig data i t).bind fun a=>(Fr data is ts).map (a + ·)
 | [],_::_=>none
 | _::_,[]=>none
def Jl (data:List A3):List Bp->Ai->Option Nat
 | [],_=>some 0
 | ⟨n,kids⟩::es,t=>(Ks data t n).bind fun ts=>(Fr data kids ts).bind fun a=>(Jl data es t).map (1+a + ·)
end
theorem Ajy (data:List A3) (i:Bp) (t:Ai):Ig data i t=if t.Kind=6 then (if i.Num=0 then Fr data i.Kids t.Args else none)
  else if t.Kind=7 then (if 0<=i.Num/\i.Num<=6/\i.Kids.length=0 then some i.Num.toNat else none)
  else if t.Kind=5 then (if i.Num=0 then Jl data i.Kids t else none)
  else if i.Num=0/\i.Kids.length=0 then some 0 else none:=by cases i; simp only [Ig]
theorem Ajz (data:List A3) (e:Bp) (es:List Bp) (t:Ai):Jl data (e::es) t=(Ks data t e.Num).bind fun ts=>(Fr data e.Kids ts).bind fun a=>(Jl data es t).map (1+a + ·):=by cases e; simp only [Jl]
theorem Adf (data:List A3) (i:Bp) (b:List Bp) (t:Ai) (ts:List Ai):Fr data (i::b) (t::ts)=(Ig data i t).bind fun a=>(Fr data b ts).map (a + ·):=by simp only [Fr]
theorem Aj0 (data:List A3):∀(b:List Bp) (ts:List Ai),ts.length≠b.length->Fr data b ts=none
 | [],[],h=>absurd rfl h
 | i::b,t::ts,h=>by rw [Adf,Aj0 data b ts (by simpa using h)]; cases Ig data i t <;> rfl
 | [],_::_,_=>by simp only [Fr]
 | _::_,[],_=>by simp only [Fr]
def I2 (o:Option Nat):Int:=match o with | some d=>if d<=6 then (d:Int) else -1 | none => -1
theorem Aj1 {d:Nat} (h:d<=6):I2 (some d)=d:=by simp [I2,h]
theorem Adg {d:Nat} (h:6<d):I2 (some d) = -1:=by simp only [I2]; rw [if_neg (by omega)]
theorem Auk (o:Option Nat):(I2 o = -1/\∀d,o=some d->6<d)\/∃d,o=some d/\d<=6/\I2 o=d:=by
 cases o with
 | none=>exact .inl ⟨rfl,fun d h=>by cases h⟩
 | some d=>
  rcases Nat.lt_or_ge 6 d with h | h
  .exact .inl ⟨Adg h,fun e b=>by cases b; exact h⟩
  .exact .inr ⟨d,rfl,h,Aj1 h⟩
theorem Aul {o:Option Nat} (h:∀d,o=some d->6<d):I2 o = -1:=by
 cases o with
 | none=>rfl
 | some d=>exact Adg (h d rfl)
theorem I3 {α:Type} {l:List α} {j:Nat} {x:α} (h:l[j]? = some x):l.drop j=x::l.drop (j+1):=by
 have hj:=Ez h
 rw [List.drop_eq_getElem_cons hj]
 rw [Cp hj] at h
 rw [Option.some.inj h]
end Go.Ab
namespace Go.Ab
open Go
end Go.Ab
namespace Go.Ab
open Go
def I64 (n:Int):Prop:= -9223372036854775808<=n/\n<=9223372036854775807
def ti (n:Int):List Int:=(Lib.itoa n).map fun c=>(c.toNat:Int)
def Mc (c:Int):Bool:=c==45||(decide (48<=c)&&decide (c<=57))
theorem Rz {d:Nat} (h:d<10):(UInt8.ofNat (48+d)).toNat=48+d:=by
 rw [UInt8.toNat_ofNat']; omega
theorem Y3:∀(n u:Nat),u<=n->∀c∈Lib.decDigits u,48<=c.toNat/\c.toNat<=57:=by
 intro n
 induction n with
 | zero=>
  intro u hu c hc
  rw [Lib.decDigits,dif_pos (by omega)] at hc
  simp only [List.mem_singleton] at hc
  subst hc; rw [Rz (by omega)]; omega
 | succ n ih=>
  intro u hu c hc
  rw [Lib.decDigits] at hc
  split at hc
  .simp only [List.mem_singleton] at hc
   subst hc; rw [Rz (by omega)]; omega
  .rcases List.mem_append.1 hc with h | h
   .exact ih (u / 10) (by omega) c h
   .simp only [List.mem_singleton] at h
    subst h; rw [Rz (by omega)]; omega
def Y4 (l:List UInt8):Nat:=l.foldl (fun a c=>10*a+(c.toNat-48)) 0
theorem Aj2:∀(n u:Nat),u<=n->Y4 (Lib.decDigits u)=u:=by
 intro n
 induction n with
 | zero=>
  intro u hu
  rw [Lib.decDigits,dif_pos (by omega)]
  simp only [Y4,List.foldl_cons,List.foldl_nil]
  rw [Rz (by omega)]; omega
 | succ n ih=>
  intro u hu
  rw [Lib.decDigits]
  split
  .simp only [Y4,List.foldl_cons,List.foldl_nil]
   rw [Rz (by omega)]; omega
  .have:=ih (u / 10) (by omega)
   unfold Y4 at *
   rw [List.foldl_append,this]
   simp only [List.foldl_cons,List.foldl_nil]
   rw [Rz (by omega)]; omega
theorem Aj3 {u v:Nat} (h:Lib.decDigits u=Lib.decDigits v):u=v:=by
 rw [<-Aj2 u u (Nat.le_refl _),h,Aj2 v v (Nat.le_refl _)]
theorem Aum (u:Nat):Lib.decDigits u≠[]:=by
 rw [Lib.decDigits]; split <;> simp
theorem Aun {m n:Int} (h:Lib.itoa m=Lib.itoa n):m=n:=by
 have b:∀u v:Nat,45::Lib.decDigits u≠Lib.decDigits v:=by
  intro u v e
  have:=Y3 v v (Nat.le_refl _) 45 (by rw [<-e]; simp)
  exact absurd this (by decide)
 unfold Lib.itoa at h
 split at h <;> split at h
 .have:=Aj3 (List.cons.inj h).2; omega
 .exact absurd h (b _ _)
 .exact absurd h.symm (b _ _)
 .have:=Aj3 h; omega
theorem Gf (n:Int):∀c∈ti n,Mc c=true:=by
 intro c hc
 unfold ti at hc
 obtain ⟨b,hb,rfl⟩:=List.mem_map.1 hc
 have key:b=45\/(48<=b.toNat/\b.toNat<=57):=by
  unfold Lib.itoa at hb
  split at hb
  .rcases List.mem_cons.1 hb with h | h
   .exact .inl h
   .exact .inr (Y3 _ _ (Nat.le_refl _) b h)
  .exact .inr (Y3 _ _ (Nat.le_refl _) b hb)
 unfold Mc
 rcases key with rfl | ⟨h1,h2⟩
 .decide
 .rw [Bool.or_eq_true,Dq,decide_eq_true_eq,decide_eq_true_eq]; right; omega
theorem Adh (n:Int):ti n≠[]:=by
 unfold ti Lib.itoa
 split
 .simp
 .simpa using Aum _
theorem Pk {m n:Int} (h:ti m=ti n):m=n:=by
 unfold ti at h
 have:∀l m:List UInt8,l.map (fun c=>(c.toNat:Int))=m.map (fun c=>(c.toNat:Int))->l=m:=by
  intro l
  induction l with
  | nil=>intro m h; cases m with | nil=>rfl | cons=>simp at h
  | cons x xs ih=>
   intro m h
   cases m with
   | nil=>simp at h
   | cons y ys=>
    simp only [List.map_cons,List.cons.injEq] at h
    rw [ih ys h.2,UInt8.toNat.inj (by omega:x.toNat=y.toNat)]
 exact Aun (this _ _ h)
theorem Kt {n:Int} (h:I64 n):(ti n).length<=21:=by
 unfold ti; rw [List.length_map]; exact Lib.itoa_length_le n h.1 h.2
def No (X:List Int):Prop:=∀c m,X=c::m->Mc c=false/\c≠40
def Jm (X:List Int):Prop:=∀c m,X=c::m->Mc c=false
theorem Md:∀(a b X Y:List Int),(∀c∈a,Mc c=true)->(∀c∈b,Mc c=true)->Jm X->Jm Y->a++X=b++Y->a=b/\X=Y
 | [],[],_,_,_,_,_,_,h=>⟨rfl,h⟩
 | [],y::b,X,Y,_,hb,g,_,h=>by
  have:=g y (b++Y) h
  rw [hb y (by simp)] at this; cases this
 | x::a,[],X,Y,ha,_,_,f,h=>by
  have:=f x (a++X) h.symm
  rw [ha x (by simp)] at this; cases this
 | x::a,y::b,X,Y,ha,hb,g,f,h=>by
  simp only [List.cons_append,List.cons.injEq] at h
  obtain ⟨j,i⟩:=Md a b X Y (fun c hc=>ha c (by simp [hc])) (fun c hc=>hb c (by simp [hc])) g f h.2
  exact ⟨by rw [h.1,j],i⟩
mutual
def wx:Bp->List Int
 | ⟨n,kids⟩=>ti n++(if kids.length=0 then [] else 40::(wxs kids++[41]))
def wxs:List Bp->List Int
 | []=>[]
 | x::xs=>wx x++44::wxs xs
end
theorem Adi (i:Bp):wx i=ti i.Num++(if i.Kids.length=0 then [] else 40::(wxs i.Kids++[41])):=by cases i; simp only [wx]
theorem Aj4 (l m:List Bp):wxs (l++m)=wxs l++wxs m:=by
 induction l with
 | nil=>simp [wxs]
 | cons x xs ih=>simp only [List.cons_append,wxs,ih,List.append_assoc]
theorem Aj5 (b:List Bp) (X:List Int) (f:No X):Jm ((if b.length=0 then [] else 40::(wxs b++[41]))++X):=by
 intro c m h
 by_cases hk:b.length=0
 .rw [if_pos hk,List.nil_append] at h
  exact (f c m h).1
 .rw [if_neg hk,List.cons_append] at h
  cases h; decide
theorem Aj6 (X:List Int):No (44::X):=by intro c m h; cases h; exact ⟨by decide,by decide⟩
theorem Aj7:No []:=by intro c m h; cases h
mutual
theorem Adj:∀(i j:Bp) (X Y:List Int),No X->No Y->wx i++X=wx j++Y->i=j/\X=Y
 | ⟨n,k⟩,⟨n',k'⟩,X,Y,hX,hY,h=>by
  simp only [wx,List.append_assoc] at h
  obtain ⟨e1,e2⟩:=Md _ _ _ _ (Gf n) (Gf n') (Aj5 k X hX) (Aj5 k' Y hY) h
  have e1:=Pk e1
  subst e1
  by_cases hk:k.length=0
  .by_cases hk':k'.length=0
   .rw [if_pos hk,if_pos hk'] at e2
    rw [List.length_eq_zero_iff.1 hk,List.length_eq_zero_iff.1 hk']
    exact ⟨rfl,e2⟩
   .rw [if_pos hk,if_neg hk',List.nil_append,List.cons_append] at e2
    exact absurd rfl (hX _ _ e2).2
  .by_cases hk':k'.length=0
   .rw [if_neg hk,if_pos hk',List.nil_append,List.cons_append] at e2
    exact absurd rfl (hY _ _ e2.symm).2
   .rw [if_neg hk,if_neg hk',List.cons_append,List.cons_append,List.append_assoc,List.append_assoc] at e2
    obtain ⟨e3,e4⟩:=Aj8 k k' X Y hX hY (List.cons.inj e2).2
    rw [e3]; exact ⟨rfl,e4⟩
theorem Aj8:∀(l m:List Bp) (X Y:List Int),No X->No Y->wxs l++([41]++X)=wxs m++([41]++Y)->l=m/\X=Y
 | [],[],X,Y,_,_,h=>by
  simp only [wxs,List.nil_append,List.cons_append,List.cons.injEq,true_and] at h
  exact ⟨rfl,h⟩
 | [],y::ys,X,Y,_,_,h=>by
  exfalso
  cases ht:ti y.Num with
  | nil=>exact Adh _ ht
  | cons c r=>
   have hc:=Gf y.Num c (by rw [ht]; simp)
   simp only [wxs,Adi y,ht,List.nil_append,List.cons_append,List.cons.injEq] at h
   rw [<-h.1] at hc; exact absurd hc (by decide)
 | x::xs,[],X,Y,_,_,h=>by
  exfalso
  cases ht:ti x.Num with
  | nil=>exact Adh _ ht
  | cons c r=>
   have hc:=Gf x.Num c (by rw [ht]; simp)
   simp only [wxs,Adi x,ht,List.nil_append,List.cons_append,List.cons.injEq] at h
   rw [h.1] at hc; exact absurd hc (by decide)
 | x::xs,y::ys,X,Y,hX,hY,h=>by
  simp only [wxs,List.append_assoc,List.cons_append] at h
  obtain ⟨e1,e2⟩:=Adj x y _ _ (Aj6 _) (Aj6 _) h
  obtain ⟨e3,e4⟩:=Aj8 xs ys X Y hX hY (by simpa using e2)
  exact ⟨by rw [e1,e3],e4⟩
end
mutual
def iR:Bp->Prop
 | ⟨n,l⟩=>I64 n/\iRs l
def iRs:List Bp->Prop
 | []=>True
 | x::xs=>iR x/\iRs xs
end
theorem Auo (i:Bp):iR i↔I64 i.Num/\iRs i.Kids:=by cases i; simp only [iR]
theorem Aup {l:List Bp} (h:iRs l) {a:Bp} (ha:a∈l):iR a:=by
 induction l with
 | nil=>cases ha
 | cons x xs ih=>
  simp only [iRs] at h
  rcases List.mem_cons.1 ha with rfl | ha
  .exact h.1
  .exact ih h.2 ha
mutual
theorem Adk:∀i:Bp,iR i->(wx i).length+1<=24*Dl i
 | ⟨n,l⟩,h=>by
  simp only [iR] at h
  have h1:=Y5 l h.2
  have h2:=Kt h.1
  simp only [wx,Dl,List.length_append]
  by_cases hl:l.length=0
  .rw [if_pos hl]; simp; omega
  .rw [if_neg hl]; simp; omega
theorem Y5:∀l:List Bp,iRs l->(wxs l).length<=24*Fj l
 | [],_=>by simp [wxs,Fj]
 | x::xs,h=>by
  simp only [iRs] at h
  have h1:=Adk x h.1
  have h2:=Y5 xs h.2
  have h3:=Gt x
  simp only [wxs,Fj,List.length_append,List.length_cons]; omega
end
theorem Aj9 (l m:List Bp):Fj (l++m)=Fj l+Fj m:=by
 induction l with
 | nil=>simp [Fj]
 | cons x xs ih=>simp only [List.cons_append,Fj,ih]; omega
theorem Auq (l m:List Bp):iRs (l++m)↔iRs l/\iRs m:=by
 induction l with
 | nil=>simp [iRs]
 | cons x xs ih=>simp only [List.cons_append,iRs,ih,and_assoc]
theorem Adl {n:Int} (h:I64 n):Lr n=some ⟨(Lib.itoa n).toArray⟩:=by unfold Lr; rw [if_pos (show _/\_ from h)]
theorem Aur (n:Int):Kf ⟨(Lib.itoa n).toArray⟩=ti n:=by unfold Kf ti; simp
theorem Aus:∀(k:Nat) (i:Bp) (b:List Int),Dl i<=k->iR i->b.length+24*Dl i<=1099511627776->Oo k i b=some (b++wx i):=by
 intro k
 induction k with
 | zero=>intro i b h; have:=Gt i; omega
 | succ k ih=>
  intro i b h c hb
  have E:=Gt i
  have A:=Ry i.Kids
  have c:=(Auo i).1 c
  have D:=Kt c.1
  rw [Oo,Adi]
  simp only [Gp,Adl c.1,Ad,Fo,Rm,Aur]
  rw [Du (by omega)]
  simp only [Ad]
  by_cases h0:i.Kids.length=0
  .rw [As (by omega),if_pos h0]; simp
  .rw [Am (by omega),if_neg h0]
   simp only [cond_true,Q9,Rm,Ad]
   rw [Du (by simp; omega),Ad]
   have g:=Y5 i.Kids c.2
   have l:∀j,(wxs (i.Kids.take j)).length<=24*Fj i.Kids:=fun j=>by
    have:=Aj4 (i.Kids.take j) (i.Kids.drop j)
    rw [List.take_append_drop] at this
    rw [this,List.length_append] at g; omega
   refine Iy i.Kids (fun j=>((j:Int),b++ti i.Num++[40]++wxs (i.Kids.take j))) (by simp [wxs]) (by omega) ?_ ?_
   .intro j x hj hx h1 h2 h3
    have B:=Pj (Cw hx)
    have f:=Aup c.2 (Cw hx)
    have z:=Adk x f
    have q:=l (j+1)
    have e:wxs (i.Kids.take (j+1))=wxs (i.Kids.take j)++(wx x++[44]):=by rw [Dy hx,Aj4]; simp [wxs]
    rw [e] at q
    simp only [List.length_append,List.length_cons,List.length_nil] at q
    simp only [h1,h2,h3,cond_true,Ad]
    have y:Fj (i.Kids.take j)+Dl x<=Fj i.Kids:=by
     have s:=Aj9 (i.Kids.take (j+1)) (i.Kids.drop (j+1))
     rw [List.take_append_drop,Dy hx,Aj9] at s
     simp only [Fj] at s; omega
    have u:(wxs (i.Kids.take j)).length<=24*Fj (i.Kids.take j):=Y5 _ (by
     have:=(Auq (i.Kids.take j) (i.Kids.drop j)).1 (by rw [List.take_append_drop]; exact c.2)
     exact this.1)
    rw [ih x _ (by omega) f (by simp; omega)]
    simp only [Ad]
    rw [Du (by simp; omega),e]
    simp
   .intro h1
    refine ⟨b++ti i.Num++[40]++wxs i.Kids,by simp,?_⟩
    rw [Du (by simp; omega)]
    simp
def Ht (v:Int) (i:Bp):List Int:=118::(ti v++58::wx i)
def Lk (v:Int) (i:Bp):ByteArray:=⟨(Ew (Ht v i)).toArray⟩
mutual
theorem Aka:∀i:Bp,∀c∈wx i,0<=c/\c<256
 | ⟨n,l⟩,c,h=>by
  simp only [wx,List.mem_append] at h
  rcases h with h | h
  .have:=Gf n c h
   simp only [Mc,Bool.or_eq_true,Dq,beq_iff_eq,decide_eq_true_eq] at this
   omega
  .by_cases hl:l.length=0
   .rw [if_pos hl] at h; cases h
   .rw [if_neg hl] at h
    simp only [List.mem_cons,List.mem_append,List.not_mem_nil,or_false] at h
    rcases h with h | h | h
    .omega
    .exact Akb l c h
    .omega
theorem Akb:∀l:List Bp,∀c∈wxs l,0<=c/\c<256
 | [],c,h=>by simp [wxs] at h
 | x::xs,c,h=>by
  simp only [wxs,List.mem_append,List.mem_cons] at h
  rcases h with h | h | h
  .exact Aka x c h
  .omega
  .exact Akb xs c h
end
theorem Y6 (v:Int) (i:Bp):∀c∈Ht v i,0<=c/\c<256:=by
 intro c h
 simp only [Ht,List.mem_cons,List.mem_append] at h
 rcases h with h | h | h | h
 .omega
 .have:=Gf v c h
  simp only [Mc,Bool.or_eq_true,Dq,beq_iff_eq,decide_eq_true_eq] at this
  omega
 .omega
 .exact Aka i c h
theorem Adm:∀l m:List Int,(∀c∈l,0<=c/\c<256)->(∀c∈m,0<=c/\c<256)->Ew l=Ew m->l=m
 | [],[],_,_,_=>rfl
 | [],_::_,_,_,h=>by simp [Ew] at h
 | _::_,[],_,_,h=>by simp [Ew] at h
 | x::xs,y::ys,h1,h2,h=>by
  simp only [Ew,List.map_cons,List.cons.injEq] at h
  have hx:=h1 x (by simp)
  have hy:=h2 y (by simp)
  have e:x.toNat=y.toNat:=by
   have:=congrArg UInt8.toNat h.1
   rw [UInt8.toNat_ofNat',UInt8.toNat_ofNat'] at this
   omega
  rw [Adm xs ys (fun c hc=>h1 c (by simp [hc])) (fun c hc=>h2 c (by simp [hc])) h.2,show x=y by omega]
theorem Aut {v w:Int} {i j:Bp} (h:Lk v i=Lk w j):v=w/\i=j:=by
 unfold Lk at h
 have h1:(Ew (Ht v i)).toArray=(Ew (Ht w j)).toArray:=by injection h
 have h2:Ew (Ht v i)=Ew (Ht w j):=by simpa using congrArg Array.toList h1
 have h3:=Adm _ _ (Y6 v i) (Y6 w j) h2
 simp only [Ht,List.cons.injEq,true_and] at h3
 have b:∀X:List Int,Jm (58::X):=fun X c m e=>by cases e; decide
 obtain ⟨k,g⟩:=Md _ _ _ _ (Gf v) (Gf w) (b _) (b _) h3
 obtain ⟨f,_⟩:=Adj i j [] [] Aj7 Aj7 (by simpa using (List.cons.inj g).2)
 exact ⟨Pk k,f⟩
theorem Auu (l:List UInt8):Kf ⟨l.toArray⟩=l.map fun b=>(b.toNat:Int):=by unfold Kf; simp
theorem Akc (v:Int) (i:Bp) (c:I64 v) (g:iR i) (q:Dl i<=1048576):L2 v i=some (Lk v i):=by
 have l:=Kt c
 have f:(Lib.itoa v).length=(ti v).length:=by unfold ti; simp
 unfold L2
 have k:Ef (ByteArray.mk #[118]) ⟨(Lib.itoa v).toArray⟩=some ⟨(118::Lib.itoa v).toArray⟩:=by
  unfold Ef
  rw [if_pos]
  .congr 1
  .show 1+(Lib.itoa v).toArray.size<=9223372036854775807
   rw [List.size_toArray]; omega
 have j:Ef ⟨(118::Lib.itoa v).toArray⟩ (ByteArray.mk #[58])=some ⟨(118::(Lib.itoa v++[58])).toArray⟩:=by
  unfold Ef
  rw [if_pos]
  .congr 1
  .show (118::Lib.itoa v).toArray.size+1<=9223372036854775807
   rw [List.size_toArray,List.length_cons]; omega
 simp only [Gp,Adl c,Ad,k,j,H8,T1,Auu]
 rw [Du (by simp; omega)]
 simp only [Ad]
 rw [Aus 4000000 i _ (by omega) g (by simp; omega)]
 simp only [Ad,Jx]
 have h:([]++(118::(Lib.itoa v++[58])).map fun b=>(b.toNat:Int))++wx i=Ht v i:=by
  unfold Ht ti; simp
 rw [h]
 unfold S4 Lk
 rw [if_pos (Y6 v i)]; rfl
end Go.Ab
