/- Plain laws: what the plain functions answer. -/
import Derived.Test.YthjgkpbilpojpaaGreatDoorBzPl0
import Derived.Lib.ItoaLen
namespace Go.Ab
open Go Ieee
theorem Ars (n d:Nat):∃c,Toward.even.cut false n d=c/\(n / 2 ^ d<=c)/\c<=n / 2 ^ d+1/\(n % 2 ^ d=0->c=n / 2 ^ d):=by
 refine ⟨_,rfl,?_⟩
 unfold Toward.cut
 simp only [Nat.shiftLeft_eq,Nat.one_mul]
 by_cases hd:d<=n.log2+2
 .rw [Nat.min_eq_left hd]
  generalize h2:2 ^ d=g
  have h:0<g:=by rw [<-h2]; exact Nat.pow_pos (by decide)
  refine ⟨by omega,?_,fun h0=>?_⟩
  .have:=Bool.toNat_le (decide (g<2*(n % g))||(g==2*(n % g)&&n / g % 2==1))
   omega
  .rw [h0]
   have h1:decide (g<2*0)=false:=by simp
   have h3:(g==2*0)=false:=by simp; omega
   rw [h1,h3]; rfl
 .rw [Nat.min_eq_right (by omega)]
  have b:n<2 ^ (n.log2+1):=Nat.lt_log2_self
  have h:2 ^ (n.log2+2)=2*2 ^ (n.log2+1):=by rw [Nat.pow_succ]; omega
  have f:2 ^ (n.log2+2)<=2 ^ d:=Nat.pow_le_pow_right (by decide) (by omega)
  have l:n / 2 ^ (n.log2+2)=0:=Nat.div_eq_of_lt (by omega)
  have k:n % 2 ^ (n.log2+2)=n:=Nat.mod_eq_of_lt (by omega)
  have j:n / 2 ^ d=0:=Nat.div_eq_of_lt (by omega)
  have i:n % 2 ^ d=n:=Nat.mod_eq_of_lt (by omega)
  rw [l,k,j,i]
  have h1:decide (2 ^ (n.log2+2)<2*n)=false:=by simp; omega
  have h3:(2 ^ (n.log2+2)==2*n)=false:=by simp; omega
  rw [h1,h3]
  exact ⟨by simp,by simp,fun _=>rfl⟩
theorem Rg (f:Nat) (place e:Int) (u:f≠0) (E:place+f.log2=e) (h1 : -1000<=e) (h2:e<=900) :
  ∃(m:Nat) (p:Int),double.read (double.nearest false f place) = .number false m p/\4503599627370496<=m/\m<9007199254740992/\(p=e-52\/(p=e-51/\m=4503599627370496)):=by
 have g:max (place+f.log2-(double.fractionBits:Int)) double.leastPlace=e-52:=by
  have a:(double.fractionBits:Int)=52:=rfl
  have b:double.leastPlace = -1074:=by decide
  rw [a,b,E]; omega
 have hw:double.nearest false f place=min ((e-52+1074).toNat*4503599627370496+Toward.even.cut false (f <<< (place-(e-52)).toNat) ((e-52)-place).toNat) (2047*4503599627370496):=by
  unfold Format.nearest
  rw [if_neg u]
  simp only [g]
  have b:double.leastPlace = -1074:=by decide
  have c:double.binade=4503599627370496:=by decide
  have d:double.infRung=2047*4503599627370496:=by decide
  rw [b,c,d]
  unfold Format.word
  simp only [Bool.false_eq_true,if_false]
  congr 3
 have hk:4503599627370496<=Toward.even.cut false (f <<< (place-(e-52)).toNat) ((e-52)-place).toNat/\Toward.even.cut false (f <<< (place-(e-52)).toNat) ((e-52)-place).toNat<=9007199254740992:=by
  obtain ⟨c,hc,s,q,i⟩:=Ars (f <<< (place-(e-52)).toNat) ((e-52)-place).toNat
  rw [hc]
  have D:2 ^ f.log2<=f:=Nat.log2_self_le u
  have B:f<2 ^ (f.log2+1):=Nat.lt_log2_self
  rw [Nat.shiftLeft_eq] at s q i
  rcases Int.le_total place (e-52) with h | h
  .have z:(place-(e-52)).toNat=0:=by omega
   rw [z,Nat.pow_zero,Nat.mul_one] at s q i
   have hd:f.log2=52+((e-52)-place).toNat:=by omega
   have hp:2 ^ f.log2=4503599627370496*2 ^ ((e-52)-place).toNat:=by rw [hd,Nat.pow_add]
   have l:2 ^ (f.log2+1)=9007199254740992*2 ^ ((e-52)-place).toNat:=by rw [Nat.pow_succ,hp]; omega
   have hpos:0<2 ^ ((e-52)-place).toNat:=Nat.pow_pos (by decide)
   have a1:4503599627370496<=f / 2 ^ ((e-52)-place).toNat:=(Nat.le_div_iff_mul_le hpos).2 (by omega)
   have a2:f / 2 ^ ((e-52)-place).toNat<9007199254740992:=(Nat.div_lt_iff_lt_mul hpos).2 (by omega)
   omega
  .have z:((e-52)-place).toNat=0:=by omega
   rw [z,Nat.pow_zero,Nat.div_one] at s q i
   have I:=i (Nat.mod_one _)
   have hd:52=f.log2+(place-(e-52)).toNat:=by omega
   have hp:2 ^ f.log2*2 ^ (place-(e-52)).toNat=4503599627370496:=by rw [<-Nat.pow_add,<-hd]
   have l:2 ^ (f.log2+1)*2 ^ (place-(e-52)).toNat=9007199254740992:=by rw [Nat.pow_succ,Nat.mul_right_comm,hp]
   have hpos:0<2 ^ (place-(e-52)).toNat:=Nat.pow_pos (by decide)
   have a1:=Nat.mul_le_mul_right (2 ^ (place-(e-52)).toNat) D
   have a2:=Nat.mul_lt_mul_of_pos_right B hpos
   omega
 generalize Toward.even.cut false (f <<< (place-(e-52)).toNat) ((e-52)-place).toNat=c at *
 obtain ⟨t,ht⟩:∃t:Nat,(e-52+1074).toNat=t/\t<=1922/\(t:Int)=e+1022:=⟨_,rfl,by omega,by omega⟩
 rw [ht.1] at hw
 rw [Nat.min_eq_left (by omega)] at hw
 rw [hw]
 have b:double.leastPlace = -1074:=by decide
 have G:double.binade=4503599627370496:=by decide
 have d:double.infRung=2047*4503599627370496:=by decide
 have x:double.signWeight=9223372036854775808:=by decide
 unfold Format.read
 rw [b,G,d,x]
 have A:(t*4503599627370496+c) / 9223372036854775808=0:=Nat.div_eq_of_lt (by omega)
 have y:(t*4503599627370496+c) % 9223372036854775808=t*4503599627370496+c:=Nat.mod_eq_of_lt (by omega)
 simp only [A,y]
 rw [if_neg (by omega),if_pos (by omega)]
 by_cases hc:c<9007199254740992
 .refine ⟨c,e-52,?_,hk.1,hc,.inl rfl⟩
  have k:(t*4503599627370496+c) % 4503599627370496=c-4503599627370496:=by omega
  have j:(t*4503599627370496+c) / 4503599627370496=t+1:=by omega
  rw [k,j,show 4503599627370496+(c-4503599627370496)=c by omega,show (-1074:Int)+((t+1-1:Nat):Int)=e-52 by omega]; rfl
 .have hc:c=9007199254740992:=by omega
  subst hc
  refine ⟨4503599627370496,e-51,?_,by decide,by decide,.inr ⟨rfl,rfl⟩⟩
  have k:(t*4503599627370496+9007199254740992) % 4503599627370496=0:=by omega
  have j:(t*4503599627370496+9007199254740992) / 4503599627370496=t+2:=by omega
  rw [k,j,Nat.add_zero,show (-1074:Int)+((t+2-1:Nat):Int)=e-51 by omega]; rfl
theorem Acd (v:Int) (h:0<=v):floatOfInt .f64 v=double.nearest false v.natAbs 0:=by
 have e:decide (v<0)=false:=Av (by omega)
 show double.nearest (decide (v<0)) v.natAbs 0=_
 rw [e]
theorem Art:double.read 4876203697187506176 = .number false 7812500000000000 7:=by decide
theorem X5 {n k:Nat} (h1:2 ^ k<=n) (h2:n<2 ^ (k+1)):n.log2=k:=(Nat.log2_eq_iff (by have:=Nat.pow_pos (n:=k) (show 0<2 by decide); omega)).2 ⟨h1,h2⟩
theorem Ub {n k:Nat} (h:n<2 ^ (k+1)):n.log2<=k:=by
 by_cases h0:n=0
 .subst h0; simp
 .have:=(Nat.log2_lt h0).2 h; omega
theorem Ace {n k:Nat} (h:2 ^ k<=n):k<=n.log2:=(Nat.le_log2 (by have:=Nat.pow_pos (n:=k) (show 0<2 by decide); omega)).2 h
theorem Aru (x:Int) (h0:1<=x) (h1:x<1000000000):∃(w:Nat) (m:Nat) (p:Int),floatBits .mul .f64 (floatOfInt .f64 x) 4876203697187506176=some w/\double.read w = .number false m p/\4503599627370496<=m/\m<9007199254740992/\7<=p/\(p<=37\/(p=38/\m=4503599627370496)):=by
 have l:x.natAbs.log2<=29:=Ub (by simp; omega)
 obtain ⟨m1,b,g,a1,a2,a3⟩:=Rg x.natAbs 0 (x.natAbs.log2) (by omega) (by omega) (by omega) (by omega)
 have c:(m1*7812500000000000).log2=104\/((m1*7812500000000000).log2=105/\m1≠4503599627370496):=by
  have b1:2 ^ 104<=m1*7812500000000000:=by omega
  have b2:m1*7812500000000000<2 ^ 106:=by omega
  rcases Nat.lt_or_ge (m1*7812500000000000) (2 ^ 105) with h | h
  .exact .inl (X5 b1 h)
  .exact .inr ⟨X5 h b2,by rintro rfl; omega⟩
 obtain ⟨m2,i,f,k,j,q⟩:=Rg (m1*7812500000000000) (b+7) (b+7+(m1*7812500000000000).log2) (by omega) rfl (by omega) (by omega)
 refine ⟨double.nearest false (m1*7812500000000000) (b+7),m2,i,?_,f,k,j,by omega,by omega⟩
 show ((double.read (floatOfInt .f64 x)).product (double.read 4876203697187506176)).map double.write=_
 rw [Acd x (by omega),g,Art]; rfl
theorem Arv (w:Nat) (m:Nat) (p:Int) (hw:double.read w = .number false m p) (M:4503599627370496<=m) (L:m<9007199254740992) (I:7<=p) (j:p<=37\/(p=38/\m=4503599627370496)) (y:Int) (h0:0<=y) (h1:y<1000000000000000000) :
  ∃(w':Nat) (g:Nat) (f:Int),floatBits .add .f64 w (floatOfInt .f64 y)=some w'/\double.read w' = .number false g f/\4503599627370496<=g/\g<9007199254740992/\7<=f/\f<=39:=by
 obtain ⟨c,b,x,V,U⟩:∃(c:Nat) (b:Int),double.read (floatOfInt .f64 y) = .number false c b/\b<=8/\c<9007199254740992/\-1074<=b:=by
  rw [Acd y h0]
  by_cases hy:y.natAbs=0
  .rw [hy]; exact ⟨0,-1074,by decide,by decide,by decide,by decide⟩
  .have Z:y.natAbs.log2<=59:=Ub (by simp; omega)
   obtain ⟨m1,D,A,a1,a2,a3⟩:=Rg y.natAbs 0 (y.natAbs.log2) hy (by omega) (by omega) (by omega)
   exact ⟨m1,D,A,by omega,a2,by omega⟩
 generalize hb:min p b=base
 have ht:∃T:Nat,signed false m (p-base).toNat+signed false c (b-base).toNat=(T:Int)/\T=m*2 ^ (p-base).toNat+c*2 ^ (b-base).toNat:=by
  refine ⟨m <<< (p-base).toNat+c <<< (b-base).toNat,rfl,by rw [Nat.shiftLeft_eq,Nat.shiftLeft_eq]⟩
 obtain ⟨T,t1,t2⟩:=ht
 have G:0<2 ^ (p-base).toNat:=Nat.pow_pos (by decide)
 have i:2 ^ (b-base).toNat<=2 ^ (8-base).toNat:=Nat.pow_le_pow_right (by decide) (by omega)
 have J:m*2 ^ (p-base).toNat<=2 ^ (90-base).toNat:=by
  rcases j with h | ⟨rfl,rfl⟩
  .have e:2 ^ (90-base).toNat=2 ^ (p-base).toNat*2 ^ (90-p).toNat:=by rw [<-Nat.pow_add]; congr 1; omega
   have e2:2 ^ 53<=2 ^ (90-p).toNat:=Nat.pow_le_pow_right (by decide) (by omega)
   rw [e,Nat.mul_comm]
   exact Nat.mul_le_mul_left _ (by omega)
  .have e:2 ^ (90-base).toNat=2 ^ (38-base).toNat*2 ^ 52:=by rw [<-Nat.pow_add]; congr 1; omega
   rw [e,Nat.mul_comm]; omega
 have E:c*2 ^ (b-base).toNat<2 ^ (90-base).toNat:=by
  have e:2 ^ (90-base).toNat=2 ^ (8-base).toNat*2 ^ 82:=by rw [<-Nat.pow_add]; congr 1; omega
  have e3:c*2 ^ (b-base).toNat<=c*2 ^ (8-base).toNat:=Nat.mul_le_mul_left _ i
  have N:0<2 ^ (8-base).toNat:=Nat.pow_pos (by decide)
  have e5:c*2 ^ (8-base).toNat<2 ^ 82*2 ^ (8-base).toNat:=Nat.mul_lt_mul_of_pos_right (by omega) N
  rw [e,Nat.mul_comm (2 ^ (8-base).toNat)]; omega
 have s:T<2 ^ ((90-base).toNat+1):=by rw [Nat.pow_succ]; omega
 have q:2 ^ (52+(p-base).toNat)<=T:=by
  have:2 ^ 52*2 ^ (p-base).toNat<=m*2 ^ (p-base).toNat:=Nat.mul_le_mul_right _ (by omega)
  rw [Nat.pow_add]; omega
 have Y:=Ub s
 have X:=Ace q
 have u:T≠0:=by
  have:=Nat.pow_pos (n:=52+(p-base).toNat) (show 0<2 by decide); omega
 obtain ⟨m3,B,z,S,R,c3⟩:=Rg T base (base+T.log2) u rfl (by omega) (by omega)
 refine ⟨double.nearest false T base,m3,B,?_,z,S,R,by omega,by omega⟩
 show ((double.read w).sum (double.read (floatOfInt .f64 y))).map double.write=_
 rw [hw,x]
 have l:¬((T:Int)=0):=by omega
 have k:decide ((T:Int)<0)=false:=Av (by omega)
 simp only [Datum.sum,hb,t1,if_neg l,k,Option.map_some,Int.natAbs_natCast,Format.write]
theorem Arw {b m N:Nat} {p:Int} (g:double.read b = .number false m p) (i:(Datum.number false m p).toInt .zero=some (N:Int)) (h:N<=9223372036854775808):floatToIntVal .f64 b .u64=some (N:Int):=by
 have hd:FloatKind.f64.decode b = .number false m p:=g
 have f:IntKind.u64.min=0:=by decide
 have c:IntKind.u64.max=18446744073709551615:=by decide
 unfold floatToIntVal
 rw [hd,i]
 simp only [f,c]
 rw [if_pos ⟨by omega,by omega⟩]
theorem Arx (w:Nat) (m:Nat) (p:Int) (hw:double.read w = .number false m p) (R:4503599627370496<=m) (M:m<9007199254740992) (L:7<=p) (J:p<=39) (z:Int) (h0:1000000000<=z) (h1:z<1000000000000000000) :
  ∃(w':Nat) (n:Int),floatBits .quo .f64 w (floatOfInt .f64 z)=some w'/\floatToIntVal .f64 w' .u64=some n/\0<=n/\n<=9223372036854775808:=by
 have U:z.natAbs.log2<=59:=Ub (by simp; omega)
 have S:29<=z.natAbs.log2:=Ace (by simp; omega)
 obtain ⟨f,c,u,a1,a2,a3⟩:=Rg z.natAbs 0 (z.natAbs.log2) (by omega) (by omega) (by omega) (by omega)
 have D:m.log2=52:=X5 (by omega) (by omega)
 have y:f.log2=52:=X5 (by omega) (by omega)
 generalize hq:m*2 ^ 54 / f=q
 generalize l:((m*2 ^ 54 % f != 0).toNat)=s
 have E:s<=1:=by rw [<-l]; exact Bool.toNat_le _
 have I:q<2 ^ 55:=by rw [<-hq]; exact (Nat.div_lt_iff_lt_mul (by omega)).2 (by omega)
 have G:2 ^ 53<=q:=by rw [<-hq]; exact (Nat.le_div_iff_mul_le (by omega)).2 (by omega)
 have B:(2*q+s).log2<=55:=Ub (by omega)
 have A:54<=(2*q+s).log2:=Ace (by omega)
 obtain ⟨m4,b,x,Z,X,Y⟩:=Rg (2*q+s) (p-c-(54:Nat)-1) (p-c-(54:Nat)-1+(2*q+s).log2) (by omega) rfl (by omega) (by omega)
 have j:(Datum.number false m p).quotient (double.fractionBits+2) (Datum.number false f c)=some (.number false (2*q+s) (p-c-(54:Nat)-1)):=by
  have i:¬f=0:=by omega
  have fb:double.fractionBits+2=54:=rfl
  simp only [Datum.quotient,if_neg i,fb,D,y,Nat.shiftLeft_eq,Nat.add_sub_cancel,hq,l,Bool.xor_self]
 have hb:m4*2 ^ b.toNat<=9223372036854775808:=by
  have k:b<=10\/(b=11/\m4=4503599627370496):=by omega
  rcases k with h | ⟨rfl,rfl⟩
  .have:2 ^ b.toNat<=2 ^ 10:=Nat.pow_le_pow_right (by decide) (by omega)
   have:=Nat.mul_le_mul (Nat.le_of_lt X) this
   omega
  .decide
 obtain ⟨N,V,g⟩:∃N:Nat,(Datum.number false m4 b).toInt .zero=some (N:Int)/\N<=9223372036854775808:=by
  refine ⟨(m4 <<< b.toNat) / (1 <<< min (-b).toNat ((m4 <<< b.toNat).log2+2)),?_,?_⟩
  .simp only [Datum.toInt,Datum.integral,Toward.cut,signed,Bool.false_eq_true,if_false,Nat.shiftLeft_zero,Bool.toNat_false,Nat.add_zero]
  .rw [Nat.shiftLeft_eq m4]
   exact Nat.le_trans (Nat.div_le_self _ _) hb
 refine ⟨double.nearest false (2*q+s) (p-c-(54:Nat)-1),(N:Int),?_,?_,by omega,by omega⟩
 .have e:floatBits .quo .f64 w (floatOfInt .f64 z)=((double.read w).quotient (double.fractionBits+2) (double.read (floatOfInt .f64 z))).map double.write:=rfl
  rw [e,hw,Acd z (by omega),u,j]
  simp only [Option.map_some,Format.write]
 .exact Arw x V g
theorem Ary (r n:Nat) (h2:2<=Ba n) (E:Ba r<=Ba n+1) (G:Ba n<1099511627776):∃d:Nat,Tj (Ae r) (Ae n)=some (d:Int)/\d<1000000000:=by
 unfold Tj
 unfold Ba at h2 E G
 have c:n≠0:=by rintro rfl; rw [Et] at h2; simp at h2
 by_cases V:(Ae r).length<(Ae n).length
 .exact ⟨0,by rw [Ao (by omega)]; rfl,by decide⟩
 .rw [Av (by omega),cond_false]
  have y:Ac (((Ae n).length:Int)-1)=(((Ae n).length-1:Nat):Int):=by rw [Ac,Bu] <;> omega
  have u:Ac (((Ae n).length:Int)-2)=(((Ae n).length-2:Nat):Int):=by rw [Ac,Bu] <;> omega
  have i1:(Ae n).length-1<(Ae n).length:=by omega
  have i2:(Ae n).length-2<(Ae n).length:=by omega
  have h:(Ae n).length-1<(Ae r).length:=by omega
  have g:(Ae n).length-2<(Ae r).length:=by omega
  have t1:=(Dx n).get i1
  have t2:=(Dx n).get i2
  have M:=(Dx r).get h
  have L:=(Dx r).get g
  have i:(Ae n)[(Ae n).length-1]≠0:=by
   have:=(Xr n).2 (Gw c)
   rwa [List.getLast_eq_getElem] at this
  rw [y,u,C8 rfl i1,Ad,C8 rfl i2,Ad,C8 rfl h,Ad,C8 rfl g,Ad]
  generalize (Ae n)[(Ae n).length-1]=a1 at *
  generalize (Ae n)[(Ae n).length-2]=a2 at *
  generalize (Ae r)[(Ae n).length-1]=b1 at *
  generalize (Ae r)[(Ae n).length-2]=b2 at *
  have l:Au (Au (Au b1*1000000000)+Au b2)=b1*1000000000+b2:=by
   rw [show Au b1=b1 from Cp (by omega) (by omega),show Au b2=b2 from Cp (by omega) (by omega),show Au (b1*1000000000)=b1*1000000000 from Cp (by omega) (by omega)]
   exact Cp (by omega) (by omega)
  have j:Au (Au (Au a1*1000000000)+Au a2)=a1*1000000000+a2:=by
   rw [show Au a1=a1 from Cp (by omega) (by omega),show Au a2=a2 from Cp (by omega) (by omega),show Au (a1*1000000000)=a1*1000000000 from Cp (by omega) (by omega)]
   exact Cp (by omega) (by omega)
  rw [l,j]
  by_cases X:(Ae r).length=(Ae n).length
  .rw [Fu (by omega),cond_true,I5 (by omega) (by omega) (by omega),Ad]
   have R:0<=(b1*1000000000+b2) / (a1*1000000000+a2):=Int.ediv_nonneg (by omega) (by omega)
   have N:(b1*1000000000+b2) / (a1*1000000000+a2)<1000000000:=Int.ediv_lt_of_lt_mul (by omega) (by omega)
   exact ⟨((b1*1000000000+b2) / (a1*1000000000+a2)).toNat,by congr 1; omega,by omega⟩
  .have hk:(Ae n).length<(Ae r).length:=by omega
   have b:r≠0:=by rintro rfl; rw [Et] at hk; simp at hk
   have J:=(Dx r).get hk
   have f:(Ae r)[(Ae n).length]≠0:=by
    have:=(Xr r).2 (Gw b)
    rw [List.getLast_eq_getElem] at this
    have e:(Ae r).length-1=(Ae n).length:=by omega
    simpa [e] using this
   rw [C2 (by omega),cond_false,C8 rfl hk,Ad]
   generalize (Ae r)[(Ae n).length]=x at *
   obtain ⟨s,m3,A,f1,f2,f3,f4,f5,f6⟩:=Aru x (by omega) (by omega)
   obtain ⟨q,m4,z,g1,g2,g3,g4,g5,g6⟩:=Arv s m3 A f2 f3 f4 f5 f6 (b1*1000000000+b2) (by omega) (by omega)
   obtain ⟨I,k,D,B,U,S⟩:=Arx q m4 z g2 g3 g4 g5 g6 (a1*1000000000+a2) (by omega) (by omega)
   rw [f1,Ad,g1,Ad,D,Ad,B,Ad,show Au (k+2)=k+2 from Cp (by omega) (by omega)]
   by_cases hc:(999999999:Int)<k+2
   .exact ⟨999999999,by rw [if_pos hc]; rfl,by decide⟩
   .exact ⟨(k+2).toNat,by rw [if_neg hc]; congr 1; omega,by omega⟩
end Go.Ab
namespace Go.Ab
open Go
theorem Arz (x r:Nat):Ba (x % 1000000000+1000000000*r)<=Ba r+1:=by
 apply I7
 have:=Lb r
 rw [Nat.pow_succ]
 omega
set_option maxHeartbeats 1000000 in
theorem Acf (m n:Nat) (hm:Ba m<137438953472) (hn:Ba n<137438953472) (D:n≠0):Oe (Ae m) (Ae n)=some (Ae (m / n),Ae (m % n)):=by
 unfold Oe
 rw [X3,Ra m n (by omega) (by omega),Ad]
 have ag:=hm
 have af:=hn
 unfold Ba at hm hn
 by_cases l:m<n
 .rw [show Ee m n = -1 by rw [Ee,if_pos l],Ao (by decide:(-1:Int)<0),cond_true,O4 _ (by omega),Ad,Aq9 (Xr m),Nat.div_eq_of_lt l,Nat.mod_eq_of_lt l,Et]
 .rw [Av (show ¬Ee m n<0 by rw [Ee,if_neg l]; split <;> decide),cond_false]
  have aa:(Ae n).length≠0:=fun e=>Gw D (List.length_eq_zero_iff.1 e)
  by_cases h1:(Ae n).length=1
  .rw [Fu (by omega:((Ae n).length:Int)=1),cond_true]
   have B:n<1000000000:=by
    have:=Lb n
    rw [show Ba n=1 from h1] at this
    simpa using this
   have Z:Ae n = [(n:Int)]:=by
    rw [Ko D,Nat.div_eq_of_lt B,Et,Nat.mod_eq_of_lt B]
   rw [Z,show Af [(n:Int)] 0=some (n:Int) from rfl,Ad,show Au (n:Int)=n from Cp (by omega) (by omega),Arp m n (by omega) (by omega) (by omega),Ad]
   have a8:m % n<n:=Nat.mod_lt _ (by omega)
   rw [X2,Nc (m % n) (by omega),Ad]
  .rw [C2 (by omega:((Ae n).length:Int)≠1),cond_false]
   have hw:Ac (((Ae m).length:Int)-1)=((Ae m).length:Int)-1:=by rw [Ac,Bu] <;> omega
   rw [Ht rfl rfl (Nat.le_refl _) (by omega) (by omega),hw]
   simp only [Ad]
   have ha:=Dx m
   refine Gp (fun (r,i,q)=>∃(k R:Nat),r=Ae R/\i=(k:Int)-1/\k<=(Ae m).length/\R<n/\q.length=(Ae m).length/\Bn q/\Ah (q.drop k)*n+R=Ah ((Ae m).drop k))
    (fun (_,i,_)=>(i+1).toNat) (fun (r,q)=>∃R:Nat,r=Ae R/\R<n/\q.length=(Ae m).length/\Bn q/\Ah q*n+R=m)
    ⟨(Ae m).length,0,by rw [Et],rfl,Nat.le_refl _,by omega,by simp,Bn.replicate _,by simp [Ah]⟩ ?_ ?_
   .rintro ⟨r,i,q⟩ ⟨k,R,rfl,rfl,hk,J,u,g,A⟩
    cases k with
    | zero=>exact .inr ⟨(Ae R,q),by simp,R,rfl,J,u,g,by simpa [D7] using A⟩
    | succ j=>
     have U:j<(Ae m).length:=by omega
     have E:j<q.length:=by omega
     have hx:=ha.get U
     obtain ⟨x,y⟩:∃x:Nat,(Ae m)[j]=(x:Int):=⟨(Ae m)[j].toNat,by omega⟩
     have L:x<1000000000:=by omega
     have e0:((j+1:Nat):Int)-1=(j:Int):=by omega
     have e1:decide ((j:Int)>=0)=true:=Ao (by omega)
     have a1:Ba R<=Ba n:=G5 (by omega)
     have ad:Ba (x+1000000000*R)<=Ba R+1:=by
      have:=Arz x R
      rwa [Nat.mod_eq_of_lt L] at this
     have ai:(Ae R).length<=(Ae n).length:=a1
     have G:H7 ((x:Int)::Ae R)=some (Ae (x+1000000000*R)):=by
      rw [O4 _ (by simp; omega)]
      congr 1
      refine I6 ?_ ?_
      .intro d hd
       rcases List.mem_cons.1 hd with rfl | hd
       .omega
       .exact Dx R d hd
      .simp only [Ah,D7]; omega
     obtain ⟨d0,V,ah⟩:=Ary (x+1000000000*R) n (by unfold Ba; omega) (by omega) (by omega)
     generalize a7:x+1000000000*R=f at *
     have ac:f<1000000000*n:=by omega
     have s:∀d:Nat,d<18446744073709551616->Lt (d:Int)=some (Ae d)/\Jq (Ae n) (Ae d)=some (Ae (n*d)):=by
      intro d hd
      have:=Nb hd
      exact ⟨by rw [X2,Nc d hd],Rf n d (by omega) (by omega)⟩
     have I:∀d:Nat,d<18446744073709551616->My (Ae (n*d)) (Ae f)=some (Ee (n*d) f):=by
      intro d hd
      have h3:=Nb hd
      have h4:=F9 n d
      rw [X3,Ra _ _ (by omega) (by omega)]
     simp only [e0,e1,cond_true,C8 rfl U,y,Ad,Dp (show ([(x:Int)].length+(Ae R).length)*4<=_ by simp; omega),List.singleton_append,G,V]
     refine .inl (O2 (D6 (fun d=>∃e:Nat,d=e/\e<=d0) (fun d=>d.toNat) (fun d=>∃e:Nat,d=e/\e<=d0/\n*e<=f) ⟨d0,rfl,Nat.le_refl _⟩ ?_ ?_))
     .rintro d ⟨e,rfl,he⟩
      by_cases Y:e=0
      .subst Y
       exact .inr ⟨0,rfl,0,rfl,by omega,by simp⟩
      .obtain ⟨m1,m2⟩:=s e (by omega)
       simp only [Ao (by omega:(e:Int)>0),cond_true,m1,m2,I e (by omega),Ad]
       by_cases hc:f<n*e
       .refine .inl ⟨((e-1:Nat):Int),?_,⟨e-1,rfl,by omega⟩,by simp; omega⟩
        rw [show Ee (n*e) f=1 by rw [Ee,if_neg (by omega),if_pos hc],show decide ((1:Int)>0)=true from rfl,cond_true,show Au ((e:Int)-1)=((e-1:Nat):Int) by rw [Au,Cp] <;> omega]
       .refine .inr ⟨(e:Int),?_,e,rfl,he,by omega⟩
        rw [Av (show ¬Ee (n*e) f>0 by rw [Ee,if_neg hc]; split <;> decide),cond_false]
     .rintro d ⟨e,rfl,he,N⟩
      obtain ⟨m1,m2⟩:=s e (by omega)
      simp only [m1,m2,Ad,X4 f (n*e) (by omega) N]
      refine D6 (fun (r,d)=>∃(c b:Nat),r=Ae c/\d=b/\n*b+c=f) (fun (r,_)=>(Ah r).toNat) (fun (r,d)=>∃(c b:Nat),r=Ae c/\d=b/\n*b+c=f/\c<n) ⟨f-n*e,e,rfl,rfl,by omega⟩ ?_ ?_
      .rintro ⟨r,d⟩ ⟨c,b,rfl,rfl,M⟩
       have ab:Ba c<=Ba f:=G5 (by omega)
       have X:b<1000000000:=by
        rcases Nat.lt_or_ge b 1000000000 with h | h
        .exact h
        .exfalso
         have:n*1000000000<=n*b:=Nat.mul_le_mul_left n h
         omega
       simp only [X3,Ra c n (by omega) (by omega),Ad]
       by_cases hc:c<n
       .refine .inr ⟨(Ae c,(b:Int)),?_,c,b,rfl,rfl,M,hc⟩
        rw [Av (show ¬Ee c n>=0 by rw [Ee,if_pos hc]; decide),cond_false]
       .refine .inl ⟨(Ae (c-n),((b+1:Nat):Int)),?_,⟨c-n,b+1,rfl,rfl,?_⟩,?_⟩
        .rw [Ao (show Ee c n>=0 by rw [Ee,if_neg hc]; split <;> decide),cond_true,X4 c n (by omega) (by omega),Ad,show Au ((b:Int)+1)=((b+1:Nat):Int) by rw [Au,Cp] <;> omega]
        .rw [Nat.mul_add]; omega
        .simp only [D7]; omega
      .rintro ⟨r,d⟩ ⟨c,b,rfl,rfl,M,a6⟩
       have X:b<1000000000:=by
        rcases Nat.lt_or_ge b 1000000000 with h | h
        .exact h
        .exfalso
         have:n*1000000000<=n*b:=Nat.mul_le_mul_left n h
         omega
       have w1:B1 (b:Int)=b:=Er (by omega) (by omega)
       have w8:Ac ((j:Int)-1)=(j:Int)-1:=by rw [Ac,Bu] <;> omega
       refine ⟨_,by simp only [C8 rfl E,Ad,w1,w8,E7 rfl],(Ae c,(j:Int)-1,q.set j (b:Int)),rfl,⟨j,c,rfl,rfl,by omega,a6,by simpa using u,g.set _ (by omega) (by omega),?_⟩,by simp⟩
       have d1:(q.set j (b:Int)).drop j=(b:Int)::q.drop (j+1):=by
        rw [List.drop_eq_getElem_cons (by simpa using E),List.drop_set_of_lt (by omega)]; simp
       rw [d1,List.drop_eq_getElem_cons U,y]
       simp only [Ah]
       rw [<-A]
       have:((n*b+c:Nat):Int)=((x+1000000000*R:Nat):Int):=by rw [M,a7]
       simp only [Int.natCast_add,Int.natCast_mul] at this
       grind
   .rintro ⟨r,q⟩ ⟨R,rfl,J,u,g,A⟩
    dsimp only
    have ae:=Fh g.u32
    obtain ⟨Q,hQ⟩:∃Q:Nat,Ah q=Q:=⟨(Ah q).toNat,by omega⟩
    rw [hQ] at A
    have z:Q*n+R=m:=by
     have:((Q*n+R:Nat):Int)=(m:Int):=by simp only [Int.natCast_add,Int.natCast_mul]; exact A
     omega
    have hd:m / n=Q:=by rw [<-z,Nat.mul_comm,Nat.mul_add_div (by omega),Nat.div_eq_of_lt J]; rfl
    have S:m % n=R:=by rw [<-z,Nat.mul_comm,Nat.mul_add_mod,Nat.mod_eq_of_lt J]
    rw [O4 q (by omega),Ad,I6 g hQ,hd,S]
theorem Ar0 (m n:Nat) (h:Ba m<137438953472) (g:Ba n<137438953472):S3 (Ae m) (Ae n)=some (Ae (Nat.gcd m n)):=by
 unfold S3
 refine Gp (fun (a,b)=>∃x y:Nat,a=Ae x/\b=Ae y/\Ba x<137438953472/\Ba y<137438953472/\Nat.gcd x y=Nat.gcd m n) (fun (_,b)=>(Ah b).toNat)
  (fun r=>r=Ae (Nat.gcd m n)) ⟨m,n,rfl,rfl,h,g,rfl⟩ ?_ (by rintro e rfl; rfl)
 rintro ⟨a,b⟩ ⟨x,y,rfl,rfl,hx,hy,f⟩
 by_cases c:y=0
 .subst c
  refine .inr ⟨Ae x,by rw [Et]; rfl,?_⟩
  rw [<-f,Nat.gcd_zero_right]
 .have i:(Ae y).length≠0:=fun e=>Gw c (List.length_eq_zero_iff.1 e)
  have j:decide (((Ae y).length:Int)>0)=true:=Ao (by omega)
  refine .inl ⟨(Ae y,Ae (x % y)),?_,⟨y,x % y,rfl,rfl,hy,by have:=G5 (Nat.mod_le x y); omega,?_⟩,?_⟩
  .simp only [j,cond_true,Acf x y hx hy c,Ad]
  .rw [<-f,Nat.gcd_comm y,<-Nat.gcd_rec,Nat.gcd_comm]
  .simp only [D7]
   have:=Nat.mod_lt x (by omega:y>0)
   omega
end Go.Ab
namespace Go.Ab
open Go
def L1 (b:Bool) (n d:Nat):Ak:=if d=0 then ⟨false,[],[1]⟩ else Bg b n d
theorem X6 {n:Nat} (h:n≠0):(Ae n).length≠0:=fun e=>Gw h (List.length_eq_zero_iff.1 e)
theorem Acg (c:Bool) (a b:List Int) (ha:Kn a) (hb:Kn b) (s:a.length<137438953400) (q:b.length<137438953400):I0 c a b=some (L1 c (Ah a).toNat (Ah b).toNat):=by
 unfold I0
 have h1:=Xz ha
 have h2:=Xz hb
 rw [Aii a ha (by omega),Ad,Aii b hb (by omega),Ad]
 generalize (Ah a).toNat=n at *
 generalize (Ah b).toNat=d at *
 by_cases g:n=0
 .subst g
  have:L1 c 0 d=⟨false,[],[1]⟩:=by unfold L1; split <;> simp [Bg]
  rw [this,Et]; rfl
 .have k:=X6 g
  by_cases hd:d=0
  .subst hd
   simp only [C2 (by omega:((Ae n).length:Int)≠0),cond_false,Et,Ad]
   rfl
  .have l:=X6 hd
   have f:Nat.gcd n d≠0:=by have:=Nat.gcd_pos_of_pos_left d (by omega:0<n); omega
   have x:Ba (Nat.gcd n d)<=Ba n:=G5 (Nat.gcd_le_left d (by omega:0<n))
   simp only [C2 (by omega:((Ae n).length:Int)≠0),cond_false,C2 (by omega:((Ae d).length:Int)≠0),Ad,Ar0 n d (by omega) (by omega)]
   rw [L1,if_neg hd,Bg,if_neg g]
   have key:(bif (((Ae (Nat.gcd n d)).length:Int) != (1:Int)) then some true else ((Af (Ae (Nat.gcd n d)) 0).bind fun j=>some (j != (1:Int))))=some (decide (Nat.gcd n d≠1)):=by
    have h3:=Ab7 (Nat.gcd n d)
    unfold On at h3
    by_cases u:(Ae (Nat.gcd n d)).length=1
    .rw [Fu (by omega:((Ae (Nat.gcd n d)).length:Int)=1),cond_true] at h3
     rw [F8 (by omega:((Ae (Nat.gcd n d)).length:Int)=1),cond_false]
     cases i:Af (Ae (Nat.gcd n d)) 0 with
     | none=>rw [i] at h3; cases h3
     | some v=>
      rw [i] at h3
      simp only [Ad] at h3 ⊢
      have h3:=Option.some.inj h3
      congr 1
      rw [bne,h3]; simp
    .rw [C2 (by omega:((Ae (Nat.gcd n d)).length:Int)≠1),cond_false] at h3
     rw [Fv (by omega:((Ae (Nat.gcd n d)).length:Int)≠1),cond_true]
     have h3:=Option.some.inj h3
     have:Nat.gcd n d≠1:=by simpa using h3.symm
     rw [Ao this]
   rw [key,Ad]
   by_cases h:Nat.gcd n d=1
   .rw [Av (by simpa using h),cond_false,h]; simp
   .rw [Ao h,cond_true,Acf n _ (by omega) (by omega) f,Ad,Acf d _ (by omega) (by omega) f,Ad]
theorem Ar1 (a:Ak):L1 a.Neg (Ah a.Num).toNat (Ah a.Den).toNat=Bg (sv a) (nv a) (dv a):=by
 unfold L1 sv nv dv
 by_cases b:(Ah a.Num).toNat=0
 .simp [b,Bg]
 .by_cases hd:(Ah a.Den).toNat=0
  .simp [hd,Bg]
  .simp [b,hd]
theorem Rh (a:Ak) (k:Nat) (h:RB k a) (hk:k<137438953400):K2 a=some (Bg (sv a) (nv a) (dv a)):=by
 unfold K2
 have:=h.nl
 have:=h.dl
 rw [Acg _ _ _ h.num h.den (by omega) (by omega),Ad,Ar1]
theorem Uc (s:Bool) (n d:Nat) (hd:d≠0):(Bg s n d).Num=Ae (nv (Bg s n d))/\(Bg s n d).Den=Ae (dv (Bg s n d))/\(Bg s n d).Neg=sv (Bg s n d):=by
 obtain ⟨h1,h2,h3,c⟩:=X1 s n d hd
 rw [h1,h2]
 by_cases h0:n=0
 .subst h0
  rw [c rfl,Ua]
  have b:d / Nat.gcd 0 d=1:=by rw [Nat.gcd_zero_left]; exact Nat.div_self (by omega)
  rw [b,Nat.zero_div,Et,Rb]; exact ⟨rfl,rfl,rfl⟩
 .rw [h3 h0]; simp [Bg,h0]
theorem Ri (a:Ak):∃g:Nat,g≠0/\nv a=g*nv (Bg (sv a) (nv a) (dv a))/\dv a=g*dv (Bg (sv a) (nv a) (dv a))/\sv (Bg (sv a) (nv a) (dv a))=sv a:=by
 obtain ⟨h1,h2,h3,b⟩:=X1 (sv a) (nv a) (dv a) (D8 a)
 have hd:=D8 a
 have c:0<Nat.gcd (nv a) (dv a):=Nat.gcd_pos_of_pos_right _ (by omega)
 refine ⟨Nat.gcd (nv a) (dv a),by omega,?_,?_,?_⟩
 .rw [h1]; exact (Nat.mul_div_cancel' (Nat.gcd_dvd_left _ _)).symm
 .rw [h2]; exact (Nat.mul_div_cancel' (Nat.gcd_dvd_right _ _)).symm
 .by_cases h0:nv a=0
  .rw [b h0]
   unfold nv at h0
   unfold sv
   split at h0
   .rename_i hc; rw [if_pos hc]
   .omega
  .exact h3 h0
theorem Ar2 (s:Bool) (n d:Nat) (h:d≠0):L1 s n d=Bg s n d:=by rw [L1,if_neg h]
theorem Rj (b:Bool) (n d:Nat) (f:Ba n<137438953400) (hd:Ba d<137438953400) (c:d≠0):I0 b (Ae n) (Ae d)=some (Bg b n d):=by
 unfold Ba at f hd
 rw [Acg b _ _ (Dx n).u32 (Dx d).u32 f hd,D7,D7,Int.toNat_natCast,Int.toNat_natCast,Ar2 _ _ _ c]
theorem Ach {k:Nat} {a:Ak} (h:RB k a):RB (k+1) (Bg (sv a) (nv a) (dv a)):=Kq _ _ _ _ h.nv h.dv (by omega)
theorem X7 {k:Nat} {a:Ak} (h:RB k a):Ba (nv (Bg (sv a) (nv a) (dv a)))<=k+1/\Ba (dv (Bg (sv a) (nv a) (dv a)))<=k+1:=by
 obtain ⟨g,b,h1,h2,_⟩:=Ri a
 have a1:=h.nv
 have a2:=h.dv
 refine ⟨Nat.le_trans (G5 ?_) a1,Nat.le_trans (G5 ?_) a2⟩
 .exact Nat.le_trans (Nat.le_mul_of_pos_left _ (by omega)) (Nat.le_of_eq h1.symm)
 .exact Nat.le_trans (Nat.le_mul_of_pos_left _ (by omega)) (Nat.le_of_eq h2.symm)
theorem Ar3 (l:Bool) (c j:Nat) (k:Bool) (b i g h:Nat) (x:g≠0) (hh:h≠0):I9 l (g*c) (g*j) k (h*b) (h*i)=g*h*I9 l c j k b i/\Kp l (g*c) (g*j) k (h*b) (h*i)=Kp l c j k b i:=by
 have u:g*c*(h*i)=g*h*(c*i):=by grind
 have s:h*b*(g*j)=g*h*(b*j):=by grind
 have hc:(g*h*(b*j)<=g*h*(c*i))↔(b*j<=c*i):=Nat.mul_le_mul_left_iff (Nat.mul_pos (by omega) (by omega))
 unfold I9 Kp
 rw [u,s]
 by_cases q:l=k
 .simp only [if_pos q]
  exact ⟨by rw [Nat.mul_add],trivial⟩
 .simp only [if_neg q]
  by_cases f:b*j<=c*i
  .simp only [if_pos f,if_pos (hc.2 f)]
   exact ⟨by rw [Nat.mul_sub],trivial⟩
  .simp only [if_neg f,if_neg (fun h=>f (hc.1 h))]
   exact ⟨by rw [Nat.mul_sub],trivial⟩
theorem Ar4 (a b:Ak) (j k:Nat) (ha:RB j a) (hb:RB k b) (I:j<34359738368) (hk:k<34359738368) :
  Od a b=some (Bg (Kp (sv a) (nv a) (dv a) (sv b) (nv b) (dv b)) (I9 (sv a) (nv a) (dv a) (sv b) (nv b) (dv b)) (dv a*dv b)):=by
 unfold Od
 rw [Rh a j ha (by omega),Ad,Rh b k hb (by omega),Ad]
 obtain ⟨g,l,a1,a2,a3⟩:=Ri a
 obtain ⟨h,hh,b1,b2,A⟩:=Ri b
 obtain ⟨f1,f2,f3⟩:=Uc (sv a) (nv a) (dv a) (D8 a)
 obtain ⟨y,x,u⟩:=Uc (sv b) (nv b) (dv b) (D8 b)
 obtain ⟨G,E⟩:=X7 ha
 obtain ⟨D,B⟩:=X7 hb
 rw [f1,f2,f3,y,x,u,a3,A]
 generalize hc:Bg (sv a) (nv a) (dv a)=c at *
 generalize hd:Bg (sv b) (nv b) (dv b)=d at *
 have m1:=F9 (nv c) (dv d)
 have m2:=F9 (nv d) (dv c)
 have m3:=F9 (dv c) (dv d)
 have m4:=Abz (nv c*dv d) (nv d*dv c)
 have m5:=G5 (Nat.sub_le (nv c*dv d) (nv d*dv c))
 have m6:=G5 (Nat.sub_le (nv d*dv c) (nv c*dv d))
 have z:dv c*dv d≠0:=Nat.mul_ne_zero (D8 c) (D8 d)
 obtain ⟨s,q⟩:=Ar3 (sv a) (nv c) (dv c) (sv b) (nv d) (dv d) g h l hh
 rw [a1,a2,b1,b2,s,q,show g*dv c*(h*dv d)=g*h*(dv c*dv d) by grind,L0 _ _ _ _ (Nat.mul_ne_zero l hh)]
 rw [Rf _ _ (by omega) (by omega),Ad,Rf _ _ (by omega) (by omega),Ad,Rf _ _ (by omega) (by omega),Ad]
 unfold Kp I9
 by_cases i:sv a=sv b
 .have e:(sv a==sv b)=true:=by rw [i]; exact beq_self_eq_true _
  rw [e,cond_true,Arr _ _ (by omega) (by omega),Ad,Rj _ _ _ (by omega) (by omega) z,Ad,if_pos i,if_pos i]
 .have e:(sv a==sv b)=false:=by simpa using i
  rw [e,cond_false,X3,Ra _ _ (by omega) (by omega),Ad,if_neg i,if_neg i]
  by_cases f:nv d*dv c<=nv c*dv d
  .rw [Ao (show Ee (nv c*dv d) (nv d*dv c)>=0 by rw [Ee,if_neg (by omega)]; split <;> decide),cond_true,X4 _ _ (by omega) f,Ad,Rj _ _ _ (by omega) (by omega) z,Ad,if_pos f,if_pos f]
  .rw [Av (show ¬Ee (nv c*dv d) (nv d*dv c)>=0 by rw [Ee,if_pos (by omega)]; decide),cond_false,X4 _ _ (by omega) (by omega),Ad,Rj _ _ _ (by omega) (by omega) z,Ad,if_neg f,if_neg f]
theorem Ar5 (a:Ak) (k:Nat) (h:RB k a) (hk:k<137438953400):Qa a=some (G6 (sv a) (nv a)):=by
 unfold Qa
 rw [Rh a k h hk,Ad]
 obtain ⟨g,b,a1,a2,a3⟩:=Ri a
 obtain ⟨f1,f2,f3⟩:=Uc (sv a) (nv a) (dv a) (D8 a)
 rw [f1,f3,a3,G6]
 by_cases h0:nv a=0
 .have:nv (Bg (sv a) (nv a) (dv a))=0:=by
   rw [h0] at a1
   rcases Nat.mul_eq_zero.1 a1.symm with h | h
   .exact (b h).elim
   .rw [h0]; exact h
  rw [this,Et,if_pos h0]; rfl
 .have:nv (Bg (sv a) (nv a) (dv a))≠0:=by
   intro e; rw [e,Nat.mul_zero] at a1; exact h0 a1
  have:=X6 this
  rw [C2 (by omega),cond_false,if_neg h0]
  cases sv a <;> rfl
theorem Ar6 (a:Ak) (k:Nat) (h:RB k a) (hk:k<137438953400):S0 a=some (Bg (!sv a) (nv a) (dv a)):=by
 unfold S0
 have:=h.nl
 have:=h.dl
 rw [Acg _ _ _ h.num h.den (by omega) (by omega),Ad]
 congr 1
 unfold L1 sv nv dv
 by_cases b:(Ah a.Num).toNat=0
 .simp [b,Bg]
 .by_cases hd:(Ah a.Den).toNat=0
  .simp [hd,Bg]
  .simp [b,hd]
theorem Ar7 (z:Int) (h1 : -9223372036854775808<=z) (h2:z<=9223372036854775807):H5 z=some (Bg (decide (z<0)) z.natAbs 1):=by
 unfold H5
 have j:=Nb (n:=z.natAbs) (by omega)
 have c:([1]:List Int)=Ae 1:=Rb.symm
 by_cases h:z<0
 .have i:Ac (z+1)=z+1:=Bu (by omega) (by omega)
  have g:Ac (0-(z+1))=0-(z+1):=Bu (by omega) (by omega)
  have f:Au (0-(z+1))=0-(z+1):=Cp (by omega) (by omega)
  have b:Au (0-(z+1)+1)=((z.natAbs:Nat):Int):=by rw [Au,Cp (by omega) (by omega)]; omega
  rw [Ao h,cond_true,i,g,f,b,X2,Nc _ (by omega),Ad,c,Rj _ _ _ (by omega) (by rw [Lc]; decide) (by decide),Ad]
 .have b:Au z=((z.natAbs:Nat):Int):=by rw [Au,Cp (by omega) (by omega)]; omega
  rw [Av h,cond_false,b,X2,Nc _ (by omega),Ad,c,Rj _ _ _ (by omega) (by rw [Lc]; decide) (by decide),Ad]
theorem Ar8 (a b:Ak) (j k:Nat) (ha:RB j a) (hb:RB k b) (E:j<34359738368) (hk:k<34359738368) (i:nv b≠0):P5 a b=some (Bg (sv a != sv b) (nv a*dv b) (dv a*nv b),true):=by
 unfold P5
 rw [Rh a j ha (by omega),Ad,Rh b k hb (by omega),Ad]
 obtain ⟨g,l,a1,a2,a3⟩:=Ri a
 obtain ⟨h,hh,b1,b2,x⟩:=Ri b
 obtain ⟨f1,f2,f3⟩:=Uc (sv a) (nv a) (dv a) (D8 a)
 obtain ⟨u,s,q⟩:=Uc (sv b) (nv b) (dv b) (D8 b)
 obtain ⟨D,B⟩:=X7 ha
 obtain ⟨A,y⟩:=X7 hb
 rw [f1,f2,f3,u,s,q,a3,x]
 generalize hc:Bg (sv a) (nv a) (dv a)=c at *
 generalize hd:Bg (sv b) (nv b) (dv b)=d at *
 have m1:=F9 (nv c) (dv d)
 have m2:=F9 (dv c) (nv d)
 have f:nv d≠0:=by intro e; rw [e,Nat.mul_zero] at b1; exact i b1
 have z:dv c*nv d≠0:=Nat.mul_ne_zero (D8 c) f
 have:=X6 f
 rw [C2 (by omega),cond_false,Rf _ _ (by omega) (by omega),Ad,Rf _ _ (by omega) (by omega),Ad,Rj _ _ _ (by omega) (by omega) z,Ad]
 rw [a1,a2,b1,b2,show g*nv c*(h*dv d)=g*h*(nv c*dv d) by grind,show g*dv c*(h*nv d)=g*h*(dv c*nv d) by grind,L0 _ _ _ _ (Nat.mul_ne_zero l hh)]
end Go.Ab
namespace Go.Ab
open Go
theorem X8 (s:Bool) (n d:Nat) (hd:d≠0):∃g:Nat,g≠0/\n=g*nv (Bg s n d)/\d=g*dv (Bg s n d)/\(n≠0->sv (Bg s n d)=s)/\(n=0->sv (Bg s n d)=false):=by
 obtain ⟨h1,h2,h3,b⟩:=X1 s n d hd
 have c:0<Nat.gcd n d:=Nat.gcd_pos_of_pos_right _ (by omega)
 exact ⟨Nat.gcd n d,by omega,by rw [h1]; exact (Nat.mul_div_cancel' (Nat.gcd_dvd_left _ _)).symm,by rw [h2]; exact (Nat.mul_div_cancel' (Nat.gcd_dvd_right _ _)).symm,h3,b⟩
theorem Ar9 (s t:Bool) (n d m e:Nat) (hd:d≠0) (l:e≠0):Bg (sv (Bg s n d) != sv (Bg t m e)) (nv (Bg s n d)*nv (Bg t m e)) (dv (Bg s n d)*dv (Bg t m e))=Bg (s != t) (n*m) (d*e):=by
 obtain ⟨g,k,a1,a2,a3,_⟩:=X8 s n d hd
 obtain ⟨h,hh,b1,b2,u,_⟩:=X8 t m e l
 have q:Bg (s != t) (n*m) (d*e)=Bg (sv (Bg s n d) != sv (Bg t m e)) (n*m) (d*e):=by
  apply Aig
  intro b
  have i:n≠0:=fun e=>b (by rw [e]; simp)
  have j:m≠0:=fun e=>b (by rw [e]; simp)
  rw [a3 i,u j]
 rw [q]
 generalize Bg s n d=c at *
 generalize Bg t m e=f at *
 rw [a1,a2,b1,b2,show g*nv c*(h*nv f)=g*h*(nv c*nv f) by grind,show g*dv c*(h*dv f)=g*h*(dv c*dv f) by grind,L0 _ _ _ _ (Nat.mul_ne_zero k hh)]
def Fc (n:Nat):Nat->Nat
 | 0=>1
 | k+1=>Fc n k*(n-k)
def fct:Nat->Nat
 | 0=>1
 | k+1=>fct k*(k+1)
theorem Ud:∀k,fct k≠0
 | 0=>by decide
 | k+1=>Nat.mul_ne_zero (Ud k) (by omega)
theorem Asa {n k:Nat} (h:n<k):Fc n k=0:=by
 induction k with
 | zero=>omega
 | succ k ih=>
  simp only [Fc]
  rcases Nat.lt_or_ge n k with h' | h'
  .rw [ih h']; simp
  .have:n-k=0:=by omega
   rw [this]; simp
theorem Asb (n k:Nat) (b:n<1000000000):Ba (Fc n k)<=k+1:=by
 induction k with
 | zero=>simp [Fc,Lc]
 | succ k ih=>
  have h1:=F9 (Fc n k) (n-k)
  have h2:Ba (n-k)<=1:=I7 (by simp; omega)
  simp only [Fc]; omega
theorem Asd (k:Nat) (hk:k<1000000000):Ba (fct k)<=k+1:=by
 induction k with
 | zero=>simp [fct,Lc]
 | succ k ih=>
  have h1:=F9 (fct k) (k+1)
  have h2:Ba (k+1)<=1:=I7 (by simp; omega)
  simp only [fct]
  have:=ih (by omega)
  omega
theorem Aij {n:Nat} (h:n<1000000000):Ba n<=1:=I7 (by simpa using h)
theorem Ase (n k:Nat) (b:n<1000000000) (hk:k<=64):RB (k+1) (Bg false (Fc n k) (fct k)) :=
 Kq _ _ _ _ (Asb n k b) (Asd k (by omega)) (by omega)
theorem Aik (a:Ak):Ak.mk a.Neg a.Num a.Den=a:=by cases a; rfl
theorem Aci (n k:Nat) (A:n<1000000000) (hk:k<=64):Ms (n:Int) (k:Int)=some (Bg false (Fc n k) (fct k)):=by
 unfold Ms
 have B:Eo 1=some (Bg false (Fc n 0) (fct 0)):=T9 1 (by decide) (by decide)
 rw [B,Ad]
 refine Gp (fun (i,s,b,c)=>∃q:Nat,i=q/\q<=k/\q<=n/\Ak.mk s b c=Bg false (Fc n q) (fct q)) (fun (i,_,_,_)=>k-i.toNat)
  (fun e=>match e with | .inl r=>r=Bg false (Fc n k) (fct k) | .inr (s,b,c)=>Ak.mk s b c=Bg false (Fc n k) (fct k)) ⟨0,rfl,by omega,by omega,Aik _⟩ ?_ ?_
 .rintro ⟨i,s,b,c⟩ ⟨q,rfl,hq,z,ha⟩
  rcases Nat.lt_or_ge q k with h | h
  .simp only [Ao (by omega:(q:Int)<(k:Int)),cond_true]
   by_cases x:n=q
   .subst x
    refine .inr ⟨.inl (Bg false 0 1),?_,?_⟩
    .rw [Fu rfl,cond_true,T9 0 (by decide) (by decide)]; rfl
    .show Bg false 0 1=_
     rw [Asa h,Ua,Ua]
   .have u:Ac ((n:Int)-(q:Int))=((n-q:Nat):Int):=by rw [Ac,Bu] <;> omega
    have l:Ac ((q:Int)+1)=((q+1:Nat):Int):=I8 h (by omega)
    have y:Oc ((n-q:Nat):Int) ((q+1:Nat):Int)=some (Bg false (n-q) (q+1)):=by
     rw [Arn _ _ (by omega) (by omega) (by omega) (by omega) (by omega),Av (by omega:¬((n-q:Nat):Int)<0),Av (by omega:¬((q+1:Nat):Int)<0)]; rfl
    have g:RB 1 (Bg false (n-q) (q+1)):=Kq _ _ _ _ (Aij (by omega)) (Aij (by omega)) (by omega)
    have j:=Aca _ _ _ _ (Ase n q A (by omega)) g (by omega) (by omega)
    rw [Ar9 false false (Fc n q) (fct q) (n-q) (q+1) (Ud q) (by omega)] at j
    refine .inl ⟨(((q+1:Nat):Int),(Bg false (Fc n (q+1)) (fct (q+1))).Neg,(Bg false (Fc n (q+1)) (fct (q+1))).Num,(Bg false (Fc n (q+1)) (fct (q+1))).Den),?_,⟨q+1,rfl,by omega,by omega,Aik _⟩,by simp; omega⟩
    rw [C2 (by omega),cond_false,u,l,y,Ad,ha,j,Ad]; rfl
  .have:q=k:=by omega
   subst this
   refine .inr ⟨.inr (s,b,c),by simp,ha⟩
 .rintro (e | ⟨s,b,c⟩) f
  .simp only at f ⊢; rw [f]
  .simp only at f ⊢; rw [f]
end Go.Ab
namespace Go.Ab
open Go
mutual
def B2:Aj->Nat
 | ⟨_,_,l⟩=>1+Cs l
def Cs:List Aj->Nat
 | []=>0
 | x::xs=>B2 x+Cs xs
end
theorem Jv (t:Aj):B2 t=1+Cs t.Args:=by cases t; simp only [B2]
theorem Rk (t:Aj):1<=B2 t:=by rw [Jv]; omega
theorem Kr {l:List Aj} {a:Aj} (h:a∈l):B2 a<=Cs l:=by
 induction l with
 | nil=>cases h
 | cons x xs ih=>
  simp only [Cs]
  rcases List.mem_cons.1 h with rfl | h
  .omega
  .have:=ih h; omega
theorem Ld (l:List Aj):l.length<=Cs l:=by
 induction l with
 | nil=>simp
 | cons x xs ih=>simp only [Cs,List.length_cons]; have:=Rk x; omega
theorem X9 (l m:List Aj):Cs (l++m)=Cs l+Cs m:=by
 induction l with
 | nil=>simp [Cs]
 | cons x xs ih=>simp only [List.cons_append,Cs,ih]; omega
def Jw (data:List Az) (vars k n:Int) (len:Nat):Bool :=
 if k=1\/k=2\/k=3 then n==0&&len==0
 else if k=4 then decide (0<=n)&&decide (n<vars)&&len==0
 else if k=5 then decide (0<=n)&&(match data[n.toNat]? with | some d=>(len:Int)==d.Vars | none=>false)
 else if k=6 then n==0&&decide (2<=len)&&decide (len<=6)
 else if k=7\/k=8 then n==0&&len==1
 else if k=9 then n==0&&decide (1<=len)&&decide (len<=7)
 else false
mutual
def Fi (data:List Az) (vars:Int):Aj->Bool
 | ⟨k,n,l⟩=>Jw data vars k n l.length&&E3 data vars l
def E3 (data:List Az) (vars:Int):List Aj->Bool
 | []=>true
 | x::xs=>Fi data vars x&&E3 data vars xs
end
theorem Acj (data:List Az) (vars:Int) (t:Aj):Fi data vars t=(Jw data vars t.Kind t.Num t.Args.length&&E3 data vars t.Args):=by cases t; simp only [Fi]
theorem Asf {α:Type} (l:List α) (n:Nat):((l.length:Int)==(n:Int))=(l.length==n):=by
 by_cases h:l.length=n
 .subst h; simp
 .rw [C2 (by omega)]; simp [h]
theorem Asg (k:Nat) (t:Aj) (data:List Az) (vars left:Int) (h1:1<=left) (h2:left<=1000) :
  Kg (k+1) t ⟨data,vars,left⟩=bif Jw data vars t.Kind t.Num t.Args.length then ((Q5 k t.Args ⟨data,vars,left-1⟩).bind fun v12=>some ((!v12.1),v12.2)) else some (false,⟨data,vars,left-1⟩):=by
 have hw:Ac (left-1)=left-1:=Bu (by omega) (by omega)
 have b:¬left-1<0:=by omega
 rw [Kg]
 simp only [hw,Av b,cond_false]
 generalize g:(Q5 k t.Args ⟨data,vars,left-1⟩).bind (fun v12=>some ((!v12.1),v12.2))=X
 generalize f:(some (false,⟨data,vars,left-1⟩):Option (Bool×E8))=Y
 unfold Jw Af
 generalize t.Args.length=len
 generalize t.Kind=c
 generalize t.Num=n
 cases hd:data[n.toNat]? <;> simp only [Bool.cond_eq_ite,Aq6,Ad,Option.bind_none,hd] <;> grind
theorem Ack {l:List Aj} {j:Nat} (h:j<l.length):Cs (l.take (j+1))=Cs (l.take j)+B2 l[j]:=by
 rw [List.take_succ_eq_append_getElem h,X9]; simp [Cs]
theorem Ail (data:List Az) (vars:Int) (l m:List Aj):E3 data vars (l++m)=(E3 data vars l&&E3 data vars m):=by
 induction l with
 | nil=>simp [E3]
 | cons x xs ih=>simp only [List.cons_append,E3,ih,Bool.and_assoc]
theorem Aim (data:List Az) (vars:Int) {l:List Aj} {j:Nat} (h:j<l.length):E3 data vars (l.take (j+1))=(E3 data vars (l.take j)&&Fi data vars l[j]):=by
 rw [List.take_succ_eq_append_getElem h,Ail]; simp [E3]
theorem Acl (l:List Aj) (j:Nat):Cs (l.take j)<=Cs l:=by
 have:=X9 (l.take j) (l.drop j)
 rw [List.take_append_drop] at this; omega
theorem Ash (data:List Az) (vars:Int) (l:List Aj) (j:Nat) (h:E3 data vars l=true):E3 data vars (l.take j)=true:=by
 have:=Ail data vars (l.take j) (l.drop j)
 rw [List.take_append_drop,h] at this
 have:=this.symm
 simp only [Di] at this
 exact this.1
theorem Asi (data:List Az) (vars:Int) (k:Nat) (l:List Aj) (c:Nat) (G:l.length<1099511627776)
  (ih:∀(a:Aj),a∈l->∀f:Nat,f<=c->∃g:Int,Kg k a ⟨data,vars,f⟩=some (Fi data vars a&&decide (B2 a<=f),⟨data,vars,g⟩)/\((Fi data vars a&&decide (B2 a<=f))=true->g=(f:Int)-B2 a)) :
  ∃p:Int×Int,T3 (k+2) l ⟨data,vars,c⟩=some (p.1,⟨data,vars,p.2⟩)/\((E3 data vars l&&decide (Cs l<=c))=true->p.1 = -1/\p.2=(c:Int)-Cs l)/\((E3 data vars l&&decide (Cs l<=c))=false->0<=p.1):=by
 rw [T3]
 refine Xo (fun p:Int×Int=>(p.1,E8.mk data vars p.2)) (D6
  (fun (v3,v4,v5,s)=>∃j:Nat,v3=j/\j<=l.length/\v4=data/\v5=vars/\E3 data vars (l.take j)=true/\Cs (l.take j)<=c/\s=(c:Int)-Cs (l.take j))
  (fun (v3,_,_,_)=>l.length-v3.toNat)
  (fun z=>match z with | .inl (i,b)=>0<=i/\(∃g,b=⟨data,vars,g⟩)/\(E3 data vars l&&decide (Cs l<=c))=false | .inr (v4,v5,s)=>v4=data/\v5=vars/\(E3 data vars l&&decide (Cs l<=c))=true/\s=(c:Int)-Cs l)
  ⟨0,rfl,by omega,rfl,rfl,rfl,by simp [Cs],by simp [Cs]⟩ ?_ ?_)
 .rintro ⟨v3,v4,v5,s⟩ ⟨j,rfl,I,rfl,rfl,x,A,rfl⟩
  rcases Nat.lt_or_ge j l.length with h | h
  .obtain ⟨u,y⟩:∃u:Nat,(c:Int)-Cs (l.take j)=u/\u<=c:=⟨c-Cs (l.take j),by omega,by omega⟩
   obtain ⟨g,E,D⟩:=ih l[j] (List.getElem_mem h) u y.2
   simp only [Ao (by omega:(j:Int)<(l.length:Int)),cond_true,C8 rfl h,Ad,Tl,y.1,E]
   cases hb:(Fi v4 v5 l[j]&&decide (B2 l[j]<=u)) with
   | true=>
    have J:=D hb
    simp only [Di,decide_eq_true_eq] at hb
    refine .inl ⟨(((j+1:Nat):Int),v4,v5,g),?_,⟨j+1,rfl,by omega,rfl,rfl,?_,?_,?_⟩,by simp; omega⟩
    .simp only [bnt,cond_false]
     rw [show Ac ((j:Int)+1)=((j+1:Nat):Int) by rw [Ac,Bu] <;> omega]
    .rw [Aim _ _ h,x,hb.1]; rfl
    .rw [Ack h]; omega
    .show g=_
     rw [Ack h]; omega
   | false=>
    refine .inr ⟨.inl ((j:Int),⟨v4,v5,g⟩),by simp,by omega,⟨g,rfl⟩,?_⟩
    cases q:(E3 v4 v5 l&&decide (Cs l<=c)) with
    | false=>rfl
    | true=>
     exfalso
     simp only [Di,decide_eq_true_eq] at q
     have a1:=Ash v4 v5 l (j+1) q.1
     rw [Aim _ _ h] at a1
     simp only [Di] at a1
     have a2:=Acl l (j+1)
     rw [Ack h] at a2
     rw [a1.2,Bool.true_and,decide_eq_false_iff_not] at hb
     omega
  .have:j=l.length:=by omega
   subst this
   rw [List.take_length] at *
   refine .inr ⟨.inr (v4,v5,(c:Int)-Cs l),by simp,rfl,rfl,by simp [x,A],rfl⟩
 .rintro (⟨i,b⟩ | ⟨v4,v5,s⟩) B
  .obtain ⟨a1,⟨g,rfl⟩,a3⟩:=B
   exact ⟨_,rfl,(i,g),rfl,(fun h=>by rw [a3] at h; cases h),fun _=>a1⟩
  .obtain ⟨rfl,rfl,a3,rfl⟩:=B
   exact ⟨_,rfl,(-1,_),rfl,fun _=>⟨rfl,rfl⟩,fun h=>by rw [a3] at h; cases h⟩
theorem Asj (data:List Az) (vars:Int):∀(left:Nat) (t:Aj) (k:Nat),left<=200->4*left+4<=k->B2 t<1099511627776 ->
  ∃f:Int,Kg k t ⟨data,vars,left⟩=some (Fi data vars t&&decide (B2 t<=left),⟨data,vars,f⟩)/\((Fi data vars t&&decide (B2 t<=left))=true->f=(left:Int)-B2 t):=by
 intro left
 induction left using Nat.strongRecOn with
 | _ left s=>
  intro t k B hk ht
  have hp:=Rk t
  obtain ⟨g,rfl⟩:∃g,k=g+1:=⟨k-1,by omega⟩
  cases left with
  | zero=>
   refine ⟨-1,?_,fun h=>by simp at h; omega⟩
   rw [Kg]
   have hd:decide (B2 t<=0)=false:=Av (by omega)
   rw [hd,Bool.and_false]
   rfl
  | succ b=>
   rw [Asg g t data vars ((b+1:Nat):Int) (by omega) (by omega)]
   have z:((b+1:Nat):Int)-1=(b:Int):=by omega
   rw [z,Acj]
   cases A:Jw data vars t.Kind t.Num t.Args.length with
   | false=>exact ⟨b,by simp,fun h=>by simp at h⟩
   | true=>
    obtain ⟨q,rfl⟩:∃q,g=q+3:=⟨g-3,by omega⟩
    have j:=Jv t
    have x:=Ld t.Args
    obtain ⟨⟨i,f⟩,h1,h2,h3⟩:=Asi data vars q t.Args b (by omega) (fun a ha c y=>by
     have:=Kr ha
     exact s c (by omega) a q (by omega) (by omega) (by omega))
    have l:decide (B2 t<=b+1)=decide (Cs t.Args<=b):=by
     rw [j]; congr 1; simp only [eq_iff_iff]; omega
    simp only [cond_true,Q5,h1,Ad,Bool.true_and,l]
    refine ⟨f,?_,fun h=>?_⟩
    .cases hb:(E3 data vars t.Args&&decide (Cs t.Args<=b)) with
     | true=>
      have u:i = -1:=(h2 hb).1
      rw [Av (by omega:¬i>=0)]; rfl
     | false=>
      have u:0<=i:=h3 hb
      rw [Ao (by omega:i>=0)]; rfl
    .have u:f=(b:Int)-Cs t.Args:=(h2 h).2
     rw [u,j]; omega
theorem Ue (data:List Az) (t:Aj) (vars:Int) (ht:B2 t<1099511627776):Lu data t vars=some (Fi data vars t&&decide (B2 t<=200)):=by
 unfold Lu
 obtain ⟨b,h1,_⟩:=Asj data vars 200 t 4000000 (by decide) (by decide) ht
 have h1:Kg 4000000 t ⟨data,vars,200⟩=_:=h1
 rw [h1]; rfl
end Go.Ab
namespace Go.Ab
open Go
def O5 (a:Aj) (i:Int):Bool:=a.Kind==4&&a.Num==i&&a.Args.length==0
def Ain (l:List Aj):Bool:=l.zipIdx.all fun q=>O5 q.1 q.2
def Ih (t:Aj) (d vars:Int):Bool:=t.Kind==5&&t.Num==d&&(t.Args.length:Int)==vars&&Ain t.Args
def Hy (data:List Az) (d c:Int):List Bool :=
 match Af data d with
 | none=>[]
 | some x=>match Af x.Cons c with
  | none=>[]
  | some y=>y.Args.map fun t=>Ih t d x.Vars
theorem Ja {α:Type} {l:List α} {i:Int} {x:α} (h:Af l i=some x):0<=i/\i<l.length/\l[i.toNat]? = some x/\x∈l:=by
 unfold Af at h
 split at h
 .have h1:i.toNat<l.length:=E2 h
  exact ⟨by assumption,by omega,h,Cm h⟩
 .cases h
theorem Uf {α:Type} {l:List α} {i:Int} (h:Af l i=none):i<0\/(l.length:Int)<=i:=by
 unfold Af at h
 split at h
 .rw [List.getElem?_eq_none_iff] at h
  right; omega
 .left; omega
theorem Ask {R:Type} (data:List Az) (d c:Int) (F:Az->Kk->Option R) (z:R) (X:Option R)
  (f:X=((bif (decide (d<(0:Int))) then some true else bif (decide (d>=(data.length:Int))) then some true else bif (decide (c<(0:Int))) then some true else
   (Af data d).bind fun b=>some (decide (c>=(b.Cons.length:Int))):Option Bool).bind fun v2=>bif v2 then some z else (Af data d).bind fun v3=>(Af v3.Cons c).bind fun v4=>F v3 v4)) :
  X=match Af data d with
   | none=>some z
   | some x=>match Af x.Cons c with
    | none=>some z
    | some y=>F x y:=by
 subst f
 cases hx:Af data d with
 | none=>
  rcases Uf hx with h | h
  .simp only [Ao h,cond_true,Ad]
  .by_cases h':d<0
   .simp only [Ao h',cond_true,Ad]
   .simp only [Av h',Ao (show d>=(data.length:Int) from h),cond_true,cond_false,Ad]
 | some x=>
  obtain ⟨a1,a2,_,_⟩:=Ja hx
  simp only [Av (by omega:¬d<0),Av (by omega:¬d>=(data.length:Int)),cond_false,Ad]
  cases hy:Af x.Cons c with
  | none=>
   rcases Uf hy with h | h
   .simp only [Ao h,cond_true,Ad]
   .by_cases h':c<0
    .simp only [Ao h',cond_true,Ad]
    .simp only [Av h',Ao (show c>=(x.Cons.length:Int) from h),cond_true,cond_false,Ad]
  | some y=>
   obtain ⟨b1,b2,_,_⟩:=Ja hy
   simp only [Av (by omega:¬c<0),Av (by omega:¬c>=(x.Cons.length:Int)),cond_false,Ad]
def Asl (l:List Aj):Prop:=l.length<=4194304/\∀a∈l,a.Args.length<=4194304
def Ug (data:List Az):Prop:=∀x∈data,∀y∈x.Cons,Asl y.Args
theorem Acm {α:Type} (l m:List α) (y x:α) (i:Int) (n:Nat) (h:i=n) (b:n=l.length):Cl (l++y::m) i x=l++x::m:=by
 rw [E7 h]; subst b; simp
theorem Acn {α:Type} (l m:List α) (y:α) (i:Int) (n:Nat) (h:i=n) (b:n=l.length):Af (l++y::m) i=some y:=by
 rw [Ch h]; subst b; simp
theorem Asm (l:List Aj) (k f:List Bool) (i:Int) (n:Nat) (b:Bool) (h:i=n) (s:n=k.length) (B:l.length<1099511627776) {R:Type} {J:Int×List Bool->Option R} {r:R}
  (A:J ((l.length:Int),k++(b&&Ain l)::f)=some r) :
  (Al (S:=(Int×(List Bool))) (E:=(Int×(List Bool))) (fun (c,g)=>
   bif (decide (c<(l.length:Int))) then (
   (Af l c).bind fun v44=>
   bif (v44.Kind != (4:Int)) then (
   (Af g i).bind fun v46=>
   some (.inl ((Ac (c+1)),(Cl g i false)))
   )
   else (
   bif (v44.Num != c) then (
   (Af g i).bind fun y=>
   some (.inl ((Ac (c+1)),(Cl g i false)))
   )
   else (
   bif (decide ((v44.Args.length:Int)>(0:Int))) then (
   (Af g i).bind fun u=>
   some (.inl ((Ac (c+1)),(Cl g i false)))
   )
   else (
   some (.inl ((Ac (c+1)),g))
   )
   )
   )
   )
   else (
   some (.inr (c,g))
   )
    ) (0,k++b::f)).bind J=some r:=by
 refine Hw l (fun j=>((j:Int),k++(b&&(l.take j).zipIdx.all (fun q=>O5 q.1 q.2))::f)) (by simp) (by omega) ?_ ?_
 .intro j x z hx h1 h2 h3
  have e:(l.take (j+1)).zipIdx.all (fun q=>O5 q.1 q.2)=((l.take j).zipIdx.all (fun q=>O5 q.1 q.2)&&O5 x j):=by
   rw [Dy hx,List.zipIdx_append,List.all_append]; simp [Nat.min_eq_left (Nat.le_of_lt z)]
  simp only [h1,h2,h3,cond_true,Ad,Acn k f _ i n h s,Acm k f _ _ i n h s,e]
  unfold O5
  by_cases g1:x.Kind=4
  .by_cases g2:x.Num=j
   .by_cases g3:x.Args.length=0
    .rw [Av (by omega)]; simp [g1,g2,g3]
    .rw [Ao (by omega)]
     have:(x.Args.length==0)=false:=by simpa using g3
     simp [g1,g2,this]
   .simp [g1,g2,Fv g2]
  .simp [g1,Fv g1]
 .intro h1
  refine ⟨_,by simp only [h1]; rfl,?_⟩
  rw [List.take_length]
  exact A
theorem Aio (data:List Az) (d c:Int) (hd:Ug data):Oq data d c=some (Hy data d c):=by
 unfold Oq
 rw [Ask data d c (fun v3 v4=>_) [] _ rfl]
 unfold Hy
 cases hx:Af data d with
 | none=>rfl
 | some x=>
  cases hy:Af x.Cons c with
  | none=>simp only [hy]
  | some y=>
   simp only [hy]
   have f:=hd x (Ja hx).2.2.2 y (Ja hy).2.2.2
   have g:=f.1
   rw [Ht (n:=y.Args.length) (c:=y.Args.length) rfl rfl (by omega) (by omega) (by omega),Ad]
   refine Hw y.Args (fun j=>((j:Int),((y.Args.take j).map fun t=>Ih t d x.Vars)++List.replicate (y.Args.length-j) false)) rfl (by omega) ?_ ?_
   .intro j t k ht h1 h2 h3
    obtain ⟨m,h⟩:∃m,y.Args.length-j=m+1:=⟨y.Args.length-j-1,by omega⟩
    have i:y.Args.length-(j+1)=m:=by omega
    have b:j=((y.Args.take j).map fun t=>Ih t d x.Vars).length:=by simp; omega
    simp only [h1,h2,cond_true,Ad,h,i,List.replicate_succ,Dy ht,List.map_append,List.map_cons,List.map_nil,List.append_assoc,List.cons_append,List.nil_append,
     Acn _ _ _ (j:Int) j rfl b,Acm _ _ _ _ (j:Int) j rfl b]
    have hb:(bif t.Kind==5 then bif t.Num==d then some (List.map (fun t=>Ih t d x.Vars) (List.take j y.Args)++((t.Args.length:Int)==x.Vars)::List.replicate m false)
       else some (List.map (fun t=>Ih t d x.Vars) (List.take j y.Args)++false::List.replicate m false)
      else some (List.map (fun t=>Ih t d x.Vars) (List.take j y.Args)++false::List.replicate m false))=some (List.map (fun t=>Ih t d x.Vars) (List.take j y.Args)++(t.Kind==5&&t.Num==d&&((t.Args.length:Int)==x.Vars))::List.replicate m false):=by
     cases t.Kind==5 <;> cases t.Num==d <;> simp
    rw [hb,Ad]
    refine Asm t.Args _ _ (j:Int) j _ rfl b (by have:=f.2 t (Cm ht); omega) ?_
    rw [h3]; rfl
   .intro h1
    exact ⟨_,by simp only [h1]; rfl,by simp⟩
mutual
def mnt (d:Int):Aj->Bool
 | ⟨k,n,l⟩=>(k==5&&n==d)||L2 d l
def L2 (d:Int):List Aj->Bool
 | []=>false
 | x::xs=>mnt d x||L2 d xs
end
theorem Asn (d:Int) (t:Aj):mnt d t=((t.Kind==5&&t.Num==d)||L2 d t.Args):=by cases t; simp only [mnt]
theorem Aso (d:Int) (l:List Aj):L2 d l=l.any (mnt d):=by
 induction l with
 | nil=>rfl
 | cons x xs ih=>simp only [L2,ih,List.any_cons]
theorem Asp (d:Int):∀(n:Nat) (t:Aj) (k:Nat),B2 t<=n->4*n+4<=k->n<1099511627776->Ot k t d=some (mnt d t):=by
 intro n
 induction n with
 | zero=>intro t k h; have:=Rk t; omega
 | succ n ih=>
  intro t k h hk l
  obtain ⟨k,rfl⟩:∃c,k=c+4:=⟨k-4,by omega⟩
  have f:=Jv t
  have b:=Ld t.Args
  have key:Q4 (k+3) t.Args d=some (L2 d t.Args):=by
   rw [Q4,Xe]
   rw [Aso]
   refine Ah6 (Ah7 t.Args (mnt d) (by omega) ?_ (fun h=>by simp only [h]; rfl) (fun _=>rfl) rfl) (fun i g=>by rw [g])
   intro j x hx h1 h2 h3
   have q:=Kr hx
   simp only [h1,h2,h3,cond_true,Ad,Ty,ih x k (by omega) (by omega) (by omega)]
  rw [Ot,key,Asn]
  cases t.Kind==5 <;> cases t.Num==d <;> simp
end Go.Ab
namespace Go.Ab
open Go
theorem Asq (data:List Az) (v:Int) (l:List Aj):E3 data v l=l.all (Fi data v):=by
 induction l with
 | nil=>rfl
 | cons x xs ih=>simp only [E3,ih,List.all_cons]
theorem Asr (data:List Az) (d:Nat) (v k n:Int) (len:Nat):(Jw (data.take (d+1)) v k n len && !(k==5&&n==(d:Int)))=Jw (data.take d) v k n len:=by
 by_cases hk:k=5
 .subst hk
  unfold Jw
  simp only [beq_self_eq_true,Bool.true_and,List.getElem?_take]
  by_cases b:n=d
  .subst b; simp
  .by_cases h0:0<=n
   .have e:(n==(d:Int))=false:=C2 b
    rcases Nat.lt_or_ge n.toNat d with h | h
    .simp [h,e,show n.toNat<d+1 by omega]
    .simp [e,show ¬n.toNat<d by omega,show ¬n.toNat<d+1 by omega]
   .simp [h0]
 .have e:(k==(5:Int))=false:=C2 hk
  simp only [e,Bool.false_and,Bool.not_false,Bool.and_true,Jw,hk,if_false]
mutual
theorem Aip (data:List Az) (d:Nat) (v:Int):∀t:Aj,(Fi (data.take (d+1)) v t && !mnt d t)=Fi (data.take d) v t
 | ⟨k,n,l⟩=>by
  have h1:=Aiq data d v l
  have h2:=Asr data d v k n l.length
  simp only [Fi,mnt]
  rw [<-h1,<-h2]
  cases Jw (data.take (d+1)) v k n l.length <;> cases (k==5&&n==(d:Int)) <;> cases E3 (data.take (d+1)) v l <;> simp
theorem Aiq (data:List Az) (d:Nat) (v:Int):∀l:List Aj,(E3 (data.take (d+1)) v l && !L2 d l)=E3 (data.take d) v l
 | []=>by simp [E3,L2]
 | x::xs=>by
  have h1:=Aip data d v x
  have h2:=Aiq data d v xs
  simp only [E3,L2]
  rw [<-h1,<-h2]
  cases Fi (data.take (d+1)) v x <;> cases mnt d x <;> cases E3 (data.take (d+1)) v xs <;> simp
end
theorem Air:∀l:List Aj,(∀a∈l,a.Args.length=0)->Cs l=l.length
 | [],_=>rfl
 | x::xs,h=>by
  have h1:=h x (by simp)
  simp only [Cs,List.length_cons]
  rw [Air xs (fun a ha=>h a (by simp [ha])),Jv,List.length_eq_zero_iff.1 h1]
  simp only [Cs]; omega
theorem Ais {data:List Az} {d:Nat} {x:Az} (hx:data[d]? = some x) (g:x.Vars<=6) {t:Aj} (h:Ih t d x.Vars=true):Fi (data.take (d+1)) x.Vars t=true/\B2 t<=200:=by
 unfold Ih at h
 simp only [Di,beq_iff_eq] at h
 obtain ⟨⟨⟨h1,h2⟩,h3⟩,f⟩:=h
 have ha:∀a∈t.Args,∃i:Nat,i<t.Args.length/\a.Kind=4/\a.Num=i/\a.Args.length=0:=by
  intro a ha
  obtain ⟨i,c⟩:=List.getElem?_of_mem ha
  have:=Ig f c
  simp only [O5,Di,beq_iff_eq] at this
  exact ⟨i,E2 c,this.1.1,this.1.2,this.2⟩
 refine ⟨?_,?_⟩
 .rw [Acj,Asq,Di]
  constructor
  .rw [h1,h2]
   unfold Jw
   simp [hx,h3]
  .rw [List.all_eq_true]
   intro a b
   obtain ⟨i,i1,i2,i3,i4⟩:=ha a b
   rw [Acj,i2,i3,i4,List.length_eq_zero_iff.1 i4]
   unfold Jw
   simp [E3]; omega
 .rw [Jv,Air _ (fun a h=>(ha a h).choose_spec.2.2.2)]
  omega
def O6 (data:List Az) (d:Nat) (v:Int) (t:Aj):Bool:=Ih t d v||(Fi (data.take d) v t&&decide (B2 t<=200))
theorem Ass {data:List Az} {d:Nat} {x:Az} (hx:data[d]? = some x) (b:x.Vars<=6) (t:Aj):((Fi (data.take (d+1)) x.Vars t&&decide (B2 t<=200))&&(Ih t d x.Vars || !mnt d t))=O6 data d x.Vars t:=by
 unfold O6
 cases h:Ih t d x.Vars with
 | true=>
  obtain ⟨h1,h2⟩:=Ais hx b h
  rw [h1,Ao h2]; rfl
 | false=>
  rw [<-Aip data d x.Vars t]
  cases Fi (data.take (d+1)) x.Vars t <;> cases decide (B2 t<=200) <;> simp
def SzD (data:List Az):Prop:=∀x∈data,x.Cons.length<=1048576/\∀y∈x.Cons,Cs y.Args<=1048576
theorem SzD.short {data:List Az} (h:SzD data):Ug data:=fun x hx y hy=>by
 have h1:=(h x hx).2 y hy
 have h2:=Ld y.Args
 refine ⟨by omega,fun a ha=>?_⟩
 have h3:=Kr ha
 have c:=Jv a
 have b:=Ld a.Args
 omega
theorem Ast {data:List Az} (g:SzD data) (d c:Nat) {x:Az} {y:Kk} (hx:data[d]? = some x) (hy:x.Cons[c]? = some y) (q:x.Vars<=6) (hd:data.length<=1048576) :
  M0 data d c=some (decide (y.Args.length<=6)&&y.Args.all (O6 data d x.Vars)):=by
 have b:=E2 hx
 have l:=(g x (Cm hx)).2 y (Cm hy)
 unfold M0
 rw [Ch rfl hx,Ad,Ch rfl hy,Ad,Aio data d c g.short]
 by_cases k:y.Args.length<=6
 .rw [Av (by omega:¬(y.Args.length:Int)>6),Ao k]
  simp only [cond_false,Bool.true_and,Ad]
  refine (Xv y.Args (O6 data d x.Vars) (fun j=>(j:Int)) rfl (by omega) (rt:=true) (rf:=false) ?_ ?_).trans (by rw [Ab1])
  .intro j t ht h1 h2 h3
   have s:=Kr (Cm ht)
   have u:Af (Hy data d c) (j:Int)=some (Ih t d x.Vars):=by
    unfold Hy
    simp only [Ch rfl hx,Ch rfl hy]
    rw [Ch rfl]
    simp [ht]
   simp only [h1,h2,h3,cond_true,Ad,show Ac ((d:Int)+1)=((d+1:Nat):Int) from C9 b (by omega),Xp rfl (show d+1<=data.length from b),Ch rfl hx,
    Ue (data.take (d+1)) t x.Vars (by omega),u]
   rw [<-Ass hx q t]
   cases i:(Fi (data.take (d+1)) x.Vars t&&decide (B2 t<=200)) with
   | false=>exact ⟨(fun h=>by cases h),fun _=>⟨.inl false,rfl,rfl⟩⟩
   | true=>
    have f:B2 t<=200:=by simp only [Di,decide_eq_true_eq] at i; exact i.2
    simp only [bnt,cond_false,Bool.true_and]
    cases z:Ih t d x.Vars with
    | true=>exact ⟨fun _=>rfl,fun h=>by cases h⟩
    | false=>
     simp only [Bool.not_false,cond_true,Asp d 200 t 4000000 f (by omega) (by omega),Ad,Bool.false_or]
     cases mnt d t with
     | true=>exact ⟨(fun h=>by cases h),fun _=>⟨.inl false,rfl,rfl⟩⟩
     | false=>exact ⟨fun _=>rfl,fun h=>by cases h⟩
  .intro h
   exact ⟨.inr (),by simp only [h]; rfl,rfl⟩
 .rw [Ao (by omega:(y.Args.length:Int)>6),Av k]; rfl
end Go.Ab
namespace Go.Ab
open Go
def bI (s:ByteArray) (i:Nat):Int:=if h:i<s.size then (s[i].toNat:Int) else 0
def loI (c:Int):Bool:=decide (97<=c)&&decide (c<=122)
def upI (c:Int):Bool:=decide (65<=c)&&decide (c<=90)
def diI (c:Int):Bool:=decide (48<=c)&&decide (c<=57)
def wiI (c:Int):Bool:=loI c||upI c||diI c||c==95
def Gq (s:ByteArray):Prop:=1<=s.size/\s.size<=24/\upI (bI s 0)=true/\∀i,i<s.size->wiI (bI s i)=true
theorem L3 {s:ByteArray} {i:Int} {n:Nat} (b:i=n) (h:n<s.size):∃c:UInt8,G3 s i=some c/\(c.toNat:Int)=bI s n:=by
 subst b
 refine ⟨s[n],?_,?_⟩
 .unfold G3
  rw [if_pos (by omega),show ((n:Int)).toNat=n from rfl]
  simp [h]
 .unfold bI; simp [h]
theorem Uh {s:ByteArray} {a b j:Nat} (hb:b<=s.size) (h:a+j<b):bI (s.extract a b) j=bI s (a+j):=by
 unfold bI
 have h1:j<(s.extract a b).size:=by rw [ByteArray.size_extract]; omega
 rw [dif_pos h1,dif_pos (by omega),ByteArray.getElem_extract]
theorem Ui {s:ByteArray} {lo c:Int} {a b:Nat} (h1:lo=a) (h2:c=b) (h3:a<=b) (f:b<=s.size):Ey s lo c=some (s.extract a b):=by
 subst h1; subst h2; unfold Ey; rw [if_pos (by omega)]; rfl
theorem Ait {a b:ByteArray} (h:a.toList=b.toList):a=b:=by
 rw [ByteArray.toList_eq,ByteArray.toList_eq] at h
 have:a.data=b.data:=Array.toList_inj.1 h
 cases a; cases b; simp at this; subst this; rfl
theorem Aiu (a b:ByteArray):(a.toList==b.toList)=decide (a=b):=by
 by_cases h:a=b
 .subst h; simp
 .rw [Av h]
  cases hb:(a.toList==b.toList) with
  | false=>rfl
  | true=>exact absurd (Ait (by simpa using hb)) h
theorem Aiv (c:Int):Q2 c=some (loI c):=by unfold Q2 loI; by_cases h:(97:Int)<=c <;> simp [h]
theorem Aiw (c:Int):Ox c=some (upI c):=by unfold Ox upI; by_cases h:(65:Int)<=c <;> simp [h]
theorem Ya (c:Int):M2 c=some (diI c):=by unfold M2 diI; by_cases h:(48:Int)<=c <;> simp [h]
theorem Aix (c:Int):Q3 c=some (wiI c):=by
 unfold Q3 wiI
 rw [Aiv,Aiw,Ya]
 simp only [Ad]
 cases loI c <;> cases upI c <;> cases diI c <;> rfl
theorem Aco {S E:Type} {step:S->Option (S⊕E)} (s:ByteArray) (p:Int->Bool) (b:Nat->S) (f:Nat->E) (lo:Nat)
  (h1:∀j,lo<=j->j<s.size->p (bI s j)=true->step (b j)=some (.inl (b (j+1)))) (h2:∀j,lo<=j->j<s.size->p (bI s j)=false->step (b j)=some (.inr (f j))) (h3:step (b s.size)=some (.inr (f s.size))) :
  ∀(m i:Nat),lo<=i->i+m=s.size->∃n,i<=n/\n<=s.size/\(∀j,i<=j->j<n->p (bI s j)=true)/\(n<s.size->p (bI s n)=false)/\Al step (b i)=some (f n):=by
 intro m
 induction m with
 | zero=>
  intro i _ g
  have:i=s.size:=by omega
  subst this
  exact ⟨s.size,by omega,by omega,fun j _ _=>by omega,fun h=>by omega,Eh h3⟩
 | succ m ih=>
  intro i c g
  cases hp:p (bI s i) with
  | true=>
   obtain ⟨n,a1,a2,a3,a4,a5⟩:=ih (i+1) (by omega) (by omega)
   refine ⟨n,by omega,a2,fun j b1 b2=>?_,a4,by rw [Iw (h1 i c (by omega) hp)]; exact a5⟩
   rcases Nat.lt_or_ge i j with h | h
   .exact a3 j h b2
   .have:j=i:=by omega
    subst this; exact hp
  | false=>exact ⟨i,by omega,by omega,fun j _ _=>by omega,fun _=>hp,Eh (h2 i c (by omega) hp)⟩
theorem Asu (s:ByteArray) (l:s.size<1099511627776):∃n,n<=s.size/\(∀j,j<n->wiI (bI s j)=true)/\(n<s.size->wiI (bI s n)=false)/\Tz s=some (s.extract 0 n):=by
 have H:=Aco (step:=fun v3:Int=>bif (decide (v3<(s.size:Int))) then ((G3 s v3).bind fun k=>(Q3 (k.toNat:Int)).bind fun v5=>bif v5 then some (.inl (Ac (v3+1))) else some (.inr v3)) else some (.inr v3))
  s wiI (fun j=>(j:Int)) (fun j=>(j:Int)) 0 (fun j _ f hp=>by
   obtain ⟨c,h,g⟩:=L3 (s:=s) (i:=(j:Int)) rfl f
   simp only [Ao (by omega:(j:Int)<(s.size:Int)),cond_true,h,Ad,g,Aix,hp,C9 f (by omega)]) (fun j _ f hp=>by
   obtain ⟨c,h,g⟩:=L3 (s:=s) (i:=(j:Int)) rfl f
   simp only [Ao (by omega:(j:Int)<(s.size:Int)),cond_true,h,Ad,g,Aix,hp,cond_false]) (by simp) s.size 0 (by omega) (by omega)
 obtain ⟨n,_,a2,a3,a4,a5⟩:=H
 refine ⟨n,a2,fun j f=>a3 j (by omega) f,a4,?_⟩
 unfold Tz
 have a5:Al _ (0:Int)=some (n:Int):=a5
 rw [a5,Ad,Ui (lo:=0) (a:=0) (b:=n) rfl rfl (by omega) a2]; rfl
theorem Asv (s:ByteArray) (l:s.size<1099511627776):∃n,n<=s.size/\(∀j,j<n->diI (bI s j)=true)/\(n<s.size->diI (bI s n)=false)/\Xd s=some (s.extract 0 n):=by
 have H:=Aco (step:=fun v3:Int=>bif (decide (v3<(s.size:Int))) then ((G3 s v3).bind fun k=>(M2 (k.toNat:Int)).bind fun v5=>bif v5 then some (.inl (Ac (v3+1))) else some (.inr v3)) else some (.inr v3))
  s diI (fun j=>(j:Int)) (fun j=>(j:Int)) 0 (fun j _ f hp=>by
   obtain ⟨c,h,g⟩:=L3 (s:=s) (i:=(j:Int)) rfl f
   simp only [Ao (by omega:(j:Int)<(s.size:Int)),cond_true,h,Ad,g,Ya,hp,C9 f (by omega)]) (fun j _ f hp=>by
   obtain ⟨c,h,g⟩:=L3 (s:=s) (i:=(j:Int)) rfl f
   simp only [Ao (by omega:(j:Int)<(s.size:Int)),cond_true,h,Ad,g,Ya,hp,cond_false]) (by simp) s.size 0 (by omega) (by omega)
 obtain ⟨n,_,a2,a3,a4,a5⟩:=H
 refine ⟨n,a2,fun j f=>a3 j (by omega) f,a4,?_⟩
 unfold Xd
 have a5:Al _ (0:Int)=some (n:Int):=a5
 rw [a5,Ad,Ui (lo:=0) (a:=0) (b:=n) rfl rfl (by omega) a2]; rfl
theorem Rl {R:Type} {c:Bool} {X Y:Option R} {Q:R->Prop} (h1:∃r,X=some r/\Q r) (h2:∃r,Y=some r/\Q r):∃r,(bif c then X else Y)=some r/\Q r:=by cases c <;> assumption
theorem Acp {A R:Type} {X:Option A} {f:A->Option R} {Q:R->Prop} (P:A->Prop) (h1:∃a,X=some a/\P a) (h2:∀a,P a->∃r,f a=some r/\Q r):∃r,X.bind f=some r/\Q r:=by
 obtain ⟨a,e,h⟩:=h1
 rw [e]; exact h2 a h
theorem Asw (s:ByteArray):∃b,T0 s=some b/\True:=by
 unfold T0
 repeat' first | refine Rl ?_ ?_ | exact ⟨_,rfl,trivial⟩
theorem Asx (s:ByteArray) (h1:1<=s.size):∃r,T2 s=some r/\(r.size<=s.size):=by
 have g:Ey s 0 1=some (s.extract 0 1):=Ui rfl rfl (by omega) h1
 have c:(s.extract 0 1).size<=s.size:=by rw [ByteArray.size_extract]; omega
 unfold T2
 refine Acp (fun z=>∀r,z = .inl r->r.size<=s.size) ?_ ?_
 .by_cases h2:2<=s.size
  .have f:Ey s 0 2=some (s.extract 0 2):=Ui rfl rfl (by omega) h2
   have b:∀r,(Sum.inl (s.extract 0 2):ByteArray⊕Unit) = .inl r->r.size<=s.size:=by rintro r ⟨⟩; rw [ByteArray.size_extract]; omega
   simp only [f,Ad]
   repeat' first | refine Rl ?_ ?_ | with_reducible exact ⟨_,rfl,b⟩ | exact ⟨_,rfl,fun r h=>by cases h⟩
  .rw [Av (by omega)]
   exact ⟨_,rfl,fun r h=>by cases h⟩
 .rintro (r | u) i
  .exact ⟨_,rfl,i r rfl⟩
  .simp only [g,Ad]
   have h0:(ByteArray.mk #[]).size<=s.size:=Nat.zero_le _
   repeat' first | refine Rl ?_ ?_ | with_reducible exact ⟨_,rfl,c⟩ | with_reducible exact ⟨_,rfl,h0⟩
theorem Asy (s:ByteArray) (g:s.size<1099511627776):∃b,T1 s=some b/\True:=by
 unfold T1
 refine D6 (fun (_,i)=>∃j:Nat,i=j/\j<=s.size) (fun (_,i)=>s.size-i.toNat) (fun _=>True) ⟨0,rfl,by omega⟩ ?_ ?_
 .rintro ⟨v,i⟩ ⟨j,rfl,k⟩
  rcases Nat.lt_or_ge j s.size with h | h
  .obtain ⟨c,f,_⟩:=L3 (s:=s) (i:=(j:Int)) rfl h
   simp only [Ao (by omega:(j:Int)<(s.size:Int)),cond_true,f,Ad,C9 h (by omega)]
   cases decide (Ac (Ac (v*10)+Ac (wu8 ((c.toNat:Int)-48)))>1000000) with
   | true=>exact .inr ⟨_,rfl,trivial⟩
   | false=>exact .inl ⟨_,rfl,⟨j+1,rfl,by omega⟩,by simp; omega⟩
  .have:j=s.size:=by omega
   subst this
   exact .inr ⟨.inr (),by simp,trivial⟩
 .rintro (r | u) _ <;> exact ⟨_,rfl,trivial⟩
theorem Asz (s:ByteArray) (i:Nat) (J:i<s.size) (S:s.size<1099511627776) :
  ∃r,Tx s i=some r/\(r.2=0->1<=r.1.Text.size/\i+r.1.Text.size<=s.size/\(r.1.Kind=2->Gq r.1.Text))/\(Gq s->i=0->r=(⟨2,s,0⟩,0)):=by
 obtain ⟨c,N,M⟩:=L3 (s:=s) (i:=(i:Int)) rfl J
 have u:Ey s (i:Int) (s.size:Int)=some (s.extract i s.size):=Ui rfl rfl (by omega) (by omega)
 have I:(s.extract i s.size).size=s.size-i:=by rw [ByteArray.size_extract]; omega
 have x:bI (s.extract i s.size) 0=bI s i:=Uh (by omega) (by omega)
 unfold Tx
 simp only [N,Ad,M,Aiv,Aiw,Ya,u]
 have hw:(bif loI (bI s i) then some true else some (upI (bI s i)))=some (loI (bI s i)||upI (bI s i)):=by cases loI (bI s i) <;> rfl
 rw [hw]
 simp only [Ad]
 cases l:(loI (bI s i)||upI (bI s i)) with
 | true=>
  obtain ⟨n,G,D,y,n4⟩:=Asu (s.extract i s.size) (by omega)
  have A:1<=n:=by
   rcases Nat.eq_zero_or_pos n with h | h
   .subst h
    have:=y (by omega)
    rw [x] at this
    unfold wiI at this
    rw [l] at this; cases this
   .exact h
  have hx:(s.extract i s.size).extract 0 n=s.extract i (i+n):=by rw [ByteArray.extract_extract]; congr 1; omega
  have q:(s.extract i (i+n)).size=n:=by rw [ByteArray.size_extract]; omega
  rw [hx] at n4
  simp only [cond_true,n4,Ad,q]
  have g:Gq s->i=0->n=s.size:=by
   intro hu h0
   rcases Nat.lt_or_ge n s.size with h | h
   .have:=y (by omega)
    rw [Uh (by omega) (by omega),hu.2.2.2 _ (by omega)] at this; cases this
   .omega
  by_cases L:n<=24
  .rw [Av (by omega)]
   cases k:upI (bI s i) with
   | true=>
    refine ⟨_,rfl,fun _=>⟨?_,?_,fun _=>⟨?_,?_,?_,?_⟩⟩,?_⟩
    .show 1<=(s.extract i (i+n)).size; omega
    .show i+(s.extract i (i+n)).size<=s.size; omega
    .show 1<=(s.extract i (i+n)).size; omega
    .show (s.extract i (i+n)).size<=24; omega
    .show upI (bI (s.extract i (i+n)) 0)=true
     rw [Uh (by omega) (by omega)]; exact k
    .show ∀j,j<(s.extract i (i+n)).size->wiI (bI (s.extract i (i+n)) j)=true
     intro j U
     rw [Uh (by omega) (by omega)]
     have:=D j (by omega)
     rw [Uh (by omega) (by omega)] at this; exact this
    .intro hu h0
     have:=g hu h0
     subst h0; subst this
     rw [Nat.zero_add,ByteArray.extract_zero_size]; rfl
   | false=>
    obtain ⟨b,hb,_⟩:=Asw (s.extract i (i+n))
    simp only [cond_false,hb,Ad]
    have f:Gq s->i=0->False:=by
     intro hu h0
     subst h0
     rw [hu.2.2.1] at k; cases k
    cases b with
    | true=>exact ⟨_,rfl,fun _=>⟨by show 1<=(s.extract i (i+n)).size; omega,by show i+(s.extract i (i+n)).size<=s.size; omega,fun h=>by cases h⟩,fun hu h0=>(f hu h0).elim⟩
    | false=>exact ⟨_,rfl,fun _=>⟨by show 1<=(s.extract i (i+n)).size; omega,by show i+(s.extract i (i+n)).size<=s.size; omega,fun h=>by cases h⟩,fun hu h0=>(f hu h0).elim⟩
  .rw [Ao (by omega)]
   refine ⟨_,rfl,(fun h=>by cases h),fun hu h0=>?_⟩
   have:=g hu h0
   have:=hu.2.1
   omega
 | false=>
  have f:Gq s->i=0->False:=by
   intro hu h0
   subst h0
   rw [hu.2.2.1,Bool.or_true] at l; cases l
  simp only [cond_false]
  cases hd:diI (bI s i) with
  | true=>
   obtain ⟨n,G,D,y,n4⟩:=Asv (s.extract i s.size) (by omega)
   have A:1<=n:=by
    rcases Nat.eq_zero_or_pos n with h | h
    .subst h
     have:=y (by omega)
     rw [x,hd] at this; cases this
    .exact h
   have hx:(s.extract i s.size).extract 0 n=s.extract i (i+n):=by rw [ByteArray.extract_extract]; congr 1; omega
   have q:(s.extract i (i+n)).size=n:=by rw [ByteArray.size_extract]; omega
   rw [hx] at n4
   obtain ⟨b,hb,_⟩:=Asy (s.extract i (i+n)) (by omega)
   simp only [cond_true,n4,Ad,hb]
   refine Acp (fun _=>True) ?_ ?_
   .exact Rl ⟨_,rfl,trivial⟩ ⟨_,rfl,trivial⟩
   .intro v _
    refine Rl ⟨_,rfl,(fun h=>by cases h),fun hu h0=>(f hu h0).elim⟩ (Rl ⟨_,rfl,(fun h=>by cases h),fun hu h0=>(f hu h0).elim⟩ ⟨_,rfl,fun _=>⟨?_,?_,fun h=>by cases h⟩,fun hu h0=>(f hu h0).elim⟩)
    .show 1<=(s.extract i (i+n)).size; omega
    .show i+(s.extract i (i+n)).size<=s.size; omega
  | false=>
   obtain ⟨r,E,R⟩:=Asx (s.extract i s.size) (by omega)
   simp only [cond_false,E,Ad]
   rw [Aiu]
   by_cases z:r=ByteArray.mk #[]
   .rw [Ao z]
    exact ⟨_,rfl,(fun h=>by cases h),fun hu h0=>(f hu h0).elim⟩
   .rw [Av z]
    refine ⟨_,rfl,fun _=>⟨?_,?_,fun h=>by cases h⟩,fun hu h0=>(f hu h0).elim⟩
    .show 1<=r.size
     rcases Nat.eq_zero_or_pos r.size with h | h
     .have B:r.data.toList.length=0:=by simpa using h
      exact absurd (Ait (by rw [ByteArray.toList_eq,List.length_eq_zero_iff.1 B,ByteArray.toList_eq])) z
     .exact h
    .show i+r.size<=s.size; omega
theorem As0 (c:Int):Tw c=some (c==9||c==10||c==13||c==32):=by
 unfold Tw
 cases c==9 <;> cases c==10 <;> cases c==13 <;> rfl
theorem Aiy (s:ByteArray) (V:s.size<1099511627776):∃b,Og s=some b/\(b=true↔Gq s):=by
 unfold Og W9
 by_cases q:(s.size:Int)>16384
 .rw [Ao q]
  refine ⟨false,rfl,by simp; rintro ⟨_,h,_⟩; omega⟩
 rw [Av q]
 simp only [cond_false]
 refine Acp (fun r:List G4×Int×Int=>(r.2.2≠0/\¬Gq s)\/(r.2.2=0/\∃o e,r.1=o++[e]/\(∀t∈o,t.Kind=2->Gq t.Text)/\(Gq s->o = [⟨2,s,0⟩]))) ?_ ?_
 .refine D6 (fun (v26,f)=>∃i:Nat,v26=i/\i<=s.size/\f.length<=i/\(∀t∈f,t.Kind=2->Gq t.Text)/\(Gq s->(i=0/\f = [])\/(i=s.size/\f = [⟨2,s,0⟩])))
   (fun (v26,_)=>s.size-v26.toNat)
   (fun z=>match z with | .inl o=>o.length<=16384/\(∀t∈o,t.Kind=2->Gq t.Text)/\(Gq s->o = [⟨2,s,0⟩]) | .inr (_,_,e)=>e≠0/\¬Gq s)
   ⟨0,rfl,by omega,by simp,by simp,fun _=>.inl ⟨rfl,rfl⟩⟩ ?_ ?_
  .rintro ⟨v,o⟩ ⟨i,rfl,hi,ho,hk,hu⟩
   rcases Nat.lt_or_ge i s.size with h | h
   .obtain ⟨c,I,G⟩:=L3 (s:=s) (i:=(i:Int)) rfl h
    have g:Gq s->i=0/\o = []:=fun u=>by
     rcases hu u with h' | h'
     .exact h'
     .omega
    simp only [Ao (by omega:(i:Int)<(s.size:Int)),cond_true,I,Ad,G,As0]
    cases L:(bI s i==9||bI s i==10||bI s i==13||bI s i==32) with
    | true=>
     have k:¬Gq s:=by
      intro u
      have h0:=(g u).1
      subst h0
      have:=u.2.2.1
      simp only [upI,Di,decide_eq_true_eq] at this
      simp only [Bool.or_eq_true,beq_iff_eq] at L
      omega
     exact .inl ⟨(((i+1:Nat):Int),o),by simp only [cond_true]; rw [C9 h (by omega)],⟨i+1,rfl,by omega,(by show o.length<=i+1; omega),hk,fun u=>(k u).elim⟩,by simp; omega⟩
    | false=>
     simp only [cond_false]
     cases B:(bI s i==35) with
     | true=>
      have k:¬Gq s:=by
       intro u
       have h0:=(g u).1
       subst h0
       have:=u.2.2.1
       simp only [upI,Di,decide_eq_true_eq] at this
       simp only [beq_iff_eq] at B
       omega
      simp only [cond_true]
      obtain ⟨n,n1,n2,n3,n4,J⟩:=Aco (step:=fun v32:Int=>bif (decide (v32<(s.size:Int))) then ((G3 s v32).bind fun M=>bif ((M.toNat:Int)==(10:Int)) then some (.inr (.inl v32)) else some (.inl (Ac (v32+1)))) else some (.inr (.inr v32)))
       s (fun c=>!(c==10)) (fun j=>(j:Int)) (fun j=>if j<s.size then Sum.inl (j:Int) else Sum.inr (j:Int)) 0 (fun j _ E hp=>by
        obtain ⟨c,I,G⟩:=L3 (s:=s) (i:=(j:Int)) rfl E
        simp only [Bool.not_eq_true'] at hp
        simp only [Ao (by omega:(j:Int)<(s.size:Int)),cond_true,I,Ad,G,hp,C9 E (by omega),cond_false]) (fun j _ E hp=>by
        obtain ⟨c,I,G⟩:=L3 (s:=s) (i:=(j:Int)) rfl E
        simp only [Bool.not_eq_false'] at hp
        simp only [Ao (by omega:(j:Int)<(s.size:Int)),cond_true,I,Ad,G,hp,if_pos E]) (by simp) (s.size-i) i (by omega) (by omega)
      have X:i<n:=by
       rcases Nat.lt_or_ge i n with h' | h'
       .exact h'
       .have:n=i:=by omega
        subst this
        have:=n4 h
        simp only [beq_iff_eq] at B
        rw [B] at this; cases this
      have J:Al _ (i:Int)=_:=J
      rw [J,Ad]
      rcases Nat.lt_or_ge n s.size with h' | h'
      .rw [if_pos h']
       exact .inl ⟨((n:Int),o),rfl,⟨n,rfl,by omega,(by show o.length<=n; omega),hk,fun u=>(k u).elim⟩,by simp; omega⟩
      .rw [if_neg (by omega)]
       exact .inr ⟨.inl o,rfl,by omega,hk,fun u=>(k u).elim⟩
     | false=>
      obtain ⟨r,U,S,N⟩:=Asz s i h V
      simp only [cond_false,U,Ad]
      by_cases D:r.2=0
      .obtain ⟨a1,a2,a3⟩:=S D
       simp only [F8 D,cond_false]
       rw [Dp (by simp; omega),Ad]
       refine .inl ⟨(((i+r.1.Text.size:Nat):Int),o++[r.1]),?_,⟨i+r.1.Text.size,rfl,a2,by simp; omega,?_,?_⟩,by simp; omega⟩
       .rw [show Ac ((i:Int)+(r.1.Text.size:Int))=((i+r.1.Text.size:Nat):Int) by rw [Ac,Bu] <;> omega]
       .intro t ht
        rcases List.mem_append.1 ht with h' | h'
        .exact hk t h'
        .simp at h'; subst h'; exact a3
       .intro u
        obtain ⟨b1,b2⟩:=g u
        have:=N u b1
        subst b1; subst b2; subst this
        exact .inr ⟨by simp,rfl⟩
      .simp only [Fv D,cond_true]
       refine .inr ⟨_,rfl,D,fun u=>?_⟩
       rw [N u (g u).1] at D
       exact D rfl
   .have:i=s.size:=by omega
    subst this
    refine .inr ⟨.inl o,by simp,by omega,hk,fun u=>?_⟩
    rcases hu u with ⟨h',_⟩ | ⟨_,h'⟩
    .have:=u.1; omega
    .exact h'
  .rintro (o | ⟨l,p,e⟩) R
   .obtain ⟨z1,z2,z3⟩:=R
    simp only
    rw [Dp (by simp; omega),Ad]
    exact ⟨_,rfl,.inr ⟨rfl,o,_,rfl,z2,z3⟩⟩
   .exact ⟨_,rfl,.inl R⟩
 .rintro ⟨l,p,e⟩ (⟨h1,h2⟩ | ⟨h1,o,t,h2,h3,A⟩)
  .simp only at h1
   simp only [C2 h1,cond_false]
   exact ⟨_,rfl,by simp [h2]⟩
  .simp only at h1 h2
   subst h1; subst h2
   simp only [beq_self_eq_true,cond_true]
   match o,h3,A with
   | [],_,A=>exact ⟨false,by simp,by simp; intro u; cases A u⟩
   | [x],h3,A=>
    have Z:Af ([x]++[t]) 0=some x:=rfl
    simp only [Z,Ad,Aiu]
    have Y:((([x]++[t]).length:Int)==2)=true:=rfl
    simp only [Y,cond_true]
    by_cases hx:x.Kind=2
    .simp only [Fu hx,cond_true]
     refine ⟨_,rfl,?_⟩
     rw [decide_eq_true_iff]
     constructor
     .intro h; rw [<-h]; exact h3 x (by simp) hx
     .intro u; have:=A u; simp at this; rw [this]
    .simp only [C2 hx,cond_false]
     refine ⟨_,rfl,?_⟩
     simp only [Bool.false_eq_true,false_iff]
     intro u; have:=A u; simp at this; rw [this] at hx; exact hx rfl
   | x::y::ys,_,A=>
    refine ⟨false,?_,by simp; intro u; have:=A u; simp at this⟩
    rw [C2]
    .rfl
    .simp; omega
end Go.Ab
namespace Go.Ab
open Go
end Go.Ab
namespace Go.Ab
open Go
def Yb (data:List Az) (d:Nat) (v:Int) (y:Kk):Prop:=Gq y.Name/\y.Args.length<=6/\y.Args.all (O6 data d v)=true
def Acq (data:List Az) (d:Nat) (x:Az):Prop:=0<=x.Vars/\x.Vars<=6/\1<=x.Cons.length/\x.Cons.length<=8/\Gq x.Name/\∀y∈x.Cons,Yb data d x.Vars y
def Hc (x:Az):List ByteArray:=x.Cons.map (·.Name)
def Lf (data:List Az):Prop:=data.length<=12/\(∀d x,data[d]? = some x->Acq data d x)/\(data.map (·.Name)).Nodup/\(data.flatMap Hc).Nodup
structure DSz (data:List Az):Prop where
 len:data.length<=1048576
 sz:SzD data
 nm:∀x∈data,x.Name.size<=1048576
 cn:∀x∈data,∀y∈x.Cons,y.Name.size<=1048576
theorem Nf (a b:ByteArray):(a==b)=true↔a=b:=by
 constructor
 .intro h
  cases a with | mk a=>cases b with | mk b=>
  have:a=b:=by exact eq_of_beq h
  rw [this]
 .rintro rfl
  cases a with | mk a=>exact beq_self_eq_true a
def Ii (o:List (ByteArray×Bool)) (L:List ByteArray):Prop:=(∀p∈o,p.2=true)/\∀s,D3 o s=true↔s∈L
theorem Ii.nil:Ii [] []:=⟨by simp,by simp [D3]⟩
theorem Ii.get {o:List (ByteArray×Bool)} {L:List ByteArray} (h:Ii o L) {s:ByteArray} (b:D3 o s=true):F6 o s false=true:=by
 unfold F6
 unfold D3 at b
 rw [List.any_eq_true] at b
 obtain ⟨p,f,c⟩:=b
 cases hf:o.find? (fun p=>s==p.1) with
 | none=>exact absurd c (by have:=List.find?_eq_none.1 hf p f; simpa using this)
 | some q=>exact h.1 q (List.mem_of_find?_eq_some hf)
theorem As1 (o:List (ByteArray×Bool)) (s t:ByteArray) (v:Bool):D3 (Ej o s v) t=(D3 o t||t==s):=by
 induction o with
 | nil=>simp [Ej,D3]
 | cons p o ih=>
  unfold Ej
  cases hp:(s==p.1) with
  | true=>
   have:s=p.1:=(Nf _ _).1 hp
   subst this
   simp only [cond_true,D3,List.any_cons]
   cases t==p.1 <;> simp
  | false=>
   simp only [D3,List.any_cons] at ih ⊢
   simp only [cond_false,List.any_cons,ih,Bool.or_assoc]
theorem Ii.put {o:List (ByteArray×Bool)} {L:List ByteArray} (h:Ii o L) (s:ByteArray):Ii (Ej o s true) (L++[s]):=by
 refine ⟨?_,fun t=>?_⟩
 .have:∀o:List (ByteArray×Bool),(∀p∈o,p.2=true)->∀p∈Ej o s true,p.2=true:=by
   intro o
   induction o with
   | nil=>intro _ p hp; simp [Ej] at hp; rw [hp]
   | cons q o ih=>
    intro b p hp
    unfold Ej at hp
    cases hq:(s==q.1) with
    | true=>
     rw [hq] at hp
     simp only [cond_true,List.mem_cons] at hp
     rcases hp with rfl | hp
     .rfl
     .exact b p (by simp [hp])
    | false=>
     rw [hq] at hp
     simp only [cond_false,List.mem_cons] at hp
     rcases hp with rfl | hp
     .exact b _ (by simp)
     .exact ih (fun p hp=>b p (by simp [hp])) p hp
  exact this o h.1
 .rw [As1,Bool.or_eq_true,h.2 t,Nf]; simp
theorem As2 (x:Az) {c:Nat} {y:Kk} (hy:x.Cons[c]? = some y):Hc x=(x.Cons.take c).map (·.Name)++y.Name::(x.Cons.drop (c+1)).map (·.Name):=by
 have h:=List.take_append_drop c x.Cons
 have hc:=E2 hy
 have e:x.Cons.drop c=y::x.Cons.drop (c+1):=by
  rw [List.drop_eq_getElem_cons hc]
  rw [Ci hc] at hy
  rw [Option.some.inj hy]
 unfold Hc
 conv=>lhs; rw [<-h,e]
 simp
theorem Aiz {L m:List ByteArray} {s:ByteArray} (h:(L++s::m).Nodup):s ∉ L:=by
 rw [List.nodup_append] at h
 intro b
 exact h.2.2 s b s (by simp) rfl
theorem Ai0 {L:List ByteArray} {s:ByteArray} (h:L.Nodup) (c:s ∉ L):(L++[s]).Nodup:=by
 rw [List.nodup_append]
 refine ⟨h,by simp,?_⟩
 intro a ha b hb
 simp at hb; subst hb
 intro e; subst e; exact c ha
theorem As3 {data:List Az} (q:DSz data) {d:Nat} {x:Az} (hx:data[d]? = some x) (G:x.Vars<=6) (o:List (ByteArray×Bool)) (L:List ByteArray) (I:Ii o L) (M:L.Nodup) :
  ∃z,Al (S:=(Int×(List (ByteArray×Bool)))) (E:=(Bool⊕(Int×(List (ByteArray×Bool))))) (fun (f,g)=>
    bif (decide (f<(x.Cons.length:Int))) then (
    (Af x.Cons f).bind fun v54=>
    (Og v54.Name).bind fun u=>
    bif (!u) then some (.inr (.inl false))
    else (
    bif (D3 g v54.Name) then (
    bif (F6 g v54.Name (false:Bool)) then some (.inr (.inl false))
    else (
    (M0 data d f).bind fun s=>
    bif (!s) then some (.inr (.inl false))
    else some (.inl ((Ac (f+1)),(Ej g v54.Name true)))))
    else (
    (M0 data d f).bind fun v58=>
    bif (!v58) then some (.inr (.inl false))
    else some (.inl ((Ac (f+1)),(Ej g v54.Name true))))))
    else some (.inr (.inr (f,g)))) (0,o)=some z /\
   match z with
   | .inl r=>r=false/\¬((∀y∈x.Cons,Yb data d x.Vars y)/\(L++Hc x).Nodup)
   | .inr (_,o')=>(∀y∈x.Cons,Yb data d x.Vars y)/\(L++Hc x).Nodup/\Ii o' (L++Hc x):=by
 have hxm:=Cm hx
 have J:=(q.sz x hxm).1
 refine Ln (fun (f,g)=>∃c:Nat,f=c/\c<=x.Cons.length/\(∀y∈x.Cons.take c,Yb data d x.Vars y)/\(L++(x.Cons.take c).map (·.Name)).Nodup/\Ii g (L++(x.Cons.take c).map (·.Name)))
  (fun (f,_)=>x.Cons.length-f.toNat) _ ?_ _ ⟨0,rfl,by omega,by simp,by simpa using M,by simpa using I⟩
 rintro ⟨v,g⟩ ⟨c,rfl,hc,h1,h2,h3⟩
 rcases Nat.lt_or_ge c x.Cons.length with h | h
 .have hy:x.Cons[c]? = some x.Cons[c]:=Ci h
  generalize x.Cons[c]=y at hy
  have k:=Cm hy
  obtain ⟨b,b1,b2⟩:=Aiy y.Name (by have:=q.cn x hxm y k; omega)
  have ht:=Dy hy
  have B:L++Hc x=(L++(x.Cons.take c).map (·.Name))++y.Name::(x.Cons.drop (c+1)).map (·.Name):=by rw [As2 x hy]; simp
  simp only [Ao (by omega:(c:Int)<(x.Cons.length:Int)),cond_true,Ch rfl hy,Ad,b1,Ast q.sz d c hx hy G q.len,C9 h (by omega)]
  cases b with
  | false=>
   refine .inr ⟨.inl false,rfl,rfl,fun hh=>?_⟩
   have:=b2.2 (hh.1 y k).1; cases this
  | true=>
   simp only [bnt,cond_false]
   cases j:D3 g y.Name with
   | true=>
    simp only [cond_true,h3.get j]
    refine .inr ⟨.inl false,rfl,rfl,fun hh=>?_⟩
    rw [B] at hh
    exact Aiz hh.2 ((h3.2 _).1 j)
   | false=>
    simp only [cond_false]
    cases i:(decide (y.Args.length<=6)&&y.Args.all (O6 data d x.Vars)) with
    | false=>
     refine .inr ⟨.inl false,rfl,rfl,fun hh=>?_⟩
     have:=hh.1 y k
     rw [this.2.2,Ao this.2.1] at i; cases i
    | true=>
     simp only [Di,decide_eq_true_eq] at i
     have A:y.Name ∉ L++(x.Cons.take c).map (·.Name):=fun hh=>by rw [(h3.2 _).2 hh] at j; cases j
     have e:L++(x.Cons.take (c+1)).map (·.Name)=(L++(x.Cons.take c).map (·.Name))++[y.Name]:=by rw [ht]; simp
     refine .inl ⟨_,rfl,⟨c+1,rfl,by omega,?_,?_,?_⟩,by simp; omega⟩
     .intro D l
      rw [ht] at l
      rcases List.mem_append.1 l with h' | h'
      .exact h1 D h'
      .simp at h'; subst h'; exact ⟨b2.1 rfl,i.1,i.2⟩
     .rw [e]; exact Ai0 h2 A
     .rw [e]; exact h3.put _
 .have:c=x.Cons.length:=by omega
  subst this
  rw [List.take_length] at h1 h2 h3
  exact .inr ⟨.inr ((x.Cons.length:Int),g),by simp,h1,h2,h3⟩
theorem As4 {data:List Az} {d:Nat} {x:Az} (hx:data[d]? = some x):data.flatMap Hc=((data.take d).flatMap Hc++Hc x)++(data.drop (d+1)).flatMap Hc/\data.map (·.Name)=(data.take d).map (·.Name)++x.Name::(data.drop (d+1)).map (·.Name):=by
 have h:=List.take_append_drop d data
 have hc:=E2 hx
 have e:data.drop d=x::data.drop (d+1):=by
  rw [List.drop_eq_getElem_cons hc]
  rw [Ci hc] at hx
  rw [Option.some.inj hx]
 constructor
 .conv=>lhs; rw [<-h,e]
  simp [List.flatMap_append]
 .conv=>lhs; rw [<-h,e]
  simp
theorem As5 {data:List Az} (i:DSz data):∃b,S4 data=some b/\(b=true↔Lf data):=by
 have E:=i.len
 unfold S4
 rcases Nat.lt_or_ge 12 data.length with h12 | h12
 .rw [Ao (by omega)]
  exact ⟨false,rfl,by simp; intro h; have:=h.1; omega⟩
 rw [Av (by omega)]
 simp only [cond_false]
 refine D6 (fun (v31,c,f)=>∃d:Nat,v31=d/\d<=data.length/\(∀j x,j<d->data[j]? = some x->Acq data j x)/\((data.take d).map (·.Name)).Nodup/\((data.take d).flatMap Hc).Nodup/\Ii c ((data.take d).map (·.Name))/\Ii f ((data.take d).flatMap Hc))
  (fun (v31,_,_)=>data.length-v31.toNat) (fun z=>match z with | .inl r=>r=false/\¬Lf data | .inr _=>Lf data) ⟨0,rfl,by omega,by intro j x h; omega,by simp,by simp,by simpa using Ii.nil,by simpa using Ii.nil⟩ ?_ ?_
 .rintro ⟨v,c,f⟩ ⟨d,rfl,hd,h1,h2,h3,A,U⟩
  rcases Nat.lt_or_ge d data.length with h | h
  .have hx:data[d]? = some data[d]:=Ci h
   generalize data[d]=x at hx
   have hxm:=Cm hx
   obtain ⟨b,b1,b2⟩:=Aiy x.Name (by have:=i.nm x hxm; omega)
   obtain ⟨f1,f2⟩:=As4 hx
   simp only [Ao (by omega:(d:Int)<(data.length:Int)),cond_true,Ch rfl hx,Ad,b1]
   have bad:∀(u:¬Acq data d x),∃e:Bool⊕((List (ByteArray×Bool))×(List (ByteArray×Bool))),(some (Sum.inr (Sum.inl false)):Option ((Int×(List (ByteArray×Bool))×(List (ByteArray×Bool)))⊕(Bool⊕((List (ByteArray×Bool))×(List (ByteArray×Bool))))))=some (.inr e)/\(match e with | .inl r=>r=false/\¬Lf data | .inr _=>Lf data) :=
    fun u=>⟨.inl false,rfl,rfl,fun hh=>u (hh.2.1 d x hx)⟩
   cases b with
   | false=>
    exact .inr (bad fun hh=>by have:=b2.2 hh.2.2.2.2.1; cases this)
   | true=>
    simp only [bnt,cond_false]
    cases g:D3 c x.Name with
    | true=>
     simp only [cond_true,A.get g,Ad]
     refine .inr ⟨.inl false,rfl,rfl,fun hh=>?_⟩
     have:=hh.2.2.1
     rw [f2] at this
     exact Aiz this ((A.2 _).1 g)
    | false=>
     simp only [cond_false]
     by_cases l:x.Vars<0
     .simp only [Ao l,cond_true,Ad]
      exact .inr (bad fun hh=>by have:=hh.1; omega)
     by_cases s:x.Vars>6
     .simp only [Av l,Ao s,cond_true,cond_false,Ad]
      exact .inr (bad fun hh=>by have:=hh.2.1; omega)
     simp only [Av l,Av s,cond_false,Ad]
     by_cases q:(x.Cons.length:Int)<1
     .simp only [Ao q,cond_true,Ad]
      exact .inr (bad fun hh=>by have:=hh.2.2.1; omega)
     by_cases y:(x.Cons.length:Int)>8
     .simp only [Av q,Ao y,cond_true,cond_false,Ad]
      exact .inr (bad fun hh=>by have:=hh.2.2.2.1; omega)
     simp only [Av q,Av y,cond_false,Ad]
     obtain ⟨z,J,z2⟩:=As3 i hx (by omega) f _ U h3
     rw [J,Ad]
     match z,z2 with
     | .inl r,z2=>
      obtain ⟨rfl,z2⟩:=z2
      refine .inr ⟨.inl false,rfl,rfl,fun hh=>z2 ⟨(hh.2.1 d x hx).2.2.2.2.2,?_⟩⟩
      have:=hh.2.2.2
      rw [f1] at this
      exact (List.nodup_append.1 this).1
     | .inr (v60,B),z2=>
      obtain ⟨N,M,L⟩:=z2
      have ht:=Dy hx
      have D:x.Name ∉ (data.take d).map (·.Name):=fun hh=>by rw [(A.2 _).2 hh] at g; cases g
      have I:(data.take (d+1)).map (·.Name)=(data.take d).map (·.Name)++[x.Name]:=by rw [ht]; simp
      have G:(data.take (d+1)).flatMap Hc=(data.take d).flatMap Hc++Hc x:=by rw [ht]; simp [List.flatMap_append]
      refine .inl ⟨(((d+1:Nat):Int),Ej c x.Name true,B),by simp only [C9 h (by omega)],⟨d+1,rfl,by omega,?_,?_,?_,?_,?_⟩,by simp; omega⟩
      .intro j R S k
       rcases Nat.lt_or_ge j d with h' | h'
       .exact h1 j R h' k
       .have:j=d:=by omega
        subst this
        rw [hx] at k; cases k
        exact ⟨by omega,by omega,by omega,by omega,b2.1 rfl,N⟩
      .rw [I]; exact Ai0 h2 D
      .rw [G]; exact M
      .rw [I]; exact A.put _
      .rw [G]; exact L
  .have:d=data.length:=by omega
   subst this
   rw [List.take_length] at h2 h3
   exact .inr ⟨.inr (c,f),by simp,h12,fun d x hx=>h1 d x (E2 hx) hx,h2,h3⟩
 .rintro (r | ⟨o,o'⟩) i
  .obtain ⟨rfl,i⟩:=i
   exact ⟨false,rfl,by simp [i]⟩
  .exact ⟨true,rfl,by simpa using i⟩
theorem Ai1 {data:List Az} (c:DSz data):∃b,Qb data=some b/\(b=true↔Lf data):=by
 obtain ⟨b,h1,h2⟩:=As5 c
 refine ⟨b,?_,h2⟩
 unfold Qb
 rw [h1,Ad]
 cases b with
 | false=>rfl
 | true=>rfl
end Go.Ab
namespace Go.Ab
open Go
theorem SzD.args {data:List Az} (h:SzD data) {x:Az} (hx:x∈data) {y:Kk} (hy:y∈x.Cons) {t:Aj} (ht:t∈y.Args):B2 t<=1048576/\t.Args.length<=1048576/\y.Args.length<=1048576:=by
 have h1:=(h x hx).2 y hy
 have h3:=Kr ht
 have f:=Jv t
 have c:=Ld t.Args
 have b:=Ld y.Args
 omega
end Go.Ab
namespace Go.Ab
open Go
def isV (σ:List Aj) (k n:Int):Bool:=k==4&&decide (0<=n)&&decide (n<(σ.length:Int))
mutual
def C7 (σ:List Aj):Aj->Aj
 | ⟨k,n,l⟩=>match (if isV σ k n then σ[n.toNat]? else none) with
  | some s=>s
  | none=>⟨k,n,L5 σ l⟩
def L5 (σ:List Aj):List Aj->List Aj
 | []=>[]
 | x::xs=>C7 σ x::L5 σ xs
end
theorem As6 (σ l:List Aj):L5 σ l=l.map (C7 σ):=by
 induction l with
 | nil=>rfl
 | cons x xs ih=>simp only [L5,ih,List.map_cons]
theorem Acr {σ:List Aj} {k n:Int} (h:isV σ k n=true):∃s,σ[n.toNat]? = some s/\Af σ n=some s/\s∈σ:=by
 simp only [isV,Di,decide_eq_true_eq] at h
 have b:n.toNat < σ.length:=by omega
 refine ⟨σ[n.toNat],Ci b,?_,List.getElem_mem b⟩
 unfold Af
 rw [if_pos (by omega),Ci b]
theorem Acs {σ:List Aj} {t s:Aj} (h:isV σ t.Kind t.Num=true) (b:σ[t.Num.toNat]? = some s):C7 σ t=s:=by
 cases t; simp only [C7] at *; simp [h,b]
theorem Ai2 {σ:List Aj} {t:Aj} (h:isV σ t.Kind t.Num=false):C7 σ t=⟨t.Kind,t.Num,t.Args.map (C7 σ)⟩:=by
 cases t; simp only [C7] at *; simp [h,As6]
mutual
theorem Ai3:∀t:Aj,C7 [] t=t
 | ⟨k,n,l⟩=>by
  have hv:isV [] k n=false:=by
   unfold isV
   by_cases h:0<=n
   .rw [Av (by simp; omega:¬n<(([]:List Aj).length:Int))]; simp
   .rw [Av h]; simp
  simp only [C7,hv,Ai4 l]; rfl
theorem Ai4:∀l:List Aj,L5 [] l=l
 | []=>rfl
 | x::xs=>by simp only [L5,Ai3 x,Ai4 xs]
end
mutual
theorem Ai5 (σ:List Aj) (M:Nat) (hM:1<=M) (hσ:∀s∈σ,B2 s<=M):∀t:Aj,B2 (C7 σ t)<=B2 t*M
 | ⟨k,n,l⟩=>by
  cases hv:isV σ k n with
  | true=>
   obtain ⟨s,h1,_,h3⟩:=Acr hv
   rw [Acs (t:=⟨k,n,l⟩) hv h1]
   have:=hσ s h3
   have h2:=Rk ⟨k,n,l⟩
   calc B2 s<=1*M:=by omega
    _<=_:=Nat.mul_le_mul_right M h2
  | false=>
   have:=Ai6 σ M hM hσ l
   simp only [C7,hv,B2]
   simp only [Bool.false_eq_true,if_false,B2]
   rw [Nat.add_mul]; omega
theorem Ai6 (σ:List Aj) (M:Nat) (hM:1<=M) (hσ:∀s∈σ,B2 s<=M):∀l:List Aj,Cs (L5 σ l)<=Cs l*M
 | []=>by simp [L5,Cs]
 | x::xs=>by
  have h1:=Ai5 σ M hM hσ x
  have h2:=Ai6 σ M hM hσ xs
  simp only [L5,Cs]
  rw [Nat.add_mul]; omega
end
theorem Ai7 (σ:List Aj) (t:Aj):(bif t.Kind==(4:Int) then bif decide (t.Num>=(0:Int)) then some (decide (t.Num<(σ.length:Int))) else some false else some false)=some (isV σ t.Kind t.Num):=by
 unfold isV
 cases t.Kind==4 <;> simp
 by_cases h:0<=t.Num <;> simp [h]
theorem As7:∀(k:Nat) (t:Aj) (σ:List Aj) (M:Nat),(∀s∈σ,B2 s<=M)->B2 t+M+1<=k->k<1099511627776->M1 k t σ=some (C7 σ t):=by
 intro k
 induction k with
 | zero=>intro t σ M _ h; omega
 | succ k ih=>
  intro t σ M c h hk
  have g:=Jv t
  have f:=Ld t.Args
  rw [M1]
  rw [show (show Option Bool from bif t.Kind==(4:Int) then bif decide (t.Num>=(0:Int)) then some (decide (t.Num<(σ.length:Int))) else some false else some false)=some (isV σ t.Kind t.Num) from Ai7 σ t,Ad]
  cases b:isV σ t.Kind t.Num with
  | true=>
   obtain ⟨s,h1,h2,h3⟩:=Acr b
   have:=c s h3
   simp only [cond_true,h2,Ad,Acs b h1,ih s [] 0 (by simp) (by omega) (by omega),Ai3]
  | false=>
   rw [Ai2 b]
   simp only [cond_false]
   refine Hw t.Args (fun j=>((j:Int),(t.Args.take j).map (C7 σ))) rfl (by omega) ?_ ?_
   .intro j x i hx h1 h2 h3
    have:=Kr (Cm hx)
    simp only [h1,h2,h3,cond_true,Ad,ih x σ M c (by omega) (by omega)]
    rw [Dp (by simp; omega),Ad,Dy hx]; simp
   .intro h1
    exact ⟨t.Args.map (C7 σ),by simp,rfl⟩
theorem As8:∀(k:Nat) (t:Aj),B2 t<=k->B2 t<1099511627776->Ov k t=some (B2 t:Int):=by
 intro k
 induction k with
 | zero=>intro t h; have:=Rk t; omega
 | succ k ih=>
  intro t h ht
  have b:=Jv t
  have c:=Ld t.Args
  rw [Ov]
  refine Hw t.Args (fun j=>(1+(Cs (t.Args.take j):Int),(j:Int))) rfl (by omega) ?_ ?_
  .intro j x i hx h1 h2 h3
   have g:=Kr (Cm hx)
   have f:=Acl t.Args (j+1)
   have e:Cs (t.Args.take (j+1))=Cs (t.Args.take j)+B2 x:=by rw [Dy hx,X9]; simp [Cs]
   simp only [h1,h2,h3,cond_true,Ad,ih x (by omega) (by omega)]
   rw [show Ac (1+(Cs (t.Args.take j):Int)+(B2 x:Int))=1+(Cs (t.Args.take (j+1)):Int) by rw [e,Ac,Bu] <;> omega]
  .intro h1
   exact ⟨1+(Cs t.Args:Int),by simp,by rw [b]; simp⟩
theorem As9 (σ:List Aj) (M:Nat) (G:1<=M) (u:M<=1048576) (A:∀s∈σ,B2 s<=M):∀(k:Nat) (t:Aj),B2 t<=k->B2 t<=1048576 ->
  ∃v:Nat,Ow k t (σ.map fun s=>(B2 s:Int))=some (v:Int)/\v<=B2 (C7 σ t)/\((v=B2 (C7 σ t))\/200<v):=by
 intro k
 induction k with
 | zero=>intro t h; have:=Rk t; omega
 | succ k ih=>
  intro t h ht
  have B:=Jv t
  have z:=Ld t.Args
  have l:∀x,B2 x<=1048576->B2 (C7 σ x)<=1099511627776:=fun x hx=>by
   have:=Ai5 σ M G A x
   have:B2 x*M<=1048576*1048576:=Nat.mul_le_mul hx u
   omega
  rw [Ow]
  rw [show (show Option Bool from bif t.Kind==(4:Int) then bif decide (t.Num>=(0:Int)) then some (decide (t.Num<((σ.map fun s=>(B2 s:Int)).length:Int))) else some false else some false)=some (isV σ t.Kind t.Num) by rw [List.length_map]; exact Ai7 σ t,Ad]
  cases f:isV σ t.Kind t.Num with
  | true=>
   obtain ⟨s,h1,h2,h3⟩:=Acr f
   have E:Af (σ.map fun s=>(B2 s:Int)) t.Num=some (B2 s:Int):=by
    have:=Ja h2
    rw [Ch (n:=t.Num.toNat) (by omega)]
    simp [h1]
   simp only [cond_true,E,Ad,Acs f h1]
   exact ⟨B2 s,rfl,Nat.le_refl _,.inl rfl⟩
  | false=>
   have y:=l t ht
   rw [Ai2 f] at y ⊢
   simp only [cond_false]
   have g:B2 ⟨t.Kind,t.Num,t.Args.map (C7 σ)⟩=1+Cs (t.Args.map (C7 σ)):=by simp only [B2]
   rw [g] at y ⊢
   refine Xo (fun v:Nat=>(v:Int)) (D6 (fun (n,i)=>∃j:Nat,i=j/\j<=t.Args.length/\n=1+(Cs ((t.Args.map (C7 σ)).take j):Int)) (fun (_,i)=>t.Args.length-i.toNat)
    (fun n=>∃v:Nat,n=v/\v<=1+Cs (t.Args.map (C7 σ))/\(v=1+Cs (t.Args.map (C7 σ))\/200<v)) ⟨0,rfl,by omega,by simp [Cs]⟩ ?_ ?_)
   .rintro ⟨n,i⟩ ⟨j,rfl,L,q⟩
    have q:n=_:=q
    subst q
    rcases Nat.lt_or_ge j t.Args.length with h' | h'
    .have hx:t.Args[j]? = some t.Args[j]:=Ci h'
     generalize t.Args[j]=x at hx
     have J:=Kr (Cm hx)
     obtain ⟨v,b,v2,v3⟩:=ih x (by omega) (by omega)
     have c:(t.Args.map (C7 σ))[j]? = some (C7 σ x):=by simp [hx]
     have e:Cs ((t.Args.map (C7 σ)).take (j+1))=Cs ((t.Args.map (C7 σ)).take j)+B2 (C7 σ x):=by rw [Dy c,X9]; simp [Cs]
     have D:=Acl (t.Args.map (C7 σ)) (j+1)
     have I:Ac (1+(Cs ((t.Args.map (C7 σ)).take j):Int)+(v:Int))=((1+Cs ((t.Args.map (C7 σ)).take j)+v:Nat):Int):=by rw [Ac,Bu] <;> omega
     simp only [Ao (by omega:(j:Int)<(t.Args.length:Int)),cond_true,Ch rfl hx,Ad,b,C9 h' (by omega),I]
     by_cases hb:1+Cs ((t.Args.map (C7 σ)).take j)+v>200
     .rw [Ao (by omega)]
      exact .inr ⟨_,rfl,_,rfl,by omega,.inr hb⟩
     .rw [Av (by omega)]
      refine .inl ⟨_,rfl,⟨j+1,rfl,by omega,?_⟩,by simp; omega⟩
      have:v=B2 (C7 σ x):=by omega
      subst this
      rw [e]; omega
    .have:j=t.Args.length:=by omega
     subst this
     refine .inr ⟨_,by simp; rfl,1+Cs (t.Args.map (C7 σ)),?_,by omega,.inl rfl⟩
     rw [List.take_of_length_le (by simp)]; omega
   .rintro n ⟨v,rfl,b,v2⟩
    exact ⟨_,rfl,v,rfl,b,v2⟩
def Ng (data:List Az) (t:Aj) (c:Int):Option (List Aj) :=
 if t.Kind=5 then
  match Af data t.Num with
  | none=>none
  | some x=>if (t.Args.length:Int)=x.Vars then
    match Af x.Cons c with
    | none=>none
    | some y=>if (y.Args.map (C7 t.Args)).all (fun a=>decide (B2 a<=200)) then some (y.Args.map (C7 t.Args)) else none
   else none
 else none
def okL (o:Option (List Aj)):List Aj×Bool:=match o with | none=>([],false) | some l=>(l,true)
def Szv (data:List Az):Prop:=∀x∈data,∀y∈x.Cons,y.Args.length<=6/\∀a∈y.Args,B2 a<=200
theorem Lf.szv {data:List Az} (h:Lf data):Szv data:=by
 intro x hx y hy
 obtain ⟨d,hd⟩:=List.getElem?_of_mem hx
 have h1:=h.2.1 d x hd
 obtain ⟨_,c,b⟩:=h1.2.2.2.2.2 y hy
 refine ⟨c,fun a ha=>?_⟩
 have:=List.all_eq_true.1 b a ha
 unfold O6 at this
 rw [Bool.or_eq_true] at this
 rcases this with h' | h'
 .exact (Ais hd h1.2.1 h').2
 .simp only [Di,decide_eq_true_eq] at h'; exact h'.2
end Go.Ab
namespace Go.Ab
open Go
theorem Ata {data:List Az} (B:Szv data) (t:Aj) (ht:B2 t<=200) (c:Int):Qx data t c=some (okL (Ng data t c)):=by
 have D:=Jv t
 have u:=Ld t.Args
 unfold Qx Ng
 by_cases hk:t.Kind=5
 .simp only [F8 hk,cond_false,if_pos hk]
  cases hx:Af data t.Num with
  | none=>
   rcases Uf hx with h | h
   .simp only [Ao h,cond_true,Ad,okL]
   .by_cases h':t.Num<0
    .simp only [Ao h',cond_true,Ad,okL]
    .simp only [Av h',Ao (show t.Num>=(data.length:Int) from h),cond_true,cond_false,Ad,okL]
  | some x=>
   obtain ⟨a1,a2,_,hxm⟩:=Ja hx
   simp only [Av (by omega:¬t.Num<0),Av (by omega:¬t.Num>=(data.length:Int)),cond_false,Ad]
   by_cases g:(t.Args.length:Int)=x.Vars
   .simp only [F8 g,cond_false,if_pos g]
    cases hy:Af x.Cons c with
    | none=>
     rcases Uf hy with h | h
     .simp only [Ao h,cond_true,Ad,okL]
     .by_cases h':c<0
      .simp only [Ao h',cond_true,Ad,okL]
      .simp only [Av h',Ao (show c>=(x.Cons.length:Int) from h),cond_true,cond_false,Ad,okL]
    | some y=>
     obtain ⟨b1,b2,_,k⟩:=Ja hy
     obtain ⟨J,b⟩:=B x hxm y k
     simp only [Av (by omega:¬c<0),Av (by omega:¬c>=(x.Cons.length:Int)),cond_false,Ad]
     rw [Ht (n:=t.Args.length) (c:=t.Args.length) rfl rfl (by omega) (by omega) (by omega),Ad]
     refine Hw t.Args (fun j=>((j:Int),((t.Args.take j).map fun s=>(B2 s:Int))++List.replicate (t.Args.length-j) 0)) rfl (by omega) ?_ ?_
     .intro j s G i h1 h2 h3
      have:=Kr (Cm i)
      obtain ⟨m,E⟩:∃m,t.Args.length-j=m+1:=⟨t.Args.length-j-1,by omega⟩
      have I:t.Args.length-(j+1)=m:=by omega
      have l:j=((t.Args.take j).map fun s=>(B2 s:Int)).length:=by simp; omega
      simp only [h1,h2,h3,cond_true,Ad,As8 4000000 s (by omega) (by omega),E,I,List.replicate_succ,Acn _ _ _ (j:Int) j rfl l,Acm _ _ _ _ (j:Int) j rfl l,Dy i]
      simp
     .intro h1
      refine ⟨t.Args.map fun s=>(B2 s:Int),by simp,?_⟩
      have q:∀s∈t.Args,B2 s<=200:=fun s i=>by have:=Kr i; omega
      refine (Xv (rt:=(y.Args.map (C7 t.Args),true)) (rf:=([],false)) y.Args (fun a=>decide (B2 (C7 t.Args a)<=200)) (fun j=>(j:Int)) rfl (by omega) ?_ ?_).trans ?_
      .intro j a ha h1 h2 h3
       have A:=b a (Cm ha)
       obtain ⟨v,z,v2,v3⟩:=As9 t.Args 200 (by omega) (by omega) q 4000000 a (by omega) (by omega)
       simp only [h1,h2,h3,cond_true,Ad,z]
       by_cases hb:B2 (C7 t.Args a)<=200
       .rw [Ao hb,Av (by omega)]
        exact ⟨fun _=>rfl,fun h=>by cases h⟩
       .rw [Av hb,Ao (by omega)]
        exact ⟨(fun h=>by cases h),fun _=>⟨_,rfl,rfl⟩⟩
      .intro h1
       refine ⟨.inr (),by simp,?_⟩
       simp only
       refine Hw y.Args (fun j=>((j:Int),(y.Args.take j).map (C7 t.Args))) rfl (by omega) ?_ ?_
       .intro j a G ha h1 h2 h3
        have A:=b a (Cm ha)
        simp only [h1,h2,h3,cond_true,Ad,As7 4000000 a t.Args 200 q (by omega) (by omega)]
        rw [Dp (by simp; omega),Ad,Dy ha]; simp
       .intro h1
        exact ⟨y.Args.map (C7 t.Args),by simp,rfl⟩
      .rw [List.all_map]
       cases f:y.Args.all ((fun a=>decide (B2 a<=200)) ∘ C7 t.Args) with
       | true=>rw [if_pos rfl]; rw [show (y.Args.all fun a=>decide (B2 (C7 t.Args a)<=200))=true from f]; rfl
       | false=>rw [show (y.Args.all fun a=>decide (B2 (C7 t.Args a)<=200))=false from f]; rfl
   .simp only [Fv g,cond_true,Ad,if_neg g,okL]
 .simp only [Fv hk,cond_true,Ad,if_neg hk,okL]
theorem Acu {data:List Az} {t:Aj} {c:Int} {l:List Aj} (h:Ng data t c=some l) :
  ∃x y,t.Kind=5/\Af data t.Num=some x/\(t.Args.length:Int)=x.Vars/\Af x.Cons c=some y/\l=y.Args.map (C7 t.Args)/\∀a∈l,B2 a<=200:=by
 unfold Ng at h
 by_cases hk:t.Kind=5
 .rw [if_pos hk] at h
  cases hx:Af data t.Num with
  | none=>rw [hx] at h; cases h
  | some x=>
   rw [hx] at h
   simp only at h
   by_cases f:(t.Args.length:Int)=x.Vars
   .rw [if_pos f] at h
    cases hy:Af x.Cons c with
    | none=>rw [hy] at h; cases h
    | some y=>
     rw [hy] at h
     simp only at h
     by_cases b:(y.Args.map (C7 t.Args)).all (fun a=>decide (B2 a<=200))=true
     .rw [if_pos b] at h
      cases h
      refine ⟨x,y,hk,rfl,f,hy,rfl,fun a ha=>?_⟩
      have:=List.all_eq_true.1 b a ha
      simpa using this
     .rw [if_neg b] at h; cases h
   .rw [if_neg f] at h; cases h
 .rw [if_neg hk] at h; cases h
def Ij (l:List Aj) (r:List Bool):List Aj:=((l.zip r).filter fun p=>!p.2).map (·.1)
def Ks (data:List Az) (t:Aj) (c:Int):Option (List Aj):=(Ng data t c).map fun l=>Ij l (Hy data t.Num c)
theorem Atb {data:List Az} {t:Aj} {c:Int} {l:List Aj} (h:Ng data t c=some l):(Hy data t.Num c).length=l.length:=by
 obtain ⟨x,y,_,hx,_,hy,rfl,_⟩:=Acu h
 unfold Hy
 simp only [hx,hy,List.length_map]
theorem Atc {l:List Aj} {r:List Bool} {j:Nat} {a:Aj} {b:Bool} (h1:l[j]? = some a) (h2:r[j]? = some b):Ij (l.take (j+1)) (r.take (j+1))=Ij (l.take j) (r.take j)++bif b then [] else [a]:=by
 unfold Ij
 have f:=E2 h1
 have c:=E2 h2
 rw [Dy h1,Dy h2,List.zip_append (by simp; omega)]
 cases b <;> simp
theorem Atd (l:List Aj) (r:List Bool):(Ij l r).length<=l.length:=by
 unfold Ij
 rw [List.length_map]
 refine Nat.le_trans (List.length_filter_le _ _) ?_
 rw [List.length_zip]; omega
theorem Ate {data:List Az} {t:Aj} {c:Int} {l:List Aj} (h:Ks data t c=some l):(∀a∈l,B2 a<=200)/\∃x,Af data t.Num=some x/\0<=c/\c<x.Cons.length:=by
 unfold Ks at h
 cases hf:Ng data t c with
 | none=>rw [hf] at h; cases h
 | some m=>
  rw [hf] at h
  cases h
  obtain ⟨x,y,_,hx,_,hy,_,f⟩:=Acu hf
  refine ⟨fun a ha=>?_,x,hx,(Ja hy).1,(Ja hy).2.1⟩
  unfold Ij at ha
  obtain ⟨p,b,rfl⟩:=List.mem_map.1 ha
  exact f _ (List.of_mem_zip (List.mem_filter.1 b).1).1
end Go.Ab
namespace Go.Ab
open Go
mutual
def Db:Be->Nat
 | ⟨_,l⟩=>1+Fd l
def Fd:List Be->Nat
 | []=>0
 | x::xs=>Db x+Fd xs
end
theorem G7 (t:Be):Db t=1+Fd t.Kids:=by cases t; simp only [Db]
theorem Rm {l:List Be} {a:Be} (h:a∈l):Db a<=Fd l:=by
 induction l with
 | nil=>cases h
 | cons x xs ih=>
  simp only [Fd]
  rcases List.mem_cons.1 h with rfl | h
  .omega
  .have:=ih h; omega
theorem Uj (l:List Be):l.length<=Fd l:=by
 induction l with
 | nil=>simp
 | cons x xs ih=>simp only [Fd,List.length_cons]; have:=G7 x; omega
mutual
def Hz (data:List Az):Be->Aj->Option Nat
 | ⟨n,kids⟩,t=>
  if t.Kind=6 then (if n=0 then Fj data kids t.Args else none)
  else if t.Kind=7 then (if 0<=n/\n<=6/\kids.length=0 then some n.toNat else none)
  else if t.Kind=5 then (if n=0 then Jb data kids t else none)
  else if n=0/\kids.length=0 then some 0 else none
def Fj (data:List Az):List Be->List Aj->Option Nat
 | [],[]=>some 0
 | i::is,t::ts=>(Hz data i t).bind fun a=>(Fj data is ts).map (a + ·)
 | [],_::_=>none
 | _::_,[]=>none
def Jb (data:List Az):List Be->Aj->Option Nat
 | [],_=>some 0
 | ⟨n,kids⟩::es,t=>(Ks data t n).bind fun ts=>(Fj data kids ts).bind fun a=>(Jb data es t).map (1+a + ·)
end
theorem Ai8 (data:List Az) (i:Be) (t:Aj):Hz data i t=if t.Kind=6 then (if i.Num=0 then Fj data i.Kids t.Args else none)
  else if t.Kind=7 then (if 0<=i.Num/\i.Num<=6/\i.Kids.length=0 then some i.Num.toNat else none)
  else if t.Kind=5 then (if i.Num=0 then Jb data i.Kids t else none)
  else if i.Num=0/\i.Kids.length=0 then some 0 else none:=by cases i; simp only [Hz]
theorem Ai9 (data:List Az) (e:Be) (es:List Be) (t:Aj):Jb data (e::es) t=(Ks data t e.Num).bind fun ts=>(Fj data e.Kids ts).bind fun a=>(Jb data es t).map (1+a + ·):=by cases e; simp only [Jb]
theorem Acv (data:List Az) (i:Be) (b:List Be) (t:Aj) (ts:List Aj):Fj data (i::b) (t::ts)=(Hz data i t).bind fun a=>(Fj data b ts).map (a + ·):=by simp only [Fj]
theorem Aja (data:List Az):∀(b:List Be) (ts:List Aj),ts.length≠b.length->Fj data b ts=none
 | [],[],h=>absurd rfl h
 | i::b,t::ts,h=>by rw [Acv,Aja data b ts (by simpa using h)]; cases Hz data i t <;> rfl
 | [],_::_,_=>by simp only [Fj]
 | _::_,[],_=>by simp only [Fj]
def Ik (o:Option Nat):Int:=match o with | some d=>if d<=6 then (d:Int) else -1 | none => -1
theorem Ajb {d:Nat} (h:d<=6):Ik (some d)=d:=by simp [Ik,h]
theorem Acw {d:Nat} (h:6<d):Ik (some d) = -1:=by simp only [Ik]; rw [if_neg (by omega)]
theorem Atf (o:Option Nat):(Ik o = -1/\∀d,o=some d->6<d)\/∃d,o=some d/\d<=6/\Ik o=d:=by
 cases o with
 | none=>exact .inl ⟨rfl,fun d h=>by cases h⟩
 | some d=>
  rcases Nat.lt_or_ge 6 d with h | h
  .exact .inl ⟨Acw h,fun e b=>by cases b; exact h⟩
  .exact .inr ⟨d,rfl,h,Ajb h⟩
theorem Atg {o:Option Nat} (h:∀d,o=some d->6<d):Ik o = -1:=by
 cases o with
 | none=>rfl
 | some d=>exact Acw (h d rfl)
theorem Lg {α:Type} {l:List α} {j:Nat} {x:α} (h:l[j]? = some x):l.drop j=x::l.drop (j+1):=by
 have b:=E2 h
 rw [List.drop_eq_getElem_cons b]
 rw [Ci b] at h
 rw [Option.some.inj h]
end Go.Ab
namespace Go.Ab
open Go
end Go.Ab
namespace Go.Ab
open Go
def I64 (n:Int):Prop:= -9223372036854775808<=n/\n<=9223372036854775807
def ti (n:Int):List Int:=(Lib.itoa n).map fun c=>(c.toNat:Int)
def L6 (c:Int):Bool:=c==45||(decide (48<=c)&&decide (c<=57))
theorem Rn {d:Nat} (h:d<10):(UInt8.ofNat (48+d)).toNat=48+d:=by
 rw [UInt8.toNat_ofNat']; omega
theorem Yc:∀(n u:Nat),u<=n->∀c∈Lib.decDigits u,48<=c.toNat/\c.toNat<=57:=by
 intro n
 induction n with
 | zero=>
  intro u hu c hc
  rw [Lib.decDigits,dif_pos (by omega)] at hc
  simp only [List.mem_singleton] at hc
  subst hc; rw [Rn (by omega)]; omega
 | succ n ih=>
  intro u hu c hc
  rw [Lib.decDigits] at hc
  split at hc
  .simp only [List.mem_singleton] at hc
   subst hc; rw [Rn (by omega)]; omega
  .rcases List.mem_append.1 hc with h | h
   .exact ih (u / 10) (by omega) c h
   .simp only [List.mem_singleton] at h
    subst h; rw [Rn (by omega)]; omega
def Yd (l:List UInt8):Nat:=l.foldl (fun a c=>10*a+(c.toNat-48)) 0
theorem Ajc:∀(n u:Nat),u<=n->Yd (Lib.decDigits u)=u:=by
 intro n
 induction n with
 | zero=>
  intro u hu
  rw [Lib.decDigits,dif_pos (by omega)]
  simp only [Yd,List.foldl_cons,List.foldl_nil]
  rw [Rn (by omega)]; omega
 | succ n ih=>
  intro u hu
  rw [Lib.decDigits]
  split
  .simp only [Yd,List.foldl_cons,List.foldl_nil]
   rw [Rn (by omega)]; omega
  .have:=ih (u / 10) (by omega)
   unfold Yd at *
   rw [List.foldl_append,this]
   simp only [List.foldl_cons,List.foldl_nil]
   rw [Rn (by omega)]; omega
theorem Ajd {u v:Nat} (h:Lib.decDigits u=Lib.decDigits v):u=v:=by
 rw [<-Ajc u u (Nat.le_refl _),h,Ajc v v (Nat.le_refl _)]
theorem Ath (u:Nat):Lib.decDigits u≠[]:=by
 rw [Lib.decDigits]; split <;> simp
theorem Ati {m n:Int} (h:Lib.itoa m=Lib.itoa n):m=n:=by
 have b:∀u v:Nat,45::Lib.decDigits u≠Lib.decDigits v:=by
  intro u v e
  have:=Yc v v (Nat.le_refl _) 45 (by rw [<-e]; simp)
  exact absurd this (by decide)
 unfold Lib.itoa at h
 split at h <;> split at h
 .have:=Ajd (List.cons.inj h).2; omega
 .exact absurd h (b _ _)
 .exact absurd h.symm (b _ _)
 .have:=Ajd h; omega
theorem Ga (n:Int):∀c∈ti n,L6 c=true:=by
 intro c hc
 unfold ti at hc
 obtain ⟨b,hb,rfl⟩:=List.mem_map.1 hc
 have key:b=45\/(48<=b.toNat/\b.toNat<=57):=by
  unfold Lib.itoa at hb
  split at hb
  .rcases List.mem_cons.1 hb with h | h
   .exact .inl h
   .exact .inr (Yc _ _ (Nat.le_refl _) b h)
  .exact .inr (Yc _ _ (Nat.le_refl _) b hb)
 unfold L6
 rcases key with rfl | ⟨h1,h2⟩
 .decide
 .rw [Bool.or_eq_true,Di,decide_eq_true_eq,decide_eq_true_eq]; right; omega
theorem Acx (n:Int):ti n≠[]:=by
 unfold ti Lib.itoa
 split
 .simp
 .simpa using Ath _
theorem O7 {m n:Int} (h:ti m=ti n):m=n:=by
 unfold ti at h
 have:∀l m:List UInt8,l.map (fun c=>(c.toNat:Int))=m.map (fun c=>(c.toNat:Int))->l=m:=by
  intro l
  induction l with
  | nil=>intro m h; cases m with | nil=>rfl | cons=>simp at h
  | cons x xs ih=>
   intro m h
   cases m with
   | nil=>simp at h
   | cons y ys=>
    simp only [List.map_cons,List.cons.injEq] at h
    rw [ih ys h.2,UInt8.toNat.inj (by omega:x.toNat=y.toNat)]
 exact Ati (this _ _ h)
theorem Kt {n:Int} (h:I64 n):(ti n).length<=21:=by
 unfold ti; rw [List.length_map]; exact Lib.itoa_length_le n h.1 h.2
def Nh (X:List Int):Prop:=∀c m,X=c::m->L6 c=false/\c≠40
def Jc (X:List Int):Prop:=∀c m,X=c::m->L6 c=false
theorem L7:∀(a b X Y:List Int),(∀c∈a,L6 c=true)->(∀c∈b,L6 c=true)->Jc X->Jc Y->a++X=b++Y->a=b/\X=Y
 | [],[],_,_,_,_,_,_,h=>⟨rfl,h⟩
 | [],y::b,X,Y,_,hb,g,_,h=>by
  have:=g y (b++Y) h
  rw [hb y (by simp)] at this; cases this
 | x::a,[],X,Y,ha,_,_,f,h=>by
  have:=f x (a++X) h.symm
  rw [ha x (by simp)] at this; cases this
 | x::a,y::b,X,Y,ha,hb,g,f,h=>by
  simp only [List.cons_append,List.cons.injEq] at h
  obtain ⟨j,i⟩:=L7 a b X Y (fun c hc=>ha c (by simp [hc])) (fun c hc=>hb c (by simp [hc])) g f h.2
  exact ⟨by rw [h.1,j],i⟩
mutual
def wx:Be->List Int
 | ⟨n,kids⟩=>ti n++(if kids.length=0 then [] else 40::(wxs kids++[41]))
def wxs:List Be->List Int
 | []=>[]
 | x::xs=>wx x++44::wxs xs
end
theorem Acy (i:Be):wx i=ti i.Num++(if i.Kids.length=0 then [] else 40::(wxs i.Kids++[41])):=by cases i; simp only [wx]
theorem Aje (l m:List Be):wxs (l++m)=wxs l++wxs m:=by
 induction l with
 | nil=>simp [wxs]
 | cons x xs ih=>simp only [List.cons_append,wxs,ih,List.append_assoc]
theorem Ajf (b:List Be) (X:List Int) (f:Nh X):Jc ((if b.length=0 then [] else 40::(wxs b++[41]))++X):=by
 intro c m h
 by_cases hk:b.length=0
 .rw [if_pos hk,List.nil_append] at h
  exact (f c m h).1
 .rw [if_neg hk,List.cons_append] at h
  cases h; decide
theorem Ajg (X:List Int):Nh (44::X):=by intro c m h; cases h; exact ⟨by decide,by decide⟩
theorem Ajh:Nh []:=by intro c m h; cases h
mutual
theorem Acz:∀(i j:Be) (X Y:List Int),Nh X->Nh Y->wx i++X=wx j++Y->i=j/\X=Y
 | ⟨n,k⟩,⟨n',k'⟩,X,Y,hX,hY,h=>by
  simp only [wx,List.append_assoc] at h
  obtain ⟨e1,e2⟩:=L7 _ _ _ _ (Ga n) (Ga n') (Ajf k X hX) (Ajf k' Y hY) h
  have e1:=O7 e1
  subst e1
  by_cases hk:k.length=0
  .by_cases hk':k'.length=0
   .rw [if_pos hk,if_pos hk'] at e2
    rw [List.length_eq_zero_iff.1 hk,List.length_eq_zero_iff.1 hk']
    exact ⟨rfl,e2⟩
   .rw [if_pos hk,if_neg hk',List.nil_append,List.cons_append] at e2
    exact absurd rfl (hX _ _ e2).2
  .by_cases hk':k'.length=0
   .rw [if_neg hk,if_pos hk',List.nil_append,List.cons_append] at e2
    exact absurd rfl (hY _ _ e2.symm).2
   .rw [if_neg hk,if_neg hk',List.cons_append,List.cons_append,List.append_assoc,List.append_assoc] at e2
    obtain ⟨e3,e4⟩:=Aji k k' X Y hX hY (List.cons.inj e2).2
    rw [e3]; exact ⟨rfl,e4⟩
theorem Aji:∀(l m:List Be) (X Y:List Int),Nh X->Nh Y->wxs l++([41]++X)=wxs m++([41]++Y)->l=m/\X=Y
 | [],[],X,Y,_,_,h=>by
  simp only [wxs,List.nil_append,List.cons_append,List.cons.injEq,true_and] at h
  exact ⟨rfl,h⟩
 | [],y::ys,X,Y,_,_,h=>by
  exfalso
  cases ht:ti y.Num with
  | nil=>exact Acx _ ht
  | cons c r=>
   have hc:=Ga y.Num c (by rw [ht]; simp)
   simp only [wxs,Acy y,ht,List.nil_append,List.cons_append,List.cons.injEq] at h
   rw [<-h.1] at hc; exact absurd hc (by decide)
 | x::xs,[],X,Y,_,_,h=>by
  exfalso
  cases ht:ti x.Num with
  | nil=>exact Acx _ ht
  | cons c r=>
   have hc:=Ga x.Num c (by rw [ht]; simp)
   simp only [wxs,Acy x,ht,List.nil_append,List.cons_append,List.cons.injEq] at h
   rw [h.1] at hc; exact absurd hc (by decide)
 | x::xs,y::ys,X,Y,hX,hY,h=>by
  simp only [wxs,List.append_assoc,List.cons_append] at h
  obtain ⟨e1,e2⟩:=Acz x y _ _ (Ajg _) (Ajg _) h
  obtain ⟨e3,e4⟩:=Aji xs ys X Y hX hY (by simpa using e2)
  exact ⟨by rw [e1,e3],e4⟩
end
mutual
def iR:Be->Prop
 | ⟨n,l⟩=>I64 n/\iRs l
def iRs:List Be->Prop
 | []=>True
 | x::xs=>iR x/\iRs xs
end
theorem Atj (i:Be):iR i↔I64 i.Num/\iRs i.Kids:=by cases i; simp only [iR]
theorem Atl {l:List Be} (h:iRs l) {a:Be} (ha:a∈l):iR a:=by
 induction l with
 | nil=>cases ha
 | cons x xs ih=>
  simp only [iRs] at h
  rcases List.mem_cons.1 ha with rfl | ha
  .exact h.1
  .exact ih h.2 ha
mutual
theorem Ac0:∀i:Be,iR i->(wx i).length+1<=24*Db i
 | ⟨n,l⟩,h=>by
  simp only [iR] at h
  have h1:=Ye l h.2
  have h2:=Kt h.1
  simp only [wx,Db,List.length_append]
  by_cases hl:l.length=0
  .rw [if_pos hl]; simp; omega
  .rw [if_neg hl]; simp; omega
theorem Ye:∀l:List Be,iRs l->(wxs l).length<=24*Fd l
 | [],_=>by simp [wxs,Fd]
 | x::xs,h=>by
  simp only [iRs] at h
  have h1:=Ac0 x h.1
  have h2:=Ye xs h.2
  have h3:=G7 x
  simp only [wxs,Fd,List.length_append,List.length_cons]; omega
end
theorem Ajj (l m:List Be):Fd (l++m)=Fd l+Fd m:=by
 induction l with
 | nil=>simp [Fd]
 | cons x xs ih=>simp only [List.cons_append,Fd,ih]; omega
theorem Atm (l m:List Be):iRs (l++m)↔iRs l/\iRs m:=by
 induction l with
 | nil=>simp [iRs]
 | cons x xs ih=>simp only [List.cons_append,iRs,ih,and_assoc]
theorem Ac1 {n:Int} (h:I64 n):Lo n=some ⟨(Lib.itoa n).toArray⟩:=by unfold Lo; rw [if_pos (show _/\_ from h)]
theorem Atn (n:Int):Ka ⟨(Lib.itoa n).toArray⟩=ti n:=by unfold Ka ti; simp
theorem Ato:∀(k:Nat) (i:Be) (b:List Int),Db i<=k->iR i->b.length+24*Db i<=1099511627776->Oh k i b=some (b++wx i):=by
 intro k
 induction k with
 | zero=>intro i b h; have:=G7 i; omega
 | succ k ih=>
  intro i b h c hb
  have E:=G7 i
  have z:=Uj i.Kids
  have c:=(Atj i).1 c
  have B:=Kt c.1
  rw [Oh,Acy]
  simp only [Gm,Ac1 c.1,Ad,E9,Q6,Atn]
  rw [Dp (by omega)]
  simp only [Ad]
  by_cases h0:i.Kids.length=0
  .rw [Av (by omega),if_pos h0]; simp
  .rw [Ao (by omega),if_neg h0]
   simp only [cond_true,Qw,Q6,Ad]
   rw [Dp (by simp; omega),Ad]
   have g:=Ye i.Kids c.2
   have l:∀j,(wxs (i.Kids.take j)).length<=24*Fd i.Kids:=fun j=>by
    have:=Aje (i.Kids.take j) (i.Kids.drop j)
    rw [List.take_append_drop] at this
    rw [this,List.length_append] at g; omega
   refine Hw i.Kids (fun j=>((j:Int),b++ti i.Num++[40]++wxs (i.Kids.take j))) (by simp [wxs]) (by omega) ?_ ?_
   .intro j x D hx h1 h2 h3
    have A:=Rm (Cm hx)
    have f:=Atl c.2 (Cm hx)
    have y:=Ac0 x f
    have hh:=l (j+1)
    have e:wxs (i.Kids.take (j+1))=wxs (i.Kids.take j)++(wx x++[44]):=by rw [Dy hx,Aje]; simp [wxs]
    rw [e] at hh
    simp only [List.length_append,List.length_cons,List.length_nil] at hh
    simp only [h1,h2,h3,cond_true,Ad]
    have u:Fd (i.Kids.take j)+Db x<=Fd i.Kids:=by
     have q:=Ajj (i.Kids.take (j+1)) (i.Kids.drop (j+1))
     rw [List.take_append_drop,Dy hx,Ajj] at q
     simp only [Fd] at q; omega
    have s:(wxs (i.Kids.take j)).length<=24*Fd (i.Kids.take j):=Ye _ (by
     have:=(Atm (i.Kids.take j) (i.Kids.drop j)).1 (by rw [List.take_append_drop]; exact c.2)
     exact this.1)
    rw [ih x _ (by omega) f (by simp; omega)]
    simp only [Ad]
    rw [Dp (by simp; omega),e]
    simp
   .intro h1
    refine ⟨b++ti i.Num++[40]++wxs i.Kids,by simp,?_⟩
    rw [Dp (by simp; omega)]
    simp
def G8 (v:Int) (i:Be):List Int:=118::(ti v++58::wx i)
def Gb (v:Int) (i:Be):ByteArray:=⟨(Dr (G8 v i)).toArray⟩
mutual
theorem Ajk:∀i:Be,∀c∈wx i,0<=c/\c<256
 | ⟨n,l⟩,c,h=>by
  simp only [wx,List.mem_append] at h
  rcases h with h | h
  .have:=Ga n c h
   simp only [L6,Bool.or_eq_true,Di,beq_iff_eq,decide_eq_true_eq] at this
   omega
  .by_cases hl:l.length=0
   .rw [if_pos hl] at h; cases h
   .rw [if_neg hl] at h
    simp only [List.mem_cons,List.mem_append,List.not_mem_nil,or_false] at h
    rcases h with h | h | h
    .omega
    .exact Ajl l c h
    .omega
theorem Ajl:∀l:List Be,∀c∈wxs l,0<=c/\c<256
 | [],c,h=>by simp [wxs] at h
 | x::xs,c,h=>by
  simp only [wxs,List.mem_append,List.mem_cons] at h
  rcases h with h | h | h
  .exact Ajk x c h
  .omega
  .exact Ajl xs c h
end
theorem Yf (v:Int) (i:Be):∀c∈G8 v i,0<=c/\c<256:=by
 intro c h
 simp only [G8,List.mem_cons,List.mem_append] at h
 rcases h with h | h | h | h
 .omega
 .have:=Ga v c h
  simp only [L6,Bool.or_eq_true,Di,beq_iff_eq,decide_eq_true_eq] at this
  omega
 .omega
 .exact Ajk i c h
theorem Ac2:∀l m:List Int,(∀c∈l,0<=c/\c<256)->(∀c∈m,0<=c/\c<256)->Dr l=Dr m->l=m
 | [],[],_,_,_=>rfl
 | [],_::_,_,_,h=>by simp [Dr] at h
 | _::_,[],_,_,h=>by simp [Dr] at h
 | x::xs,y::ys,h1,h2,h=>by
  simp only [Dr,List.map_cons,List.cons.injEq] at h
  have hx:=h1 x (by simp)
  have hy:=h2 y (by simp)
  have e:x.toNat=y.toNat:=by
   have:=congrArg UInt8.toNat h.1
   rw [UInt8.toNat_ofNat',UInt8.toNat_ofNat'] at this
   omega
  rw [Ac2 xs ys (fun c hc=>h1 c (by simp [hc])) (fun c hc=>h2 c (by simp [hc])) h.2,show x=y by omega]
theorem Ajm {v w:Int} {i j:Be} (h:Gb v i=Gb w j):v=w/\i=j:=by
 unfold Gb at h
 have h1:(Dr (G8 v i)).toArray=(Dr (G8 w j)).toArray:=by injection h
 have h2:Dr (G8 v i)=Dr (G8 w j):=by simpa using congrArg Array.toList h1
 have h3:=Ac2 _ _ (Yf v i) (Yf w j) h2
 simp only [G8,List.cons.injEq,true_and] at h3
 have b:∀X:List Int,Jc (58::X):=fun X c m e=>by cases e; decide
 obtain ⟨k,g⟩:=L7 _ _ _ _ (Ga v) (Ga w) (b _) (b _) h3
 obtain ⟨f,_⟩:=Acz i j [] [] Ajh Ajh (by simpa using (List.cons.inj g).2)
 exact ⟨O7 k,f⟩
theorem Atp (l:List UInt8):Ka ⟨l.toArray⟩=l.map fun b=>(b.toNat:Int):=by unfold Ka; simp
theorem Ac3 (v:Int) (i:Be) (c:I64 v) (g:iR i) (q:Db i<=1048576):I1 v i=some (Gb v i):=by
 have l:=Kt c
 have f:(Lib.itoa v).length=(ti v).length:=by unfold ti; simp
 unfold I1
 have k:Ed (ByteArray.mk #[118]) ⟨(Lib.itoa v).toArray⟩=some ⟨(118::Lib.itoa v).toArray⟩:=by
  unfold Ed
  rw [if_pos]
  .congr 1
  .show 1+(Lib.itoa v).toArray.size<=9223372036854775807
   rw [List.size_toArray]; omega
 have j:Ed ⟨(118::Lib.itoa v).toArray⟩ (ByteArray.mk #[58])=some ⟨(118::(Lib.itoa v++[58])).toArray⟩:=by
  unfold Ed
  rw [if_pos]
  .congr 1
  .show (118::Lib.itoa v).toArray.size+1<=9223372036854775807
   rw [List.size_toArray,List.length_cons]; omega
 simp only [Gm,Ac1 c,Ad,k,j,Gv,Tn,Atp]
 rw [Dp (by simp; omega)]
 simp only [Ad]
 rw [Ato 4000000 i _ (by omega) g (by simp; omega)]
 simp only [Ad,I3]
 have h:([]++(118::(Lib.itoa v++[58])).map fun b=>(b.toNat:Int))++wx i=G8 v i:=by
  unfold G8 ti; simp
 rw [h]
 unfold Sj Gb
 rw [if_pos (Yf v i)]; rfl
end Go.Ab
