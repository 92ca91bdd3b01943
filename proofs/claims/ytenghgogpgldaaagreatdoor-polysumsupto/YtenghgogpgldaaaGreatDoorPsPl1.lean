/- Plain laws: what the plain functions answer. -/
import Derived.Test.YtenghgogpgldaaaGreatDoorPsPl0
namespace Go.Ab
open Go Ieee
theorem Arl (n d:Nat):∃c,Toward.even.cut false n d=c/\(n / 2 ^ d<=c)/\c<=n / 2 ^ d+1/\(n % 2 ^ d=0->c=n / 2 ^ d):=by
 refine ⟨_,rfl,?_⟩
 unfold Toward.cut
 simp only [Nat.shiftLeft_eq,Nat.one_mul]
 by_cases hd:d<=n.log2+2
 .rw [Nat.min_eq_left hd]
  generalize h2:2 ^ d=g
  have h:0<g:=by rw [<-h2]; exact Nat.pow_pos (by decide)
  refine ⟨by omega,?_,fun h0=>?_⟩
  .have:=Bool.toNat_le (decide (g<2*(n % g))||(g==2*(n % g)&&n / g % 2==1))
   omega
  .rw [h0]
   have h1:decide (g<2*0)=false:=by simp
   have h3:(g==2*0)=false:=by simp; omega
   rw [h1,h3]; rfl
 .rw [Nat.min_eq_right (by omega)]
  have b:n<2 ^ (n.log2+1):=Nat.lt_log2_self
  have h:2 ^ (n.log2+2)=2*2 ^ (n.log2+1):=by rw [Nat.pow_succ]; omega
  have f:2 ^ (n.log2+2)<=2 ^ d:=Nat.pow_le_pow_right (by decide) (by omega)
  have l:n / 2 ^ (n.log2+2)=0:=Nat.div_eq_of_lt (by omega)
  have k:n % 2 ^ (n.log2+2)=n:=Nat.mod_eq_of_lt (by omega)
  have j:n / 2 ^ d=0:=Nat.div_eq_of_lt (by omega)
  have i:n % 2 ^ d=n:=Nat.mod_eq_of_lt (by omega)
  rw [l,k,j,i]
  have h1:decide (2 ^ (n.log2+2)<2*n)=false:=by simp; omega
  have h3:(2 ^ (n.log2+2)==2*n)=false:=by simp; omega
  rw [h1,h3]
  exact ⟨by simp,by simp,fun _=>rfl⟩
theorem Rx (f:Nat) (place e:Int) (u:f≠0) (E:place+f.log2=e) (h1 : -1000<=e) (h2:e<=900) :
  ∃(m:Nat) (p:Int),double.read (double.nearest false f place) = .number false m p/\4503599627370496<=m/\m<9007199254740992/\(p=e-52\/(p=e-51/\m=4503599627370496)):=by
 have g:max (place+f.log2-(double.fractionBits:Int)) double.leastPlace=e-52:=by
  have a:(double.fractionBits:Int)=52:=rfl
  have b:double.leastPlace = -1074:=by decide
  rw [a,b,E]; omega
 have hw:double.nearest false f place=min ((e-52+1074).toNat*4503599627370496+Toward.even.cut false (f <<< (place-(e-52)).toNat) ((e-52)-place).toNat) (2047*4503599627370496):=by
  unfold Format.nearest
  rw [if_neg u]
  simp only [g]
  have b:double.leastPlace = -1074:=by decide
  have c:double.binade=4503599627370496:=by decide
  have d:double.infRung=2047*4503599627370496:=by decide
  rw [b,c,d]
  unfold Format.word
  simp only [Bool.false_eq_true,if_false]
  congr 3
 have hk:4503599627370496<=Toward.even.cut false (f <<< (place-(e-52)).toNat) ((e-52)-place).toNat/\Toward.even.cut false (f <<< (place-(e-52)).toNat) ((e-52)-place).toNat<=9007199254740992:=by
  obtain ⟨c,hc,s,q,i⟩:=Arl (f <<< (place-(e-52)).toNat) ((e-52)-place).toNat
  rw [hc]
  have D:2 ^ f.log2<=f:=Nat.log2_self_le u
  have B:f<2 ^ (f.log2+1):=Nat.lt_log2_self
  rw [Nat.shiftLeft_eq] at s q i
  rcases Int.le_total place (e-52) with h | h
  .have z:(place-(e-52)).toNat=0:=by omega
   rw [z,Nat.pow_zero,Nat.mul_one] at s q i
   have hd:f.log2=52+((e-52)-place).toNat:=by omega
   have hp:2 ^ f.log2=4503599627370496*2 ^ ((e-52)-place).toNat:=by rw [hd,Nat.pow_add]
   have l:2 ^ (f.log2+1)=9007199254740992*2 ^ ((e-52)-place).toNat:=by rw [Nat.pow_succ,hp]; omega
   have hpos:0<2 ^ ((e-52)-place).toNat:=Nat.pow_pos (by decide)
   have a1:4503599627370496<=f / 2 ^ ((e-52)-place).toNat:=(Nat.le_div_iff_mul_le hpos).2 (by omega)
   have a2:f / 2 ^ ((e-52)-place).toNat<9007199254740992:=(Nat.div_lt_iff_lt_mul hpos).2 (by omega)
   omega
  .have z:((e-52)-place).toNat=0:=by omega
   rw [z,Nat.pow_zero,Nat.div_one] at s q i
   have I:=i (Nat.mod_one _)
   have hd:52=f.log2+(place-(e-52)).toNat:=by omega
   have hp:2 ^ f.log2*2 ^ (place-(e-52)).toNat=4503599627370496:=by rw [<-Nat.pow_add,<-hd]
   have l:2 ^ (f.log2+1)*2 ^ (place-(e-52)).toNat=9007199254740992:=by rw [Nat.pow_succ,Nat.mul_right_comm,hp]
   have hpos:0<2 ^ (place-(e-52)).toNat:=Nat.pow_pos (by decide)
   have a1:=Nat.mul_le_mul_right (2 ^ (place-(e-52)).toNat) D
   have a2:=Nat.mul_lt_mul_of_pos_right B hpos
   omega
 generalize Toward.even.cut false (f <<< (place-(e-52)).toNat) ((e-52)-place).toNat=c at *
 obtain ⟨t,ht⟩:∃t:Nat,(e-52+1074).toNat=t/\t<=1922/\(t:Int)=e+1022:=⟨_,rfl,by omega,by omega⟩
 rw [ht.1] at hw
 rw [Nat.min_eq_left (by omega)] at hw
 rw [hw]
 have b:double.leastPlace = -1074:=by decide
 have G:double.binade=4503599627370496:=by decide
 have d:double.infRung=2047*4503599627370496:=by decide
 have x:double.signWeight=9223372036854775808:=by decide
 unfold Format.read
 rw [b,G,d,x]
 have A:(t*4503599627370496+c) / 9223372036854775808=0:=Nat.div_eq_of_lt (by omega)
 have y:(t*4503599627370496+c) % 9223372036854775808=t*4503599627370496+c:=Nat.mod_eq_of_lt (by omega)
 simp only [A,y]
 rw [if_neg (by omega),if_pos (by omega)]
 by_cases hc:c<9007199254740992
 .refine ⟨c,e-52,?_,hk.1,hc,.inl rfl⟩
  have k:(t*4503599627370496+c) % 4503599627370496=c-4503599627370496:=by omega
  have j:(t*4503599627370496+c) / 4503599627370496=t+1:=by omega
  rw [k,j,show 4503599627370496+(c-4503599627370496)=c by omega,show (-1074:Int)+((t+1-1:Nat):Int)=e-52 by omega]; rfl
 .have hc:c=9007199254740992:=by omega
  subst hc
  refine ⟨4503599627370496,e-51,?_,by decide,by decide,.inr ⟨rfl,rfl⟩⟩
  have k:(t*4503599627370496+9007199254740992) % 4503599627370496=0:=by omega
  have j:(t*4503599627370496+9007199254740992) / 4503599627370496=t+2:=by omega
  rw [k,j,Nat.add_zero,show (-1074:Int)+((t+2-1:Nat):Int)=e-51 by omega]; rfl
theorem Acg (v:Int) (h:0<=v):floatOfInt .f64 v=double.nearest false v.natAbs 0:=by
 have e:decide (v<0)=false:=Ap (by omega)
 show double.nearest (decide (v<0)) v.natAbs 0=_
 rw [e]
theorem Arm:double.read 4876203697187506176 = .number false 7812500000000000 7:=by decide
theorem Ya {n k:Nat} (h1:2 ^ k<=n) (h2:n<2 ^ (k+1)):n.log2=k:=(Nat.log2_eq_iff (by have:=Nat.pow_pos (n:=k) (show 0<2 by decide); omega)).2 ⟨h1,h2⟩
theorem Uy {n k:Nat} (h:n<2 ^ (k+1)):n.log2<=k:=by
 by_cases h0:n=0
 .subst h0; simp
 .have:=(Nat.log2_lt h0).2 h; omega
theorem Ach {n k:Nat} (h:2 ^ k<=n):k<=n.log2:=(Nat.le_log2 (by have:=Nat.pow_pos (n:=k) (show 0<2 by decide); omega)).2 h
theorem Arn (x:Int) (h0:1<=x) (h1:x<1000000000):∃(w:Nat) (m:Nat) (p:Int),floatBits .mul .f64 (floatOfInt .f64 x) 4876203697187506176=some w/\double.read w = .number false m p/\4503599627370496<=m/\m<9007199254740992/\7<=p/\(p<=37\/(p=38/\m=4503599627370496)):=by
 have l:x.natAbs.log2<=29:=Uy (by simp; omega)
 obtain ⟨m1,b,g,a1,a2,a3⟩:=Rx x.natAbs 0 (x.natAbs.log2) (by omega) (by omega) (by omega) (by omega)
 have c:(m1*7812500000000000).log2=104\/((m1*7812500000000000).log2=105/\m1≠4503599627370496):=by
  have b1:2 ^ 104<=m1*7812500000000000:=by omega
  have b2:m1*7812500000000000<2 ^ 106:=by omega
  rcases Nat.lt_or_ge (m1*7812500000000000) (2 ^ 105) with h | h
  .exact .inl (Ya b1 h)
  .exact .inr ⟨Ya h b2,by rintro rfl; omega⟩
 obtain ⟨m2,i,f,k,j,q⟩:=Rx (m1*7812500000000000) (b+7) (b+7+(m1*7812500000000000).log2) (by omega) rfl (by omega) (by omega)
 refine ⟨double.nearest false (m1*7812500000000000) (b+7),m2,i,?_,f,k,j,by omega,by omega⟩
 show ((double.read (floatOfInt .f64 x)).product (double.read 4876203697187506176)).map double.write=_
 rw [Acg x (by omega),g,Arm]; rfl
theorem Aro (w:Nat) (m:Nat) (p:Int) (hw:double.read w = .number false m p) (M:4503599627370496<=m) (L:m<9007199254740992) (I:7<=p) (j:p<=37\/(p=38/\m=4503599627370496)) (y:Int) (h0:0<=y) (h1:y<1000000000000000000) :
  ∃(w':Nat) (g:Nat) (f:Int),floatBits .add .f64 w (floatOfInt .f64 y)=some w'/\double.read w' = .number false g f/\4503599627370496<=g/\g<9007199254740992/\7<=f/\f<=39:=by
 obtain ⟨c,b,x,V,U⟩:∃(c:Nat) (b:Int),double.read (floatOfInt .f64 y) = .number false c b/\b<=8/\c<9007199254740992/\-1074<=b:=by
  rw [Acg y h0]
  by_cases hy:y.natAbs=0
  .rw [hy]; exact ⟨0,-1074,by decide,by decide,by decide,by decide⟩
  .have Z:y.natAbs.log2<=59:=Uy (by simp; omega)
   obtain ⟨m1,D,A,a1,a2,a3⟩:=Rx y.natAbs 0 (y.natAbs.log2) hy (by omega) (by omega) (by omega)
   exact ⟨m1,D,A,by omega,a2,by omega⟩
 generalize hb:min p b=base
 have ht:∃T:Nat,signed false m (p-base).toNat+signed false c (b-base).toNat=(T:Int)/\T=m*2 ^ (p-base).toNat+c*2 ^ (b-base).toNat:=by
  refine ⟨m <<< (p-base).toNat+c <<< (b-base).toNat,rfl,by rw [Nat.shiftLeft_eq,Nat.shiftLeft_eq]⟩
 obtain ⟨T,t1,t2⟩:=ht
 have G:0<2 ^ (p-base).toNat:=Nat.pow_pos (by decide)
 have i:2 ^ (b-base).toNat<=2 ^ (8-base).toNat:=Nat.pow_le_pow_right (by decide) (by omega)
 have J:m*2 ^ (p-base).toNat<=2 ^ (90-base).toNat:=by
  rcases j with h | ⟨rfl,rfl⟩
  .have e:2 ^ (90-base).toNat=2 ^ (p-base).toNat*2 ^ (90-p).toNat:=by rw [<-Nat.pow_add]; congr 1; omega
   have e2:2 ^ 53<=2 ^ (90-p).toNat:=Nat.pow_le_pow_right (by decide) (by omega)
   rw [e,Nat.mul_comm]
   exact Nat.mul_le_mul_left _ (by omega)
  .have e:2 ^ (90-base).toNat=2 ^ (38-base).toNat*2 ^ 52:=by rw [<-Nat.pow_add]; congr 1; omega
   rw [e,Nat.mul_comm]; omega
 have E:c*2 ^ (b-base).toNat<2 ^ (90-base).toNat:=by
  have e:2 ^ (90-base).toNat=2 ^ (8-base).toNat*2 ^ 82:=by rw [<-Nat.pow_add]; congr 1; omega
  have e3:c*2 ^ (b-base).toNat<=c*2 ^ (8-base).toNat:=Nat.mul_le_mul_left _ i
  have N:0<2 ^ (8-base).toNat:=Nat.pow_pos (by decide)
  have e5:c*2 ^ (8-base).toNat<2 ^ 82*2 ^ (8-base).toNat:=Nat.mul_lt_mul_of_pos_right (by omega) N
  rw [e,Nat.mul_comm (2 ^ (8-base).toNat)]; omega
 have s:T<2 ^ ((90-base).toNat+1):=by rw [Nat.pow_succ]; omega
 have q:2 ^ (52+(p-base).toNat)<=T:=by
  have:2 ^ 52*2 ^ (p-base).toNat<=m*2 ^ (p-base).toNat:=Nat.mul_le_mul_right _ (by omega)
  rw [Nat.pow_add]; omega
 have Y:=Uy s
 have X:=Ach q
 have u:T≠0:=by
  have:=Nat.pow_pos (n:=52+(p-base).toNat) (show 0<2 by decide); omega
 obtain ⟨m3,B,z,S,R,c3⟩:=Rx T base (base+T.log2) u rfl (by omega) (by omega)
 refine ⟨double.nearest false T base,m3,B,?_,z,S,R,by omega,by omega⟩
 show ((double.read w).sum (double.read (floatOfInt .f64 y))).map double.write=_
 rw [hw,x]
 have l:¬((T:Int)=0):=by omega
 have k:decide ((T:Int)<0)=false:=Ap (by omega)
 simp only [Datum.sum,hb,t1,if_neg l,k,Option.map_some,Int.natAbs_natCast,Format.write]
theorem Arp {b m N:Nat} {p:Int} (g:double.read b = .number false m p) (i:(Datum.number false m p).toInt .zero=some (N:Int)) (h:N<=9223372036854775808):floatToIntVal .f64 b .u64=some (N:Int):=by
 have hd:FloatKind.f64.decode b = .number false m p:=g
 have f:IntKind.u64.min=0:=by decide
 have c:IntKind.u64.max=18446744073709551615:=by decide
 unfold floatToIntVal
 rw [hd,i]
 simp only [f,c]
 rw [if_pos ⟨by omega,by omega⟩]
theorem Arq (w:Nat) (m:Nat) (p:Int) (hw:double.read w = .number false m p) (R:4503599627370496<=m) (M:m<9007199254740992) (L:7<=p) (J:p<=39) (z:Int) (h0:1000000000<=z) (h1:z<1000000000000000000) :
  ∃(w':Nat) (n:Int),floatBits .quo .f64 w (floatOfInt .f64 z)=some w'/\floatToIntVal .f64 w' .u64=some n/\0<=n/\n<=9223372036854775808:=by
 have U:z.natAbs.log2<=59:=Uy (by simp; omega)
 have S:29<=z.natAbs.log2:=Ach (by simp; omega)
 obtain ⟨f,c,u,a1,a2,a3⟩:=Rx z.natAbs 0 (z.natAbs.log2) (by omega) (by omega) (by omega) (by omega)
 have D:m.log2=52:=Ya (by omega) (by omega)
 have y:f.log2=52:=Ya (by omega) (by omega)
 generalize hq:m*2 ^ 54 / f=q
 generalize l:((m*2 ^ 54 % f != 0).toNat)=s
 have E:s<=1:=by rw [<-l]; exact Bool.toNat_le _
 have I:q<2 ^ 55:=by rw [<-hq]; exact (Nat.div_lt_iff_lt_mul (by omega)).2 (by omega)
 have G:2 ^ 53<=q:=by rw [<-hq]; exact (Nat.le_div_iff_mul_le (by omega)).2 (by omega)
 have B:(2*q+s).log2<=55:=Uy (by omega)
 have A:54<=(2*q+s).log2:=Ach (by omega)
 obtain ⟨m4,b,x,c1,Y,Z⟩:=Rx (2*q+s) (p-c-(54:Nat)-1) (p-c-(54:Nat)-1+(2*q+s).log2) (by omega) rfl (by omega) (by omega)
 have j:(Datum.number false m p).quotient (double.fractionBits+2) (Datum.number false f c)=some (.number false (2*q+s) (p-c-(54:Nat)-1)):=by
  have i:¬f=0:=by omega
  have X:double.fractionBits+2=54:=rfl
  simp only [Datum.quotient,if_neg i,X,D,y,Nat.shiftLeft_eq,Nat.add_sub_cancel,hq,l,Bool.xor_self]
 have hb:m4*2 ^ b.toNat<=9223372036854775808:=by
  have k:b<=10\/(b=11/\m4=4503599627370496):=by omega
  rcases k with h | ⟨rfl,rfl⟩
  .have:2 ^ b.toNat<=2 ^ 10:=Nat.pow_le_pow_right (by decide) (by omega)
   have:=Nat.mul_le_mul (Nat.le_of_lt Y) this
   omega
  .decide
 obtain ⟨N,V,g⟩:∃N:Nat,(Datum.number false m4 b).toInt .zero=some (N:Int)/\N<=9223372036854775808:=by
  refine ⟨(m4 <<< b.toNat) / (1 <<< min (-b).toNat ((m4 <<< b.toNat).log2+2)),?_,?_⟩
  .simp only [Datum.toInt,Datum.integral,Toward.cut,signed,Bool.false_eq_true,if_false,Nat.shiftLeft_zero,Bool.toNat_false,Nat.add_zero]
  .rw [Nat.shiftLeft_eq m4]
   exact Nat.le_trans (Nat.div_le_self _ _) hb
 refine ⟨double.nearest false (2*q+s) (p-c-(54:Nat)-1),(N:Int),?_,?_,by omega,by omega⟩
 .have e:floatBits .quo .f64 w (floatOfInt .f64 z)=((double.read w).quotient (double.fractionBits+2) (double.read (floatOfInt .f64 z))).map double.write:=rfl
  rw [e,hw,Acg z (by omega),u,j]
  simp only [Option.map_some,Format.write]
 .exact Arp x V g
theorem Arr (r n:Nat) (h2:2<=Bg n) (E:Bg r<=Bg n+1) (G:Bg n<1099511627776):∃d:Nat,T8 (Ae r) (Ae n)=some (d:Int)/\d<1000000000:=by
 unfold T8
 unfold Bg at h2 E G
 have c:n≠0:=by rintro rfl; rw [En] at h2; simp at h2
 by_cases V:(Ae r).length<(Ae n).length
 .exact ⟨0,by rw [Ak (by omega)]; rfl,by decide⟩
 .rw [Ap (by omega),cond_false]
  have y:Ac (((Ae n).length:Int)-1)=(((Ae n).length-1:Nat):Int):=by rw [Ac,Bv] <;> omega
  have u:Ac (((Ae n).length:Int)-2)=(((Ae n).length-2:Nat):Int):=by rw [Ac,Bv] <;> omega
  have i1:(Ae n).length-1<(Ae n).length:=by omega
  have i2:(Ae n).length-2<(Ae n).length:=by omega
  have h:(Ae n).length-1<(Ae r).length:=by omega
  have g:(Ae n).length-2<(Ae r).length:=by omega
  have t1:=(Du n).get i1
  have t2:=(Du n).get i2
  have M:=(Du r).get h
  have L:=(Du r).get g
  have i:(Ae n)[(Ae n).length-1]≠0:=by
   have:=(Xy n).2 (Gw c)
   rwa [List.getLast_eq_getElem] at this
  rw [y,u,C4 rfl i1,Ad,C4 rfl i2,Ad,C4 rfl h,Ad,C4 rfl g,Ad]
  generalize (Ae n)[(Ae n).length-1]=a1 at *
  generalize (Ae n)[(Ae n).length-2]=a2 at *
  generalize (Ae r)[(Ae n).length-1]=b1 at *
  generalize (Ae r)[(Ae n).length-2]=b2 at *
  have l:Au (Au (Au b1*1000000000)+Au b2)=b1*1000000000+b2:=by
   rw [show Au b1=b1 from Cn (by omega) (by omega),show Au b2=b2 from Cn (by omega) (by omega),show Au (b1*1000000000)=b1*1000000000 from Cn (by omega) (by omega)]
   exact Cn (by omega) (by omega)
  have j:Au (Au (Au a1*1000000000)+Au a2)=a1*1000000000+a2:=by
   rw [show Au a1=a1 from Cn (by omega) (by omega),show Au a2=a2 from Cn (by omega) (by omega),show Au (a1*1000000000)=a1*1000000000 from Cn (by omega) (by omega)]
   exact Cn (by omega) (by omega)
  rw [l,j]
  by_cases X:(Ae r).length=(Ae n).length
  .rw [Em (by omega),cond_true,Iu (by omega) (by omega) (by omega),Ad]
   have R:0<=(b1*1000000000+b2) / (a1*1000000000+a2):=Int.ediv_nonneg (by omega) (by omega)
   have N:(b1*1000000000+b2) / (a1*1000000000+a2)<1000000000:=Int.ediv_lt_of_lt_mul (by omega) (by omega)
   exact ⟨((b1*1000000000+b2) / (a1*1000000000+a2)).toNat,by congr 1; omega,by omega⟩
  .have hk:(Ae n).length<(Ae r).length:=by omega
   have b:r≠0:=by rintro rfl; rw [En] at hk; simp at hk
   have J:=(Du r).get hk
   have f:(Ae r)[(Ae n).length]≠0:=by
    have:=(Xy r).2 (Gw b)
    rw [List.getLast_eq_getElem] at this
    have e:(Ae r).length-1=(Ae n).length:=by omega
    simpa [e] using this
   rw [Cr (by omega),cond_false,C4 rfl hk,Ad]
   generalize (Ae r)[(Ae n).length]=x at *
   obtain ⟨s,m3,A,f1,f2,f3,f4,f5,f6⟩:=Arn x (by omega) (by omega)
   obtain ⟨q,m4,z,g1,g2,g3,g4,g5,g6⟩:=Aro s m3 A f2 f3 f4 f5 f6 (b1*1000000000+b2) (by omega) (by omega)
   obtain ⟨I,k,D,B,U,S⟩:=Arq q m4 z g2 g3 g4 g5 g6 (a1*1000000000+a2) (by omega) (by omega)
   rw [f1,Ad,g1,Ad,D,Ad,B,Ad,show Au (k+2)=k+2 from Cn (by omega) (by omega)]
   by_cases hc:(999999999:Int)<k+2
   .exact ⟨999999999,by rw [if_pos hc]; rfl,by decide⟩
   .exact ⟨(k+2).toNat,by rw [if_neg hc]; congr 1; omega,by omega⟩
end Go.Ab
namespace Go.Ab
open Go
theorem Ars (x r:Nat):Bg (x % 1000000000+1000000000*r)<=Bg r+1:=by
 apply Ic
 have:=K5 r
 rw [Nat.pow_succ]
 omega
set_option maxHeartbeats 1000000 in
theorem Aci (m n:Nat) (hm:Bg m<137438953472) (hn:Bg n<137438953472) (D:n≠0):On (Ae m) (Ae n)=some (Ae (m / n),Ae (m % n)):=by
 unfold On
 rw [X8,Rs m n (by omega) (by omega),Ad]
 have af:=hm
 have ae:=hn
 unfold Bg at hm hn
 by_cases l:m<n
 .rw [show D9 m n = -1 by rw [D9,if_pos l],Ak (by decide:(-1:Int)<0),cond_true,Pn _ (by omega),Ad,Aq0 (Xy m),Nat.div_eq_of_lt l,Nat.mod_eq_of_lt l,En]
 .rw [Ap (show ¬D9 m n<0 by rw [D9,if_neg l]; split <;> decide),cond_false]
  have a8:(Ae n).length≠0:=fun e=>Gw D (List.length_eq_zero_iff.1 e)
  by_cases h1:(Ae n).length=1
  .rw [Em (by omega:((Ae n).length:Int)=1),cond_true]
   have B:n<1000000000:=by
    have:=K5 n
    rw [show Bg n=1 from h1] at this
    simpa using this
   have Y:Ae n = [(n:Int)]:=by
    rw [Kd D,Nat.div_eq_of_lt B,En,Nat.mod_eq_of_lt B]
   rw [Y,show Af [(n:Int)] 0=some (n:Int) from rfl,Ad,show Au (n:Int)=n from Cn (by omega) (by omega),Ari m n (by omega) (by omega) (by omega),Ad]
   have a7:m % n<n:=Nat.mod_lt _ (by omega)
   rw [X7,Nh (m % n) (by omega),Ad]
  .rw [Cr (by omega:((Ae n).length:Int)≠1),cond_false]
   have hw:Ac (((Ae m).length:Int)-1)=((Ae m).length:Int)-1:=by rw [Ac,Bv] <;> omega
   rw [Kc rfl rfl (Nat.le_refl _) (by omega) (by omega),hw]
   simp only [Ad]
   have ha:=Du m
   refine Gm (fun (r,i,q)=>∃(k R:Nat),r=Ae R/\i=(k:Int)-1/\k<=(Ae m).length/\R<n/\q.length=(Ae m).length/\Bk q/\Ai (q.drop k)*n+R=Ai ((Ae m).drop k))
    (fun (_,i,_)=>(i+1).toNat) (fun (r,q)=>∃R:Nat,r=Ae R/\R<n/\q.length=(Ae m).length/\Bk q/\Ai q*n+R=m)
    ⟨(Ae m).length,0,by rw [En],rfl,Nat.le_refl _,by omega,by simp,Bk.replicate _,by simp [Ai]⟩ ?_ ?_
   .rintro ⟨r,i,q⟩ ⟨k,R,rfl,rfl,hk,J,u,g,A⟩
    cases k with
    | zero=>exact .inr ⟨(Ae R,q),by simp,R,rfl,J,u,g,by simpa [D2] using A⟩
    | succ j=>
     have hj:j<(Ae m).length:=by omega
     have E:j<q.length:=by omega
     have hx:=ha.get hj
     obtain ⟨x,y⟩:∃x:Nat,(Ae m)[j]=(x:Int):=⟨(Ae m)[j].toNat,by omega⟩
     have L:x<1000000000:=by omega
     have e0:((j+1:Nat):Int)-1=(j:Int):=by omega
     have e1:decide ((j:Int)>=0)=true:=Ak (by omega)
     have Z:Bg R<=Bg n:=G6 (by omega)
     have ac:Bg (x+1000000000*R)<=Bg R+1:=by
      have:=Ars x R
      rwa [Nat.mod_eq_of_lt L] at this
     have ah:(Ae R).length<=(Ae n).length:=Z
     have G:H6 ((x:Int)::Ae R)=some (Ae (x+1000000000*R)):=by
      rw [Pn _ (by simp; omega)]
      congr 1
      refine Iv ?_ ?_
      .intro d hd
       rcases List.mem_cons.1 hd with rfl | hd
       .omega
       .exact Du R d hd
      .simp only [Ai,D2]; omega
     obtain ⟨d0,U,ag⟩:=Arr (x+1000000000*R) n (by unfold Bg; omega) (by omega) (by omega)
     generalize a6:x+1000000000*R=f at *
     have ab:f<1000000000*n:=by omega
     have s:∀d:Nat,d<18446744073709551616->Lo (d:Int)=some (Ae d)/\Jb (Ae n) (Ae d)=some (Ae (n*d)):=by
      intro d hd
      have:=Uv hd
      exact ⟨by rw [X7,Nh d hd],Rw n d (by omega) (by omega)⟩
     have I:∀d:Nat,d<18446744073709551616->Mu (Ae (n*d)) (Ae f)=some (D9 (n*d) f):=by
      intro d hd
      have h3:=Uv hd
      have h4:=Hb n d
      rw [X8,Rs _ _ (by omega) (by omega)]
     simp only [e0,e1,cond_true,C4 rfl hj,y,Ad,C1 (show ([(x:Int)].length+(Ae R).length)*4<=_ by simp; omega),List.singleton_append,G,U]
     refine .inl (Xu (Dt (fun d=>∃e:Nat,d=e/\e<=d0) (fun d=>d.toNat) (fun d=>∃e:Nat,d=e/\e<=d0/\n*e<=f) ⟨d0,rfl,Nat.le_refl _⟩ ?_ ?_))
     .rintro d ⟨e,rfl,he⟩
      by_cases X:e=0
      .subst X
       exact .inr ⟨0,rfl,0,rfl,by omega,by simp⟩
      .obtain ⟨m1,m2⟩:=s e (by omega)
       simp only [Ak (by omega:(e:Int)>0),cond_true,m1,m2,I e (by omega),Ad]
       by_cases hc:f<n*e
       .refine .inl ⟨((e-1:Nat):Int),?_,⟨e-1,rfl,by omega⟩,by simp; omega⟩
        rw [show D9 (n*e) f=1 by rw [D9,if_neg (by omega),if_pos hc],show decide ((1:Int)>0)=true from rfl,cond_true,show Au ((e:Int)-1)=((e-1:Nat):Int) by rw [Au,Cn] <;> omega]
       .refine .inr ⟨(e:Int),?_,e,rfl,he,by omega⟩
        rw [Ap (show ¬D9 (n*e) f>0 by rw [D9,if_neg hc]; split <;> decide),cond_false]
     .rintro d ⟨e,rfl,he,N⟩
      obtain ⟨m1,m2⟩:=s e (by omega)
      simp only [m1,m2,Ad,X9 f (n*e) (by omega) N]
      refine Dt (fun (r,d)=>∃(c b:Nat),r=Ae c/\d=b/\n*b+c=f) (fun (r,_)=>(Ai r).toNat) (fun (r,d)=>∃(c b:Nat),r=Ae c/\d=b/\n*b+c=f/\c<n) ⟨f-n*e,e,rfl,rfl,by omega⟩ ?_ ?_
      .rintro ⟨r,d⟩ ⟨c,b,rfl,rfl,M⟩
       have aa:Bg c<=Bg f:=G6 (by omega)
       have V:b<1000000000:=by
        rcases Nat.lt_or_ge b 1000000000 with h | h
        .exact h
        .exfalso
         have:n*1000000000<=n*b:=Nat.mul_le_mul_left n h
         omega
       simp only [X8,Rs c n (by omega) (by omega),Ad]
       by_cases hc:c<n
       .refine .inr ⟨(Ae c,(b:Int)),?_,c,b,rfl,rfl,M,hc⟩
        rw [Ap (show ¬D9 c n>=0 by rw [D9,if_pos hc]; decide),cond_false]
       .refine .inl ⟨(Ae (c-n),((b+1:Nat):Int)),?_,⟨c-n,b+1,rfl,rfl,?_⟩,?_⟩
        .rw [Ak (show D9 c n>=0 by rw [D9,if_neg hc]; split <;> decide),cond_true,X9 c n (by omega) (by omega),Ad,show Au ((b:Int)+1)=((b+1:Nat):Int) by rw [Au,Cn] <;> omega]
        .rw [Nat.mul_add]; omega
        .simp only [D2]; omega
      .rintro ⟨r,d⟩ ⟨c,b,rfl,rfl,M,a1⟩
       have V:b<1000000000:=by
        rcases Nat.lt_or_ge b 1000000000 with h | h
        .exact h
        .exfalso
         have:n*1000000000<=n*b:=Nat.mul_le_mul_left n h
         omega
       have w1:Bz (b:Int)=b:=Ej (by omega) (by omega)
       have w8:Ac ((j:Int)-1)=(j:Int)-1:=by rw [Ac,Bv] <;> omega
       refine ⟨_,by simp only [C4 rfl E,Ad,w1,w8,F7 rfl],(Ae c,(j:Int)-1,q.set j (b:Int)),rfl,⟨j,c,rfl,rfl,by omega,a1,by simpa using u,g.set _ (by omega) (by omega),?_⟩,by simp⟩
       have d1:(q.set j (b:Int)).drop j=(b:Int)::q.drop (j+1):=by
        rw [List.drop_eq_getElem_cons (by simpa using E),List.drop_set_of_lt (by omega)]; simp
       rw [d1,List.drop_eq_getElem_cons hj,y]
       simp only [Ai]
       rw [<-A]
       have:((n*b+c:Nat):Int)=((x+1000000000*R:Nat):Int):=by rw [M,a6]
       simp only [Int.natCast_add,Int.natCast_mul] at this
       grind
   .rintro ⟨r,q⟩ ⟨R,rfl,J,u,g,A⟩
    dsimp only
    have ad:=Fd g.u32
    obtain ⟨Q,hQ⟩:∃Q:Nat,Ai q=Q:=⟨(Ai q).toNat,by omega⟩
    rw [hQ] at A
    have z:Q*n+R=m:=by
     have:((Q*n+R:Nat):Int)=(m:Int):=by simp only [Int.natCast_add,Int.natCast_mul]; exact A
     omega
    have hd:m / n=Q:=by rw [<-z,Nat.mul_comm,Nat.mul_add_div (by omega),Nat.div_eq_of_lt J]; rfl
    have S:m % n=R:=by rw [<-z,Nat.mul_comm,Nat.mul_add_mod,Nat.mod_eq_of_lt J]
    rw [Pn q (by omega),Ad,Iv g hQ,hd,S]
theorem Art (m n:Nat) (h:Bg m<137438953472) (g:Bg n<137438953472):Tq (Ae m) (Ae n)=some (Ae (Nat.gcd m n)):=by
 unfold Tq
 refine Gm (fun (a,b)=>∃x y:Nat,a=Ae x/\b=Ae y/\Bg x<137438953472/\Bg y<137438953472/\Nat.gcd x y=Nat.gcd m n) (fun (_,b)=>(Ai b).toNat)
  (fun r=>r=Ae (Nat.gcd m n)) ⟨m,n,rfl,rfl,h,g,rfl⟩ ?_ (by rintro e rfl; rfl)
 rintro ⟨a,b⟩ ⟨x,y,rfl,rfl,hx,hy,f⟩
 by_cases c:y=0
 .subst c
  refine .inr ⟨Ae x,by rw [En]; rfl,?_⟩
  rw [<-f,Nat.gcd_zero_right]
 .have i:(Ae y).length≠0:=fun e=>Gw c (List.length_eq_zero_iff.1 e)
  have j:decide (((Ae y).length:Int)>0)=true:=Ak (by omega)
  refine .inl ⟨(Ae y,Ae (x % y)),?_,⟨y,x % y,rfl,rfl,hy,by have:=G6 (Nat.mod_le x y); omega,?_⟩,?_⟩
  .simp only [j,cond_true,Aci x y hx hy c,Ad]
  .rw [<-f,Nat.gcd_comm y,<-Nat.gcd_rec,Nat.gcd_comm]
  .simp only [D2]
   have:=Nat.mod_lt x (by omega:y>0)
   omega
end Go.Ab
namespace Go.Ab
open Go
def Nj (b:Bool) (n d:Nat):A5:=if d=0 then ⟨false,[],[1]⟩ else B3 b n d
theorem Acj {n:Nat} (h:n≠0):(Ae n).length≠0:=fun e=>Gw h (List.length_eq_zero_iff.1 e)
theorem Air (c:Bool) (a b:List Int) (ha:Je a) (hb:Je b) (q:a.length<137438953400) (l:b.length<137438953400):I9 c a b=some (Nj c (Ai a).toNat (Ai b).toNat):=by
 unfold I9
 have h1:=X5 ha
 have h2:=X5 hb
 rw [Aiq a ha (by omega),Ad,Aiq b hb (by omega),Ad]
 generalize (Ai a).toNat=n at *
 generalize (Ai b).toNat=d at *
 by_cases g:n=0
 .subst g
  have:Nj c 0 d=⟨false,[],[1]⟩:=by unfold Nj; split <;> simp [B3]
  rw [this,En]; rfl
 .have j:=Acj g
  by_cases hd:d=0
  .subst hd
   simp only [Cr (by omega:((Ae n).length:Int)≠0),cond_false,En,Ad]
   rfl
  .have k:=Acj hd
   have f:Nat.gcd n d≠0:=by have:=Nat.gcd_pos_of_pos_left d (by omega:0<n); omega
   have u:Bg (Nat.gcd n d)<=Bg n:=G6 (Nat.gcd_le_left d (by omega:0<n))
   simp only [Cr (by omega:((Ae n).length:Int)≠0),cond_false,Cr (by omega:((Ae d).length:Int)≠0),Ad,Art n d (by omega) (by omega)]
   rw [Nj,if_neg hd,B3,if_neg g]
   have key:(bif (((Ae (Nat.gcd n d)).length:Int) != (1:Int)) then some true else ((Af (Ae (Nat.gcd n d)) 0).bind fun i=>some (i != (1:Int))))=some (decide (Nat.gcd n d≠1)):=by
    have h3:=Acb (Nat.gcd n d)
    unfold Ox at h3
    by_cases s:(Ae (Nat.gcd n d)).length=1
    .rw [Em (by omega:((Ae (Nat.gcd n d)).length:Int)=1),cond_true] at h3
     rw [C5 (by omega:((Ae (Nat.gcd n d)).length:Int)=1),cond_false]
     cases hi:Af (Ae (Nat.gcd n d)) 0 with
     | none=>rw [hi] at h3; cases h3
     | some v=>
      rw [hi] at h3
      simp only [Ad] at h3 ⊢
      have h3:=Option.some.inj h3
      congr 1
      rw [bne,h3]; simp
    .rw [Cr (by omega:((Ae (Nat.gcd n d)).length:Int)≠1),cond_false] at h3
     rw [C2 (by omega:((Ae (Nat.gcd n d)).length:Int)≠1),cond_true]
     have h3:=Option.some.inj h3
     have:Nat.gcd n d≠1:=by simpa using h3.symm
     rw [Ak this]
   rw [key,Ad]
   by_cases h:Nat.gcd n d=1
   .rw [Ap (by simpa using h),cond_false,h]; simp
   .rw [Ak h,cond_true,Aci n _ (by omega) (by omega) f,Ad,Aci d _ (by omega) (by omega) f,Ad]
theorem Aru (a:A5):Nj a.Neg (Ai a.Num).toNat (Ai a.Den).toNat=B3 (sv a) (nv a) (dv a):=by
 unfold Nj sv nv dv
 by_cases b:(Ai a.Num).toNat=0
 .simp [b,B3]
 .by_cases hd:(Ai a.Den).toNat=0
  .simp [hd,B3]
  .simp [b,hd]
theorem Po (a:A5) (k:Nat) (h:RB k a) (hk:k<137438953400):I8 a=some (B3 (sv a) (nv a) (dv a)):=by
 unfold I8
 have:=h.nl
 have:=h.dl
 rw [Air _ _ _ h.num h.den (by omega) (by omega),Ad,Aru]
theorem Uz (s:Bool) (n d:Nat) (hd:d≠0):(B3 s n d).Num=Ae (nv (B3 s n d))/\(B3 s n d).Den=Ae (dv (B3 s n d))/\(B3 s n d).Neg=sv (B3 s n d):=by
 obtain ⟨h1,h2,h3,c⟩:=Acf s n d hd
 rw [h1,h2]
 by_cases h0:n=0
 .subst h0
  rw [c rfl,Ace]
  have b:d / Nat.gcd 0 d=1:=by rw [Nat.gcd_zero_left]; exact Nat.div_self (by omega)
  rw [b,Nat.zero_div,En,Rt]; exact ⟨rfl,rfl,rfl⟩
 .rw [h3 h0]; simp [B3,h0]
theorem Ry (a:A5):∃g:Nat,g≠0/\nv a=g*nv (B3 (sv a) (nv a) (dv a))/\dv a=g*dv (B3 (sv a) (nv a) (dv a))/\sv (B3 (sv a) (nv a) (dv a))=sv a:=by
 obtain ⟨h1,h2,h3,b⟩:=Acf (sv a) (nv a) (dv a) (Ea a)
 have hd:=Ea a
 have c:0<Nat.gcd (nv a) (dv a):=Nat.gcd_pos_of_pos_right _ (by omega)
 refine ⟨Nat.gcd (nv a) (dv a),by omega,?_,?_,?_⟩
 .rw [h1]; exact (Nat.mul_div_cancel' (Nat.gcd_dvd_left _ _)).symm
 .rw [h2]; exact (Nat.mul_div_cancel' (Nat.gcd_dvd_right _ _)).symm
 .by_cases h0:nv a=0
  .rw [b h0]
   unfold nv at h0
   unfold sv
   split at h0
   .rename_i hc; rw [if_pos hc]
   .omega
  .exact h3 h0
theorem Arv (s:Bool) (n d:Nat) (h:d≠0):Nj s n d=B3 s n d:=by rw [Nj,if_neg h]
theorem Rz (b:Bool) (n d:Nat) (f:Bg n<137438953400) (hd:Bg d<137438953400) (c:d≠0):I9 b (Ae n) (Ae d)=some (B3 b n d):=by
 unfold Bg at f hd
 rw [Air b _ _ (Du n).u32 (Du d).u32 f hd,D2,D2,Int.toNat_natCast,Int.toNat_natCast,Arv _ _ _ c]
theorem Ack {k:Nat} {a:A5} (h:RB k a):RB (k+1) (B3 (sv a) (nv a) (dv a)):=Pm _ _ _ _ h.nv h.dv (by omega)
theorem Yb {k:Nat} {a:A5} (h:RB k a):Bg (nv (B3 (sv a) (nv a) (dv a)))<=k+1/\Bg (dv (B3 (sv a) (nv a) (dv a)))<=k+1:=by
 obtain ⟨g,b,h1,h2,_⟩:=Ry a
 have a1:=h.nv
 have a2:=h.dv
 refine ⟨Nat.le_trans (G6 ?_) a1,Nat.le_trans (G6 ?_) a2⟩
 .exact Nat.le_trans (Nat.le_mul_of_pos_left _ (by omega)) (Nat.le_of_eq h1.symm)
 .exact Nat.le_trans (Nat.le_mul_of_pos_left _ (by omega)) (Nat.le_of_eq h2.symm)
theorem Arw (a b:A5) (j k:Nat) (ha:RB j a) (hb:RB k b) (hj:j<34359738368) (hk:k<34359738368):Oi a b=some (B3 (sv a != sv b) (nv a*nv b) (dv a*dv b)):=by
 unfold Oi
 rw [Po a j ha (by omega),Ad,Po b k hb (by omega),Ad]
 obtain ⟨g,i,a1,a2,a3⟩:=Ry a
 obtain ⟨h,f,b1,b2,u⟩:=Ry b
 obtain ⟨f1,f2,f3⟩:=Uz (sv a) (nv a) (dv a) (Ea a)
 obtain ⟨s,q,l⟩:=Uz (sv b) (nv b) (dv b) (Ea b)
 obtain ⟨B,A⟩:=Yb ha
 obtain ⟨y,x⟩:=Yb hb
 rw [f1,f2,f3,s,q,l,a3,u]
 generalize hc:B3 (sv a) (nv a) (dv a)=c at *
 generalize hd:B3 (sv b) (nv b) (dv b)=d at *
 have m1:=Hb (nv c) (nv d)
 have m2:=Hb (dv c) (dv d)
 have z:dv c*dv d≠0:=Nat.mul_ne_zero (Ea c) (Ea d)
 rw [Rw _ _ (by omega) (by omega),Ad,Rw _ _ (by omega) (by omega),Ad,Rz _ _ _ (by omega) (by omega) z,Ad]
 rw [a1,a2,b1,b2,show g*nv c*(h*nv d)=g*h*(nv c*nv d) by grind,show g*dv c*(h*dv d)=g*h*(dv c*dv d) by grind,Ux _ _ _ _ (Nat.mul_ne_zero i f)]
theorem Arx (l:Bool) (c j:Nat) (k:Bool) (b i g h:Nat) (y:g≠0) (x:h≠0):Jh l (g*c) (g*j) k (h*b) (h*i)=g*h*Jh l c j k b i/\K6 l (g*c) (g*j) k (h*b) (h*i)=K6 l c j k b i:=by
 have u:g*c*(h*i)=g*h*(c*i):=by grind
 have s:h*b*(g*j)=g*h*(b*j):=by grind
 have hc:(g*h*(b*j)<=g*h*(c*i))↔(b*j<=c*i):=Nat.mul_le_mul_left_iff (Nat.mul_pos (by omega) (by omega))
 unfold Jh K6
 rw [u,s]
 by_cases q:l=k
 .simp only [if_pos q]
  exact ⟨by rw [Nat.mul_add],trivial⟩
 .simp only [if_neg q]
  by_cases f:b*j<=c*i
  .simp only [if_pos f,if_pos (hc.2 f)]
   exact ⟨by rw [Nat.mul_sub],trivial⟩
  .simp only [if_neg f,if_neg (fun h=>f (hc.1 h))]
   exact ⟨by rw [Nat.mul_sub],trivial⟩
theorem Ary (a b:A5) (j k:Nat) (ha:RB j a) (hb:RB k b) (hj:j<34359738368) (hk:k<34359738368) :
  Og a b=some (B3 (K6 (sv a) (nv a) (dv a) (sv b) (nv b) (dv b)) (Jh (sv a) (nv a) (dv a) (sv b) (nv b) (dv b)) (dv a*dv b)):=by
 unfold Og
 rw [Po a j ha (by omega),Ad,Po b k hb (by omega),Ad]
 obtain ⟨g,q,a1,a2,a3⟩:=Ry a
 obtain ⟨h,l,b1,b2,B⟩:=Ry b
 obtain ⟨f1,f2,f3⟩:=Uz (sv a) (nv a) (dv a) (Ea a)
 obtain ⟨A,y,x⟩:=Uz (sv b) (nv b) (dv b) (Ea b)
 obtain ⟨I,G⟩:=Yb ha
 obtain ⟨E,D⟩:=Yb hb
 rw [f1,f2,f3,A,y,x,a3,B]
 generalize hc:B3 (sv a) (nv a) (dv a)=c at *
 generalize hd:B3 (sv b) (nv b) (dv b)=d at *
 have m1:=Hb (nv c) (dv d)
 have m2:=Hb (nv d) (dv c)
 have m3:=Hb (dv c) (dv d)
 have m4:=Ab5 (nv c*dv d) (nv d*dv c)
 have m5:=G6 (Nat.sub_le (nv c*dv d) (nv d*dv c))
 have m6:=G6 (Nat.sub_le (nv d*dv c) (nv c*dv d))
 have z:dv c*dv d≠0:=Nat.mul_ne_zero (Ea c) (Ea d)
 obtain ⟨u,s⟩:=Arx (sv a) (nv c) (dv c) (sv b) (nv d) (dv d) g h q l
 rw [a1,a2,b1,b2,u,s,show g*dv c*(h*dv d)=g*h*(dv c*dv d) by grind,Ux _ _ _ _ (Nat.mul_ne_zero q l)]
 rw [Rw _ _ (by omega) (by omega),Ad,Rw _ _ (by omega) (by omega),Ad,Rw _ _ (by omega) (by omega),Ad]
 unfold K6 Jh
 by_cases i:sv a=sv b
 .have e:(sv a==sv b)=true:=by rw [i]; exact beq_self_eq_true _
  rw [e,cond_true,Ark _ _ (by omega) (by omega),Ad,Rz _ _ _ (by omega) (by omega) z,Ad,if_pos i,if_pos i]
 .have e:(sv a==sv b)=false:=by simpa using i
  rw [e,cond_false,X8,Rs _ _ (by omega) (by omega),Ad,if_neg i,if_neg i]
  by_cases f:nv d*dv c<=nv c*dv d
  .rw [Ak (show D9 (nv c*dv d) (nv d*dv c)>=0 by rw [D9,if_neg (by omega)]; split <;> decide),cond_true,X9 _ _ (by omega) f,Ad,Rz _ _ _ (by omega) (by omega) z,Ad,if_pos f,if_pos f]
  .rw [Ap (show ¬D9 (nv c*dv d) (nv d*dv c)>=0 by rw [D9,if_pos (by omega)]; decide),cond_false,X9 _ _ (by omega) (by omega),Ad,Rz _ _ _ (by omega) (by omega) z,Ad,if_neg f,if_neg f]
theorem Ais (a:A5) (k:Nat) (h:RB k a) (hk:k<137438953400):Mn a=some (Hc (sv a) (nv a)):=by
 unfold Mn
 rw [Po a k h hk,Ad]
 obtain ⟨g,b,a1,a2,a3⟩:=Ry a
 obtain ⟨f1,f2,f3⟩:=Uz (sv a) (nv a) (dv a) (Ea a)
 rw [f1,f3,a3,Hc]
 by_cases h0:nv a=0
 .have:nv (B3 (sv a) (nv a) (dv a))=0:=by
   rw [h0] at a1
   rcases Nat.mul_eq_zero.1 a1.symm with h | h
   .exact (b h).elim
   .rw [h0]; exact h
  rw [this,En,if_pos h0]; rfl
 .have:nv (B3 (sv a) (nv a) (dv a))≠0:=by
   intro e; rw [e,Nat.mul_zero] at a1; exact h0 a1
  have:=Acj this
  rw [Cr (by omega),cond_false,if_neg h0]
  cases sv a <;> rfl
theorem Ait (z:Int) (h1 : -9223372036854775808<=z) (h2:z<=9223372036854775807):Lm z=some (B3 (decide (z<0)) z.natAbs 1):=by
 unfold Lm
 have j:=Uv (n:=z.natAbs) (by omega)
 have c:([1]:List Int)=Ae 1:=Rt.symm
 by_cases h:z<0
 .have i:Ac (z+1)=z+1:=Bv (by omega) (by omega)
  have g:Ac (0-(z+1))=0-(z+1):=Bv (by omega) (by omega)
  have f:Au (0-(z+1))=0-(z+1):=Cn (by omega) (by omega)
  have b:Au (0-(z+1)+1)=((z.natAbs:Nat):Int):=by rw [Au,Cn (by omega) (by omega)]; omega
  rw [Ak h,cond_true,i,g,f,b,X7,Nh _ (by omega),Ad,c,Rz _ _ _ (by omega) (by rw [X6]; decide) (by decide),Ad]
 .have b:Au z=((z.natAbs:Nat):Int):=by rw [Au,Cn (by omega) (by omega)]; omega
  rw [Ap h,cond_false,b,X7,Nh _ (by omega),Ad,c,Rz _ _ _ (by omega) (by rw [X6]; decide) (by decide),Ad]
end Go.Ab
namespace Go.Ab
open Go
theorem Aiu (s:Bool) (n d:Nat) (hd:d≠0):∃g:Nat,g≠0/\n=g*nv (B3 s n d)/\d=g*dv (B3 s n d)/\(n≠0->sv (B3 s n d)=s)/\(n=0->sv (B3 s n d)=false):=by
 obtain ⟨h1,h2,h3,b⟩:=Acf s n d hd
 have c:0<Nat.gcd n d:=Nat.gcd_pos_of_pos_right _ (by omega)
 exact ⟨Nat.gcd n d,by omega,by rw [h1]; exact (Nat.mul_div_cancel' (Nat.gcd_dvd_left _ _)).symm,by rw [h2]; exact (Nat.mul_div_cancel' (Nat.gcd_dvd_right _ _)).symm,h3,b⟩
end Go.Ab
namespace Go.Ab
open Go
mutual
def Ba:Ah->Nat
 | ⟨_,_,l⟩=>1+Cb l
def Cb:List Ah->Nat
 | []=>0
 | x::xs=>Ba x+Cb xs
end
theorem F8 (t:Ah):Ba t=1+Cb t.Args:=by cases t; simp only [Ba]
theorem K7 (t:Ah):1<=Ba t:=by rw [F8]; omega
theorem Ge {l:List Ah} {a:Ah} (h:a∈l):Ba a<=Cb l:=by
 induction l with
 | nil=>cases h
 | cons x xs ih=>
  simp only [Cb]
  rcases List.mem_cons.1 h with rfl | h
  .omega
  .have:=ih h; omega
theorem G8 (l:List Ah):l.length<=Cb l:=by
 induction l with
 | nil=>simp
 | cons x xs ih=>simp only [Cb,List.length_cons]; have:=K7 x; omega
theorem Yc (l m:List Ah):Cb (l++m)=Cb l+Cb m:=by
 induction l with
 | nil=>simp [Cb]
 | cons x xs ih=>simp only [List.cons_append,Cb,ih]; omega
def Iw (data:List Ay) (vars k n:Int) (len:Nat):Bool :=
 if k=1\/k=2\/k=3 then n==0&&len==0
 else if k=4 then decide (0<=n)&&decide (n<vars)&&len==0
 else if k=5 then decide (0<=n)&&(match data[n.toNat]? with | some d=>(len:Int)==d.Vars | none=>false)
 else if k=6 then n==0&&decide (2<=len)&&decide (len<=6)
 else if k=7\/k=8 then n==0&&len==1
 else if k=9 then n==0&&decide (1<=len)&&decide (len<=7)
 else false
mutual
def Eu (data:List Ay) (vars:Int):Ah->Bool
 | ⟨k,n,l⟩=>Iw data vars k n l.length&&Dw data vars l
def Dw (data:List Ay) (vars:Int):List Ah->Bool
 | []=>true
 | x::xs=>Eu data vars x&&Dw data vars xs
end
theorem Yd (data:List Ay) (vars:Int) (t:Ah):Eu data vars t=(Iw data vars t.Kind t.Num t.Args.length&&Dw data vars t.Args):=by cases t; simp only [Eu]
theorem Aiv {α:Type} (l:List α) (n:Nat):((l.length:Int)==(n:Int))=(l.length==n):=by
 by_cases h:l.length=n
 .subst h; simp
 .rw [Cr (by omega)]; simp [h]
theorem Arz (k:Nat) (t:Ah) (data:List Ay) (vars left:Int) (h1:1<=left) (h2:left<=1000) :
  J8 (k+1) t ⟨data,vars,left⟩=bif Iw data vars t.Kind t.Num t.Args.length then ((Rq k t.Args ⟨data,vars,left-1⟩).bind fun v12=>some ((!v12.1),v12.2)) else some (false,⟨data,vars,left-1⟩):=by
 have hw:Ac (left-1)=left-1:=Bv (by omega) (by omega)
 have b:¬left-1<0:=by omega
 rw [J8]
 simp only [hw,Ap b,cond_false]
 generalize g:(Rq k t.Args ⟨data,vars,left-1⟩).bind (fun v12=>some ((!v12.1),v12.2))=X
 generalize f:(some (false,⟨data,vars,left-1⟩):Option (Bool×E5))=Y
 unfold Iw Af
 generalize t.Args.length=len
 generalize t.Kind=c
 generalize t.Num=n
 cases hd:data[n.toNat]? <;> simp only [Bool.cond_eq_ite,Ab0,Ad,Option.bind_none,hd] <;> grind
theorem U1 {l:List Ah} {j:Nat} (h:j<l.length):Cb (l.take (j+1))=Cb (l.take j)+Ba l[j]:=by
 rw [List.take_succ_eq_append_getElem h,Yc]; simp [Cb]
theorem Aiw (data:List Ay) (vars:Int) (l m:List Ah):Dw data vars (l++m)=(Dw data vars l&&Dw data vars m):=by
 induction l with
 | nil=>simp [Dw]
 | cons x xs ih=>simp only [List.cons_append,Dw,ih,Bool.and_assoc]
theorem Ye (data:List Ay) (vars:Int) {l:List Ah} {j:Nat} (h:j<l.length):Dw data vars (l.take (j+1))=(Dw data vars (l.take j)&&Eu data vars l[j]):=by
 rw [List.take_succ_eq_append_getElem h,Aiw]; simp [Dw]
theorem U2 (l:List Ah) (j:Nat):Cb (l.take j)<=Cb l:=by
 have:=Yc (l.take j) (l.drop j)
 rw [List.take_append_drop] at this; omega
theorem Aix (data:List Ay) (vars:Int) (l:List Ah) (j:Nat) (h:Dw data vars l=true):Dw data vars (l.take j)=true:=by
 have:=Aiw data vars (l.take j) (l.drop j)
 rw [List.take_append_drop,h] at this
 have:=this.symm
 simp only [De] at this
 exact this.1
theorem Ar0 (data:List Ay) (vars:Int) (k:Nat) (l:List Ah) (c:Nat) (G:l.length<1099511627776)
  (ih:∀(a:Ah),a∈l->∀f:Nat,f<=c->∃g:Int,J8 k a ⟨data,vars,f⟩=some (Eu data vars a&&decide (Ba a<=f),⟨data,vars,g⟩)/\((Eu data vars a&&decide (Ba a<=f))=true->g=(f:Int)-Ba a)) :
  ∃p:Int×Int,Uo (k+2) l ⟨data,vars,c⟩=some (p.1,⟨data,vars,p.2⟩)/\((Dw data vars l&&decide (Cb l<=c))=true->p.1 = -1/\p.2=(c:Int)-Cb l)/\((Dw data vars l&&decide (Cb l<=c))=false->0<=p.1):=by
 rw [Uo]
 refine Xv (fun p:Int×Int=>(p.1,E5.mk data vars p.2)) (Dt
  (fun (v3,v4,v5,s)=>∃j:Nat,v3=j/\j<=l.length/\v4=data/\v5=vars/\Dw data vars (l.take j)=true/\Cb (l.take j)<=c/\s=(c:Int)-Cb (l.take j))
  (fun (v3,_,_,_)=>l.length-v3.toNat)
  (fun z=>match z with | .inl (i,b)=>0<=i/\(∃g,b=⟨data,vars,g⟩)/\(Dw data vars l&&decide (Cb l<=c))=false | .inr (v4,v5,s)=>v4=data/\v5=vars/\(Dw data vars l&&decide (Cb l<=c))=true/\s=(c:Int)-Cb l)
  ⟨0,rfl,by omega,rfl,rfl,rfl,by simp [Cb],by simp [Cb]⟩ ?_ ?_)
 .rintro ⟨v3,v4,v5,s⟩ ⟨j,rfl,hj,rfl,rfl,x,A,rfl⟩
  rcases Nat.lt_or_ge j l.length with h | h
  .obtain ⟨u,y⟩:∃u:Nat,(c:Int)-Cb (l.take j)=u/\u<=c:=⟨c-Cb (l.take j),by omega,by omega⟩
   obtain ⟨g,E,D⟩:=ih l[j] (List.getElem_mem h) u y.2
   simp only [Ak (by omega:(j:Int)<(l.length:Int)),cond_true,C4 rfl h,Ad,T1,y.1,E]
   cases hb:(Eu v4 v5 l[j]&&decide (Ba l[j]<=u)) with
   | true=>
    have I:=D hb
    simp only [De,decide_eq_true_eq] at hb
    refine .inl ⟨(((j+1:Nat):Int),v4,v5,g),?_,⟨j+1,rfl,by omega,rfl,rfl,?_,?_,?_⟩,by simp; omega⟩
    .simp only [Dm,cond_false]
     rw [show Ac ((j:Int)+1)=((j+1:Nat):Int) by rw [Ac,Bv] <;> omega]
    .rw [Ye _ _ h,x,hb.1]; rfl
    .rw [U1 h]; omega
    .show g=_
     rw [U1 h]; omega
   | false=>
    refine .inr ⟨.inl ((j:Int),⟨v4,v5,g⟩),by simp,by omega,⟨g,rfl⟩,?_⟩
    cases q:(Dw v4 v5 l&&decide (Cb l<=c)) with
    | false=>rfl
    | true=>
     exfalso
     simp only [De,decide_eq_true_eq] at q
     have a1:=Aix v4 v5 l (j+1) q.1
     rw [Ye _ _ h] at a1
     simp only [De] at a1
     have a2:=U2 l (j+1)
     rw [U1 h] at a2
     rw [a1.2,Bool.true_and,decide_eq_false_iff_not] at hb
     omega
  .have:j=l.length:=by omega
   subst this
   rw [List.take_length] at *
   refine .inr ⟨.inr (v4,v5,(c:Int)-Cb l),by simp,rfl,rfl,by simp [x,A],rfl⟩
 .rintro (⟨i,b⟩ | ⟨v4,v5,s⟩) B
  .obtain ⟨a1,⟨g,rfl⟩,a3⟩:=B
   exact ⟨_,rfl,(i,g),rfl,(fun h=>by rw [a3] at h; cases h),fun _=>a1⟩
  .obtain ⟨rfl,rfl,a3,rfl⟩:=B
   exact ⟨_,rfl,(-1,_),rfl,fun _=>⟨rfl,rfl⟩,fun h=>by rw [a3] at h; cases h⟩
theorem Ar1 (data:List Ay) (vars:Int):∀(left:Nat) (t:Ah) (k:Nat),left<=200->4*left+4<=k->Ba t<1099511627776 ->
  ∃f:Int,J8 k t ⟨data,vars,left⟩=some (Eu data vars t&&decide (Ba t<=left),⟨data,vars,f⟩)/\((Eu data vars t&&decide (Ba t<=left))=true->f=(left:Int)-Ba t):=by
 intro left
 induction left using Nat.strongRecOn with
 | _ left s=>
  intro t k B hk ht
  have hp:=K7 t
  obtain ⟨g,rfl⟩:∃g,k=g+1:=⟨k-1,by omega⟩
  cases left with
  | zero=>
   refine ⟨-1,?_,fun h=>by simp at h; omega⟩
   rw [J8]
   have hd:decide (Ba t<=0)=false:=Ap (by omega)
   rw [hd,Bool.and_false]
   rfl
  | succ b=>
   rw [Arz g t data vars ((b+1:Nat):Int) (by omega) (by omega)]
   have z:((b+1:Nat):Int)-1=(b:Int):=by omega
   rw [z,Yd]
   cases A:Iw data vars t.Kind t.Num t.Args.length with
   | false=>exact ⟨b,by simp,fun h=>by simp at h⟩
   | true=>
    obtain ⟨q,rfl⟩:∃q,g=q+3:=⟨g-3,by omega⟩
    have j:=F8 t
    have x:=G8 t.Args
    obtain ⟨⟨i,f⟩,h1,h2,h3⟩:=Ar0 data vars q t.Args b (by omega) (fun a ha c y=>by
     have:=Ge ha
     exact s c (by omega) a q (by omega) (by omega) (by omega))
    have l:decide (Ba t<=b+1)=decide (Cb t.Args<=b):=by
     rw [j]; congr 1; simp only [eq_iff_iff]; omega
    simp only [cond_true,Rq,h1,Ad,Bool.true_and,l]
    refine ⟨f,?_,fun h=>?_⟩
    .cases hb:(Dw data vars t.Args&&decide (Cb t.Args<=b)) with
     | true=>
      have u:i = -1:=(h2 hb).1
      rw [Ap (by omega:¬i>=0)]; rfl
     | false=>
      have u:0<=i:=h3 hb
      rw [Ak (by omega:i>=0)]; rfl
    .have u:f=(b:Int)-Cb t.Args:=(h2 h).2
     rw [u,j]; omega
theorem Acl (data:List Ay) (t:Ah) (vars:Int) (ht:Ba t<1099511627776):Mr data t vars=some (Eu data vars t&&decide (Ba t<=200)):=by
 unfold Mr
 obtain ⟨b,h1,_⟩:=Ar1 data vars 200 t 4000000 (by decide) (by decide) ht
 have h1:J8 4000000 t ⟨data,vars,200⟩=_:=h1
 rw [h1]; rfl
theorem Aiy:∀(k:Nat) (t:Ah),Ba t<=k->Ba t<1099511627776->Lx k t=some (Ba t:Int):=by
 intro k
 induction k with
 | zero=>intro t h; have:=K7 t; omega
 | succ k ih=>
  intro t h ht
  have c:=F8 t
  have f:=G8 t.Args
  rw [Lx]
  refine Gm (fun (n,i)=>∃j:Nat,i=j/\j<=t.Args.length/\n=1+(Cb (t.Args.take j):Int)) (fun (_,i)=>t.Args.length-i.toNat) (fun n=>n=(Ba t:Int)) ⟨0,rfl,by omega,by simp [Cb]⟩ ?_ (by rintro n rfl; rfl)
  rintro ⟨n,i⟩ ⟨j,rfl,hj,rfl⟩
  rcases Nat.lt_or_ge j t.Args.length with h' | h'
  .have l:=Ge (List.getElem_mem h')
   have g:=U2 t.Args j
   have b:=U2 t.Args (j+1)
   rw [U1 h'] at b
   refine .inl ⟨(1+(Cb (t.Args.take (j+1)):Int),((j+1:Nat):Int)),?_,⟨j+1,rfl,by omega,rfl⟩,by simp; omega⟩
   simp only [Ak (by omega:(j:Int)<(t.Args.length:Int)),cond_true,C4 rfl h',Ad,ih t.Args[j] (by omega) (by omega)]
   rw [show Ac ((j:Int)+1)=((j+1:Nat):Int) by rw [Ac,Bv] <;> omega,show Ac (1+(Cb (t.Args.take j):Int)+(Ba t.Args[j]:Int))=1+(Cb (t.Args.take (j+1)):Int) by rw [U1 h',Ac,Bv] <;> omega]
  .have:j=t.Args.length:=by omega
   subst this
   exact .inr ⟨1+(Cb t.Args:Int),by simp,by rw [c]; omega⟩
theorem Ar2 (data:List Ay) (vars:Int):∀(k:Nat) (t:Ah),Ba t<=k->Ba t<1099511627776->M1 k data t vars=some (Eu data vars t):=by
 intro k
 induction k with
 | zero=>intro t h; have:=K7 t; omega
 | succ k ih=>
  intro t h ht
  have A:=F8 t
  have l:=G8 t.Args
  have c:(An (S:=Int) (E:=(Bool⊕Unit)) (fun v8=>bif (decide (v8<(t.Args.length:Int))) then ((Af t.Args v8).bind fun v9=>(M1 k data v9 vars).bind fun x=>bif (!x) then some (.inr (.inl false)) else some (.inl (Ac (v8+1)))) else some (.inr (.inr ()))) 0).bind (fun z=>match z with | .inl y=>some y | .inr _=>some true)=some (Dw data vars t.Args):=by
   refine Gm (fun i=>∃j:Nat,i=j/\j<=t.Args.length/\Dw data vars (t.Args.take j)=true) (fun i=>t.Args.length-i.toNat)
    (fun z=>match z with | .inl r=>r=Dw data vars t.Args | .inr _=>Dw data vars t.Args=true) ⟨0,rfl,by omega,by simp [Dw]⟩ ?_ ?_
   .rintro i ⟨j,rfl,hj,f⟩
    rcases Nat.lt_or_ge j t.Args.length with h' | h'
    .have I:=Ge (List.getElem_mem h')
     simp only [Ak (by omega:(j:Int)<(t.Args.length:Int)),cond_true,C4 rfl h',Ad,ih t.Args[j] (by omega) (by omega)]
     cases hb:Eu data vars t.Args[j] with
     | true=>
      refine .inl ⟨((j+1:Nat):Int),?_,⟨j+1,rfl,by omega,by rw [Ye _ _ h',f,hb]; rfl⟩,by simp; omega⟩
      simp only [Dm,cond_false]
      rw [show Ac ((j:Int)+1)=((j+1:Nat):Int) by rw [Ac,Bv] <;> omega]
     | false=>
      refine .inr ⟨.inl false,by simp,?_⟩
      show false=_
      cases q:Dw data vars t.Args with
      | false=>rfl
      | true=>
       have a1:=Aix data vars t.Args (j+1) q
       rw [Ye _ _ h',hb,Bool.and_false] at a1; cases a1
    .have:j=t.Args.length:=by omega
     subst this
     rw [List.take_length] at f
     exact .inr ⟨.inr (),by simp,f⟩
   .rintro (r | u) s
    .simp only at s ⊢; rw [s]
    .simp only at s ⊢; rw [s]
  rw [M1,Yd]
  refine Eq.trans (b:=Option.bind _ (fun z:Bool⊕Unit=>match z with | .inl D=>some D | .inr _=>some (Dw data vars t.Args))) (Aqx ?_) ?_
  .rintro (r | u)
   .rfl
   .exact c
  have g:t.Args.length=0->Dw data vars t.Args=true:=by
   intro e; rw [List.length_eq_zero_iff.1 e]; rfl
  unfold Iw Af
  clear c ih h ht A l
  generalize Dw data vars t.Args=X at *
  generalize t.Args.length=len at *
  generalize t.Kind=G
  generalize t.Num=n
  by_cases B:len=0
  .have hx:=g B
   subst B; subst hx
   cases hd:data[n.toNat]? <;> simp only [Bool.cond_eq_ite,Ab0,Ad,Option.bind_none,hd] <;> grind
  .have h0:((len:Int)==0)=false:=Cr (by omega)
   have h1:(len==0)=false:=by simpa using B
   have h2:((len:Int) != 1)=(!(len==1)):=by
    by_cases h:len=1
    .subst h; rfl
    .rw [C2 (by omega)]; simp [h]
   cases hd:data[n.toNat]? <;> simp only [h0,h1,h2,Bool.cond_eq_ite,Ab0,Ad,Option.bind_none,hd,Bool.and_false,Bool.false_and] <;> grind
theorem Acm (data:List Ay) (t:Ah) (vars:Int) (ht:Ba t<=4000000):Lw data t vars=some (Eu data vars t&&decide (Ba t<=200)):=by
 unfold Lw
 rw [Aiy 4000000 t ht (by omega),Ad,Ar2 data vars 4000000 t ht (by omega)]
 by_cases h:Ba t<=200
 .rw [Ak (by omega:(Ba t:Int)<=200),Ak h]; simp
 .rw [Ap (by omega:¬(Ba t:Int)<=200),Ap h]; simp
end Go.Ab
namespace Go.Ab
open Go
def Lz (a:Ah) (i:Int):Bool:=a.Kind==4&&a.Num==i&&a.Args.length==0
def Aiz (l:List Ah):Bool:=l.zipIdx.all fun q=>Lz q.1 q.2
def Gx (t:Ah) (d vars:Int):Bool:=t.Kind==5&&t.Num==d&&(t.Args.length:Int)==vars&&Aiz t.Args
theorem Ai0 (t:Ah) (d vars:Int) (ht:t.Args.length<1099511627776):M0 t d vars=some (Gx t d vars):=by
 unfold M0 Gx
 by_cases h1:t.Kind=5
 .by_cases h2:t.Num=d
  .by_cases h3:(t.Args.length:Int)=vars
   .simp only [C5 h1,C5 h2,C5 h3,cond_false,Ad,Em h1,Em h2,Em h3,Bool.true_and]
    refine (Pl t.Args (fun q=>Lz q.1 q.2) (fun j=>(j:Int)) rfl (by omega) (rt:=true) (rf:=false) ?_ ?_).trans (by rw [Ly]; rfl)
    .intro j x hx _ hd hi hw
     simp only [hd,hi,hw,cond_true,Ad,Lz]
     constructor
     .intro h
      simp only [De,beq_iff_eq] at h
      simp [h.1.1,h.1.2,h.2]
     .intro h
      by_cases g1:x.Kind=4
      .by_cases g2:x.Num=j
       .by_cases g3:x.Args.length=0
        .simp [g1,g2,g3] at h
        .exact ⟨.inl false,by simp only [C5 g1,C5 g2,cond_false]; rw [Ak (by omega)]; rfl,rfl⟩
       .exact ⟨.inl false,by simp only [C5 g1,C2 g2,cond_false]; rfl,rfl⟩
      .exact ⟨.inl false,by simp only [C2 g1]; rfl,rfl⟩
    .intro hd _
     exact ⟨.inr (),by simp only [hd]; rfl,rfl⟩
   .simp only [C5 h1,C5 h2,C2 h3,cond_false,cond_true,Ad,Cr h3,Bool.and_false,Bool.false_and]
  .simp only [C5 h1,C2 h2,cond_false,cond_true,Ad,Cr h2,Bool.and_false,Bool.false_and]
 .simp only [C2 h1,cond_true,Ad,Cr h1,Bool.false_and]
def Fy (data:List Ay) (d c:Int):List Bool :=
 match Af data d with
 | none=>[]
 | some x=>match Af x.Cons c with
  | none=>[]
  | some y=>y.Args.map fun t=>Gx t d x.Vars
theorem Fe {α:Type} {l:List α} {i:Int} {x:α} (h:Af l i=some x):0<=i/\i<l.length/\l[i.toNat]? = some x/\x∈l:=by
 unfold Af at h
 split at h
 .have h1:i.toNat<l.length:=Di h
  exact ⟨by assumption,by omega,h,Bs h⟩
 .cases h
theorem Nk {α:Type} {l:List α} {i:Int} (h:Af l i=none):i<0\/(l.length:Int)<=i:=by
 unfold Af at h
 split at h
 .rw [List.getElem?_eq_none_iff] at h
  right; omega
 .left; omega
theorem Ai1 {R:Type} (data:List Ay) (d c:Int) (F:Ay->Ka->Option R) (z:R) (X:Option R)
  (f:X=((bif (decide (d<(0:Int))) then some true else bif (decide (d>=(data.length:Int))) then some true else bif (decide (c<(0:Int))) then some true else
   (Af data d).bind fun b=>some (decide (c>=(b.Cons.length:Int))):Option Bool).bind fun v2=>bif v2 then some z else (Af data d).bind fun v3=>(Af v3.Cons c).bind fun v4=>F v3 v4)) :
  X=match Af data d with
   | none=>some z
   | some x=>match Af x.Cons c with
    | none=>some z
    | some y=>F x y:=by
 subst f
 cases hx:Af data d with
 | none=>
  rcases Nk hx with h | h
  .simp only [Ak h,cond_true,Ad]
  .by_cases h':d<0
   .simp only [Ak h',cond_true,Ad]
   .simp only [Ap h',Ak (show d>=(data.length:Int) from h),cond_true,cond_false,Ad]
 | some x=>
  obtain ⟨a1,a2,_,_⟩:=Fe hx
  simp only [Ap (by omega:¬d<0),Ap (by omega:¬d>=(data.length:Int)),cond_false,Ad]
  cases hy:Af x.Cons c with
  | none=>
   rcases Nk hy with h | h
   .simp only [Ak h,cond_true,Ad]
   .by_cases h':c<0
    .simp only [Ak h',cond_true,Ad]
    .simp only [Ap h',Ak (show c>=(x.Cons.length:Int) from h),cond_true,cond_false,Ad]
  | some y=>
   obtain ⟨b1,b2,_,_⟩:=Fe hy
   simp only [Ap (by omega:¬c<0),Ap (by omega:¬c>=(x.Cons.length:Int)),cond_false,Ad]
def Ar3 (l:List Ah):Prop:=l.length<=4194304/\∀a∈l,a.Args.length<=4194304
def Ke (data:List Ay):Prop:=∀x∈data,∀y∈x.Cons,Ar3 y.Args
theorem Ar4 (data:List Ay) (d c:Int) (hd:Ke data):Rm data d c=some (Fy data d c):=by
 unfold Rm
 rw [Ai1 data d c (fun v4 v5=>_) [] _ rfl]
 unfold Fy
 cases hx:Af data d with
 | none=>rfl
 | some x=>
  cases hy:Af x.Cons c with
  | none=>simp only [hy]
  | some y=>
   simp only [hy]
   have b:=hd x (Fe hx).2.2.2 y (Fe hy).2.2.2
   refine E6 y.Args (fun j=>((j:Int),(y.Args.take j).map fun t=>Gx t d x.Vars)) rfl (by have:=b.1; omega) ?_ ?_
   .intro j t hj ht h1 h2 h3
    simp only [h1,h2,cond_true,Ad,Ai0 t d x.Vars (by have:=b.2 t (Bs ht); omega)]
    rw [C1 (by simp; have:=b.1; omega),Ad,h3,Cz ht,List.map_append]; rfl
   .intro h1
    exact ⟨_,by simp only [h1]; rfl,by simp⟩
theorem Ar5 (data:List Ay) (d c:Int) (hd:Ke data):Rm data d c=some (Fy data d c):=Ar4 data d c hd
theorem Acn {α:Type} (l m:List α) (y x:α) (i:Int) (n:Nat) (h:i=n) (b:n=l.length):Cq (l++y::m) i x=l++x::m:=by
 rw [F7 h]; subst b; simp
theorem Aco {α:Type} (l m:List α) (y:α) (i:Int) (n:Nat) (h:i=n) (b:n=l.length):Af (l++y::m) i=some y:=by
 rw [Cg h]; subst b; simp
theorem Ar6 (l:List Ah) (k f:List Bool) (i:Int) (n:Nat) (b:Bool) (h:i=n) (s:n=k.length) (A:l.length<1099511627776) {R:Type} {J:Int×List Bool->Option R} {r:R}
  (z:J ((l.length:Int),k++(b&&Aiz l)::f)=some r) :
  (An (S:=(Int×(List Bool))) (E:=(Int×(List Bool))) (fun (c,g)=>
   bif (decide (c<(l.length:Int))) then (
   (Af l c).bind fun v44=>
   bif (v44.Kind != (4:Int)) then (
   (Af g i).bind fun v46=>
   some (.inl ((Ac (c+1)),(Cq g i false)))
   )
   else (
   bif (v44.Num != c) then (
   (Af g i).bind fun y=>
   some (.inl ((Ac (c+1)),(Cq g i false)))
   )
   else (
   bif (decide ((v44.Args.length:Int)>(0:Int))) then (
   (Af g i).bind fun u=>
   some (.inl ((Ac (c+1)),(Cq g i false)))
   )
   else (
   some (.inl ((Ac (c+1)),g))
   )
   )
   )
   )
   else (
   some (.inr (c,g))
   )
    ) (0,k++b::f)).bind J=some r:=by
 refine E6 l (fun j=>((j:Int),k++(b&&(l.take j).zipIdx.all (fun q=>Lz q.1 q.2))::f)) (by simp) (by omega) ?_ ?_
 .intro j x hj hx h1 h2 h3
  have e:(l.take (j+1)).zipIdx.all (fun q=>Lz q.1 q.2)=((l.take j).zipIdx.all (fun q=>Lz q.1 q.2)&&Lz x j):=by
   rw [Cz hx,List.zipIdx_append,List.all_append]; simp [Nat.min_eq_left (Nat.le_of_lt hj)]
  simp only [h1,h2,h3,cond_true,Ad,Aco k f _ i n h s,Acn k f _ _ i n h s,e]
  unfold Lz
  by_cases g1:x.Kind=4
  .by_cases g2:x.Num=j
   .by_cases g3:x.Args.length=0
    .rw [Ap (by omega)]; simp [g1,g2,g3]
    .rw [Ak (by omega)]
     have:(x.Args.length==0)=false:=by simpa using g3
     simp [g1,g2,this]
   .simp [g1,g2,C2 g2]
  .simp [g1,C2 g1]
 .intro h1
  refine ⟨_,by simp only [h1]; rfl,?_⟩
  rw [List.take_length]
  exact z
theorem Ai2 (data:List Ay) (d c:Int) (hd:Ke data):Rc data d c=some (Fy data d c):=by
 unfold Rc
 rw [Ai1 data d c (fun v3 v4=>_) [] _ rfl]
 unfold Fy
 cases hx:Af data d with
 | none=>rfl
 | some x=>
  cases hy:Af x.Cons c with
  | none=>simp only [hy]
  | some y=>
   simp only [hy]
   have f:=hd x (Fe hx).2.2.2 y (Fe hy).2.2.2
   have g:=f.1
   rw [Kc (n:=y.Args.length) (c:=y.Args.length) rfl rfl (by omega) (by omega) (by omega),Ad]
   refine E6 y.Args (fun j=>((j:Int),((y.Args.take j).map fun t=>Gx t d x.Vars)++List.replicate (y.Args.length-j) false)) rfl (by omega) ?_ ?_
   .intro j t hj ht h1 h2 h3
    obtain ⟨m,h⟩:∃m,y.Args.length-j=m+1:=⟨y.Args.length-j-1,by omega⟩
    have i:y.Args.length-(j+1)=m:=by omega
    have b:j=((y.Args.take j).map fun t=>Gx t d x.Vars).length:=by simp; omega
    simp only [h1,h2,cond_true,Ad,h,i,List.replicate_succ,Cz ht,List.map_append,List.map_cons,List.map_nil,List.append_assoc,List.cons_append,List.nil_append,
     Aco _ _ _ (j:Int) j rfl b,Acn _ _ _ _ (j:Int) j rfl b]
    have hb:(bif t.Kind==5 then bif t.Num==d then some (List.map (fun t=>Gx t d x.Vars) (List.take j y.Args)++((t.Args.length:Int)==x.Vars)::List.replicate m false)
       else some (List.map (fun t=>Gx t d x.Vars) (List.take j y.Args)++false::List.replicate m false)
      else some (List.map (fun t=>Gx t d x.Vars) (List.take j y.Args)++false::List.replicate m false))=some (List.map (fun t=>Gx t d x.Vars) (List.take j y.Args)++(t.Kind==5&&t.Num==d&&((t.Args.length:Int)==x.Vars))::List.replicate m false):=by
     cases t.Kind==5 <;> cases t.Num==d <;> simp
    rw [hb,Ad]
    refine Ar6 t.Args _ _ (j:Int) j _ rfl b (by have:=f.2 t (Bs ht); omega) ?_
    rw [h3]; rfl
   .intro h1
    exact ⟨_,by simp only [h1]; rfl,by simp⟩
mutual
def mnt (d:Int):Ah->Bool
 | ⟨k,n,l⟩=>(k==5&&n==d)||L0 d l
def L0 (d:Int):List Ah->Bool
 | []=>false
 | x::xs=>mnt d x||L0 d xs
end
theorem Ar7 (d:Int) (t:Ah):mnt d t=((t.Kind==5&&t.Num==d)||L0 d t.Args):=by cases t; simp only [mnt]
theorem Ar8 (d:Int) (l:List Ah):L0 d l=l.any (mnt d):=by
 induction l with
 | nil=>rfl
 | cons x xs ih=>simp only [L0,ih,List.any_cons]
theorem Ar9 (d:Int):∀(n:Nat) (t:Ah) (k:Nat),Ba t<=n->4*n+4<=k->n<1099511627776->O7 k t d=some (mnt d t):=by
 intro n
 induction n with
 | zero=>intro t k h; have:=K7 t; omega
 | succ n ih=>
  intro t k h hk g
  obtain ⟨k,rfl⟩:∃c,k=c+4:=⟨k-4,by omega⟩
  have f:=F8 t
  have b:=G8 t.Args
  have key:Rp (k+3) t.Args d=some (L0 d t.Args):=by
   rw [Rp,Xn]
   rw [Ar8]
   refine Ut (Aid t.Args (mnt d) (by omega) ?_ (fun h=>by simp only [h]; rfl) (fun _=>rfl) rfl) (fun i hi=>by rw [hi])
   intro j x hx h1 h2 h3
   have l:=Ge hx
   simp only [h1,h2,h3,cond_true,Ad,Ud,ih x k (by omega) (by omega) (by omega)]
  rw [O7,key,Ar7]
  cases t.Kind==5 <;> cases t.Num==d <;> simp
end Go.Ab
namespace Go.Ab
open Go
theorem Asa (data:List Ay) (v:Int) (l:List Ah):Dw data v l=l.all (Eu data v):=by
 induction l with
 | nil=>rfl
 | cons x xs ih=>simp only [Dw,ih,List.all_cons]
theorem Asb (data:List Ay) (d:Nat) (v k n:Int) (len:Nat):(Iw (data.take (d+1)) v k n len && !(k==5&&n==(d:Int)))=Iw (data.take d) v k n len:=by
 by_cases hk:k=5
 .subst hk
  unfold Iw
  simp only [beq_self_eq_true,Bool.true_and,List.getElem?_take]
  by_cases b:n=d
  .subst b; simp
  .by_cases h0:0<=n
   .have e:(n==(d:Int))=false:=Cr b
    rcases Nat.lt_or_ge n.toNat d with h | h
    .simp [h,e,show n.toNat<d+1 by omega]
    .simp [e,show ¬n.toNat<d by omega,show ¬n.toNat<d+1 by omega]
   .simp [h0]
 .have e:(k==(5:Int))=false:=Cr hk
  simp only [e,Bool.false_and,Bool.not_false,Bool.and_true,Iw,hk,if_false]
mutual
theorem Ai3 (data:List Ay) (d:Nat) (v:Int):∀t:Ah,(Eu (data.take (d+1)) v t && !mnt d t)=Eu (data.take d) v t
 | ⟨k,n,l⟩=>by
  have h1:=Ai4 data d v l
  have h2:=Asb data d v k n l.length
  simp only [Eu,mnt]
  rw [<-h1,<-h2]
  cases Iw (data.take (d+1)) v k n l.length <;> cases (k==5&&n==(d:Int)) <;> cases Dw (data.take (d+1)) v l <;> simp
theorem Ai4 (data:List Ay) (d:Nat) (v:Int):∀l:List Ah,(Dw (data.take (d+1)) v l && !L0 d l)=Dw (data.take d) v l
 | []=>by simp [Dw,L0]
 | x::xs=>by
  have h1:=Ai3 data d v x
  have h2:=Ai4 data d v xs
  simp only [Dw,L0]
  rw [<-h1,<-h2]
  cases Eu (data.take (d+1)) v x <;> cases mnt d x <;> cases Dw (data.take (d+1)) v xs <;> simp
end
theorem Ai5:∀l:List Ah,(∀a∈l,a.Args.length=0)->Cb l=l.length
 | [],_=>rfl
 | x::xs,h=>by
  have h1:=h x (by simp)
  simp only [Cb,List.length_cons]
  rw [Ai5 xs (fun a ha=>h a (by simp [ha])),F8,List.length_eq_zero_iff.1 h1]
  simp only [Cb]; omega
theorem Ai6 {data:List Ay} {d:Nat} {x:Ay} (hx:data[d]? = some x) (f:x.Vars<=6) {t:Ah} (h:Gx t d x.Vars=true):Eu (data.take (d+1)) x.Vars t=true/\Ba t<=200:=by
 unfold Gx at h
 simp only [De,beq_iff_eq] at h
 obtain ⟨⟨⟨h1,h2⟩,h3⟩,c⟩:=h
 have ha:∀a∈t.Args,∃i:Nat,i<t.Args.length/\a.Kind=4/\a.Num=i/\a.Args.length=0:=by
  intro a ha
  obtain ⟨i,hi⟩:=List.getElem?_of_mem ha
  have:=G7 c hi
  simp only [Lz,De,beq_iff_eq] at this
  exact ⟨i,Di hi,this.1.1,this.1.2,this.2⟩
 refine ⟨?_,?_⟩
 .rw [Yd,Asa,De]
  constructor
  .rw [h1,h2]
   unfold Iw
   simp [hx,h3]
  .rw [List.all_eq_true]
   intro a b
   obtain ⟨i,i1,i2,i3,i4⟩:=ha a b
   rw [Yd,i2,i3,i4,List.length_eq_zero_iff.1 i4]
   unfold Iw
   simp [Dw]; omega
 .rw [F8,Ai5 _ (fun a h=>(ha a h).choose_spec.2.2.2)]
  omega
def Hx (data:List Ay) (d:Nat) (v:Int) (t:Ah):Bool:=Gx t d v||(Eu (data.take d) v t&&decide (Ba t<=200))
theorem Asd {data:List Ay} {d:Nat} {x:Ay} (hx:data[d]? = some x) (b:x.Vars<=6) (t:Ah):((Eu (data.take (d+1)) x.Vars t&&decide (Ba t<=200))&&(Gx t d x.Vars || !mnt d t))=Hx data d x.Vars t:=by
 unfold Hx
 cases h:Gx t d x.Vars with
 | true=>
  obtain ⟨h1,h2⟩:=Ai6 hx b h
  rw [h1,Ak h2]; rfl
 | false=>
  rw [<-Ai3 data d x.Vars t]
  cases Eu (data.take (d+1)) x.Vars t <;> cases decide (Ba t<=200) <;> simp
def SzD (data:List Ay):Prop:=∀x∈data,x.Cons.length<=1048576/\∀y∈x.Cons,Cb y.Args<=1048576
theorem SzD.short {data:List Ay} (h:SzD data):Ke data:=fun x hx y hy=>by
 have h1:=(h x hx).2 y hy
 have h2:=G8 y.Args
 refine ⟨by omega,fun a ha=>?_⟩
 have h3:=Ge ha
 have c:=F8 a
 have b:=G8 a.Args
 omega
theorem Ase {data:List Ay} (g:SzD data) (d c:Nat) {x:Ay} {y:Ka} (hx:data[d]? = some x) (hy:x.Cons[c]? = some y) (q:x.Vars<=6) (hd:data.length<=1048576) :
  Mz data d c=some (decide (y.Args.length<=6)&&y.Args.all (Hx data d x.Vars)):=by
 have b:=Di hx
 have l:=(g x (Bs hx)).2 y (Bs hy)
 unfold Mz
 rw [Cg rfl hx,Ad,Cg rfl hy,Ad,Ai2 data d c g.short]
 by_cases k:y.Args.length<=6
 .rw [Ap (by omega:¬(y.Args.length:Int)>6),Ak k]
  simp only [cond_false,Bool.true_and,Ad]
  refine (Nf y.Args (Hx data d x.Vars) (fun j=>(j:Int)) rfl (by omega) (rt:=true) (rf:=false) ?_ ?_).trans (by rw [Ly])
  .intro j t ht h1 h2 h3
   have s:=Ge (Bs ht)
   have u:Af (Fy data d c) (j:Int)=some (Gx t d x.Vars):=by
    unfold Fy
    simp only [Cg rfl hx,Cg rfl hy]
    rw [Cg rfl]
    simp [ht]
   simp only [h1,h2,h3,cond_true,Ad,show Ac ((d:Int)+1)=((d+1:Nat):Int) from C6 b (by omega),Xw rfl (show d+1<=data.length from b),Cg rfl hx,
    Acl (data.take (d+1)) t x.Vars (by omega),u]
   rw [<-Asd hx q t]
   cases i:(Eu (data.take (d+1)) x.Vars t&&decide (Ba t<=200)) with
   | false=>exact ⟨(fun h=>by cases h),fun _=>⟨.inl false,rfl,rfl⟩⟩
   | true=>
    have f:Ba t<=200:=by simp only [De,decide_eq_true_eq] at i; exact i.2
    simp only [Dm,cond_false,Bool.true_and]
    cases z:Gx t d x.Vars with
    | true=>exact ⟨fun _=>rfl,fun h=>by cases h⟩
    | false=>
     simp only [Bool.not_false,cond_true,Ar9 d 200 t 4000000 f (by omega) (by omega),Ad,Bool.false_or]
     cases mnt d t with
     | true=>exact ⟨(fun h=>by cases h),fun _=>⟨.inl false,rfl,rfl⟩⟩
     | false=>exact ⟨fun _=>rfl,fun h=>by cases h⟩
  .intro h
   exact ⟨.inr (),by simp only [h]; rfl,rfl⟩
 .rw [Ak (by omega:(y.Args.length:Int)>6),Ap k]; rfl
end Go.Ab
namespace Go.Ab
open Go
def bI (s:ByteArray) (i:Nat):Int:=if h:i<s.size then (s[i].toNat:Int) else 0
def loI (c:Int):Bool:=decide (97<=c)&&decide (c<=122)
def upI (c:Int):Bool:=decide (65<=c)&&decide (c<=90)
def diI (c:Int):Bool:=decide (48<=c)&&decide (c<=57)
def wiI (c:Int):Bool:=loI c||upI c||diI c||c==95
def D3 (s:ByteArray):Prop:=1<=s.size/\s.size<=24/\upI (bI s 0)=true/\∀i,i<s.size->wiI (bI s i)=true
theorem Gn {s:ByteArray} {i:Int} {n:Nat} (hi:i=n) (h:n<s.size):∃c:UInt8,D7 s i=some c/\(c.toNat:Int)=bI s n:=by
 subst hi
 refine ⟨s[n],?_,?_⟩
 .unfold D7
  rw [if_pos (by omega),show ((n:Int)).toNat=n from rfl]
  simp [h]
 .unfold bI; simp [h]
theorem Pp {s:ByteArray} {a b j:Nat} (hb:b<=s.size) (h:a+j<b):bI (s.extract a b) j=bI s (a+j):=by
 unfold bI
 have h1:j<(s.extract a b).size:=by rw [ByteArray.size_extract]; omega
 rw [dif_pos h1,dif_pos (by omega),ByteArray.getElem_extract]
theorem K8 {s:ByteArray} {lo hi:Int} {a b:Nat} (h1:lo=a) (h2:hi=b) (h3:a<=b) (c:b<=s.size):Da s lo hi=some (s.extract a b):=by
 subst h1; subst h2; unfold Da; rw [if_pos (by omega)]; rfl
theorem Ai7 {a b:ByteArray} (h:a.toList=b.toList):a=b:=by
 rw [ByteArray.toList_eq,ByteArray.toList_eq] at h
 have:a.data=b.data:=Array.toList_inj.1 h
 cases a; cases b; simp at this; subst this; rfl
theorem Yf (a b:ByteArray):(a.toList==b.toList)=decide (a=b):=by
 by_cases h:a=b
 .subst h; simp
 .rw [Ap h]
  cases hb:(a.toList==b.toList) with
  | false=>rfl
  | true=>exact absurd (Ai7 (by simpa using hb)) h
theorem Acp (c:Int):Rk c=some (loI c):=by unfold Rk loI; by_cases h:(97:Int)<=c <;> simp [h]
theorem Acq (c:Int):Pd c=some (upI c):=by unfold Pd upI; by_cases h:(65:Int)<=c <;> simp [h]
theorem U3 (c:Int):M6 c=some (diI c):=by unfold M6 diI; by_cases h:(48:Int)<=c <;> simp [h]
theorem Ai8 (c:Int):Rl c=some (wiI c):=by
 unfold Rl wiI
 rw [Acp,Acq,U3]
 simp only [Ad]
 cases loI c <;> cases upI c <;> cases diI c <;> rfl
theorem Asf (c:Int):Ue c=some (loI c):=Acp c
theorem Asg (c:Int):Rh c=some (upI c):=Acq c
theorem Ash (c:Int):Ri c=some (diI c):=U3 c
theorem R0 {S E:Type} {step:S->Option (S⊕E)} (s:ByteArray) (p:Int->Bool) (b:Nat->S) (f:Nat->E) (lo:Nat)
  (h1:∀j,lo<=j->j<s.size->p (bI s j)=true->step (b j)=some (.inl (b (j+1)))) (h2:∀j,lo<=j->j<s.size->p (bI s j)=false->step (b j)=some (.inr (f j))) (h3:step (b s.size)=some (.inr (f s.size))) :
  ∀(m i:Nat),lo<=i->i+m=s.size->∃n,i<=n/\n<=s.size/\(∀j,i<=j->j<n->p (bI s j)=true)/\(n<s.size->p (bI s n)=false)/\An step (b i)=some (f n):=by
 intro m
 induction m with
 | zero=>
  intro i _ hi
  have:i=s.size:=by omega
  subst this
  exact ⟨s.size,by omega,by omega,fun j _ _=>by omega,fun h=>by omega,Fj h3⟩
 | succ m ih=>
  intro i c hi
  cases hp:p (bI s i) with
  | true=>
   obtain ⟨n,a1,a2,a3,a4,a5⟩:=ih (i+1) (by omega) (by omega)
   refine ⟨n,by omega,a2,fun j b1 b2=>?_,a4,by rw [Kq (h1 i c (by omega) hp)]; exact a5⟩
   rcases Nat.lt_or_ge i j with h | h
   .exact a3 j h b2
   .have:j=i:=by omega
    subst this; exact hp
  | false=>exact ⟨i,by omega,by omega,fun j _ _=>by omega,fun _=>hp,Fj (h2 i c (by omega) hp)⟩
theorem Asi (s:ByteArray) (k:s.size<1099511627776):∃n,n<=s.size/\(∀j,j<n->wiI (bI s j)=true)/\(n<s.size->wiI (bI s n)=false)/\Uh s=some (s.extract 0 n):=by
 have H:=R0 (step:=fun v3:Int=>bif (decide (v3<(s.size:Int))) then ((D7 s v3).bind fun h=>(Rl (h.toNat:Int)).bind fun v5=>bif v5 then some (.inl (Ac (v3+1))) else some (.inr v3)) else some (.inr v3))
  s wiI (fun j=>(j:Int)) (fun j=>(j:Int)) 0 (fun j _ hj hp=>by
   obtain ⟨c,g,f⟩:=Gn (s:=s) (i:=(j:Int)) rfl hj
   simp only [Ak (by omega:(j:Int)<(s.size:Int)),cond_true,g,Ad,f,Ai8,hp,C6 hj (by omega)]) (fun j _ hj hp=>by
   obtain ⟨c,g,f⟩:=Gn (s:=s) (i:=(j:Int)) rfl hj
   simp only [Ak (by omega:(j:Int)<(s.size:Int)),cond_true,g,Ad,f,Ai8,hp,cond_false]) (by simp) s.size 0 (by omega) (by omega)
 obtain ⟨n,_,a2,a3,a4,a5⟩:=H
 refine ⟨n,a2,fun j hj=>a3 j (by omega) hj,a4,?_⟩
 unfold Uh
 have a5:An _ (0:Int)=some (n:Int):=a5
 rw [a5,Ad,K8 (lo:=0) (a:=0) (b:=n) rfl rfl (by omega) a2]; rfl
theorem Asj (s:ByteArray) (k:s.size<1099511627776):∃n,n<=s.size/\(∀j,j<n->diI (bI s j)=true)/\(n<s.size->diI (bI s n)=false)/\Xm s=some (s.extract 0 n):=by
 have H:=R0 (step:=fun v3:Int=>bif (decide (v3<(s.size:Int))) then ((D7 s v3).bind fun h=>(M6 (h.toNat:Int)).bind fun v5=>bif v5 then some (.inl (Ac (v3+1))) else some (.inr v3)) else some (.inr v3))
  s diI (fun j=>(j:Int)) (fun j=>(j:Int)) 0 (fun j _ hj hp=>by
   obtain ⟨c,g,f⟩:=Gn (s:=s) (i:=(j:Int)) rfl hj
   simp only [Ak (by omega:(j:Int)<(s.size:Int)),cond_true,g,Ad,f,U3,hp,C6 hj (by omega)]) (fun j _ hj hp=>by
   obtain ⟨c,g,f⟩:=Gn (s:=s) (i:=(j:Int)) rfl hj
   simp only [Ak (by omega:(j:Int)<(s.size:Int)),cond_true,g,Ad,f,U3,hp,cond_false]) (by simp) s.size 0 (by omega) (by omega)
 obtain ⟨n,_,a2,a3,a4,a5⟩:=H
 refine ⟨n,a2,fun j hj=>a3 j (by omega) hj,a4,?_⟩
 unfold Xm
 have a5:An _ (0:Int)=some (n:Int):=a5
 rw [a5,Ad,K8 (lo:=0) (a:=0) (b:=n) rfl rfl (by omega) a2]; rfl
theorem K9 {R:Type} {c:Bool} {X Y:Option R} {Q:R->Prop} (h1:∃r,X=some r/\Q r) (h2:∃r,Y=some r/\Q r):∃r,(bif c then X else Y)=some r/\Q r:=by cases c <;> assumption
theorem U4 {A R:Type} {X:Option A} {f:A->Option R} {Q:R->Prop} (P:A->Prop) (h1:∃a,X=some a/\P a) (h2:∀a,P a->∃r,f a=some r/\Q r):∃r,X.bind f=some r/\Q r:=by
 obtain ⟨a,e,h⟩:=h1
 rw [e]; exact h2 a h
theorem Ask (s:ByteArray):∃b,Ui s=some b/\True:=by
 unfold Ui
 repeat' first | refine K9 ?_ ?_ | exact ⟨_,rfl,trivial⟩
theorem Asl (s:ByteArray) (h1:1<=s.size):∃r,Uk s=some r/\(r.size<=s.size):=by
 have g:Da s 0 1=some (s.extract 0 1):=K8 rfl rfl (by omega) h1
 have c:(s.extract 0 1).size<=s.size:=by rw [ByteArray.size_extract]; omega
 unfold Uk
 refine U4 (fun z=>∀r,z = .inl r->r.size<=s.size) ?_ ?_
 .by_cases h2:2<=s.size
  .have f:Da s 0 2=some (s.extract 0 2):=K8 rfl rfl (by omega) h2
   have b:∀r,(Sum.inl (s.extract 0 2):ByteArray⊕Unit) = .inl r->r.size<=s.size:=by rintro r ⟨⟩; rw [ByteArray.size_extract]; omega
   simp only [f,Ad]
   repeat' first | refine K9 ?_ ?_ | with_reducible exact ⟨_,rfl,b⟩ | exact ⟨_,rfl,fun r h=>by cases h⟩
  .rw [Ap (by omega)]
   exact ⟨_,rfl,fun r h=>by cases h⟩
 .rintro (r | u) i
  .exact ⟨_,rfl,i r rfl⟩
  .simp only [g,Ad]
   have h0:(ByteArray.mk #[]).size<=s.size:=Nat.zero_le _
   repeat' first | refine K9 ?_ ?_ | with_reducible exact ⟨_,rfl,c⟩ | with_reducible exact ⟨_,rfl,h0⟩
theorem Asm (s:ByteArray) (g:s.size<1099511627776):∃b,Uj s=some b/\True:=by
 unfold Uj
 refine Dt (fun (_,i)=>∃j:Nat,i=j/\j<=s.size) (fun (_,i)=>s.size-i.toNat) (fun _=>True) ⟨0,rfl,by omega⟩ ?_ ?_
 .rintro ⟨v,i⟩ ⟨j,rfl,hj⟩
  rcases Nat.lt_or_ge j s.size with h | h
  .obtain ⟨c,f,_⟩:=Gn (s:=s) (i:=(j:Int)) rfl h
   simp only [Ak (by omega:(j:Int)<(s.size:Int)),cond_true,f,Ad,C6 h (by omega)]
   cases decide (Ac (Ac (v*10)+Ac (wu8 ((c.toNat:Int)-48)))>1000000) with
   | true=>exact .inr ⟨_,rfl,trivial⟩
   | false=>exact .inl ⟨_,rfl,⟨j+1,rfl,by omega⟩,by simp; omega⟩
  .have:j=s.size:=by omega
   subst this
   exact .inr ⟨.inr (),by simp,trivial⟩
 .rintro (r | u) _ <;> exact ⟨_,rfl,trivial⟩
theorem Asn (s:ByteArray) (i:Nat) (hi:i<s.size) (S:s.size<1099511627776) :
  ∃r,Uc s i=some r/\(r.2=0->1<=r.1.Text.size/\i+r.1.Text.size<=s.size/\(r.1.Kind=2->D3 r.1.Text))/\(D3 s->i=0->r=(⟨2,s,0⟩,0)):=by
 obtain ⟨c,N,M⟩:=Gn (s:=s) (i:=(i:Int)) rfl hi
 have x:Da s (i:Int) (s.size:Int)=some (s.extract i s.size):=K8 rfl rfl (by omega) (by omega)
 have J:(s.extract i s.size).size=s.size-i:=by rw [ByteArray.size_extract]; omega
 have y:bI (s.extract i s.size) 0=bI s i:=Pp (by omega) (by omega)
 unfold Uc
 simp only [N,Ad,M,Acp,Acq,U3,x]
 have hw:(bif loI (bI s i) then some true else some (upI (bI s i)))=some (loI (bI s i)||upI (bI s i)):=by cases loI (bI s i) <;> rfl
 rw [hw]
 simp only [Ad]
 cases l:(loI (bI s i)||upI (bI s i)) with
 | true=>
  obtain ⟨n,I,E,z,q⟩:=Asi (s.extract i s.size) (by omega)
  have B:1<=n:=by
   rcases Nat.eq_zero_or_pos n with h | h
   .subst h
    have:=z (by omega)
    rw [y] at this
    unfold wiI at this
    rw [l] at this; cases this
   .exact h
  have hx:(s.extract i s.size).extract 0 n=s.extract i (i+n):=by rw [ByteArray.extract_extract]; congr 1; omega
  have u:(s.extract i (i+n)).size=n:=by rw [ByteArray.size_extract]; omega
  rw [hx] at q
  simp only [cond_true,q,Ad,u]
  have g:D3 s->i=0->n=s.size:=by
   intro hu h0
   rcases Nat.lt_or_ge n s.size with h | h
   .have:=z (by omega)
    rw [Pp (by omega) (by omega),hu.2.2.2 _ (by omega)] at this; cases this
   .omega
  by_cases L:n<=24
  .rw [Ap (by omega)]
   cases k:upI (bI s i) with
   | true=>
    refine ⟨_,rfl,fun _=>⟨?_,?_,fun _=>⟨?_,?_,?_,?_⟩⟩,?_⟩
    .show 1<=(s.extract i (i+n)).size; omega
    .show i+(s.extract i (i+n)).size<=s.size; omega
    .show 1<=(s.extract i (i+n)).size; omega
    .show (s.extract i (i+n)).size<=24; omega
    .show upI (bI (s.extract i (i+n)) 0)=true
     rw [Pp (by omega) (by omega)]; exact k
    .show ∀j,j<(s.extract i (i+n)).size->wiI (bI (s.extract i (i+n)) j)=true
     intro j hj
     rw [Pp (by omega) (by omega)]
     have:=E j (by omega)
     rw [Pp (by omega) (by omega)] at this; exact this
    .intro hu h0
     have:=g hu h0
     subst h0; subst this
     rw [Nat.zero_add,ByteArray.extract_zero_size]; rfl
   | false=>
    obtain ⟨b,hb,_⟩:=Ask (s.extract i (i+n))
    simp only [cond_false,hb,Ad]
    have f:D3 s->i=0->False:=by
     intro hu h0
     subst h0
     rw [hu.2.2.1] at k; cases k
    cases b with
    | true=>exact ⟨_,rfl,fun _=>⟨by show 1<=(s.extract i (i+n)).size; omega,by show i+(s.extract i (i+n)).size<=s.size; omega,fun h=>by cases h⟩,fun hu h0=>(f hu h0).elim⟩
    | false=>exact ⟨_,rfl,fun _=>⟨by show 1<=(s.extract i (i+n)).size; omega,by show i+(s.extract i (i+n)).size<=s.size; omega,fun h=>by cases h⟩,fun hu h0=>(f hu h0).elim⟩
  .rw [Ak (by omega)]
   refine ⟨_,rfl,(fun h=>by cases h),fun hu h0=>?_⟩
   have:=g hu h0
   have:=hu.2.1
   omega
 | false=>
  have f:D3 s->i=0->False:=by
   intro hu h0
   subst h0
   rw [hu.2.2.1,Bool.or_true] at l; cases l
  simp only [cond_false]
  cases hd:diI (bI s i) with
  | true=>
   obtain ⟨n,I,E,z,q⟩:=Asj (s.extract i s.size) (by omega)
   have B:1<=n:=by
    rcases Nat.eq_zero_or_pos n with h | h
    .subst h
     have:=z (by omega)
     rw [y,hd] at this; cases this
    .exact h
   have hx:(s.extract i s.size).extract 0 n=s.extract i (i+n):=by rw [ByteArray.extract_extract]; congr 1; omega
   have u:(s.extract i (i+n)).size=n:=by rw [ByteArray.size_extract]; omega
   rw [hx] at q
   obtain ⟨b,hb,_⟩:=Asm (s.extract i (i+n)) (by omega)
   simp only [cond_true,q,Ad,hb]
   refine U4 (fun _=>True) ?_ ?_
   .exact K9 ⟨_,rfl,trivial⟩ ⟨_,rfl,trivial⟩
   .intro v _
    refine K9 ⟨_,rfl,(fun h=>by cases h),fun hu h0=>(f hu h0).elim⟩ (K9 ⟨_,rfl,(fun h=>by cases h),fun hu h0=>(f hu h0).elim⟩ ⟨_,rfl,fun _=>⟨?_,?_,fun h=>by cases h⟩,fun hu h0=>(f hu h0).elim⟩)
    .show 1<=(s.extract i (i+n)).size; omega
    .show i+(s.extract i (i+n)).size<=s.size; omega
  | false=>
   obtain ⟨r,G,R⟩:=Asl (s.extract i s.size) (by omega)
   simp only [cond_false,G,Ad]
   rw [Yf]
   by_cases A:r=ByteArray.mk #[]
   .rw [Ak A]
    exact ⟨_,rfl,(fun h=>by cases h),fun hu h0=>(f hu h0).elim⟩
   .rw [Ap A]
    refine ⟨_,rfl,fun _=>⟨?_,?_,fun h=>by cases h⟩,fun hu h0=>(f hu h0).elim⟩
    .show 1<=r.size
     rcases Nat.eq_zero_or_pos r.size with h | h
     .have D:r.data.toList.length=0:=by simpa using h
      exact absurd (Ai7 (by rw [ByteArray.toList_eq,List.length_eq_zero_iff.1 D,ByteArray.toList_eq])) A
     .exact h
    .show i+r.size<=s.size; omega
theorem Aso (c:Int):Ub c=some (c==9||c==10||c==13||c==32):=by
 unfold Ub
 cases c==9 <;> cases c==10 <;> cases c==13 <;> rfl
theorem Ai9 (s:ByteArray) (V:s.size<1099511627776):∃b,Ou s=some b/\(b=true↔D3 s):=by
 unfold Ou Xe
 by_cases q:(s.size:Int)>16384
 .rw [Ak q]
  refine ⟨false,rfl,by simp; rintro ⟨_,h,_⟩; omega⟩
 rw [Ap q]
 simp only [cond_false]
 refine U4 (fun r:List G5×Int×Int=>(r.2.2≠0/\¬D3 s)\/(r.2.2=0/\∃o e,r.1=o++[e]/\(∀t∈o,t.Kind=2->D3 t.Text)/\(D3 s->o = [⟨2,s,0⟩]))) ?_ ?_
 .refine Dt (fun (v26,f)=>∃i:Nat,v26=i/\i<=s.size/\f.length<=i/\(∀t∈f,t.Kind=2->D3 t.Text)/\(D3 s->(i=0/\f = [])\/(i=s.size/\f = [⟨2,s,0⟩])))
   (fun (v26,_)=>s.size-v26.toNat)
   (fun z=>match z with | .inl o=>o.length<=16384/\(∀t∈o,t.Kind=2->D3 t.Text)/\(D3 s->o = [⟨2,s,0⟩]) | .inr (_,_,e)=>e≠0/\¬D3 s)
   ⟨0,rfl,by omega,by simp,by simp,fun _=>.inl ⟨rfl,rfl⟩⟩ ?_ ?_
  .rintro ⟨v,o⟩ ⟨i,rfl,hi,ho,hk,hu⟩
   rcases Nat.lt_or_ge i s.size with h | h
   .obtain ⟨c,G,E⟩:=Gn (s:=s) (i:=(i:Int)) rfl h
    have g:D3 s->i=0/\o = []:=fun u=>by
     rcases hu u with h' | h'
     .exact h'
     .omega
    simp only [Ak (by omega:(i:Int)<(s.size:Int)),cond_true,G,Ad,E,Aso]
    cases J:(bI s i==9||bI s i==10||bI s i==13||bI s i==32) with
    | true=>
     have k:¬D3 s:=by
      intro u
      have h0:=(g u).1
      subst h0
      have:=u.2.2.1
      simp only [upI,De,decide_eq_true_eq] at this
      simp only [Bool.or_eq_true,beq_iff_eq] at J
      omega
     exact .inl ⟨(((i+1:Nat):Int),o),by simp only [cond_true]; rw [C6 h (by omega)],⟨i+1,rfl,by omega,(by show o.length<=i+1; omega),hk,fun u=>(k u).elim⟩,by simp; omega⟩
    | false=>
     simp only [cond_false]
     cases B:(bI s i==35) with
     | true=>
      have k:¬D3 s:=by
       intro u
       have h0:=(g u).1
       subst h0
       have:=u.2.2.1
       simp only [upI,De,decide_eq_true_eq] at this
       simp only [beq_iff_eq] at B
       omega
      simp only [cond_true]
      obtain ⟨n,n1,n2,n3,U,I⟩:=R0 (step:=fun v32:Int=>bif (decide (v32<(s.size:Int))) then ((D7 s v32).bind fun L=>bif ((L.toNat:Int)==(10:Int)) then some (.inr (.inl v32)) else some (.inl (Ac (v32+1)))) else some (.inr (.inr v32)))
       s (fun c=>!(c==10)) (fun j=>(j:Int)) (fun j=>if j<s.size then Sum.inl (j:Int) else Sum.inr (j:Int)) 0 (fun j _ hj hp=>by
        obtain ⟨c,G,E⟩:=Gn (s:=s) (i:=(j:Int)) rfl hj
        simp only [Bool.not_eq_true'] at hp
        simp only [Ak (by omega:(j:Int)<(s.size:Int)),cond_true,G,Ad,E,hp,C6 hj (by omega),cond_false]) (fun j _ hj hp=>by
        obtain ⟨c,G,E⟩:=Gn (s:=s) (i:=(j:Int)) rfl hj
        simp only [Bool.not_eq_false'] at hp
        simp only [Ak (by omega:(j:Int)<(s.size:Int)),cond_true,G,Ad,E,hp,if_pos hj]) (by simp) (s.size-i) i (by omega) (by omega)
      have X:i<n:=by
       rcases Nat.lt_or_ge i n with h' | h'
       .exact h'
       .have:n=i:=by omega
        subst this
        have:=U h
        simp only [beq_iff_eq] at B
        rw [B] at this; cases this
      have I:An _ (i:Int)=_:=I
      rw [I,Ad]
      rcases Nat.lt_or_ge n s.size with h' | h'
      .rw [if_pos h']
       exact .inl ⟨((n:Int),o),rfl,⟨n,rfl,by omega,(by show o.length<=n; omega),hk,fun u=>(k u).elim⟩,by simp; omega⟩
      .rw [if_neg (by omega)]
       exact .inr ⟨.inl o,rfl,by omega,hk,fun u=>(k u).elim⟩
     | false=>
      obtain ⟨r,S,R,M⟩:=Asn s i h V
      simp only [cond_false,S,Ad]
      by_cases D:r.2=0
      .obtain ⟨a1,a2,a3⟩:=R D
       simp only [C5 D,cond_false]
       rw [C1 (by simp; omega),Ad]
       refine .inl ⟨(((i+r.1.Text.size:Nat):Int),o++[r.1]),?_,⟨i+r.1.Text.size,rfl,a2,by simp; omega,?_,?_⟩,by simp; omega⟩
       .rw [show Ac ((i:Int)+(r.1.Text.size:Int))=((i+r.1.Text.size:Nat):Int) by rw [Ac,Bv] <;> omega]
       .intro t ht
        rcases List.mem_append.1 ht with h' | h'
        .exact hk t h'
        .simp at h'; subst h'; exact a3
       .intro u
        obtain ⟨b1,b2⟩:=g u
        have:=M u b1
        subst b1; subst b2; subst this
        exact .inr ⟨by simp,rfl⟩
      .simp only [C2 D,cond_true]
       refine .inr ⟨_,rfl,D,fun u=>?_⟩
       rw [M u (g u).1] at D
       exact D rfl
   .have:i=s.size:=by omega
    subst this
    refine .inr ⟨.inl o,by simp,by omega,hk,fun u=>?_⟩
    rcases hu u with ⟨h',_⟩ | ⟨_,h'⟩
    .have:=u.1; omega
    .exact h'
  .rintro (o | ⟨l,p,e⟩) N
   .obtain ⟨z1,z2,z3⟩:=N
    simp only
    rw [C1 (by simp; omega),Ad]
    exact ⟨_,rfl,.inr ⟨rfl,o,_,rfl,z2,z3⟩⟩
   .exact ⟨_,rfl,.inl N⟩
 .rintro ⟨l,p,e⟩ (⟨h1,h2⟩ | ⟨h1,o,t,h2,h3,A⟩)
  .simp only at h1
   simp only [Cr h1,cond_false]
   exact ⟨_,rfl,by simp [h2]⟩
  .simp only at h1 h2
   subst h1; subst h2
   simp only [beq_self_eq_true,cond_true]
   match o,h3,A with
   | [],_,A=>exact ⟨false,by simp,by simp; intro u; cases A u⟩
   | [x],h3,A=>
    have Z:Af ([x]++[t]) 0=some x:=rfl
    simp only [Z,Ad,Yf]
    have Y:((([x]++[t]).length:Int)==2)=true:=rfl
    simp only [Y,cond_true]
    by_cases hx:x.Kind=2
    .simp only [Em hx,cond_true]
     refine ⟨_,rfl,?_⟩
     rw [decide_eq_true_iff]
     constructor
     .intro h; rw [<-h]; exact h3 x (by simp) hx
     .intro u; have:=A u; simp at this; rw [this]
    .simp only [Cr hx,cond_false]
     refine ⟨_,rfl,?_⟩
     simp only [Bool.false_eq_true,false_iff]
     intro u; have:=A u; simp at this; rw [this] at hx; exact hx rfl
   | x::y::ys,_,A=>
    refine ⟨false,?_,by simp; intro u; have:=A u; simp at this⟩
    rw [Cr]
    .rfl
    .simp; omega
end Go.Ab
namespace Go.Ab
open Go
theorem Asp (s:ByteArray):∃b,Xg s=some b/\True:=by
 have key:∀(L:List ByteArray),L.length<1000->∃b,((An (S:=Int) (E:=(Bool⊕Unit)) (fun v2=>bif (decide (v2<(L.length:Int))) then ((Af L v2).bind fun v3=>bif (v3.toList==s.toList) then some (.inr (.inl true)) else some (.inl (Ac (v2+1)))) else some (.inr (.inr ()))) 0).bind fun z=>match z with | .inl c=>some c | .inr _=>some false)=some b/\True:=by
  intro L f
  refine ⟨_,Nf L (fun v=>!(v.toList==s.toList)) (fun j=>(j:Int)) rfl (by omega) (rt:=false) (rf:=true) ?_ ?_,trivial⟩
  .intro j x hx h1 h2 h3
   simp only [h1,h2,h3,cond_true,Ad]
   cases (x.toList==s.toList) with
   | true=>exact ⟨(fun h=>by cases h),fun _=>⟨_,rfl,rfl⟩⟩
   | false=>exact ⟨fun _=>rfl,fun h=>by cases h⟩
  .intro h; exact ⟨.inr (),by simp only [h]; rfl,rfl⟩
 exact key _ (by decide)
theorem Asq (s:ByteArray) (h1:1<=s.size) (T:ByteArray) (x:T.size<1000):∃r,((An (S:=Int) (E:=(Int⊕Unit)) (fun b=>bif (decide (b<(T.size:Int))) then ((D7 s 0).bind fun l=>(D7 T b).bind fun k=>bif ((l.toNat:Int)==(k.toNat:Int)) then some (.inr (.inl 1)) else some (.inl (Ac (b+1)))) else some (.inr (.inr ()))) 0).bind fun z=>match z with | .inl f=>some f | .inr _=>some 0)=some r/\(r=0\/(1<=r/\r<=s.size)):=by
 refine Dt (fun i=>∃j:Nat,i=j/\j<=T.size) (fun i=>T.size-i.toNat) (fun z=>∀r,z = .inl r->r=1) ⟨0,rfl,by omega⟩ ?_ ?_
 .rintro i ⟨j,rfl,hj⟩
  rcases Nat.lt_or_ge j T.size with h | h
  .obtain ⟨c,q,_⟩:=Gn (s:=T) (i:=(j:Int)) rfl h
   obtain ⟨d,d1,_⟩:=Gn (s:=s) (i:=0) (n:=0) rfl h1
   simp only [Ak (by omega:(j:Int)<(T.size:Int)),cond_true,q,d1,Ad,C6 h (by omega)]
   cases ((d.toNat:Int)==(c.toNat:Int)) with
   | true=>exact .inr ⟨_,rfl,fun r h=>by cases h; rfl⟩
   | false=>exact .inl ⟨_,rfl,⟨j+1,rfl,by omega⟩,by simp; omega⟩
  .have:j=T.size:=by omega
   subst this
   exact .inr ⟨.inr (),by simp,fun r h=>by cases h⟩
 .rintro (r | u) g
  .exact ⟨r,rfl,.inr (by have:=g r rfl; omega)⟩
  .exact ⟨0,rfl,.inl rfl⟩
theorem Asr (s:ByteArray) (h1:1<=s.size):∃r,Ug s=some r/\(r=0\/(1<=r/\r<=s.size)):=by
 unfold Ug
 refine U4 (fun b=>b=true->2<=s.size) ?_ ?_
 .by_cases h2:2<=s.size
  .have c:Da s 0 2=some (s.extract 0 2):=K8 rfl rfl (by omega) h2
   simp only [c,Ad]
   repeat' first | refine K9 ?_ ?_ | exact ⟨_,rfl,fun _=>h2⟩
  .rw [Ap (by omega)]
   exact ⟨_,rfl,fun h=>by cases h⟩
 .rintro b hb
  cases b with
  | true=>exact ⟨2,rfl,.inr ⟨by omega,by have:=hb rfl; omega⟩⟩
  | false=>exact Asq s h1 _ (by decide)
theorem Ass (s:ByteArray) (k:s.size<1099511627776):∃b,Uf s=some b/\True:=by
 unfold Uf
 refine Dt (fun (_,i)=>∃j:Nat,i=j/\j<=s.size) (fun (_,i)=>s.size-i.toNat) (fun _=>True) ⟨0,rfl,by omega⟩ ?_ ?_
 .rintro ⟨v,i⟩ ⟨j,rfl,hj⟩
  rcases Nat.lt_or_ge j s.size with h | h
  .obtain ⟨c,f,_⟩:=Gn (s:=s) (i:=(j:Int)) rfl h
   simp only [Ak (by omega:(j:Int)<(s.size:Int)),cond_true,f,Ad,C6 h (by omega)]
   cases decide (Ac (Ac (v*10)+Ac (wu8 ((c.toNat:Int)-48)))>1000000) with
   | true=>exact .inr ⟨_,rfl,trivial⟩
   | false=>exact .inl ⟨_,rfl,⟨j+1,rfl,by omega⟩,by simp; omega⟩
  .have:j=s.size:=by omega
   subst this
   exact .inr ⟨.inr v,by simp,trivial⟩
 .rintro (⟨r,g⟩ | u) _ <;> exact ⟨_,rfl,trivial⟩
theorem Aja (s:ByteArray) (hs:s.size<1099511627776):∃b,Oz s=some b/\(b=true↔D3 s):=by
 unfold Oz Xf
 by_cases L:(s.size:Int)>16384
 .rw [Ak L]
  refine ⟨false,rfl,by simp; rintro ⟨_,h,_⟩; omega⟩
 rw [Ap L]
 simp only [cond_false]
 refine U4 (fun r:List Hu×Int×Int=>(r.2.2≠0/\¬D3 s)\/(r.2.2=0/\∃o e,r.1=o++[e]/\(∀t∈o,t.Kind=2->D3 t.Text)/\(D3 s->o = [⟨2,s,0⟩]))) ?_ ?_
 .refine Dt (fun (v26,J)=>∃i:Nat,v26=i/\i<=s.size/\J.length<=i/\(∀t∈J,t.Kind=2->D3 t.Text)/\(D3 s->(i=0/\J = [])\/(i=s.size/\J = [⟨2,s,0⟩])))
   (fun (v26,_)=>s.size-v26.toNat)
   (fun z=>match z with | .inr o=>o.length<=16384/\(∀t∈o,t.Kind=2->D3 t.Text)/\(D3 s->o = [⟨2,s,0⟩]) | .inl (_,_,e)=>e≠0/\¬D3 s)
   ⟨0,rfl,by omega,by simp,by simp,fun _=>.inl ⟨rfl,rfl⟩⟩ ?_ ?_
  .rintro ⟨v,o⟩ ⟨i,rfl,hi,ho,hk,hu⟩
   rcases Nat.lt_or_ge i s.size with h | h
   .obtain ⟨c,D,B⟩:=Gn (s:=s) (i:=(i:Int)) rfl h
    have A:D3 s->i=0/\o = []:=fun u=>by
     rcases hu u with h' | h'
     .exact h'
     .omega
    have f:∀j:Nat,i<=j->j<=s.size->Ac ((i:Int)+((j:Int)-(i:Int)))=(j:Int):=fun j _ _=>by rw [Ac,Bv] <;> omega
    have X:(bif bI s i==9 then some true else bif bI s i==10 then some true else bif bI s i==13 then some true else some (bI s i==32))=some (bI s i==9||bI s i==10||bI s i==13||bI s i==32):=by
     cases bI s i==9 <;> cases bI s i==10 <;> cases bI s i==13 <;> rfl
    have hw:(bif loI (bI s i) then some true else some (upI (bI s i)))=some (loI (bI s i)||upI (bI s i)):=by cases loI (bI s i) <;> rfl
    simp only [Ak (by omega:(i:Int)<(s.size:Int)),cond_true,D,Ad,B,X,Asf,Asg,Ash,hw]
    cases X:(bI s i==9||bI s i==10||bI s i==13||bI s i==32) with
    | true=>
     have g:¬D3 s:=by
      intro u
      have h0:=(A u).1
      subst h0
      have:=u.2.2.1
      simp only [upI,De,decide_eq_true_eq] at this
      simp only [Bool.or_eq_true,beq_iff_eq] at X
      omega
     exact .inl ⟨(((i+1:Nat):Int),o),by simp only [cond_true]; rw [C6 h (by omega)],⟨i+1,rfl,by omega,(by show o.length<=i+1; omega),hk,fun u=>(g u).elim⟩,by simp; omega⟩
    | false=>
     simp only [cond_false]
     cases U:(bI s i==35) with
     | true=>
      have g:¬D3 s:=by
       intro u
       have h0:=(A u).1
       subst h0
       have:=u.2.2.1
       simp only [upI,De,decide_eq_true_eq] at this
       simp only [beq_iff_eq] at U
       omega
      simp only [cond_true]
      obtain ⟨n,n1,G,n3,n4,E⟩:=R0 (step:=fun v54:Int=>bif (decide (v54<(s.size:Int))) then ((D7 s v54).bind fun ai=>bif ((ai.toNat:Int) != (10:Int)) then some (.inl (Ac (v54+1))) else some (.inr v54)) else some (.inr v54))
       s (fun c=>c != 10) (fun j=>(j:Int)) (fun j=>(j:Int)) 0 (fun j _ hj hp=>by
        obtain ⟨c,D,B⟩:=Gn (s:=s) (i:=(j:Int)) rfl hj
        simp only [Ak (by omega:(j:Int)<(s.size:Int)),cond_true,D,Ad,B,hp,C6 hj (by omega)]) (fun j _ hj hp=>by
        obtain ⟨c,D,B⟩:=Gn (s:=s) (i:=(j:Int)) rfl hj
        simp only [Ak (by omega:(j:Int)<(s.size:Int)),cond_true,D,Ad,B,hp,cond_false]) (by simp) (s.size-i) i (by omega) (by omega)
      have aj:i<n:=by
       rcases Nat.lt_or_ge i n with h' | h'
       .exact h'
       .have:n=i:=by omega
        subst this
        have:=n4 h
        simp only [beq_iff_eq] at U
        rw [U] at this; cases this
      have E:An _ (i:Int)=_:=E
      rw [E,Ad]
      exact .inl ⟨((n:Int),o),rfl,⟨n,rfl,by omega,(by show o.length<=n; omega),hk,fun u=>(g u).elim⟩,by simp; omega⟩
     | false=>
      simp only [cond_false]
      cases V:(loI (bI s i)||upI (bI s i)) with
      | true=>
       simp only [cond_true]
       obtain ⟨n,n1,G,n3,n4,E⟩:=R0 (step:=fun v67:Int=>bif (decide ((Ac ((i:Int)+v67))<(s.size:Int))) then ((D7 s (Ac ((i:Int)+v67))).bind fun ah=>(some (loI (ah.toNat:Int))).bind fun aa=>
         bif aa then some (.inl (Ac (v67+1))) else ((D7 s (Ac ((i:Int)+v67))).bind fun ag=>(some (upI (ag.toNat:Int))).bind fun a8=>bif a8 then some (.inl (Ac (v67+1))) else
         ((D7 s (Ac ((i:Int)+v67))).bind fun af=>(some (diI (af.toNat:Int))).bind fun a7=>bif a7 then some (.inl (Ac (v67+1))) else ((D7 s (Ac ((i:Int)+v67))).bind fun ae=>bif ((ae.toNat:Int)==(95:Int)) then some (.inl (Ac (v67+1))) else some (.inr v67))))) else some (.inr v67))
        s wiI (fun j=>(j:Int)-(i:Int)) (fun j=>(j:Int)-(i:Int)) i (fun j q hj hp=>by
         obtain ⟨c,D,B⟩:=Gn (s:=s) (i:=(j:Int)) rfl hj
         have Y:Ac ((j:Int)-(i:Int)+1)=((j+1:Nat):Int)-(i:Int):=by rw [Ac,Bv] <;> omega
         simp only [f j q (by omega),Ak (by omega:(j:Int)<(s.size:Int)),cond_true,D,Ad,B,Y]
         unfold wiI at hp
         revert hp
         cases loI (bI s j) <;> cases upI (bI s j) <;> cases diI (bI s j) <;> cases (bI s j==95) <;> simp) (fun j q hj hp=>by
         obtain ⟨c,D,B⟩:=Gn (s:=s) (i:=(j:Int)) rfl hj
         simp only [f j q (by omega),Ak (by omega:(j:Int)<(s.size:Int)),cond_true,D,Ad,B]
         unfold wiI at hp
         revert hp
         cases loI (bI s j) <;> cases upI (bI s j) <;> cases diI (bI s j) <;> cases (bI s j==95) <;> simp) (by
         simp only [f s.size hi (by omega)]; simp) (s.size-(i+1)) (i+1) (by omega) (by omega)
       have e0:((i+1:Nat):Int)-(i:Int)=1:=by omega
       simp only [e0] at E
       simp only [Ad] at E
       rw [E,Ad]
       have k:Da s (i:Int) (Ac ((i:Int)+((n:Int)-(i:Int))))=some (s.extract i n):=by rw [f n (by omega) G]; exact K8 rfl rfl (by omega) G
       have Z:(s.extract i n).size=n-i:=by rw [ByteArray.size_extract]; omega
       have a6:∀j,i<=j->j<n->wiI (bI s j)=true:=fun j a1 a2=>by
        rcases Nat.lt_or_ge i j with h' | h'
        .exact n3 j h' a2
        .have:j=i:=by omega
         subst this; unfold wiI; rw [V]; rfl
       have I:D3 s->n=s.size:=by
        intro u
        rcases Nat.lt_or_ge n s.size with h' | h'
        .have:=n4 h'
         rw [u.2.2.2 _ h'] at this; cases this
        .omega
       by_cases ak:n-i<=24
       .rw [Ap (by omega)]
        simp only [cond_false]
        cases S:upI (bI s i) with
        | true=>
         simp only [cond_true,Ad,k]
         rw [C1 (by simp; omega),Ad,f n (by omega) G]
         refine .inl ⟨_,rfl,⟨n,rfl,G,by simp; omega,?_,?_⟩,by simp; omega⟩
         .intro t ht
          rcases List.mem_append.1 ht with h' | h'
          .exact hk t h'
          .simp only [List.mem_singleton] at h'
           subst h'
           intro _
           refine ⟨?_,?_,?_,?_⟩
           .show 1<=(s.extract i n).size; omega
           .show (s.extract i n).size<=24; omega
           .show upI (bI (s.extract i n) 0)=true
            rw [Pp (by omega) (by omega)]; exact S
           .show ∀j,j<(s.extract i n).size->wiI (bI (s.extract i n) j)=true
            intro j hj
            rw [Pp (by omega) (by omega)]
            exact a6 _ (by omega) (by omega)
         .intro u
          obtain ⟨b1,b2⟩:=A u
          have hf:=I u
          subst b1; subst b2; subst hf
          rw [ByteArray.extract_zero_size]
          exact .inr ⟨rfl,rfl⟩
        | false=>
         obtain ⟨b,hb,_⟩:=Asp (s.extract i n)
         have g:¬D3 s:=by
          intro u
          have h0:=(A u).1
          subst h0
          rw [u.2.2.1] at S; cases S
         have ac:∃R:Int,(bif b then some 4 else some 1:Option Int)=some R/\R≠2:=by cases b <;> exact ⟨_,rfl,by decide⟩
         obtain ⟨R,k1,k2⟩:=ac
         simp only [cond_false,Ad,k,hb,k1]
         rw [C1 (by simp; omega),Ad,f n (by omega) G]
         refine .inl ⟨_,rfl,⟨n,rfl,G,by simp; omega,?_,fun u=>(g u).elim⟩,by simp; omega⟩
         intro t ht
         rcases List.mem_append.1 ht with h' | h'
         .exact hk t h'
         .simp only [List.mem_singleton] at h'
          subst h'
          intro h'; exact absurd h' k2
       .rw [Ak (by omega)]
        refine .inr ⟨_,rfl,(by show (9:Int)≠0; decide),fun u=>?_⟩
        have:=I u
        have:=u.2.1
        have:=(A u).1
        omega
      | false=>
       have g:¬D3 s:=by
        intro u
        have h0:=(A u).1
        subst h0
        rw [u.2.2.1,Bool.or_true] at V; cases V
       have M:∀(n:Nat) (R:Int),i<n->n<=s.size->R≠2->∃s':Int×List Hu,(B0 32 o [(Hu.mk R (s.extract i n) i)]).bind (fun ab=>(some (Sum.inl ((n:Int),ab)):Option ((Int×List Hu)⊕((List Hu×Int×Int)⊕List Hu))))=some (.inl s') /\
         (∃j:Nat,s'.1=j/\j<=s.size/\s'.2.length<=j/\(∀t∈s'.2,t.Kind=2->D3 t.Text)/\(D3 s->(j=0/\s'.2 = [])\/(j=s.size/\s'.2 = [⟨2,s,0⟩])))/\s.size-s'.1.toNat<s.size-i:=by
        intro n R a1 a2 a3
        rw [C1 (by simp; omega),Ad]
        refine ⟨_,rfl,⟨n,rfl,a2,by simp; omega,?_,fun u=>(g u).elim⟩,by simp; omega⟩
        intro t ht
        rcases List.mem_append.1 ht with h' | h'
        .exact hk t h'
        .simp only [List.mem_singleton] at h'
         subst h'
         intro h'; exact absurd h' a3
       simp only [cond_false]
       cases hd:diI (bI s i) with
       | true=>
        simp only [cond_true]
        obtain ⟨n,n1,G,n3,n4,E⟩:=R0 (step:=fun v85:Int=>bif (decide ((Ac ((i:Int)+v85))<(s.size:Int))) then ((D7 s (Ac ((i:Int)+v85))).bind fun ad=>(some (diI (ad.toNat:Int))).bind fun v87=>
          bif v87 then some (.inl (Ac (v85+1))) else some (.inr v85)) else some (.inr v85))
         s diI (fun j=>(j:Int)-(i:Int)) (fun j=>(j:Int)-(i:Int)) i (fun j q hj hp=>by
          obtain ⟨c,D,B⟩:=Gn (s:=s) (i:=(j:Int)) rfl hj
          have Y:Ac ((j:Int)-(i:Int)+1)=((j+1:Nat):Int)-(i:Int):=by rw [Ac,Bv] <;> omega
          simp only [f j q (by omega),Ak (by omega:(j:Int)<(s.size:Int)),cond_true,D,Ad,B,Y,hp]) (fun j q hj hp=>by
          obtain ⟨c,D,B⟩:=Gn (s:=s) (i:=(j:Int)) rfl hj
          simp only [f j q (by omega),Ak (by omega:(j:Int)<(s.size:Int)),cond_true,D,Ad,B,hp,cond_false]) (by
          simp only [f s.size hi (by omega)]; simp) (s.size-(i+1)) (i+1) (by omega) (by omega)
        have e0:((i+1:Nat):Int)-(i:Int)=1:=by omega
        simp only [e0] at E
        simp only [Ad] at E
        rw [E,Ad]
        have k:Da s (i:Int) (n:Int)=some (s.extract i n):=K8 rfl rfl (by omega) G
        have Z:(s.extract i n).size=n-i:=by rw [ByteArray.size_extract]; omega
        obtain ⟨b,hb,_⟩:=Ass (s.extract i n) (by omega)
        obtain ⟨b',hb'⟩:∃b':Bool,(bif decide ((n:Int)-(i:Int)>1) then some (bI s i==48) else some false)=some b':=by cases decide ((n:Int)-(i:Int)>1) <;> exact ⟨_,rfl⟩
        simp only [hb',Ad,k,hb,f n (by omega) G]
        cases b' with
        | true=>exact .inr ⟨_,rfl,(by show (2:Int)≠0; decide),g⟩
        | false=>
         simp only [cond_false]
         cases b.2 with
         | true=>exact .inl (M n 3 (by omega) G (by decide))
         | false=>exact .inr ⟨_,rfl,(by show (9:Int)≠0; decide),g⟩
       | false=>
        have k:Da s (i:Int) (s.size:Int)=some (s.extract i s.size):=K8 rfl rfl (by omega) (by omega)
        have Z:(s.extract i s.size).size=s.size-i:=by rw [ByteArray.size_extract]; omega
        obtain ⟨r,r1,r2⟩:=Asr (s.extract i s.size) (by omega)
        simp only [cond_false,k,Ad,r1]
        by_cases h0:r=0
        .subst h0
         exact .inr ⟨_,rfl,(by show (2:Int)≠0; decide),g⟩
        .simp only [Cr h0,cond_false]
         obtain ⟨m,hm⟩:∃m:Nat,r=m:=⟨r.toNat,by omega⟩
         subst hm
         have Y:Ac ((i:Int)+(m:Int))=((i+m:Nat):Int):=by rw [Ac,Bv] <;> omega
         rw [Y,K8 (s:=s) (lo:=(i:Int)) (hi:=((i+m:Nat):Int)) rfl rfl (by omega) (by omega),Ad]
         exact .inl (M (i+m) 5 (by omega) (by omega) (by decide))
   .have:i=s.size:=by omega
    subst this
    refine .inr ⟨.inr o,by simp,by omega,hk,fun u=>?_⟩
    rcases hu u with ⟨h',_⟩ | ⟨_,h'⟩
    .have:=u.1; omega
    .exact h'
  .rintro (⟨l,p,e⟩ | o) hz
   .exact ⟨_,rfl,.inl hz⟩
   .obtain ⟨z1,z2,z3⟩:=hz
    simp only
    rw [C1 (by simp; omega),Ad]
    exact ⟨_,rfl,.inr ⟨rfl,o,_,rfl,z2,z3⟩⟩
 .rintro ⟨l,p,e⟩ (⟨h1,h2⟩ | ⟨h1,o,t,h2,h3,N⟩)
  .simp only at h1
   simp only [Cr h1,cond_false]
   exact ⟨_,rfl,by simp [h2]⟩
  .simp only at h1 h2
   subst h1; subst h2
   simp only [beq_self_eq_true,cond_true]
   match o,h3,N with
   | [],_,N=>exact ⟨false,by simp,by simp; intro u; cases N u⟩
   | [x],h3,N=>
    have e0:Af ([x]++[t]) 0=some x:=rfl
    simp only [e0,Ad,Yf]
    have Y:((([x]++[t]).length:Int)==2)=true:=rfl
    simp only [Y,cond_true]
    by_cases hx:x.Kind=2
    .simp only [Em hx,cond_true]
     refine ⟨_,rfl,?_⟩
     rw [decide_eq_true_iff]
     constructor
     .intro h; rw [<-h]; exact h3 x (by simp) hx
     .intro u; have:=N u; simp at this; rw [this]
    .simp only [Cr hx,cond_false]
     refine ⟨_,rfl,?_⟩
     simp only [Bool.false_eq_true,false_iff]
     intro u; have:=N u; simp at this; rw [this] at hx; exact hx rfl
   | x::y::ys,_,N=>
    refine ⟨false,?_,by simp; intro u; have:=N u; simp at this⟩
    rw [Cr]
    .rfl
    .simp; omega
end Go.Ab
namespace Go.Ab
open Go
def Pq (data:List Ay) (d:Nat) (v:Int) (y:Ka):Prop:=D3 y.Name/\y.Args.length<=6/\y.Args.all (Hx data d v)=true
def Nl (data:List Ay) (d:Nat) (x:Ay):Prop:=0<=x.Vars/\x.Vars<=6/\1<=x.Cons.length/\x.Cons.length<=8/\D3 x.Name/\∀y∈x.Cons,Pq data d x.Vars y
def E2 (x:Ay):List ByteArray:=x.Cons.map (·.Name)
def He (data:List Ay):Prop:=data.length<=12/\(∀d x,data[d]? = some x->Nl data d x)/\(data.map (·.Name)).Nodup/\(data.flatMap E2).Nodup
structure DSz (data:List Ay):Prop where
 len:data.length<=1048576
 sz:SzD data
 nm:∀x∈data,x.Name.size<=1048576
 cn:∀x∈data,∀y∈x.Cons,y.Name.size<=1048576
theorem Pr (a b:ByteArray):(a==b)=true↔a=b:=by
 constructor
 .intro h
  cases a with | mk a=>cases b with | mk b=>
  have:a=b:=by exact eq_of_beq h
  rw [this]
 .rintro rfl
  cases a with | mk a=>exact beq_self_eq_true a
def Ie (o:List (ByteArray×Bool)) (L:List ByteArray):Prop:=(∀p∈o,p.2=true)/\∀s,Ed o s=true↔s∈L
theorem Ie.nil:Ie [] []:=⟨by simp,by simp [Ed]⟩
theorem Ie.get {o:List (ByteArray×Bool)} {L:List ByteArray} (h:Ie o L) {s:ByteArray} (b:Ed o s=true):G4 o s false=true:=by
 unfold G4
 unfold Ed at b
 rw [List.any_eq_true] at b
 obtain ⟨p,g,f⟩:=b
 cases c:o.find? (fun p=>s==p.1) with
 | none=>exact absurd f (by have:=List.find?_eq_none.1 c p g; simpa using this)
 | some q=>exact h.1 q (List.mem_of_find?_eq_some c)
theorem Ast (o:List (ByteArray×Bool)) (s t:ByteArray) (v:Bool):Ed (Er o s v) t=(Ed o t||t==s):=by
 induction o with
 | nil=>simp [Er,Ed]
 | cons p o ih=>
  unfold Er
  cases hp:(s==p.1) with
  | true=>
   have:s=p.1:=(Pr _ _).1 hp
   subst this
   simp only [cond_true,Ed,List.any_cons]
   cases t==p.1 <;> simp
  | false=>
   simp only [Ed,List.any_cons] at ih ⊢
   simp only [cond_false,List.any_cons,ih,Bool.or_assoc]
theorem Ie.put {o:List (ByteArray×Bool)} {L:List ByteArray} (h:Ie o L) (s:ByteArray):Ie (Er o s true) (L++[s]):=by
 refine ⟨?_,fun t=>?_⟩
 .have:∀o:List (ByteArray×Bool),(∀p∈o,p.2=true)->∀p∈Er o s true,p.2=true:=by
   intro o
   induction o with
   | nil=>intro _ p hp; simp [Er] at hp; rw [hp]
   | cons q o ih=>
    intro b p hp
    unfold Er at hp
    cases hq:(s==q.1) with
    | true=>
     rw [hq] at hp
     simp only [cond_true,List.mem_cons] at hp
     rcases hp with rfl | hp
     .rfl
     .exact b p (by simp [hp])
    | false=>
     rw [hq] at hp
     simp only [cond_false,List.mem_cons] at hp
     rcases hp with rfl | hp
     .exact b _ (by simp)
     .exact ih (fun p hp=>b p (by simp [hp])) p hp
  exact this o h.1
 .rw [Ast,Bool.or_eq_true,h.2 t,Pr]; simp
theorem Asu (x:Ay) {c:Nat} {y:Ka} (hy:x.Cons[c]? = some y):E2 x=(x.Cons.take c).map (·.Name)++y.Name::(x.Cons.drop (c+1)).map (·.Name):=by
 have h:=List.take_append_drop c x.Cons
 have hc:=Di hy
 have e:x.Cons.drop c=y::x.Cons.drop (c+1):=by
  rw [List.drop_eq_getElem_cons hc]
  rw [Bx hc] at hy
  rw [Option.some.inj hy]
 unfold E2
 conv=>lhs; rw [<-h,e]
 simp
theorem Ajb {L m:List ByteArray} {s:ByteArray} (h:(L++s::m).Nodup):s ∉ L:=by
 rw [List.nodup_append] at h
 intro b
 exact h.2.2 s b s (by simp) rfl
theorem Acr {L:List ByteArray} {s:ByteArray} (h:L.Nodup) (c:s ∉ L):(L++[s]).Nodup:=by
 rw [List.nodup_append]
 refine ⟨h,by simp,?_⟩
 intro a ha b hb
 simp at hb; subst hb
 intro e; subst e; exact c ha
theorem Asv {data:List Ay} (s:DSz data) {d:Nat} {x:Ay} (hx:data[d]? = some x) (I:x.Vars<=6) (o:List (ByteArray×Bool)) (L:List ByteArray) (J:Ie o L) (N:L.Nodup) :
  ∃z,An (S:=(Int×(List (ByteArray×Bool)))) (E:=(Bool⊕(Int×(List (ByteArray×Bool))))) (fun (f,g)=>
    bif (decide (f<(x.Cons.length:Int))) then (
    (Af x.Cons f).bind fun v54=>
    (Ou v54.Name).bind fun A=>
    bif (!A) then some (.inr (.inl false))
    else (
    bif (Ed g v54.Name) then (
    bif (G4 g v54.Name (false:Bool)) then some (.inr (.inl false))
    else (
    (Mz data d f).bind fun u=>
    bif (!u) then some (.inr (.inl false))
    else some (.inl ((Ac (f+1)),(Er g v54.Name true)))))
    else (
    (Mz data d f).bind fun v58=>
    bif (!v58) then some (.inr (.inl false))
    else some (.inl ((Ac (f+1)),(Er g v54.Name true))))))
    else some (.inr (.inr (f,g)))) (0,o)=some z /\
   match z with
   | .inl r=>r=false/\¬((∀y∈x.Cons,Pq data d x.Vars y)/\(L++E2 x).Nodup)
   | .inr (_,o')=>(∀y∈x.Cons,Pq data d x.Vars y)/\(L++E2 x).Nodup/\Ie o' (L++E2 x):=by
 have hxm:=Bs hx
 have M:=(s.sz x hxm).1
 refine Oa (fun (f,g)=>∃c:Nat,f=c/\c<=x.Cons.length/\(∀y∈x.Cons.take c,Pq data d x.Vars y)/\(L++(x.Cons.take c).map (·.Name)).Nodup/\Ie g (L++(x.Cons.take c).map (·.Name)))
  (fun (f,_)=>x.Cons.length-f.toNat) _ ?_ _ ⟨0,rfl,by omega,by simp,by simpa using N,by simpa using J⟩
 rintro ⟨v,g⟩ ⟨c,rfl,hc,h1,h2,h3⟩
 rcases Nat.lt_or_ge c x.Cons.length with h | h
 .have hy:x.Cons[c]? = some x.Cons[c]:=Bx h
  generalize x.Cons[c]=y at hy
  have l:=Bs hy
  obtain ⟨b,b1,b2⟩:=Ai9 y.Name (by have:=s.cn x hxm y l; omega)
  have ht:=Cz hy
  have D:L++E2 x=(L++(x.Cons.take c).map (·.Name))++y.Name::(x.Cons.drop (c+1)).map (·.Name):=by rw [Asu x hy]; simp
  simp only [Ak (by omega:(c:Int)<(x.Cons.length:Int)),cond_true,Cg rfl hy,Ad,b1,Ase s.sz d c hx hy I s.len,C6 h (by omega)]
  cases b with
  | false=>
   refine .inr ⟨.inl false,rfl,rfl,fun k=>?_⟩
   have:=b2.2 (k.1 y l).1; cases this
  | true=>
   simp only [Dm,cond_false]
   cases j:Ed g y.Name with
   | true=>
    simp only [cond_true,h3.get j]
    refine .inr ⟨.inl false,rfl,rfl,fun k=>?_⟩
    rw [D] at k
    exact Ajb k.2 ((h3.2 _).1 j)
   | false=>
    simp only [cond_false]
    cases i:(decide (y.Args.length<=6)&&y.Args.all (Hx data d x.Vars)) with
    | false=>
     refine .inr ⟨.inl false,rfl,rfl,fun k=>?_⟩
     have:=k.1 y l
     rw [this.2.2,Ak this.2.1] at i; cases i
    | true=>
     simp only [De,decide_eq_true_eq] at i
     have B:y.Name ∉ L++(x.Cons.take c).map (·.Name):=fun k=>by rw [(h3.2 _).2 k] at j; cases j
     have e:L++(x.Cons.take (c+1)).map (·.Name)=(L++(x.Cons.take c).map (·.Name))++[y.Name]:=by rw [ht]; simp
     refine .inl ⟨_,rfl,⟨c+1,rfl,by omega,?_,?_,?_⟩,by simp; omega⟩
     .intro G q
      rw [ht] at q
      rcases List.mem_append.1 q with h' | h'
      .exact h1 G h'
      .simp at h'; subst h'; exact ⟨b2.1 rfl,i.1,i.2⟩
     .rw [e]; exact Acr h2 B
     .rw [e]; exact h3.put _
 .have:c=x.Cons.length:=by omega
  subst this
  rw [List.take_length] at h1 h2 h3
  exact .inr ⟨.inr ((x.Cons.length:Int),g),by simp,h1,h2,h3⟩
theorem Asw {data:List Ay} {d:Nat} {x:Ay} (hx:data[d]? = some x):data.flatMap E2=((data.take d).flatMap E2++E2 x)++(data.drop (d+1)).flatMap E2/\data.map (·.Name)=(data.take d).map (·.Name)++x.Name::(data.drop (d+1)).map (·.Name):=by
 have h:=List.take_append_drop d data
 have hc:=Di hx
 have e:data.drop d=x::data.drop (d+1):=by
  rw [List.drop_eq_getElem_cons hc]
  rw [Bx hc] at hx
  rw [Option.some.inj hx]
 constructor
 .conv=>lhs; rw [<-h,e]
  simp [List.flatMap_append]
 .conv=>lhs; rw [<-h,e]
  simp
theorem Asx {data:List Ay} (j:DSz data):∃b,Tl data=some b/\(b=true↔He data):=by
 have G:=j.len
 unfold Tl
 rcases Nat.lt_or_ge 12 data.length with h12 | h12
 .rw [Ak (by omega)]
  exact ⟨false,rfl,by simp; intro h; have:=h.1; omega⟩
 rw [Ap (by omega)]
 simp only [cond_false]
 refine Dt (fun (v31,f,g)=>∃d:Nat,v31=d/\d<=data.length/\(∀k x,k<d->data[k]? = some x->Nl data k x)/\((data.take d).map (·.Name)).Nodup/\((data.take d).flatMap E2).Nodup/\Ie f ((data.take d).map (·.Name))/\Ie g ((data.take d).flatMap E2))
  (fun (v31,_,_)=>data.length-v31.toNat) (fun z=>match z with | .inl r=>r=false/\¬He data | .inr _=>He data) ⟨0,rfl,by omega,by intro k x h; omega,by simp,by simp,by simpa using Ie.nil,by simpa using Ie.nil⟩ ?_ ?_
 .rintro ⟨v,f,g⟩ ⟨d,rfl,hd,h1,h2,h3,B,V⟩
  rcases Nat.lt_or_ge d data.length with h | h
  .have hx:data[d]? = some data[d]:=Bx h
   generalize data[d]=x at hx
   have hxm:=Bs hx
   obtain ⟨b,b1,b2⟩:=Ai9 x.Name (by have:=j.nm x hxm; omega)
   obtain ⟨f1,f2⟩:=Asw hx
   simp only [Ak (by omega:(d:Int)<(data.length:Int)),cond_true,Cg rfl hx,Ad,b1]
   have bad:∀(y:¬Nl data d x),∃e:Bool⊕((List (ByteArray×Bool))×(List (ByteArray×Bool))),(some (Sum.inr (Sum.inl false)):Option ((Int×(List (ByteArray×Bool))×(List (ByteArray×Bool)))⊕(Bool⊕((List (ByteArray×Bool))×(List (ByteArray×Bool))))))=some (.inr e)/\(match e with | .inl r=>r=false/\¬He data | .inr _=>He data) :=
    fun y=>⟨.inl false,rfl,rfl,fun c=>y (c.2.1 d x hx)⟩
   cases b with
   | false=>
    exact .inr (bad fun c=>by have:=b2.2 c.2.2.2.2.1; cases this)
   | true=>
    simp only [Dm,cond_false]
    cases i:Ed f x.Name with
    | true=>
     simp only [cond_true,B.get i,Ad]
     refine .inr ⟨.inl false,rfl,rfl,fun c=>?_⟩
     have:=c.2.2.1
     rw [f2] at this
     exact Ajb this ((B.2 _).1 i)
    | false=>
     simp only [cond_false]
     by_cases q:x.Vars<0
     .simp only [Ak q,cond_true,Ad]
      exact .inr (bad fun c=>by have:=c.1; omega)
     by_cases u:x.Vars>6
     .simp only [Ap q,Ak u,cond_true,cond_false,Ad]
      exact .inr (bad fun c=>by have:=c.2.1; omega)
     simp only [Ap q,Ap u,cond_false,Ad]
     by_cases s:(x.Cons.length:Int)<1
     .simp only [Ak s,cond_true,Ad]
      exact .inr (bad fun c=>by have:=c.2.2.1; omega)
     by_cases A:(x.Cons.length:Int)>8
     .simp only [Ap s,Ak A,cond_true,cond_false,Ad]
      exact .inr (bad fun c=>by have:=c.2.2.2.1; omega)
     simp only [Ap s,Ap A,cond_false,Ad]
     obtain ⟨z,L,z2⟩:=Asv j hx (by omega) g _ V h3
     rw [L,Ad]
     match z,z2 with
     | .inl r,z2=>
      obtain ⟨rfl,z2⟩:=z2
      refine .inr ⟨.inl false,rfl,rfl,fun c=>z2 ⟨(c.2.1 d x hx).2.2.2.2.2,?_⟩⟩
      have:=c.2.2.2
      rw [f1] at this
      exact (List.nodup_append.1 this).1
     | .inr (v60,D),z2=>
      obtain ⟨R,N,M⟩:=z2
      have ht:=Cz hx
      have E:x.Name ∉ (data.take d).map (·.Name):=fun c=>by rw [(B.2 _).2 c] at i; cases i
      have J:(data.take (d+1)).map (·.Name)=(data.take d).map (·.Name)++[x.Name]:=by rw [ht]; simp
      have I:(data.take (d+1)).flatMap E2=(data.take d).flatMap E2++E2 x:=by rw [ht]; simp [List.flatMap_append]
      refine .inl ⟨(((d+1:Nat):Int),Er f x.Name true,D),by simp only [C6 h (by omega)],⟨d+1,rfl,by omega,?_,?_,?_,?_,?_⟩,by simp; omega⟩
      .intro k S U l
       rcases Nat.lt_or_ge k d with h' | h'
       .exact h1 k S h' l
       .have:k=d:=by omega
        subst this
        rw [hx] at l; cases l
        exact ⟨by omega,by omega,by omega,by omega,b2.1 rfl,R⟩
      .rw [J]; exact Acr h2 E
      .rw [I]; exact N
      .rw [J]; exact B.put _
      .rw [I]; exact M
  .have:d=data.length:=by omega
   subst this
   rw [List.take_length] at h2 h3
   exact .inr ⟨.inr (f,g),by simp,h12,fun d x hx=>h1 d x (Di hx) hx,h2,h3⟩
 .rintro (r | ⟨o,o'⟩) j
  .obtain ⟨rfl,j⟩:=j
   exact ⟨false,rfl,by simp [j]⟩
  .exact ⟨true,rfl,by simpa using j⟩
theorem Asy {data:List Ay} (c:DSz data):∃b,S9 data=some b/\(b=true↔He data):=by
 obtain ⟨b,h1,h2⟩:=Asx c
 refine ⟨b,?_,h2⟩
 unfold S9
 rw [h1,Ad]
 cases b with
 | false=>rfl
 | true=>rfl
end Go.Ab
namespace Go.Ab
open Go
theorem Asz {l:List ByteArray} {j:Nat} {x:ByteArray} (h:l[j]? = some x) (b:l.Nodup):∀i y,i<j->l[i]? = some y->y≠x:=by
 intro i y hi hy e
 subst e
 have h1:=Di h
 have h2:i<l.length:=by omega
 rw [Bx h1] at h
 rw [Bx h2] at hy
 have:=(List.nodup_iff_pairwise_ne.1 b)
 rw [List.pairwise_iff_getElem] at this
 exact this i j h2 h1 hi (by rw [Option.some.inj h,Option.some.inj hy])
theorem Ajc (l:List ByteArray) (N:l.length<1099511627776):∃b,Q8 l=some b/\(b=false↔l.Nodup):=by
 unfold Q8
 refine Dt (fun v=>∃i:Nat,v=i/\i<=l.length/\(l.take i).Nodup) (fun v=>l.length-v.toNat) (fun z=>match z with | .inl r=>r=true/\¬l.Nodup | .inr _=>l.Nodup) ⟨0,rfl,by omega,by simp⟩ ?_ ?_
 .rintro v ⟨i,rfl,hi,A⟩
  rcases Nat.lt_or_ge i l.length with h | h
  .have hx:l[i]? = some l[i]:=Bx h
   generalize l[i]=x at hx
   have G:(l.take i).length=i:=by simp; omega
   have D:∃z,An (S:=Int) (E:=(Bool⊕Int)) (fun v4=>bif (decide (v4<(i:Int))) then ((Af l (i:Int)).bind fun v5=>(Af l v4).bind fun L=>bif (v5.toList==L.toList) then some (.inr (.inl true)) else some (.inl (Ac (v4+1)))) else some (.inr (.inr v4))) 0=some z/\(match z with | .inl r=>r=true/\x∈l.take i | .inr _=>x ∉ l.take i):=by
    refine Oa (fun v4:Int=>∃j:Nat,v4=j/\j<=i/\∀k y,k<j->l[k]? = some y->y≠x) (fun v4=>i-v4.toNat) _ ?_ _ ⟨0,rfl,by omega,fun k y hk=>by omega⟩
    rintro v4 ⟨j,rfl,hj,g⟩
    rcases Nat.lt_or_ge j i with h' | h'
    .have hy:l[j]? = some l[j]:=Bx (by omega)
     generalize l[j]=y at hy
     simp only [Ak (by omega:(j:Int)<(i:Int)),cond_true,Cg rfl hx,Cg rfl hy,Ad,Yf]
     by_cases c:x=y
     .rw [Ak c]
      refine .inr ⟨.inl true,rfl,rfl,?_⟩
      subst c
      exact Bs (i:=j) (by rw [List.getElem?_take_of_lt h']; exact hy)
     .rw [Ap c]
      refine .inl ⟨((j+1:Nat):Int),by simp only [cond_false]; rw [C6 h' (by omega)],⟨j+1,rfl,by omega,?_⟩,by simp; omega⟩
      intro k J hk f
      rcases Nat.lt_or_ge k j with h'' | h''
      .exact g k J h'' f
      .have:k=j:=by omega
       subst this
       rw [hy] at f; cases f
       exact fun e=>c e.symm
    .have:j=i:=by omega
     subst this
     refine .inr ⟨.inr (j:Int),by simp,?_⟩
     intro q
     obtain ⟨k,hk⟩:=List.getElem?_of_mem q
     have B:=Di hk
     rw [List.getElem?_take_of_lt (by omega)] at hk
     exact g k x (by omega) hk rfl
   obtain ⟨z,I,z2⟩:=D
   simp only [Ak (by omega:(i:Int)<(l.length:Int)),cond_true]
   rw [I,Ad]
   match z,z2 with
   | .inl r,z2=>
    obtain ⟨rfl,z2⟩:=z2
    refine .inr ⟨.inl true,rfl,rfl,fun M=>?_⟩
    obtain ⟨k,hk⟩:=List.getElem?_of_mem z2
    have B:=Di hk
    rw [List.getElem?_take_of_lt (by omega)] at hk
    exact Asz hx M k x (by omega) hk rfl
   | .inr v8,z2=>
    refine .inl ⟨((i+1:Nat):Int),by simp only [C6 h (by omega)],⟨i+1,rfl,by omega,?_⟩,by simp; omega⟩
    rw [Cz hx]
    exact Acr A z2
  .have:i=l.length:=by omega
   subst this
   rw [List.take_length] at A
   exact .inr ⟨.inr (),by simp,A⟩
 .rintro (r | u) s
  .obtain ⟨rfl,s⟩:=s
   exact ⟨true,rfl,by simp [s]⟩
  .exact ⟨false,rfl,by simpa using s⟩
theorem SzD.args {data:List Ay} (h:SzD data) {x:Ay} (hx:x∈data) {y:Ka} (hy:y∈x.Cons) {t:Ah} (ht:t∈y.Args):Ba t<=1048576/\t.Args.length<=1048576/\y.Args.length<=1048576:=by
 have h1:=(h x hx).2 y hy
 have h3:=Ge ht
 have f:=F8 t
 have c:=G8 t.Args
 have b:=G8 y.Args
 omega
theorem As0 {data:List Ay} (q:DSz data) {d:Nat} {x:Ay} {y:Ka} (hx:data[d]? = some x) (hy:y∈x.Cons) :
  ∃z,An (S:=Int) (E:=(Bool⊕Int)) (fun b=>
    bif (decide (b<(y.Args.length:Int))) then (
    (Af y.Args b).bind fun f=>
    (M0 f d x.Vars).bind fun k=>
    bif k then some (.inl (Ac (b+1)))
    else (
    (F5 data 0 d).bind fun v218=>
    (Lw v218 f x.Vars).bind fun i=>
    bif (!i) then some (.inr (.inl false))
    else some (.inl (Ac (b+1)))))
    else some (.inr (.inr b))) 0=some z/\(match z with | .inl r=>r=false/\y.Args.all (Hx data d x.Vars)=false | .inr _=>y.Args.all (Hx data d x.Vars)=true):=by
 have hxm:=Bs hx
 have D:=Di hx
 have u:=q.len
 have G:y.Args.length<=1048576:=by have:=(q.sz x hxm).2 y hy; have:=G8 y.Args; omega
 refine Oa (fun v:Int=>∃j:Nat,v=j/\j<=y.Args.length/\(y.Args.take j).all (Hx data d x.Vars)=true) (fun v=>y.Args.length-v.toNat) _ ?_ _ ⟨0,rfl,by omega,by simp⟩
 rintro v ⟨j,rfl,hj,c⟩
 rcases Nat.lt_or_ge j y.Args.length with h | h
 .have ht:y.Args[j]? = some y.Args[j]:=Bx h
  generalize y.Args[j]=t at ht
  have l:=Bs ht
  obtain ⟨L,J,I⟩:=q.sz.args hxm hy l
  simp only [Ak (by omega:(j:Int)<(y.Args.length:Int)),cond_true,Cg rfl ht,Ad,Ai0 t d x.Vars (by omega),Xw rfl (show d<=data.length by omega),Acm (data.take d) t x.Vars (by omega),C6 h (by omega)]
  have g:Hx data d x.Vars t=true->(y.Args.take (j+1)).all (Hx data d x.Vars)=true:=fun B=>by
   rw [Cz ht,List.all_append,c]; simp [B]
  cases s:Gx t d x.Vars with
  | true=>exact .inl ⟨_,rfl,⟨j+1,rfl,by omega,g (by unfold Hx; rw [s]; rfl)⟩,by simp; omega⟩
  | false=>
   simp only [cond_false]
   cases A:(Eu (data.take d) x.Vars t&&decide (Ba t<=200)) with
   | true=>exact .inl ⟨_,rfl,⟨j+1,rfl,by omega,g (by unfold Hx; rw [A,s]; rfl)⟩,by simp; omega⟩
   | false=>
    refine .inr ⟨.inl false,rfl,rfl,?_⟩
    rw [List.all_eq_false]
    exact ⟨t,l,by unfold Hx; rw [A,s]; simp⟩
 .have:j=y.Args.length:=by omega
  subst this
  rw [List.take_length] at c
  exact .inr ⟨.inr (y.Args.length:Int),by simp,c⟩
theorem As1 {data:List Ay} (M:DSz data) {d:Nat} {x:Ay} (hx:data[d]? = some x) (Y:x.Cons.length<=8) (L:List ByteArray) (X:L.length<=1048576) :
  ∃z,An (S:=(Int×(List ByteArray))) (E:=(Bool⊕(Int×(List ByteArray)))) (fun (f,k)=>
   bif (decide (f<(x.Cons.length:Int))) then (
   (show Option Bool from
   (Af x.Cons f).bind fun A=>
   (Oz A.Name).bind fun v203=>
   bif (!v203) then some true
   else (
   (Af x.Cons f).bind fun u=>
   some (decide ((u.Args.length:Int)>(6:Int))))
   ).bind fun s=>
   bif s then some (.inr (.inl false))
   else (
   (Af x.Cons f).bind fun v206=>
   (B0 16 k [v206.Name]).bind fun D=>
   (Af x.Cons f).bind fun v208=>
   (An (S:=Int) (E:=(Bool⊕Int)) (fun g=>
   bif (decide (g<(v208.Args.length:Int))) then (
   (Af v208.Args g).bind fun j=>
   (M0 j d x.Vars).bind fun q=>
   bif q then some (.inl (Ac (g+1)))
   else (
   (F5 data 0 d).bind fun v218=>
   (Lw v218 j x.Vars).bind fun l=>
   bif (!l) then some (.inr (.inl false))
   else some (.inl (Ac (g+1)))))
   else some (.inr (.inr g))) 0).bind fun z=>
   match z with
   | .inl B=>some (.inr (.inl B))
   | .inr J=>some (.inl ((Ac (f+1)),D))))
   else some (.inr (.inr (f,k)))) (0,L)=some z /\
   (match z with | .inl r=>r=false/\¬(∀y∈x.Cons,Pq data d x.Vars y) | .inr (_,o)=>(∀y∈x.Cons,Pq data d x.Vars y)/\o=L++E2 x):=by
 have hxm:=Bs hx
 refine Oa (fun (v,o)=>∃c:Nat,v=c/\c<=x.Cons.length/\(∀y∈x.Cons.take c,Pq data d x.Vars y)/\o=L++(x.Cons.take c).map (·.Name)) (fun (v,_)=>x.Cons.length-v.toNat) _ ?_ _ ⟨0,rfl,by omega,by simp,by simp⟩
 rintro ⟨v,o⟩ ⟨c,rfl,hc,h1,V⟩
 subst V
 rcases Nat.lt_or_ge c x.Cons.length with h | h
 .have hy:x.Cons[c]? = some x.Cons[c]:=Bx h
  generalize x.Cons[c]=y at hy
  have i:=Bs hy
  obtain ⟨b,b1,b2⟩:=Aja y.Name (by have:=M.cn x hxm y i; omega)
  obtain ⟨z,R,z2⟩:=As0 M hx i
  simp only [Ak (by omega:(c:Int)<(x.Cons.length:Int)),cond_true,Cg rfl hy,Ad,b1,C6 h (by omega)]
  rw [C1 (by simp; omega)]
  cases b with
  | false=>
   refine .inr ⟨.inl false,rfl,rfl,fun I=>?_⟩
   have:=b2.2 (I y i).1; cases this
  | true=>
   simp only [Dm,cond_false,Ad]
   by_cases N:(y.Args.length:Int)>6
   .rw [Ak N]
    refine .inr ⟨.inl false,rfl,rfl,fun I=>?_⟩
    have:=(I y i).2.1; omega
   .rw [Ap N]
    simp only [cond_false]
    rw [R,Ad]
    match z,z2 with
    | .inl r,z2=>
     obtain ⟨rfl,z2⟩:=z2
     refine .inr ⟨.inl false,rfl,rfl,fun I=>?_⟩
     have:=(I y i).2.2
     rw [z2] at this; cases this
    | .inr w,z2=>
     refine .inl ⟨_,rfl,⟨c+1,rfl,by omega,?_,?_⟩,by simp; omega⟩
     .intro U G
      rw [Cz hy] at G
      rcases List.mem_append.1 G with h' | h'
      .exact h1 U h'
      .simp at h'; subst h'; exact ⟨b2.1 rfl,by omega,z2⟩
     .rw [Cz hy]; simp
 .have:c=x.Cons.length:=by omega
  subst this
  rw [List.take_length] at h1
  exact .inr ⟨.inr ((x.Cons.length:Int),L++E2 x),by simp [E2],h1,rfl⟩
theorem As2 {data:List Ay} (D:DSz data):∃b,Tm data=some b/\(b=true↔He data):=by
 have J:=D.len
 unfold Tm
 rcases Nat.lt_or_ge 12 data.length with h12 | h12
 .rw [Ak (by omega)]
  exact ⟨false,rfl,by simp; intro h; have:=h.1; omega⟩
 rw [Ap (by omega)]
 simp only [cond_false]
 have l:∀d,d<=data.length->(∀f x,f<d->data[f]? = some x->Nl data f x)->((data.take d).flatMap E2).length<=8*d:=by
  intro d
  induction d with
  | zero=>intro _ _; simp
  | succ d ih=>
   intro hd h1
   have hx:data[d]? = some data[d]:=Bx (by omega)
   have:=ih (by omega) (fun f x E=>h1 f x (by omega))
   have V:=(h1 d _ (by omega) hx).2.2.2.1
   rw [Cz hx,List.flatMap_append,List.length_append]
   simp only [List.flatMap_cons,List.flatMap_nil,List.append_nil,E2,List.length_map]
   omega
 refine Dt (fun (v,k,j)=>∃d:Nat,v=d/\d<=data.length/\(∀f x,f<d->data[f]? = some x->Nl data f x)/\k=(data.take d).map (·.Name)/\j=(data.take d).flatMap E2)
  (fun (v,_,_)=>data.length-v.toNat) (fun z=>match z with | .inl r=>r=false/\¬He data | .inr (k,j)=>(∀d x,data[d]? = some x->Nl data d x)/\k=data.map (·.Name)/\j=data.flatMap E2) ⟨0,rfl,by omega,by intro f x h; omega,by simp,by simp⟩ ?_ ?_
 .rintro ⟨v,k,j⟩ ⟨d,rfl,hd,h1,h2,h3⟩
  rcases Nat.lt_or_ge d data.length with h | h
  .have hx:data[d]? = some data[d]:=Bx h
   generalize data[d]=x at hx
   have hxm:=Bs hx
   obtain ⟨b,b1,b2⟩:=Aja x.Name (by have:=D.nm x hxm; omega)
   simp only [Ak (by omega:(d:Int)<(data.length:Int)),cond_true,Cg rfl hx,Ad,b1]
   have bad:∀(u:¬Nl data d x),∃e:Bool⊕((List ByteArray)×(List ByteArray)),(some (Sum.inr (Sum.inl false)):Option ((Int×(List ByteArray)×(List ByteArray))⊕(Bool⊕((List ByteArray)×(List ByteArray)))))=some (.inr e)/\(match e with | .inl r=>r=false/\¬He data | .inr (k,j)=>(∀d x,data[d]? = some x->Nl data d x)/\k=data.map (·.Name)/\j=data.flatMap E2) :=
    fun u=>⟨.inl false,rfl,rfl,fun c=>u (c.2.1 d x hx)⟩
   by_cases g:x.Vars<0
   .simp only [Ak g,cond_true,Ad]
    exact .inr (bad fun c=>by have:=c.1; omega)
   by_cases i:x.Vars>6
   .simp only [Ap g,Ak i,cond_true,cond_false,Ad]
    exact .inr (bad fun c=>by have:=c.2.1; omega)
   by_cases s:(x.Cons.length:Int)<1
   .simp only [Ap g,Ap i,Ak s,cond_false,cond_true,Ad]
    exact .inr (bad fun c=>by have:=c.2.2.1; omega)
   by_cases A:(x.Cons.length:Int)>8
   .simp only [Ap g,Ap i,Ap s,Ak A,cond_true,cond_false,Ad]
    exact .inr (bad fun c=>by have:=c.2.2.2.1; omega)
   simp only [Ap g,Ap i,Ap s,Ap A,cond_false,Ad]
   cases b with
   | false=>exact .inr (bad fun c=>by have:=b2.2 c.2.2.2.2.1; cases this)
   | true=>
    have y:=l d hd h1
    rw [h2,h3]
    simp only [Dm,cond_false]
    rw [C1 (by simp; omega),Ad]
    obtain ⟨z,L,z2⟩:=As1 D hx (by omega) ((data.take d).flatMap E2) (by omega)
    erw [L,Ad]
    match z,z2 with
    | .inl r,z2=>
     obtain ⟨rfl,z2⟩:=z2
     exact .inr (bad fun c=>z2 c.2.2.2.2.2)
    | .inr (v60,S),z2=>
     obtain ⟨N,M⟩:=z2
     subst M
     have ht:=Cz hx
     refine .inl ⟨(((d+1:Nat):Int),(data.take d).map (·.Name)++[x.Name],(data.take d).flatMap E2++E2 x),by simp only [C6 h (by omega)],⟨d+1,rfl,by omega,?_,?_,?_⟩,by simp; omega⟩
     .intro f R E q
      rcases Nat.lt_or_ge f d with h' | h'
      .exact h1 f R h' q
      .have:f=d:=by omega
       subst this
       rw [hx] at q; cases q
       exact ⟨by omega,by omega,by omega,by omega,b2.1 rfl,N⟩
     .rw [ht]; simp
     .rw [ht]; simp [List.flatMap_append]
  .have:d=data.length:=by omega
   subst this
   rw [List.take_length] at h2 h3
   exact .inr ⟨.inr (k,j),by simp,fun d x hx=>h1 d x (Di hx) hx,h2,h3⟩
 .rintro (r | ⟨k,j⟩) hp
  .obtain ⟨rfl,hp⟩:=hp
   exact ⟨false,rfl,by simp [hp]⟩
  .obtain ⟨I,rfl,rfl⟩:=hp
   have y:=l data.length (by omega) (fun d x _=>I d x)
   rw [List.take_length] at y
   obtain ⟨b,b1,b2⟩:=Ajc (data.map (·.Name)) (by simp; omega)
   obtain ⟨U,G,B⟩:=Ajc (data.flatMap E2) (by omega)
   simp only [b1,Ad,G]
   cases b with
   | true=>exact ⟨false,rfl,by simp; intro c; have:=b2.2 c.2.2.1; cases this⟩
   | false=>
    cases U with
    | true=>exact ⟨false,rfl,by simp; intro c; have:=B.2 c.2.2.2; cases this⟩
    | false=>exact ⟨true,rfl,by simp; exact ⟨h12,I,b2.1 rfl,B.1 rfl⟩⟩
end Go.Ab
