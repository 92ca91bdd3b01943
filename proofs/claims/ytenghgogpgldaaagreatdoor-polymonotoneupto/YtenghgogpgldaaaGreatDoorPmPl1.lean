/- Plain laws: what the plain functions answer. -/
import Derived.Test.YtenghgogpgldaaaGreatDoorPmPl0
namespace Go.Ab
open Go Ieee
theorem Ato (n d:Nat):∃c,Toward.even.cut false n d=c/\(n / 2 ^ d<=c)/\c<=n / 2 ^ d+1/\(n % 2 ^ d=0->c=n / 2 ^ d):=by
 refine ⟨_,rfl,?_⟩
 unfold Toward.cut
 simp only [Nat.shiftLeft_eq,Nat.one_mul]
 by_cases hd:d<=n.log2+2
 .rw [Nat.min_eq_left hd]
  generalize h2:2 ^ d=g
  have h:0<g:=by rw [<-h2]; exact Nat.pow_pos (by decide)
  refine ⟨by omega,?_,fun h0=>?_⟩
  .have:=Bool.toNat_le (decide (g<2*(n % g))||(g==2*(n % g)&&n / g % 2==1))
   omega
  .rw [h0]
   have h1:decide (g<2*0)=false:=by simp
   have h3:(g==2*0)=false:=by simp; omega
   rw [h1,h3]; rfl
 .rw [Nat.min_eq_right (by omega)]
  have b:n<2 ^ (n.log2+1):=Nat.lt_log2_self
  have h:2 ^ (n.log2+2)=2*2 ^ (n.log2+1):=by rw [Nat.pow_succ]; omega
  have f:2 ^ (n.log2+2)<=2 ^ d:=Nat.pow_le_pow_right (by decide) (by omega)
  have l:n / 2 ^ (n.log2+2)=0:=Nat.div_eq_of_lt (by omega)
  have k:n % 2 ^ (n.log2+2)=n:=Nat.mod_eq_of_lt (by omega)
  have j:n / 2 ^ d=0:=Nat.div_eq_of_lt (by omega)
  have i:n % 2 ^ d=n:=Nat.mod_eq_of_lt (by omega)
  rw [l,k,j,i]
  have h1:decide (2 ^ (n.log2+2)<2*n)=false:=by simp; omega
  have h3:(2 ^ (n.log2+2)==2*n)=false:=by simp; omega
  rw [h1,h3]
  exact ⟨by simp,by simp,fun _=>rfl⟩
theorem Ru (f:Nat) (place e:Int) (u:f≠0) (E:place+f.log2=e) (h1 : -1000<=e) (h2:e<=900) :
  ∃(m:Nat) (p:Int),double.read (double.nearest false f place) = .number false m p/\4503599627370496<=m/\m<9007199254740992/\(p=e-52\/(p=e-51/\m=4503599627370496)):=by
 have g:max (place+f.log2-(double.fractionBits:Int)) double.leastPlace=e-52:=by
  have a:(double.fractionBits:Int)=52:=rfl
  have b:double.leastPlace = -1074:=by decide
  rw [a,b,E]; omega
 have hw:double.nearest false f place=min ((e-52+1074).toNat*4503599627370496+Toward.even.cut false (f <<< (place-(e-52)).toNat) ((e-52)-place).toNat) (2047*4503599627370496):=by
  unfold Format.nearest
  rw [if_neg u]
  simp only [g]
  have b:double.leastPlace = -1074:=by decide
  have c:double.binade=4503599627370496:=by decide
  have d:double.infRung=2047*4503599627370496:=by decide
  rw [b,c,d]
  unfold Format.word
  simp only [Bool.false_eq_true,if_false]
  congr 3
 have hk:4503599627370496<=Toward.even.cut false (f <<< (place-(e-52)).toNat) ((e-52)-place).toNat/\Toward.even.cut false (f <<< (place-(e-52)).toNat) ((e-52)-place).toNat<=9007199254740992:=by
  obtain ⟨c,hc,s,q,i⟩:=Ato (f <<< (place-(e-52)).toNat) ((e-52)-place).toNat
  rw [hc]
  have D:2 ^ f.log2<=f:=Nat.log2_self_le u
  have B:f<2 ^ (f.log2+1):=Nat.lt_log2_self
  rw [Nat.shiftLeft_eq] at s q i
  rcases Int.le_total place (e-52) with h | h
  .have z:(place-(e-52)).toNat=0:=by omega
   rw [z,Nat.pow_zero,Nat.mul_one] at s q i
   have hd:f.log2=52+((e-52)-place).toNat:=by omega
   have hp:2 ^ f.log2=4503599627370496*2 ^ ((e-52)-place).toNat:=by rw [hd,Nat.pow_add]
   have l:2 ^ (f.log2+1)=9007199254740992*2 ^ ((e-52)-place).toNat:=by rw [Nat.pow_succ,hp]; omega
   have hpos:0<2 ^ ((e-52)-place).toNat:=Nat.pow_pos (by decide)
   have a1:4503599627370496<=f / 2 ^ ((e-52)-place).toNat:=(Nat.le_div_iff_mul_le hpos).2 (by omega)
   have a2:f / 2 ^ ((e-52)-place).toNat<9007199254740992:=(Nat.div_lt_iff_lt_mul hpos).2 (by omega)
   omega
  .have z:((e-52)-place).toNat=0:=by omega
   rw [z,Nat.pow_zero,Nat.div_one] at s q i
   have I:=i (Nat.mod_one _)
   have hd:52=f.log2+(place-(e-52)).toNat:=by omega
   have hp:2 ^ f.log2*2 ^ (place-(e-52)).toNat=4503599627370496:=by rw [<-Nat.pow_add,<-hd]
   have l:2 ^ (f.log2+1)*2 ^ (place-(e-52)).toNat=9007199254740992:=by rw [Nat.pow_succ,Nat.mul_right_comm,hp]
   have hpos:0<2 ^ (place-(e-52)).toNat:=Nat.pow_pos (by decide)
   have a1:=Nat.mul_le_mul_right (2 ^ (place-(e-52)).toNat) D
   have a2:=Nat.mul_lt_mul_of_pos_right B hpos
   omega
 generalize Toward.even.cut false (f <<< (place-(e-52)).toNat) ((e-52)-place).toNat=c at *
 obtain ⟨t,ht⟩:∃t:Nat,(e-52+1074).toNat=t/\t<=1922/\(t:Int)=e+1022:=⟨_,rfl,by omega,by omega⟩
 rw [ht.1] at hw
 rw [Nat.min_eq_left (by omega)] at hw
 rw [hw]
 have b:double.leastPlace = -1074:=by decide
 have G:double.binade=4503599627370496:=by decide
 have d:double.infRung=2047*4503599627370496:=by decide
 have x:double.signWeight=9223372036854775808:=by decide
 unfold Format.read
 rw [b,G,d,x]
 have A:(t*4503599627370496+c) / 9223372036854775808=0:=Nat.div_eq_of_lt (by omega)
 have y:(t*4503599627370496+c) % 9223372036854775808=t*4503599627370496+c:=Nat.mod_eq_of_lt (by omega)
 simp only [A,y]
 rw [if_neg (by omega),if_pos (by omega)]
 by_cases hc:c<9007199254740992
 .refine ⟨c,e-52,?_,hk.1,hc,.inl rfl⟩
  have k:(t*4503599627370496+c) % 4503599627370496=c-4503599627370496:=by omega
  have j:(t*4503599627370496+c) / 4503599627370496=t+1:=by omega
  rw [k,j,show 4503599627370496+(c-4503599627370496)=c by omega,show (-1074:Int)+((t+1-1:Nat):Int)=e-52 by omega]; rfl
 .have hc:c=9007199254740992:=by omega
  subst hc
  refine ⟨4503599627370496,e-51,?_,by decide,by decide,.inr ⟨rfl,rfl⟩⟩
  have k:(t*4503599627370496+9007199254740992) % 4503599627370496=0:=by omega
  have j:(t*4503599627370496+9007199254740992) / 4503599627370496=t+2:=by omega
  rw [k,j,Nat.add_zero,show (-1074:Int)+((t+2-1:Nat):Int)=e-51 by omega]; rfl
theorem Adk (v:Int) (h:0<=v):floatOfInt .f64 v=double.nearest false v.natAbs 0:=by
 have e:decide (v<0)=false:=A1 (by omega)
 show double.nearest (decide (v<0)) v.natAbs 0=_
 rw [e]
theorem Atp:double.read 4876203697187506176 = .number false 7812500000000000 7:=by decide
theorem Y9 {n k:Nat} (h1:2 ^ k<=n) (h2:n<2 ^ (k+1)):n.log2=k:=(Nat.log2_eq_iff (by have:=Nat.pow_pos (n:=k) (show 0<2 by decide); omega)).2 ⟨h1,h2⟩
theorem U6 {n k:Nat} (h:n<2 ^ (k+1)):n.log2<=k:=by
 by_cases h0:n=0
 .subst h0; simp
 .have:=(Nat.log2_lt h0).2 h; omega
theorem Adl {n k:Nat} (h:2 ^ k<=n):k<=n.log2:=(Nat.le_log2 (by have:=Nat.pow_pos (n:=k) (show 0<2 by decide); omega)).2 h
theorem Atq (x:Int) (h0:1<=x) (h1:x<1000000000):∃(w:Nat) (m:Nat) (p:Int),floatBits .mul .f64 (floatOfInt .f64 x) 4876203697187506176=some w/\double.read w = .number false m p/\4503599627370496<=m/\m<9007199254740992/\7<=p/\(p<=37\/(p=38/\m=4503599627370496)):=by
 have l:x.natAbs.log2<=29:=U6 (by simp; omega)
 obtain ⟨m1,b,g,a1,a2,a3⟩:=Ru x.natAbs 0 (x.natAbs.log2) (by omega) (by omega) (by omega) (by omega)
 have c:(m1*7812500000000000).log2=104\/((m1*7812500000000000).log2=105/\m1≠4503599627370496):=by
  have b1:2 ^ 104<=m1*7812500000000000:=by omega
  have b2:m1*7812500000000000<2 ^ 106:=by omega
  rcases Nat.lt_or_ge (m1*7812500000000000) (2 ^ 105) with h | h
  .exact .inl (Y9 b1 h)
  .exact .inr ⟨Y9 h b2,by rintro rfl; omega⟩
 obtain ⟨m2,i,f,k,j,q⟩:=Ru (m1*7812500000000000) (b+7) (b+7+(m1*7812500000000000).log2) (by omega) rfl (by omega) (by omega)
 refine ⟨double.nearest false (m1*7812500000000000) (b+7),m2,i,?_,f,k,j,by omega,by omega⟩
 show ((double.read (floatOfInt .f64 x)).product (double.read 4876203697187506176)).map double.write=_
 rw [Adk x (by omega),g,Atp]; rfl
theorem Atr (w:Nat) (m:Nat) (p:Int) (hw:double.read w = .number false m p) (M:4503599627370496<=m) (L:m<9007199254740992) (I:7<=p) (j:p<=37\/(p=38/\m=4503599627370496)) (y:Int) (h0:0<=y) (h1:y<1000000000000000000) :
  ∃(w':Nat) (g:Nat) (f:Int),floatBits .add .f64 w (floatOfInt .f64 y)=some w'/\double.read w' = .number false g f/\4503599627370496<=g/\g<9007199254740992/\7<=f/\f<=39:=by
 obtain ⟨c,b,x,V,U⟩:∃(c:Nat) (b:Int),double.read (floatOfInt .f64 y) = .number false c b/\b<=8/\c<9007199254740992/\-1074<=b:=by
  rw [Adk y h0]
  by_cases hy:y.natAbs=0
  .rw [hy]; exact ⟨0,-1074,by decide,by decide,by decide,by decide⟩
  .have Z:y.natAbs.log2<=59:=U6 (by simp; omega)
   obtain ⟨m1,D,A,a1,a2,a3⟩:=Ru y.natAbs 0 (y.natAbs.log2) hy (by omega) (by omega) (by omega)
   exact ⟨m1,D,A,by omega,a2,by omega⟩
 generalize hb:min p b=base
 have ht:∃T:Nat,signed false m (p-base).toNat+signed false c (b-base).toNat=(T:Int)/\T=m*2 ^ (p-base).toNat+c*2 ^ (b-base).toNat:=by
  refine ⟨m <<< (p-base).toNat+c <<< (b-base).toNat,rfl,by rw [Nat.shiftLeft_eq,Nat.shiftLeft_eq]⟩
 obtain ⟨T,t1,t2⟩:=ht
 have G:0<2 ^ (p-base).toNat:=Nat.pow_pos (by decide)
 have i:2 ^ (b-base).toNat<=2 ^ (8-base).toNat:=Nat.pow_le_pow_right (by decide) (by omega)
 have J:m*2 ^ (p-base).toNat<=2 ^ (90-base).toNat:=by
  rcases j with h | ⟨rfl,rfl⟩
  .have e:2 ^ (90-base).toNat=2 ^ (p-base).toNat*2 ^ (90-p).toNat:=by rw [<-Nat.pow_add]; congr 1; omega
   have e2:2 ^ 53<=2 ^ (90-p).toNat:=Nat.pow_le_pow_right (by decide) (by omega)
   rw [e,Nat.mul_comm]
   exact Nat.mul_le_mul_left _ (by omega)
  .have e:2 ^ (90-base).toNat=2 ^ (38-base).toNat*2 ^ 52:=by rw [<-Nat.pow_add]; congr 1; omega
   rw [e,Nat.mul_comm]; omega
 have E:c*2 ^ (b-base).toNat<2 ^ (90-base).toNat:=by
  have e:2 ^ (90-base).toNat=2 ^ (8-base).toNat*2 ^ 82:=by rw [<-Nat.pow_add]; congr 1; omega
  have e3:c*2 ^ (b-base).toNat<=c*2 ^ (8-base).toNat:=Nat.mul_le_mul_left _ i
  have N:0<2 ^ (8-base).toNat:=Nat.pow_pos (by decide)
  have e5:c*2 ^ (8-base).toNat<2 ^ 82*2 ^ (8-base).toNat:=Nat.mul_lt_mul_of_pos_right (by omega) N
  rw [e,Nat.mul_comm (2 ^ (8-base).toNat)]; omega
 have s:T<2 ^ ((90-base).toNat+1):=by rw [Nat.pow_succ]; omega
 have q:2 ^ (52+(p-base).toNat)<=T:=by
  have:2 ^ 52*2 ^ (p-base).toNat<=m*2 ^ (p-base).toNat:=Nat.mul_le_mul_right _ (by omega)
  rw [Nat.pow_add]; omega
 have Y:=U6 s
 have X:=Adl q
 have u:T≠0:=by
  have:=Nat.pow_pos (n:=52+(p-base).toNat) (show 0<2 by decide); omega
 obtain ⟨m3,B,z,S,R,c3⟩:=Ru T base (base+T.log2) u rfl (by omega) (by omega)
 refine ⟨double.nearest false T base,m3,B,?_,z,S,R,by omega,by omega⟩
 show ((double.read w).sum (double.read (floatOfInt .f64 y))).map double.write=_
 rw [hw,x]
 have l:¬((T:Int)=0):=by omega
 have k:decide ((T:Int)<0)=false:=A1 (by omega)
 simp only [Datum.sum,hb,t1,if_neg l,k,Option.map_some,Int.natAbs_natCast,Format.write]
theorem Ats {b m N:Nat} {p:Int} (g:double.read b = .number false m p) (i:(Datum.number false m p).toInt .zero=some (N:Int)) (h:N<=9223372036854775808):floatToIntVal .f64 b .u64=some (N:Int):=by
 have hd:FloatKind.f64.decode b = .number false m p:=g
 have f:IntKind.u64.min=0:=by decide
 have c:IntKind.u64.max=18446744073709551615:=by decide
 unfold floatToIntVal
 rw [hd,i]
 simp only [f,c]
 rw [if_pos ⟨by omega,by omega⟩]
theorem Att (w:Nat) (m:Nat) (p:Int) (hw:double.read w = .number false m p) (R:4503599627370496<=m) (M:m<9007199254740992) (L:7<=p) (J:p<=39) (z:Int) (h0:1000000000<=z) (h1:z<1000000000000000000) :
  ∃(w':Nat) (n:Int),floatBits .quo .f64 w (floatOfInt .f64 z)=some w'/\floatToIntVal .f64 w' .u64=some n/\0<=n/\n<=9223372036854775808:=by
 have U:z.natAbs.log2<=59:=U6 (by simp; omega)
 have S:29<=z.natAbs.log2:=Adl (by simp; omega)
 obtain ⟨f,c,u,a1,a2,a3⟩:=Ru z.natAbs 0 (z.natAbs.log2) (by omega) (by omega) (by omega) (by omega)
 have D:m.log2=52:=Y9 (by omega) (by omega)
 have y:f.log2=52:=Y9 (by omega) (by omega)
 generalize hq:m*2 ^ 54 / f=q
 generalize l:((m*2 ^ 54 % f != 0).toNat)=s
 have E:s<=1:=by rw [<-l]; exact Bool.toNat_le _
 have I:q<2 ^ 55:=by rw [<-hq]; exact (Nat.div_lt_iff_lt_mul (by omega)).2 (by omega)
 have G:2 ^ 53<=q:=by rw [<-hq]; exact (Nat.le_div_iff_mul_le (by omega)).2 (by omega)
 have B:(2*q+s).log2<=55:=U6 (by omega)
 have A:54<=(2*q+s).log2:=Adl (by omega)
 obtain ⟨m4,b,x,c1,Y,Z⟩:=Ru (2*q+s) (p-c-(54:Nat)-1) (p-c-(54:Nat)-1+(2*q+s).log2) (by omega) rfl (by omega) (by omega)
 have j:(Datum.number false m p).quotient (double.fractionBits+2) (Datum.number false f c)=some (.number false (2*q+s) (p-c-(54:Nat)-1)):=by
  have i:¬f=0:=by omega
  have X:double.fractionBits+2=54:=rfl
  simp only [Datum.quotient,if_neg i,X,D,y,Nat.shiftLeft_eq,Nat.add_sub_cancel,hq,l,Bool.xor_self]
 have hb:m4*2 ^ b.toNat<=9223372036854775808:=by
  have k:b<=10\/(b=11/\m4=4503599627370496):=by omega
  rcases k with h | ⟨rfl,rfl⟩
  .have:2 ^ b.toNat<=2 ^ 10:=Nat.pow_le_pow_right (by decide) (by omega)
   have:=Nat.mul_le_mul (Nat.le_of_lt Y) this
   omega
  .decide
 obtain ⟨N,V,g⟩:∃N:Nat,(Datum.number false m4 b).toInt .zero=some (N:Int)/\N<=9223372036854775808:=by
  refine ⟨(m4 <<< b.toNat) / (1 <<< min (-b).toNat ((m4 <<< b.toNat).log2+2)),?_,?_⟩
  .simp only [Datum.toInt,Datum.integral,Toward.cut,signed,Bool.false_eq_true,if_false,Nat.shiftLeft_zero,Bool.toNat_false,Nat.add_zero]
  .rw [Nat.shiftLeft_eq m4]
   exact Nat.le_trans (Nat.div_le_self _ _) hb
 refine ⟨double.nearest false (2*q+s) (p-c-(54:Nat)-1),(N:Int),?_,?_,by omega,by omega⟩
 .have e:floatBits .quo .f64 w (floatOfInt .f64 z)=((double.read w).quotient (double.fractionBits+2) (double.read (floatOfInt .f64 z))).map double.write:=rfl
  rw [e,hw,Adk z (by omega),u,j]
  simp only [Option.map_some,Format.write]
 .exact Ats x V g
theorem Atu (r n:Nat) (h2:2<=A9 n) (E:A9 r<=A9 n+1) (G:A9 n<1099511627776):∃d:Nat,Uh (Ae r) (Ae n)=some (d:Int)/\d<1000000000:=by
 unfold Uh
 unfold A9 at h2 E G
 have c:n≠0:=by rintro rfl; rw [Ek] at h2; simp at h2
 by_cases V:(Ae r).length<(Ae n).length
 .exact ⟨0,by rw [Ap (by omega)]; rfl,by decide⟩
 .rw [A1 (by omega),cond_false]
  have y:Ac (((Ae n).length:Int)-1)=(((Ae n).length-1:Nat):Int):=by rw [Ac,B3] <;> omega
  have u:Ac (((Ae n).length:Int)-2)=(((Ae n).length-2:Nat):Int):=by rw [Ac,B3] <;> omega
  have i1:(Ae n).length-1<(Ae n).length:=by omega
  have i2:(Ae n).length-2<(Ae n).length:=by omega
  have h:(Ae n).length-1<(Ae r).length:=by omega
  have g:(Ae n).length-2<(Ae r).length:=by omega
  have t1:=(Dp n).get i1
  have t2:=(Dp n).get i2
  have M:=(Dp r).get h
  have L:=(Dp r).get g
  have i:(Ae n)[(Ae n).length-1]≠0:=by
   have:=(Yu n).2 (G3 c)
   rwa [List.getLast_eq_getElem] at this
  rw [y,u,Cz rfl i1,Ad,Cz rfl i2,Ad,Cz rfl h,Ad,Cz rfl g,Ad]
  generalize (Ae n)[(Ae n).length-1]=a1 at *
  generalize (Ae n)[(Ae n).length-2]=a2 at *
  generalize (Ae r)[(Ae n).length-1]=b1 at *
  generalize (Ae r)[(Ae n).length-2]=b2 at *
  have l:Au (Au (Au b1*1000000000)+Au b2)=b1*1000000000+b2:=by
   rw [show Au b1=b1 from Cn (by omega) (by omega),show Au b2=b2 from Cn (by omega) (by omega),show Au (b1*1000000000)=b1*1000000000 from Cn (by omega) (by omega)]
   exact Cn (by omega) (by omega)
  have j:Au (Au (Au a1*1000000000)+Au a2)=a1*1000000000+a2:=by
   rw [show Au a1=a1 from Cn (by omega) (by omega),show Au a2=a2 from Cn (by omega) (by omega),show Au (a1*1000000000)=a1*1000000000 from Cn (by omega) (by omega)]
   exact Cn (by omega) (by omega)
  rw [l,j]
  by_cases X:(Ae r).length=(Ae n).length
  .rw [Dw (by omega),cond_true,Jc (by omega) (by omega) (by omega),Ad]
   have R:0<=(b1*1000000000+b2) / (a1*1000000000+a2):=Int.ediv_nonneg (by omega) (by omega)
   have N:(b1*1000000000+b2) / (a1*1000000000+a2)<1000000000:=Int.ediv_lt_of_lt_mul (by omega) (by omega)
   exact ⟨((b1*1000000000+b2) / (a1*1000000000+a2)).toNat,by congr 1; omega,by omega⟩
  .have hk:(Ae n).length<(Ae r).length:=by omega
   have b:r≠0:=by rintro rfl; rw [Ek] at hk; simp at hk
   have J:=(Dp r).get hk
   have f:(Ae r)[(Ae n).length]≠0:=by
    have:=(Yu r).2 (G3 b)
    rw [List.getLast_eq_getElem] at this
    have e:(Ae r).length-1=(Ae n).length:=by omega
    simpa [e] using this
   rw [Co (by omega),cond_false,Cz rfl hk,Ad]
   generalize (Ae r)[(Ae n).length]=x at *
   obtain ⟨s,m3,A,f1,f2,f3,f4,f5,f6⟩:=Atq x (by omega) (by omega)
   obtain ⟨q,m4,z,g1,g2,g3,g4,g5,g6⟩:=Atr s m3 A f2 f3 f4 f5 f6 (b1*1000000000+b2) (by omega) (by omega)
   obtain ⟨I,k,D,B,U,S⟩:=Att q m4 z g2 g3 g4 g5 g6 (a1*1000000000+a2) (by omega) (by omega)
   rw [f1,Ad,g1,Ad,D,Ad,B,Ad,show Au (k+2)=k+2 from Cn (by omega) (by omega)]
   by_cases hc:(999999999:Int)<k+2
   .exact ⟨999999999,by rw [if_pos hc]; rfl,by decide⟩
   .exact ⟨(k+2).toNat,by rw [if_neg hc]; congr 1; omega,by omega⟩
end Go.Ab
namespace Go.Ab
open Go
theorem Atv (x r:Nat):A9 (x % 1000000000+1000000000*r)<=A9 r+1:=by
 apply Iy
 have:=Lf r
 rw [Nat.pow_succ]
 omega
set_option maxHeartbeats 1000000 in
theorem Adm (m n:Nat) (hm:A9 m<137438953472) (hn:A9 n<137438953472) (B:n≠0):Ox (Ae m) (Ae n)=some (Ae (m / n),Ae (m % n)):=by
 unfold Ox
 rw [Y7,Pj m n (by omega) (by omega),Ad]
 have ae:=hm
 have ad:=hn
 unfold A9 at hm hn
 by_cases l:m<n
 .rw [show Dr m n = -1 by rw [Dr,if_pos l],Ap (by decide:(-1:Int)<0),cond_true,Pl _ (by omega),Ad,As6 (Yu m),Nat.div_eq_of_lt l,Nat.mod_eq_of_lt l,Ek]
 .rw [A1 (show ¬Dr m n<0 by rw [Dr,if_neg l]; split <;> decide),cond_false]
  have a7:(Ae n).length≠0:=fun e=>G3 B (List.length_eq_zero_iff.1 e)
  by_cases h1:(Ae n).length=1
  .rw [Dw (by omega:((Ae n).length:Int)=1),cond_true]
   have A:n<1000000000:=by
    have:=Lf n
    rw [show A9 n=1 from h1] at this
    simpa using this
   have X:Ae n = [(n:Int)]:=by
    rw [Kp B,Nat.div_eq_of_lt A,Ek,Nat.mod_eq_of_lt A]
   rw [X,show Af [(n:Int)] 0=some (n:Int) from rfl,Ad,show Au (n:Int)=n from Cn (by omega) (by omega),Atl m n (by omega) (by omega) (by omega),Ad]
   have a6:m % n<n:=Nat.mod_lt _ (by omega)
   rw [Y6,Nm (m % n) (by omega),Ad]
  .rw [Co (by omega:((Ae n).length:Int)≠1),cond_false]
   have hw:Ac (((Ae m).length:Int)-1)=((Ae m).length:Int)-1:=by rw [Ac,B3] <;> omega
   rw [J2 rfl rfl (Nat.le_refl _) (by omega) (by omega),hw]
   simp only [Ad]
   have ha:=Dp m
   refine G2 (fun (r,i,q)=>∃(k R:Nat),r=Ae R/\i=(k:Int)-1/\k<=(Ae m).length/\R<n/\q.length=(Ae m).length/\Bi q/\Ai (q.drop k)*n+R=Ai ((Ae m).drop k))
    (fun (_,i,_)=>(i+1).toNat) (fun (r,q)=>∃R:Nat,r=Ae R/\R<n/\q.length=(Ae m).length/\Bi q/\Ai q*n+R=m)
    ⟨(Ae m).length,0,by rw [Ek],rfl,Nat.le_refl _,by omega,by simp,Bi.replicate _,by simp [Ai]⟩ ?_ ?_
   .rintro ⟨r,i,q⟩ ⟨k,R,rfl,rfl,hk,I,u,g,hv⟩
    cases k with
    | zero=>exact .inr ⟨(Ae R,q),by simp,R,rfl,I,u,g,by simpa [Dx] using hv⟩
    | succ j=>
     have hj:j<(Ae m).length:=by omega
     have D:j<q.length:=by omega
     have hx:=ha.get hj
     obtain ⟨x,y⟩:∃x:Nat,(Ae m)[j]=(x:Int):=⟨(Ae m)[j].toNat,by omega⟩
     have J:x<1000000000:=by omega
     have e0:((j+1:Nat):Int)-1=(j:Int):=by omega
     have e1:decide ((j:Int)>=0)=true:=Ap (by omega)
     have Y:A9 R<=A9 n:=Gb (by omega)
     have ab:A9 (x+1000000000*R)<=A9 R+1:=by
      have:=Atv x R
      rwa [Nat.mod_eq_of_lt J] at this
     have ag:(Ae R).length<=(Ae n).length:=Y
     have E:Is ((x:Int)::Ae R)=some (Ae (x+1000000000*R)):=by
      rw [Pl _ (by simp; omega)]
      congr 1
      refine Jd ?_ ?_
      .intro d hd
       rcases List.mem_cons.1 hd with rfl | hd
       .omega
       .exact Dp R d hd
      .simp only [Ai,Dx]; omega
     obtain ⟨d0,S,af⟩:=Atu (x+1000000000*R) n (by unfold A9; omega) (by omega) (by omega)
     generalize a1:x+1000000000*R=f at *
     have aa:f<1000000000*n:=by omega
     have s:∀d:Nat,d<18446744073709551616->Lu (d:Int)=some (Ae d)/\Jx (Ae n) (Ae d)=some (Ae (n*d)):=by
      intro d hd
      have:=Lg hd
      exact ⟨by rw [Y6,Nm d hd],Rt n d (by omega) (by omega)⟩
     have G:∀d:Nat,d<18446744073709551616->Mz (Ae (n*d)) (Ae f)=some (Dr (n*d) f):=by
      intro d hd
      have h3:=Lg hd
      have h4:=Fs n d
      rw [Y7,Pj _ _ (by omega) (by omega)]
     simp only [e0,e1,cond_true,Cz rfl hj,y,Ad,D2 (show ([(x:Int)].length+(Ae R).length)*4<=_ by simp; omega),List.singleton_append,E,S]
     refine .inl (Rq (Db (fun d=>∃e:Nat,d=e/\e<=d0) (fun d=>d.toNat) (fun d=>∃e:Nat,d=e/\e<=d0/\n*e<=f) ⟨d0,rfl,Nat.le_refl _⟩ ?_ ?_))
     .rintro d ⟨e,rfl,he⟩
      by_cases V:e=0
      .subst V
       exact .inr ⟨0,rfl,0,rfl,by omega,by simp⟩
      .obtain ⟨m1,m2⟩:=s e (by omega)
       simp only [Ap (by omega:(e:Int)>0),cond_true,m1,m2,G e (by omega),Ad]
       by_cases hc:f<n*e
       .refine .inl ⟨((e-1:Nat):Int),?_,⟨e-1,rfl,by omega⟩,by simp; omega⟩
        rw [show Dr (n*e) f=1 by rw [Dr,if_neg (by omega),if_pos hc],show decide ((1:Int)>0)=true from rfl,cond_true,show Au ((e:Int)-1)=((e-1:Nat):Int) by rw [Au,Cn] <;> omega]
       .refine .inr ⟨(e:Int),?_,e,rfl,he,by omega⟩
        rw [A1 (show ¬Dr (n*e) f>0 by rw [Dr,if_neg hc]; split <;> decide),cond_false]
     .rintro d ⟨e,rfl,he,M⟩
      obtain ⟨m1,m2⟩:=s e (by omega)
      simp only [m1,m2,Ad,Y8 f (n*e) (by omega) M]
      refine Db (fun (r,d)=>∃(c b:Nat),r=Ae c/\d=b/\n*b+c=f) (fun (r,_)=>(Ai r).toNat) (fun (r,d)=>∃(c b:Nat),r=Ae c/\d=b/\n*b+c=f/\c<n) ⟨f-n*e,e,rfl,rfl,by omega⟩ ?_ ?_
      .rintro ⟨r,d⟩ ⟨c,b,rfl,rfl,L⟩
       have a8:A9 c<=A9 f:=Gb (by omega)
       have U:b<1000000000:=by
        rcases Nat.lt_or_ge b 1000000000 with h | h
        .exact h
        .exfalso
         have:n*1000000000<=n*b:=Nat.mul_le_mul_left n h
         omega
       simp only [Y7,Pj c n (by omega) (by omega),Ad]
       by_cases hc:c<n
       .refine .inr ⟨(Ae c,(b:Int)),?_,c,b,rfl,rfl,L,hc⟩
        rw [A1 (show ¬Dr c n>=0 by rw [Dr,if_pos hc]; decide),cond_false]
       .refine .inl ⟨(Ae (c-n),((b+1:Nat):Int)),?_,⟨c-n,b+1,rfl,rfl,?_⟩,?_⟩
        .rw [Ap (show Dr c n>=0 by rw [Dr,if_neg hc]; split <;> decide),cond_true,Y8 c n (by omega) (by omega),Ad,show Au ((b:Int)+1)=((b+1:Nat):Int) by rw [Au,Cn] <;> omega]
        .rw [Nat.mul_add]; omega
        .simp only [Dx]; omega
      .rintro ⟨r,d⟩ ⟨c,b,rfl,rfl,L,Z⟩
       have U:b<1000000000:=by
        rcases Nat.lt_or_ge b 1000000000 with h | h
        .exact h
        .exfalso
         have:n*1000000000<=n*b:=Nat.mul_le_mul_left n h
         omega
       have w1:Bt (b:Int)=b:=Ef (by omega) (by omega)
       have w8:Ac ((j:Int)-1)=(j:Int)-1:=by rw [Ac,B3] <;> omega
       refine ⟨_,by simp only [Cz rfl D,Ad,w1,w8,Gt rfl],(Ae c,(j:Int)-1,q.set j (b:Int)),rfl,⟨j,c,rfl,rfl,by omega,Z,by simpa using u,g.set _ (by omega) (by omega),?_⟩,by simp⟩
       have d1:(q.set j (b:Int)).drop j=(b:Int)::q.drop (j+1):=by
        rw [List.drop_eq_getElem_cons (by simpa using D),List.drop_set_of_lt (by omega)]; simp
       rw [d1,List.drop_eq_getElem_cons hj,y]
       simp only [Ai]
       rw [<-hv]
       have:((n*b+c:Nat):Int)=((x+1000000000*R:Nat):Int):=by rw [L,a1]
       simp only [Int.natCast_add,Int.natCast_mul] at this
       grind
   .rintro ⟨r,q⟩ ⟨R,rfl,I,u,g,hv⟩
    dsimp only
    have ac:=Fj g.u32
    obtain ⟨Q,hQ⟩:∃Q:Nat,Ai q=Q:=⟨(Ai q).toNat,by omega⟩
    rw [hQ] at hv
    have z:Q*n+R=m:=by
     have:((Q*n+R:Nat):Int)=(m:Int):=by simp only [Int.natCast_add,Int.natCast_mul]; exact hv
     omega
    have hd:m / n=Q:=by rw [<-z,Nat.mul_comm,Nat.mul_add_div (by omega),Nat.div_eq_of_lt I]; rfl
    have N:m % n=R:=by rw [<-z,Nat.mul_comm,Nat.mul_add_mod,Nat.mod_eq_of_lt I]
    rw [Pl q (by omega),Ad,Jd g hQ,hd,N]
theorem Atw (m n:Nat) (h:A9 m<137438953472) (g:A9 n<137438953472):T0 (Ae m) (Ae n)=some (Ae (Nat.gcd m n)):=by
 unfold T0
 refine G2 (fun (a,b)=>∃x y:Nat,a=Ae x/\b=Ae y/\A9 x<137438953472/\A9 y<137438953472/\Nat.gcd x y=Nat.gcd m n) (fun (_,b)=>(Ai b).toNat)
  (fun r=>r=Ae (Nat.gcd m n)) ⟨m,n,rfl,rfl,h,g,rfl⟩ ?_ (by rintro e rfl; rfl)
 rintro ⟨a,b⟩ ⟨x,y,rfl,rfl,hx,hy,f⟩
 by_cases c:y=0
 .subst c
  refine .inr ⟨Ae x,by rw [Ek]; rfl,?_⟩
  rw [<-f,Nat.gcd_zero_right]
 .have i:(Ae y).length≠0:=fun e=>G3 c (List.length_eq_zero_iff.1 e)
  have j:decide (((Ae y).length:Int)>0)=true:=Ap (by omega)
  refine .inl ⟨(Ae y,Ae (x % y)),?_,⟨y,x % y,rfl,rfl,hy,by have:=Gb (Nat.mod_le x y); omega,?_⟩,?_⟩
  .simp only [j,cond_true,Adm x y hx hy c,Ad]
  .rw [<-f,Nat.gcd_comm y,<-Nat.gcd_rec,Nat.gcd_comm]
  .simp only [Dx]
   have:=Nat.mod_lt x (by omega:y>0)
   omega
end Go.Ab
namespace Go.Ab
open Go
def L3 (b:Bool) (n d:Nat):Ao:=if d=0 then ⟨false,[],[1]⟩ else Bf b n d
theorem Adn {n:Nat} (h:n≠0):(Ae n).length≠0:=fun e=>G3 h (List.length_eq_zero_iff.1 e)
theorem Ado (c:Bool) (a b:List Int) (ha:J3 a) (hb:J3 b) (q:a.length<137438953400) (l:b.length<137438953400):Jb c a b=some (L3 c (Ai a).toNat (Ai b).toNat):=by
 unfold Jb
 have h1:=Y3 ha
 have h2:=Y3 hb
 rw [Aj8 a ha (by omega),Ad,Aj8 b hb (by omega),Ad]
 generalize (Ai a).toNat=n at *
 generalize (Ai b).toNat=d at *
 by_cases g:n=0
 .subst g
  have:L3 c 0 d=⟨false,[],[1]⟩:=by unfold L3; split <;> simp [Bf]
  rw [this,Ek]; rfl
 .have j:=Adn g
  by_cases hd:d=0
  .subst hd
   simp only [Co (by omega:((Ae n).length:Int)≠0),cond_false,Ek,Ad]
   rfl
  .have k:=Adn hd
   have f:Nat.gcd n d≠0:=by have:=Nat.gcd_pos_of_pos_left d (by omega:0<n); omega
   have u:A9 (Nat.gcd n d)<=A9 n:=Gb (Nat.gcd_le_left d (by omega:0<n))
   simp only [Co (by omega:((Ae n).length:Int)≠0),cond_false,Co (by omega:((Ae d).length:Int)≠0),Ad,Atw n d (by omega) (by omega)]
   rw [L3,if_neg hd,Bf,if_neg g]
   have key:(bif (((Ae (Nat.gcd n d)).length:Int) != (1:Int)) then some true else ((Af (Ae (Nat.gcd n d)) 0).bind fun i=>some (i != (1:Int))))=some (decide (Nat.gcd n d≠1)):=by
    have h3:=Adg (Nat.gcd n d)
    unfold O4 at h3
    by_cases s:(Ae (Nat.gcd n d)).length=1
    .rw [Dw (by omega:((Ae (Nat.gcd n d)).length:Int)=1),cond_true] at h3
     rw [Fd (by omega:((Ae (Nat.gcd n d)).length:Int)=1),cond_false]
     cases hi:Af (Ae (Nat.gcd n d)) 0 with
     | none=>rw [hi] at h3; cases h3
     | some v=>
      rw [hi] at h3
      simp only [Ad] at h3 ⊢
      have h3:=Option.some.inj h3
      congr 1
      rw [bne,h3]; simp
    .rw [Co (by omega:((Ae (Nat.gcd n d)).length:Int)≠1),cond_false] at h3
     rw [Ec (by omega:((Ae (Nat.gcd n d)).length:Int)≠1),cond_true]
     have h3:=Option.some.inj h3
     have:Nat.gcd n d≠1:=by simpa using h3.symm
     rw [Ap this]
   rw [key,Ad]
   by_cases h:Nat.gcd n d=1
   .rw [A1 (by simpa using h),cond_false,h]; simp
   .rw [Ap h,cond_true,Adm n _ (by omega) (by omega) f,Ad,Adm d _ (by omega) (by omega) f,Ad]
theorem Atx (a:Ao):L3 a.Neg (Ai a.Num).toNat (Ai a.Den).toNat=Bf (sv a) (nv a) (dv a):=by
 unfold L3 sv nv dv
 by_cases b:(Ai a.Num).toNat=0
 .simp [b,Bf]
 .by_cases hd:(Ai a.Den).toNat=0
  .simp [hd,Bf]
  .simp [b,hd]
theorem U7 (a:Ao) (k:Nat) (h:RB k a) (hk:k<137438953400):Lt a=some (Bf (sv a) (nv a) (dv a)):=by
 unfold Lt
 have:=h.nl
 have:=h.dl
 rw [Ado _ _ _ h.num h.den (by omega) (by omega),Ad,Atx]
theorem U8 (s:Bool) (n d:Nat) (hd:d≠0):(Bf s n d).Num=Ae (nv (Bf s n d))/\(Bf s n d).Den=Ae (dv (Bf s n d))/\(Bf s n d).Neg=sv (Bf s n d):=by
 obtain ⟨h1,h2,h3,c⟩:=Y5 s n d hd
 rw [h1,h2]
 by_cases h0:n=0
 .subst h0
  rw [c rfl,U5]
  have b:d / Nat.gcd 0 d=1:=by rw [Nat.gcd_zero_left]; exact Nat.div_self (by omega)
  rw [b,Nat.zero_div,Ek,Rr]; exact ⟨rfl,rfl,rfl⟩
 .rw [h3 h0]; simp [Bf,h0]
theorem Rv (a:Ao):∃g:Nat,g≠0/\nv a=g*nv (Bf (sv a) (nv a) (dv a))/\dv a=g*dv (Bf (sv a) (nv a) (dv a))/\sv (Bf (sv a) (nv a) (dv a))=sv a:=by
 obtain ⟨h1,h2,h3,b⟩:=Y5 (sv a) (nv a) (dv a) (D6 a)
 have hd:=D6 a
 have c:0<Nat.gcd (nv a) (dv a):=Nat.gcd_pos_of_pos_right _ (by omega)
 refine ⟨Nat.gcd (nv a) (dv a),by omega,?_,?_,?_⟩
 .rw [h1]; exact (Nat.mul_div_cancel' (Nat.gcd_dvd_left _ _)).symm
 .rw [h2]; exact (Nat.mul_div_cancel' (Nat.gcd_dvd_right _ _)).symm
 .by_cases h0:nv a=0
  .rw [b h0]
   unfold nv at h0
   unfold sv
   split at h0
   .rename_i hc; rw [if_pos hc]
   .omega
  .exact h3 h0
theorem Aty (s:Bool) (n d:Nat) (h:d≠0):L3 s n d=Bf s n d:=by rw [L3,if_neg h]
theorem Rw (b:Bool) (n d:Nat) (f:A9 n<137438953400) (hd:A9 d<137438953400) (c:d≠0):Jb b (Ae n) (Ae d)=some (Bf b n d):=by
 unfold A9 at f hd
 rw [Ado b _ _ (Dp n).u32 (Dp d).u32 f hd,Dx,Dx,Int.toNat_natCast,Int.toNat_natCast,Aty _ _ _ c]
theorem Atz {k:Nat} {a:Ao} (h:RB k a):RB (k+1) (Bf (sv a) (nv a) (dv a)):=J5 _ _ _ _ h.nv h.dv (by omega)
theorem Za {k:Nat} {a:Ao} (h:RB k a):A9 (nv (Bf (sv a) (nv a) (dv a)))<=k+1/\A9 (dv (Bf (sv a) (nv a) (dv a)))<=k+1:=by
 obtain ⟨g,b,h1,h2,_⟩:=Rv a
 have a1:=h.nv
 have a2:=h.dv
 refine ⟨Nat.le_trans (Gb ?_) a1,Nat.le_trans (Gb ?_) a2⟩
 .exact Nat.le_trans (Nat.le_mul_of_pos_left _ (by omega)) (Nat.le_of_eq h1.symm)
 .exact Nat.le_trans (Nat.le_mul_of_pos_left _ (by omega)) (Nat.le_of_eq h2.symm)
theorem At0 (a b:Ao) (j k:Nat) (ha:RB j a) (hb:RB k b) (hj:j<34359738368) (hk:k<34359738368):Tq a b=some (Bf (sv a != sv b) (nv a*nv b) (dv a*dv b)):=by
 unfold Tq
 rw [U7 a j ha (by omega),Ad,U7 b k hb (by omega),Ad]
 obtain ⟨g,f,a1,a2,a3⟩:=Rv a
 obtain ⟨h,hh,b1,b2,s⟩:=Rv b
 obtain ⟨f1,f2,f3⟩:=U8 (sv a) (nv a) (dv a) (D6 a)
 obtain ⟨q,l,i⟩:=U8 (sv b) (nv b) (dv b) (D6 b)
 obtain ⟨A,y⟩:=Za ha
 obtain ⟨x,u⟩:=Za hb
 rw [f1,f2,f3,q,l,i,a3,s]
 generalize hc:Bf (sv a) (nv a) (dv a)=c at *
 generalize hd:Bf (sv b) (nv b) (dv b)=d at *
 have m1:=Fs (nv c) (nv d)
 have m2:=Fs (dv c) (dv d)
 have z:dv c*dv d≠0:=Nat.mul_ne_zero (D6 c) (D6 d)
 rw [Rt _ _ (by omega) (by omega),Ad,Rt _ _ (by omega) (by omega),Ad,Rw _ _ _ (by omega) (by omega) z,Ad]
 rw [a1,a2,b1,b2,show g*nv c*(h*nv d)=g*h*(nv c*nv d) by grind,show g*dv c*(h*dv d)=g*h*(dv c*dv d) by grind,Pk _ _ _ _ (Nat.mul_ne_zero f hh)]
theorem At1 (l:Bool) (c j:Nat) (k:Bool) (b i g h:Nat) (x:g≠0) (hh:h≠0):Hj l (g*c) (g*j) k (h*b) (h*i)=g*h*Hj l c j k b i/\Iz l (g*c) (g*j) k (h*b) (h*i)=Iz l c j k b i:=by
 have u:g*c*(h*i)=g*h*(c*i):=by grind
 have s:h*b*(g*j)=g*h*(b*j):=by grind
 have hc:(g*h*(b*j)<=g*h*(c*i))↔(b*j<=c*i):=Nat.mul_le_mul_left_iff (Nat.mul_pos (by omega) (by omega))
 unfold Hj Iz
 rw [u,s]
 by_cases q:l=k
 .simp only [if_pos q]
  exact ⟨by rw [Nat.mul_add],trivial⟩
 .simp only [if_neg q]
  by_cases f:b*j<=c*i
  .simp only [if_pos f,if_pos (hc.2 f)]
   exact ⟨by rw [Nat.mul_sub],trivial⟩
  .simp only [if_neg f,if_neg (fun h=>f (hc.1 h))]
   exact ⟨by rw [Nat.mul_sub],trivial⟩
theorem At2 (a b:Ao) (j k:Nat) (ha:RB j a) (hb:RB k b) (hj:j<34359738368) (hk:k<34359738368) :
  Ol a b=some (Bf (Iz (sv a) (nv a) (dv a) (sv b) (nv b) (dv b)) (Hj (sv a) (nv a) (dv a) (sv b) (nv b) (dv b)) (dv a*dv b)):=by
 unfold Ol
 rw [U7 a j ha (by omega),Ad,U7 b k hb (by omega),Ad]
 obtain ⟨g,l,a1,a2,a3⟩:=Rv a
 obtain ⟨h,hh,b1,b2,A⟩:=Rv b
 obtain ⟨f1,f2,f3⟩:=U8 (sv a) (nv a) (dv a) (D6 a)
 obtain ⟨y,x,u⟩:=U8 (sv b) (nv b) (dv b) (D6 b)
 obtain ⟨G,E⟩:=Za ha
 obtain ⟨D,B⟩:=Za hb
 rw [f1,f2,f3,y,x,u,a3,A]
 generalize hc:Bf (sv a) (nv a) (dv a)=c at *
 generalize hd:Bf (sv b) (nv b) (dv b)=d at *
 have m1:=Fs (nv c) (dv d)
 have m2:=Fs (nv d) (dv c)
 have m3:=Fs (dv c) (dv d)
 have m4:=U2 (nv c*dv d) (nv d*dv c)
 have m5:=Gb (Nat.sub_le (nv c*dv d) (nv d*dv c))
 have m6:=Gb (Nat.sub_le (nv d*dv c) (nv c*dv d))
 have z:dv c*dv d≠0:=Nat.mul_ne_zero (D6 c) (D6 d)
 obtain ⟨s,q⟩:=At1 (sv a) (nv c) (dv c) (sv b) (nv d) (dv d) g h l hh
 rw [a1,a2,b1,b2,s,q,show g*dv c*(h*dv d)=g*h*(dv c*dv d) by grind,Pk _ _ _ _ (Nat.mul_ne_zero l hh)]
 rw [Rt _ _ (by omega) (by omega),Ad,Rt _ _ (by omega) (by omega),Ad,Rt _ _ (by omega) (by omega),Ad]
 unfold Iz Hj
 by_cases i:sv a=sv b
 .have e:(sv a==sv b)=true:=by rw [i]; exact beq_self_eq_true _
  rw [e,cond_true,Atn _ _ (by omega) (by omega),Ad,Rw _ _ _ (by omega) (by omega) z,Ad,if_pos i,if_pos i]
 .have e:(sv a==sv b)=false:=by simpa using i
  rw [e,cond_false,Y7,Pj _ _ (by omega) (by omega),Ad,if_neg i,if_neg i]
  by_cases f:nv d*dv c<=nv c*dv d
  .rw [Ap (show Dr (nv c*dv d) (nv d*dv c)>=0 by rw [Dr,if_neg (by omega)]; split <;> decide),cond_true,Y8 _ _ (by omega) f,Ad,Rw _ _ _ (by omega) (by omega) z,Ad,if_pos f,if_pos f]
  .rw [A1 (show ¬Dr (nv c*dv d) (nv d*dv c)>=0 by rw [Dr,if_pos (by omega)]; decide),cond_false,Y8 _ _ (by omega) (by omega),Ad,Rw _ _ _ (by omega) (by omega) z,Ad,if_neg f,if_neg f]
theorem At3 (a:Ao) (k:Nat) (h:RB k a) (hk:k<137438953400):Mv a=some (Hi (sv a) (nv a)):=by
 unfold Mv
 rw [U7 a k h hk,Ad]
 obtain ⟨g,b,a1,a2,a3⟩:=Rv a
 obtain ⟨f1,f2,f3⟩:=U8 (sv a) (nv a) (dv a) (D6 a)
 rw [f1,f3,a3,Hi]
 by_cases h0:nv a=0
 .have:nv (Bf (sv a) (nv a) (dv a))=0:=by
   rw [h0] at a1
   rcases Nat.mul_eq_zero.1 a1.symm with h | h
   .exact (b h).elim
   .rw [h0]; exact h
  rw [this,Ek,if_pos h0]; rfl
 .have:nv (Bf (sv a) (nv a) (dv a))≠0:=by
   intro e; rw [e,Nat.mul_zero] at a1; exact h0 a1
  have:=Adn this
  rw [Co (by omega),cond_false,if_neg h0]
  cases sv a <;> rfl
theorem At4 (a:Ao) (k:Nat) (h:RB k a) (hk:k<137438953400):Ty a=some (Bf (!sv a) (nv a) (dv a)):=by
 unfold Ty
 have:=h.nl
 have:=h.dl
 rw [Ado _ _ _ h.num h.den (by omega) (by omega),Ad]
 congr 1
 unfold L3 sv nv dv
 by_cases b:(Ai a.Num).toNat=0
 .simp [b,Bf]
 .by_cases hd:(Ai a.Den).toNat=0
  .simp [hd,Bf]
  .simp [b,hd]
theorem At5 (z:Int) (h1 : -9223372036854775808<=z) (h2:z<=9223372036854775807):Qu z=some (Bf (decide (z<0)) z.natAbs 1):=by
 unfold Qu
 have j:=Lg (n:=z.natAbs) (by omega)
 have c:([1]:List Int)=Ae 1:=Rr.symm
 by_cases h:z<0
 .have i:Ac (z+1)=z+1:=B3 (by omega) (by omega)
  have g:Ac (0-(z+1))=0-(z+1):=B3 (by omega) (by omega)
  have f:Au (0-(z+1))=0-(z+1):=Cn (by omega) (by omega)
  have b:Au (0-(z+1)+1)=((z.natAbs:Nat):Int):=by rw [Au,Cn (by omega) (by omega)]; omega
  rw [Ap h,cond_true,i,g,f,b,Y6,Nm _ (by omega),Ad,c,Rw _ _ _ (by omega) (by rw [L2]; decide) (by decide),Ad]
 .have b:Au z=((z.natAbs:Nat):Int):=by rw [Au,Cn (by omega) (by omega)]; omega
  rw [A1 h,cond_false,b,Y6,Nm _ (by omega),Ad,c,Rw _ _ _ (by omega) (by rw [L2]; decide) (by decide),Ad]
end Go.Ab
namespace Go.Ab
open Go
theorem Zb (s:Bool) (n d:Nat) (hd:d≠0):∃g:Nat,g≠0/\n=g*nv (Bf s n d)/\d=g*dv (Bf s n d)/\(n≠0->sv (Bf s n d)=s)/\(n=0->sv (Bf s n d)=false):=by
 obtain ⟨h1,h2,h3,b⟩:=Y5 s n d hd
 have c:0<Nat.gcd n d:=Nat.gcd_pos_of_pos_right _ (by omega)
 exact ⟨Nat.gcd n d,by omega,by rw [h1]; exact (Nat.mul_div_cancel' (Nat.gcd_dvd_left _ _)).symm,by rw [h2]; exact (Nat.mul_div_cancel' (Nat.gcd_dvd_right _ _)).symm,h3,b⟩
theorem At6 (s t:Bool) (n d m e:Nat) (hd:d≠0) (l:e≠0):Bf (sv (Bf s n d) != sv (Bf t m e)) (nv (Bf s n d)*nv (Bf t m e)) (dv (Bf s n d)*dv (Bf t m e))=Bf (s != t) (n*m) (d*e):=by
 obtain ⟨g,k,a1,a2,a3,_⟩:=Zb s n d hd
 obtain ⟨h,hh,b1,b2,u,_⟩:=Zb t m e l
 have q:Bf (s != t) (n*m) (d*e)=Bf (sv (Bf s n d) != sv (Bf t m e)) (n*m) (d*e):=by
  apply Aj6
  intro b
  have i:n≠0:=fun e=>b (by rw [e]; simp)
  have j:m≠0:=fun e=>b (by rw [e]; simp)
  rw [a3 i,u j]
 rw [q]
 generalize Bf s n d=c at *
 generalize Bf t m e=f at *
 rw [a1,a2,b1,b2,show g*nv c*(h*nv f)=g*h*(nv c*nv f) by grind,show g*dv c*(h*dv f)=g*h*(dv c*dv f) by grind,Pk _ _ _ _ (Nat.mul_ne_zero k hh)]
def E6 (n:Nat):Nat->Nat
 | 0=>1
 | k+1=>E6 n k*(n-k)
def fct:Nat->Nat
 | 0=>1
 | k+1=>fct k*(k+1)
theorem U9:∀k,fct k≠0
 | 0=>by decide
 | k+1=>Nat.mul_ne_zero (U9 k) (by omega)
theorem At7 {n k:Nat} (h:n<k):E6 n k=0:=by
 induction k with
 | zero=>omega
 | succ k ih=>
  simp only [E6]
  rcases Nat.lt_or_ge n k with h' | h'
  .rw [ih h']; simp
  .have:n-k=0:=by omega
   rw [this]; simp
theorem At8 (n k:Nat) (b:n<1000000000):A9 (E6 n k)<=k+1:=by
 induction k with
 | zero=>simp [E6,L2]
 | succ k ih=>
  have h1:=Fs (E6 n k) (n-k)
  have h2:A9 (n-k)<=1:=Iy (by simp; omega)
  simp only [E6]; omega
theorem At9 (k:Nat) (hk:k<1000000000):A9 (fct k)<=k+1:=by
 induction k with
 | zero=>simp [fct,L2]
 | succ k ih=>
  have h1:=Fs (fct k) (k+1)
  have h2:A9 (k+1)<=1:=Iy (by simp; omega)
  simp only [fct]
  have:=ih (by omega)
  omega
theorem Aj9 {n:Nat} (h:n<1000000000):A9 n<=1:=Iy (by simpa using h)
theorem Aua (n k:Nat) (b:n<1000000000) (hk:k<=64):RB (k+1) (Bf false (E6 n k) (fct k)) :=
 J5 _ _ _ _ (At8 n k b) (At9 k (by omega)) (by omega)
theorem Aka (a:Ao):Ao.mk a.Neg a.Num a.Den=a:=by cases a; rfl
theorem Aub (n k:Nat) (A:n<1000000000) (hk:k<=64):Re (n:Int) (k:Int)=some (Bf false (E6 n k) (fct k)):=by
 unfold Re
 have B:De 1=some (Bf false (E6 n 0) (fct 0)):=Rs 1 (by decide) (by decide)
 rw [B,Ad]
 refine G2 (fun (i,s,b,c)=>∃q:Nat,i=q/\q<=k/\q<=n/\Ao.mk s b c=Bf false (E6 n q) (fct q)) (fun (i,_,_,_)=>k-i.toNat)
  (fun e=>match e with | .inl r=>r=Bf false (E6 n k) (fct k) | .inr (s,b,c)=>Ao.mk s b c=Bf false (E6 n k) (fct k)) ⟨0,rfl,by omega,by omega,Aka _⟩ ?_ ?_
 .rintro ⟨i,s,b,c⟩ ⟨q,rfl,hq,z,ha⟩
  rcases Nat.lt_or_ge q k with h | h
  .simp only [Ap (by omega:(q:Int)<(k:Int)),cond_true]
   by_cases x:n=q
   .subst x
    refine .inr ⟨.inl (Bf false 0 1),?_,?_⟩
    .rw [Dw rfl,cond_true,Rs 0 (by decide) (by decide)]; rfl
    .show Bf false 0 1=_
     rw [At7 h,U5,U5]
   .have u:Ac ((n:Int)-(q:Int))=((n-q:Nat):Int):=by rw [Ac,B3] <;> omega
    have l:Ac ((q:Int)+1)=((q+1:Nat):Int):=Je h (by omega)
    have y:M3 ((n-q:Nat):Int) ((q+1:Nat):Int)=some (Bf false (n-q) (q+1)):=by
     rw [Aj5 _ _ (by omega) (by omega) (by omega) (by omega) (by omega),A1 (by omega:¬((n-q:Nat):Int)<0),A1 (by omega:¬((q+1:Nat):Int)<0)]; rfl
    have g:RB 1 (Bf false (n-q) (q+1)):=J5 _ _ _ _ (Aj9 (by omega)) (Aj9 (by omega)) (by omega)
    have j:=Y4 _ _ _ _ (Aua n q A (by omega)) g (by omega) (by omega)
    rw [At6 false false (E6 n q) (fct q) (n-q) (q+1) (U9 q) (by omega)] at j
    refine .inl ⟨(((q+1:Nat):Int),(Bf false (E6 n (q+1)) (fct (q+1))).Neg,(Bf false (E6 n (q+1)) (fct (q+1))).Num,(Bf false (E6 n (q+1)) (fct (q+1))).Den),?_,⟨q+1,rfl,by omega,by omega,Aka _⟩,by simp; omega⟩
    rw [Co (by omega),cond_false,u,l,y,Ad,ha,j,Ad]; rfl
  .have:q=k:=by omega
   subst this
   refine .inr ⟨.inr (s,b,c),by simp,ha⟩
 .rintro (e | ⟨s,b,c⟩) f
  .simp only at f ⊢; rw [f]
  .simp only at f ⊢; rw [f]
end Go.Ab
namespace Go.Ab
open Go
mutual
def Bg:Ag->Nat
 | ⟨_,_,l⟩=>1+Ci l
def Ci:List Ag->Nat
 | []=>0
 | x::xs=>Bg x+Ci xs
end
theorem Hk (t:Ag):Bg t=1+Ci t.Args:=by cases t; simp only [Bg]
theorem Rx (t:Ag):1<=Bg t:=by rw [Hk]; omega
theorem Hu {l:List Ag} {a:Ag} (h:a∈l):Bg a<=Ci l:=by
 induction l with
 | nil=>cases h
 | cons x xs ih=>
  simp only [Ci]
  rcases List.mem_cons.1 h with rfl | h
  .omega
  .have:=ih h; omega
theorem Jf (l:List Ag):l.length<=Ci l:=by
 induction l with
 | nil=>simp
 | cons x xs ih=>simp only [Ci,List.length_cons]; have:=Rx x; omega
theorem Zc (l m:List Ag):Ci (l++m)=Ci l+Ci m:=by
 induction l with
 | nil=>simp [Ci]
 | cons x xs ih=>simp only [List.cons_append,Ci,ih]; omega
def Ih (data:List Al) (vars k n:Int) (len:Nat):Bool :=
 if k=1\/k=2\/k=3 then n==0&&len==0
 else if k=4 then decide (0<=n)&&decide (n<vars)&&len==0
 else if k=5 then decide (0<=n)&&(match data[n.toNat]? with | some d=>(len:Int)==d.Vars | none=>false)
 else if k=6 then n==0&&decide (2<=len)&&decide (len<=6)
 else if k=7\/k=8 then n==0&&len==1
 else if k=9 then n==0&&decide (1<=len)&&decide (len<=7)
 else false
mutual
def Dc (data:List Al) (vars:Int):Ag->Bool
 | ⟨k,n,l⟩=>Ih data vars k n l.length&&Dy data vars l
def Dy (data:List Al) (vars:Int):List Ag->Bool
 | []=>true
 | x::xs=>Dc data vars x&&Dy data vars xs
end
theorem Va (data:List Al) (vars:Int) (t:Ag):Dc data vars t=(Ih data vars t.Kind t.Num t.Args.length&&Dy data vars t.Args):=by cases t; simp only [Dc]
theorem Akb {α:Type} (l:List α) (n:Nat):((l.length:Int)==(n:Int))=(l.length==n):=by
 by_cases h:l.length=n
 .subst h; simp
 .rw [Co (by omega)]; simp [h]
theorem Auc (k:Nat) (t:Ag) (data:List Al) (vars left:Int) (h1:1<=left) (h2:left<=1000) :
  Km (k+1) t ⟨data,vars,left⟩=bif Ih data vars t.Kind t.Num t.Args.length then ((Rm k t.Args ⟨data,vars,left-1⟩).bind fun v12=>some ((!v12.1),v12.2)) else some (false,⟨data,vars,left-1⟩):=by
 have hw:Ac (left-1)=left-1:=B3 (by omega) (by omega)
 have b:¬left-1<0:=by omega
 rw [Km]
 simp only [hw,A1 b,cond_false]
 generalize g:(Rm k t.Args ⟨data,vars,left-1⟩).bind (fun v12=>some ((!v12.1),v12.2))=X
 generalize f:(some (false,⟨data,vars,left-1⟩):Option (Bool×E5))=Y
 unfold Ih Af
 generalize t.Args.length=len
 generalize t.Kind=c
 generalize t.Num=n
 cases hd:data[n.toNat]? <;> simp only [Bool.cond_eq_ite,As2,Ad,Option.bind_none,hd] <;> grind
theorem Adp {l:List Ag} {j:Nat} (h:j<l.length):Ci (l.take (j+1))=Ci (l.take j)+Bg l[j]:=by
 rw [List.take_succ_eq_append_getElem h,Zc]; simp [Ci]
theorem Akc (data:List Al) (vars:Int) (l m:List Ag):Dy data vars (l++m)=(Dy data vars l&&Dy data vars m):=by
 induction l with
 | nil=>simp [Dy]
 | cons x xs ih=>simp only [List.cons_append,Dy,ih,Bool.and_assoc]
theorem Akd (data:List Al) (vars:Int) {l:List Ag} {j:Nat} (h:j<l.length):Dy data vars (l.take (j+1))=(Dy data vars (l.take j)&&Dc data vars l[j]):=by
 rw [List.take_succ_eq_append_getElem h,Akc]; simp [Dy]
theorem Adq (l:List Ag) (j:Nat):Ci (l.take j)<=Ci l:=by
 have:=Zc (l.take j) (l.drop j)
 rw [List.take_append_drop] at this; omega
theorem Aud (data:List Al) (vars:Int) (l:List Ag) (j:Nat) (h:Dy data vars l=true):Dy data vars (l.take j)=true:=by
 have:=Akc data vars (l.take j) (l.drop j)
 rw [List.take_append_drop,h] at this
 have:=this.symm
 simp only [Cl] at this
 exact this.1
theorem Aue (data:List Al) (vars:Int) (k:Nat) (l:List Ag) (c:Nat) (G:l.length<1099511627776)
  (ih:∀(a:Ag),a∈l->∀f:Nat,f<=c->∃g:Int,Km k a ⟨data,vars,f⟩=some (Dc data vars a&&decide (Bg a<=f),⟨data,vars,g⟩)/\((Dc data vars a&&decide (Bg a<=f))=true->g=(f:Int)-Bg a)) :
  ∃p:Int×Int,Uw (k+2) l ⟨data,vars,c⟩=some (p.1,⟨data,vars,p.2⟩)/\((Dy data vars l&&decide (Ci l<=c))=true->p.1 = -1/\p.2=(c:Int)-Ci l)/\((Dy data vars l&&decide (Ci l<=c))=false->0<=p.1):=by
 rw [Uw]
 refine Ys (fun p:Int×Int=>(p.1,E5.mk data vars p.2)) (Db
  (fun (v3,v4,v5,s)=>∃j:Nat,v3=j/\j<=l.length/\v4=data/\v5=vars/\Dy data vars (l.take j)=true/\Ci (l.take j)<=c/\s=(c:Int)-Ci (l.take j))
  (fun (v3,_,_,_)=>l.length-v3.toNat)
  (fun z=>match z with | .inl (i,b)=>0<=i/\(∃g,b=⟨data,vars,g⟩)/\(Dy data vars l&&decide (Ci l<=c))=false | .inr (v4,v5,s)=>v4=data/\v5=vars/\(Dy data vars l&&decide (Ci l<=c))=true/\s=(c:Int)-Ci l)
  ⟨0,rfl,by omega,rfl,rfl,rfl,by simp [Ci],by simp [Ci]⟩ ?_ ?_)
 .rintro ⟨v3,v4,v5,s⟩ ⟨j,rfl,hj,rfl,rfl,x,A,rfl⟩
  rcases Nat.lt_or_ge j l.length with h | h
  .obtain ⟨u,y⟩:∃u:Nat,(c:Int)-Ci (l.take j)=u/\u<=c:=⟨c-Ci (l.take j),by omega,by omega⟩
   obtain ⟨g,E,D⟩:=ih l[j] (List.getElem_mem h) u y.2
   simp only [Ap (by omega:(j:Int)<(l.length:Int)),cond_true,Cz rfl h,Ad,Ub,y.1,E]
   cases hb:(Dc v4 v5 l[j]&&decide (Bg l[j]<=u)) with
   | true=>
    have I:=D hb
    simp only [Cl,decide_eq_true_eq] at hb
    refine .inl ⟨(((j+1:Nat):Int),v4,v5,g),?_,⟨j+1,rfl,by omega,rfl,rfl,?_,?_,?_⟩,by simp; omega⟩
    .simp only [bnt,cond_false]
     rw [show Ac ((j:Int)+1)=((j+1:Nat):Int) by rw [Ac,B3] <;> omega]
    .rw [Akd _ _ h,x,hb.1]; rfl
    .rw [Adp h]; omega
    .show g=_
     rw [Adp h]; omega
   | false=>
    refine .inr ⟨.inl ((j:Int),⟨v4,v5,g⟩),by simp,by omega,⟨g,rfl⟩,?_⟩
    cases q:(Dy v4 v5 l&&decide (Ci l<=c)) with
    | false=>rfl
    | true=>
     exfalso
     simp only [Cl,decide_eq_true_eq] at q
     have a1:=Aud v4 v5 l (j+1) q.1
     rw [Akd _ _ h] at a1
     simp only [Cl] at a1
     have a2:=Adq l (j+1)
     rw [Adp h] at a2
     rw [a1.2,Bool.true_and,decide_eq_false_iff_not] at hb
     omega
  .have:j=l.length:=by omega
   subst this
   rw [List.take_length] at *
   refine .inr ⟨.inr (v4,v5,(c:Int)-Ci l),by simp,rfl,rfl,by simp [x,A],rfl⟩
 .rintro (⟨i,b⟩ | ⟨v4,v5,s⟩) B
  .obtain ⟨a1,⟨g,rfl⟩,a3⟩:=B
   exact ⟨_,rfl,(i,g),rfl,(fun h=>by rw [a3] at h; cases h),fun _=>a1⟩
  .obtain ⟨rfl,rfl,a3,rfl⟩:=B
   exact ⟨_,rfl,(-1,_),rfl,fun _=>⟨rfl,rfl⟩,fun h=>by rw [a3] at h; cases h⟩
theorem Auf (data:List Al) (vars:Int):∀(left:Nat) (t:Ag) (k:Nat),left<=200->4*left+4<=k->Bg t<1099511627776 ->
  ∃f:Int,Km k t ⟨data,vars,left⟩=some (Dc data vars t&&decide (Bg t<=left),⟨data,vars,f⟩)/\((Dc data vars t&&decide (Bg t<=left))=true->f=(left:Int)-Bg t):=by
 intro left
 induction left using Nat.strongRecOn with
 | _ left s=>
  intro t k B hk ht
  have hp:=Rx t
  obtain ⟨g,rfl⟩:∃g,k=g+1:=⟨k-1,by omega⟩
  cases left with
  | zero=>
   refine ⟨-1,?_,fun h=>by simp at h; omega⟩
   rw [Km]
   have hd:decide (Bg t<=0)=false:=A1 (by omega)
   rw [hd,Bool.and_false]
   rfl
  | succ b=>
   rw [Auc g t data vars ((b+1:Nat):Int) (by omega) (by omega)]
   have z:((b+1:Nat):Int)-1=(b:Int):=by omega
   rw [z,Va]
   cases A:Ih data vars t.Kind t.Num t.Args.length with
   | false=>exact ⟨b,by simp,fun h=>by simp at h⟩
   | true=>
    obtain ⟨q,rfl⟩:∃q,g=q+3:=⟨g-3,by omega⟩
    have j:=Hk t
    have x:=Jf t.Args
    obtain ⟨⟨i,f⟩,h1,h2,h3⟩:=Aue data vars q t.Args b (by omega) (fun a ha c y=>by
     have:=Hu ha
     exact s c (by omega) a q (by omega) (by omega) (by omega))
    have l:decide (Bg t<=b+1)=decide (Ci t.Args<=b):=by
     rw [j]; congr 1; simp only [eq_iff_iff]; omega
    simp only [cond_true,Rm,h1,Ad,Bool.true_and,l]
    refine ⟨f,?_,fun h=>?_⟩
    .cases hb:(Dy data vars t.Args&&decide (Ci t.Args<=b)) with
     | true=>
      have u:i = -1:=(h2 hb).1
      rw [A1 (by omega:¬i>=0)]; rfl
     | false=>
      have u:0<=i:=h3 hb
      rw [Ap (by omega:i>=0)]; rfl
    .have u:f=(b:Int)-Ci t.Args:=(h2 h).2
     rw [u,j]; omega
theorem Vb (data:List Al) (t:Ag) (vars:Int) (ht:Bg t<1099511627776):K6 data t vars=some (Dc data vars t&&decide (Bg t<=200)):=by
 unfold K6
 obtain ⟨b,h1,_⟩:=Auf data vars 200 t 4000000 (by decide) (by decide) ht
 have h1:Km 4000000 t ⟨data,vars,200⟩=_:=h1
 rw [h1]; rfl
end Go.Ab
namespace Go.Ab
open Go
def Nq (a:Ag) (i:Int):Bool:=a.Kind==4&&a.Num==i&&a.Args.length==0
def Ake (l:List Ag):Bool:=l.zipIdx.all fun q=>Nq q.1 q.2
def Hm (t:Ag) (d vars:Int):Bool:=t.Kind==5&&t.Num==d&&(t.Args.length:Int)==vars&&Ake t.Args
def C3 (data:List Al) (d c:Int):List Bool :=
 match Af data d with
 | none=>[]
 | some x=>match Af x.Cons c with
  | none=>[]
  | some y=>y.Args.map fun t=>Hm t d x.Vars
theorem Ff {α:Type} {l:List α} {i:Int} {x:α} (h:Af l i=some x):0<=i/\i<l.length/\l[i.toNat]? = some x/\x∈l:=by
 unfold Af at h
 split at h
 .have h1:i.toNat<l.length:=Es h
  exact ⟨by assumption,by omega,h,Bs h⟩
 .cases h
theorem Vc {α:Type} {l:List α} {i:Int} (h:Af l i=none):i<0\/(l.length:Int)<=i:=by
 unfold Af at h
 split at h
 .rw [List.getElem?_eq_none_iff] at h
  right; omega
 .left; omega
theorem Aug {R:Type} (data:List Al) (d c:Int) (F:Al->L1->Option R) (z:R) (X:Option R)
  (f:X=((bif (decide (d<(0:Int))) then some true else bif (decide (d>=(data.length:Int))) then some true else bif (decide (c<(0:Int))) then some true else
   (Af data d).bind fun b=>some (decide (c>=(b.Cons.length:Int))):Option Bool).bind fun v2=>bif v2 then some z else (Af data d).bind fun v3=>(Af v3.Cons c).bind fun v4=>F v3 v4)) :
  X=match Af data d with
   | none=>some z
   | some x=>match Af x.Cons c with
    | none=>some z
    | some y=>F x y:=by
 subst f
 cases hx:Af data d with
 | none=>
  rcases Vc hx with h | h
  .simp only [Ap h,cond_true,Ad]
  .by_cases h':d<0
   .simp only [Ap h',cond_true,Ad]
   .simp only [A1 h',Ap (show d>=(data.length:Int) from h),cond_true,cond_false,Ad]
 | some x=>
  obtain ⟨a1,a2,_,_⟩:=Ff hx
  simp only [A1 (by omega:¬d<0),A1 (by omega:¬d>=(data.length:Int)),cond_false,Ad]
  cases hy:Af x.Cons c with
  | none=>
   rcases Vc hy with h | h
   .simp only [Ap h,cond_true,Ad]
   .by_cases h':c<0
    .simp only [Ap h',cond_true,Ad]
    .simp only [A1 h',Ap (show c>=(x.Cons.length:Int) from h),cond_true,cond_false,Ad]
  | some y=>
   obtain ⟨b1,b2,_,_⟩:=Ff hy
   simp only [A1 (by omega:¬c<0),A1 (by omega:¬c>=(x.Cons.length:Int)),cond_false,Ad]
def Auh (l:List Ag):Prop:=l.length<=4194304/\∀a∈l,a.Args.length<=4194304
def Li (data:List Al):Prop:=∀x∈data,∀y∈x.Cons,Auh y.Args
theorem Vd {α:Type} (l m:List α) (y x:α) (i:Int) (n:Nat) (h:i=n) (b:n=l.length):Cp (l++y::m) i x=l++x::m:=by
 rw [Gt h]; subst b; simp
theorem Ve {α:Type} (l m:List α) (y:α) (i:Int) (n:Nat) (h:i=n) (b:n=l.length):Af (l++y::m) i=some y:=by
 rw [B1 h]; subst b; simp
theorem Aui (l:List Ag) (k f:List Bool) (i:Int) (n:Nat) (b:Bool) (h:i=n) (s:n=k.length) (A:l.length<1099511627776) {R:Type} {J:Int×List Bool->Option R} {r:R}
  (z:J ((l.length:Int),k++(b&&Ake l)::f)=some r) :
  (Aj (S:=(Int×(List Bool))) (E:=(Int×(List Bool))) (fun (c,g)=>
   bif (decide (c<(l.length:Int))) then (
   (Af l c).bind fun v44=>
   bif (v44.Kind != (4:Int)) then (
   (Af g i).bind fun v46=>
   some (.inl ((Ac (c+1)),(Cp g i false)))
   )
   else (
   bif (v44.Num != c) then (
   (Af g i).bind fun y=>
   some (.inl ((Ac (c+1)),(Cp g i false)))
   )
   else (
   bif (decide ((v44.Args.length:Int)>(0:Int))) then (
   (Af g i).bind fun u=>
   some (.inl ((Ac (c+1)),(Cp g i false)))
   )
   else (
   some (.inl ((Ac (c+1)),g))
   )
   )
   )
   )
   else (
   some (.inr (c,g))
   )
    ) (0,k++b::f)).bind J=some r:=by
 refine Fe l (fun j=>((j:Int),k++(b&&(l.take j).zipIdx.all (fun q=>Nq q.1 q.2))::f)) (by simp) (by omega) ?_ ?_
 .intro j x hj hx h1 h2 h3
  have e:(l.take (j+1)).zipIdx.all (fun q=>Nq q.1 q.2)=((l.take j).zipIdx.all (fun q=>Nq q.1 q.2)&&Nq x j):=by
   rw [C7 hx,List.zipIdx_append,List.all_append]; simp [Nat.min_eq_left (Nat.le_of_lt hj)]
  simp only [h1,h2,h3,cond_true,Ad,Ve k f _ i n h s,Vd k f _ _ i n h s,e]
  unfold Nq
  by_cases g1:x.Kind=4
  .by_cases g2:x.Num=j
   .by_cases g3:x.Args.length=0
    .rw [A1 (by omega)]; simp [g1,g2,g3]
    .rw [Ap (by omega)]
     have:(x.Args.length==0)=false:=by simpa using g3
     simp [g1,g2,this]
   .simp [g1,g2,Ec g2]
  .simp [g1,Ec g1]
 .intro h1
  refine ⟨_,by simp only [h1]; rfl,?_⟩
  rw [List.take_length]
  exact z
theorem Vf (data:List Al) (d c:Int) (hd:Li data):L0 data d c=some (C3 data d c):=by
 unfold L0
 rw [Aug data d c (fun v3 v4=>_) [] _ rfl]
 unfold C3
 cases hx:Af data d with
 | none=>rfl
 | some x=>
  cases hy:Af x.Cons c with
  | none=>simp only [hy]
  | some y=>
   simp only [hy]
   have f:=hd x (Ff hx).2.2.2 y (Ff hy).2.2.2
   have g:=f.1
   rw [J2 (n:=y.Args.length) (c:=y.Args.length) rfl rfl (by omega) (by omega) (by omega),Ad]
   refine Fe y.Args (fun j=>((j:Int),((y.Args.take j).map fun t=>Hm t d x.Vars)++List.replicate (y.Args.length-j) false)) rfl (by omega) ?_ ?_
   .intro j t hj ht h1 h2 h3
    obtain ⟨m,h⟩:∃m,y.Args.length-j=m+1:=⟨y.Args.length-j-1,by omega⟩
    have i:y.Args.length-(j+1)=m:=by omega
    have b:j=((y.Args.take j).map fun t=>Hm t d x.Vars).length:=by simp; omega
    simp only [h1,h2,cond_true,Ad,h,i,List.replicate_succ,C7 ht,List.map_append,List.map_cons,List.map_nil,List.append_assoc,List.cons_append,List.nil_append,
     Ve _ _ _ (j:Int) j rfl b,Vd _ _ _ _ (j:Int) j rfl b]
    have hb:(bif t.Kind==5 then bif t.Num==d then some (List.map (fun t=>Hm t d x.Vars) (List.take j y.Args)++((t.Args.length:Int)==x.Vars)::List.replicate m false)
       else some (List.map (fun t=>Hm t d x.Vars) (List.take j y.Args)++false::List.replicate m false)
      else some (List.map (fun t=>Hm t d x.Vars) (List.take j y.Args)++false::List.replicate m false))=some (List.map (fun t=>Hm t d x.Vars) (List.take j y.Args)++(t.Kind==5&&t.Num==d&&((t.Args.length:Int)==x.Vars))::List.replicate m false):=by
     cases t.Kind==5 <;> cases t.Num==d <;> simp
    rw [hb,Ad]
    refine Aui t.Args _ _ (j:Int) j _ rfl b (by have:=f.2 t (Bs ht); omega) ?_
    rw [h3]; rfl
   .intro h1
    exact ⟨_,by simp only [h1]; rfl,by simp⟩
mutual
def mnt (d:Int):Ag->Bool
 | ⟨k,n,l⟩=>(k==5&&n==d)||L5 d l
def L5 (d:Int):List Ag->Bool
 | []=>false
 | x::xs=>mnt d x||L5 d xs
end
theorem Auj (d:Int) (t:Ag):mnt d t=((t.Kind==5&&t.Num==d)||L5 d t.Args):=by cases t; simp only [mnt]
theorem Auk (d:Int) (l:List Ag):L5 d l=l.any (mnt d):=by
 induction l with
 | nil=>rfl
 | cons x xs ih=>simp only [L5,ih,List.any_cons]
theorem Aul (d:Int):∀(n:Nat) (t:Ag) (k:Nat),Bg t<=n->4*n+4<=k->n<1099511627776->O6 k t d=some (mnt d t):=by
 intro n
 induction n with
 | zero=>intro t k h; have:=Rx t; omega
 | succ n ih=>
  intro t k h hk g
  obtain ⟨k,rfl⟩:∃c,k=c+4:=⟨k-4,by omega⟩
  have f:=Hk t
  have b:=Jf t.Args
  have key:Rl (k+3) t.Args d=some (L5 d t.Args):=by
   rw [Rl,Yi]
   rw [Auk]
   refine Ajw (Yy t.Args (mnt d) (by omega) ?_ (fun h=>by simp only [h]; rfl) (fun _=>rfl) rfl) (fun i hi=>by rw [hi])
   intro j x hx h1 h2 h3
   have l:=Hu hx
   simp only [h1,h2,h3,cond_true,Ad,Uo,ih x k (by omega) (by omega) (by omega)]
  rw [O6,key,Auj]
  cases t.Kind==5 <;> cases t.Num==d <;> simp
end Go.Ab
namespace Go.Ab
open Go
theorem Akf (data:List Al) (v:Int) (l:List Ag):Dy data v l=l.all (Dc data v):=by
 induction l with
 | nil=>rfl
 | cons x xs ih=>simp only [Dy,ih,List.all_cons]
theorem Aum (data:List Al) (d:Nat) (v k n:Int) (len:Nat):(Ih (data.take (d+1)) v k n len && !(k==5&&n==(d:Int)))=Ih (data.take d) v k n len:=by
 by_cases hk:k=5
 .subst hk
  unfold Ih
  simp only [beq_self_eq_true,Bool.true_and,List.getElem?_take]
  by_cases b:n=d
  .subst b; simp
  .by_cases h0:0<=n
   .have e:(n==(d:Int))=false:=Co b
    rcases Nat.lt_or_ge n.toNat d with h | h
    .simp [h,e,show n.toNat<d+1 by omega]
    .simp [e,show ¬n.toNat<d by omega,show ¬n.toNat<d+1 by omega]
   .simp [h0]
 .have e:(k==(5:Int))=false:=Co hk
  simp only [e,Bool.false_and,Bool.not_false,Bool.and_true,Ih,hk,if_false]
mutual
theorem Akg (data:List Al) (d:Nat) (v:Int):∀t:Ag,(Dc (data.take (d+1)) v t && !mnt d t)=Dc (data.take d) v t
 | ⟨k,n,l⟩=>by
  have h1:=Akh data d v l
  have h2:=Aum data d v k n l.length
  simp only [Dc,mnt]
  rw [<-h1,<-h2]
  cases Ih (data.take (d+1)) v k n l.length <;> cases (k==5&&n==(d:Int)) <;> cases Dy (data.take (d+1)) v l <;> simp
theorem Akh (data:List Al) (d:Nat) (v:Int):∀l:List Ag,(Dy (data.take (d+1)) v l && !L5 d l)=Dy (data.take d) v l
 | []=>by simp [Dy,L5]
 | x::xs=>by
  have h1:=Akg data d v x
  have h2:=Akh data d v xs
  simp only [Dy,L5]
  rw [<-h1,<-h2]
  cases Dc (data.take (d+1)) v x <;> cases mnt d x <;> cases Dy (data.take (d+1)) v xs <;> simp
end
theorem Aki:∀l:List Ag,(∀a∈l,a.Args.length=0)->Ci l=l.length
 | [],_=>rfl
 | x::xs,h=>by
  have h1:=h x (by simp)
  simp only [Ci,List.length_cons]
  rw [Aki xs (fun a ha=>h a (by simp [ha])),Hk,List.length_eq_zero_iff.1 h1]
  simp only [Ci]; omega
theorem Adr {data:List Al} {d:Nat} {x:Al} (hx:data[d]? = some x) (hv:x.Vars<=6) {t:Ag} (h:Hm t d x.Vars=true):Dc (data.take (d+1)) x.Vars t=true/\Bg t<=200:=by
 unfold Hm at h
 simp only [Cl,beq_iff_eq] at h
 obtain ⟨⟨⟨h1,h2⟩,h3⟩,c⟩:=h
 have ha:∀a∈t.Args,∃i:Nat,i<t.Args.length/\a.Kind=4/\a.Num=i/\a.Args.length=0:=by
  intro a ha
  obtain ⟨i,hi⟩:=List.getElem?_of_mem ha
  have:=Gu c hi
  simp only [Nq,Cl,beq_iff_eq] at this
  exact ⟨i,Es hi,this.1.1,this.1.2,this.2⟩
 refine ⟨?_,?_⟩
 .rw [Va,Akf,Cl]
  constructor
  .rw [h1,h2]
   unfold Ih
   simp [hx,h3]
  .rw [List.all_eq_true]
   intro a b
   obtain ⟨i,i1,i2,i3,i4⟩:=ha a b
   rw [Va,i2,i3,i4,List.length_eq_zero_iff.1 i4]
   unfold Ih
   simp [Dy]; omega
 .rw [Hk,Aki _ (fun a h=>(ha a h).choose_spec.2.2.2)]
  omega
def Nr (data:List Al) (d:Nat) (v:Int) (t:Ag):Bool:=Hm t d v||(Dc (data.take d) v t&&decide (Bg t<=200))
theorem Aun {data:List Al} {d:Nat} {x:Al} (hx:data[d]? = some x) (hv:x.Vars<=6) (t:Ag):((Dc (data.take (d+1)) x.Vars t&&decide (Bg t<=200))&&(Hm t d x.Vars || !mnt d t))=Nr data d x.Vars t:=by
 unfold Nr
 cases h:Hm t d x.Vars with
 | true=>
  obtain ⟨h1,h2⟩:=Adr hx hv h
  rw [h1,Ap h2]; rfl
 | false=>
  rw [<-Akg data d x.Vars t]
  cases Dc (data.take (d+1)) x.Vars t <;> cases decide (Bg t<=200) <;> simp
def SzD (data:List Al):Prop:=∀x∈data,x.Cons.length<=1048576/\∀y∈x.Cons,Ci y.Args<=1048576
theorem SzD.short {data:List Al} (h:SzD data):Li data:=fun x hx y hy=>by
 have h1:=(h x hx).2 y hy
 have h2:=Jf y.Args
 refine ⟨by omega,fun a ha=>?_⟩
 have h3:=Hu ha
 have c:=Hk a
 have b:=Jf a.Args
 omega
theorem Auo {data:List Al} (g:SzD data) (d c:Nat) {x:Al} {y:L1} (hx:data[d]? = some x) (hy:x.Cons[c]? = some y) (hv:x.Vars<=6) (hd:data.length<=1048576) :
  M7 data d c=some (decide (y.Args.length<=6)&&y.Args.all (Nr data d x.Vars)):=by
 have b:=Es hx
 have l:=(g x (Bs hx)).2 y (Bs hy)
 unfold M7
 rw [B1 rfl hx,Ad,B1 rfl hy,Ad,Vf data d c g.short]
 by_cases k:y.Args.length<=6
 .rw [A1 (by omega:¬(y.Args.length:Int)>6),Ap k]
  simp only [cond_false,Bool.true_and,Ad]
  refine (U4 y.Args (Nr data d x.Vars) (fun j=>(j:Int)) rfl (by omega) (rt:=true) (rf:=false) ?_ ?_).trans (by rw [Yx])
  .intro j t ht h1 h2 h3
   have q:=Hu (Bs ht)
   have s:Af (C3 data d c) (j:Int)=some (Hm t d x.Vars):=by
    unfold C3
    simp only [B1 rfl hx,B1 rfl hy]
    rw [B1 rfl]
    simp [ht]
   simp only [h1,h2,h3,cond_true,Ad,show Ac ((d:Int)+1)=((d+1:Nat):Int) from C2 b (by omega),Ac6 rfl (show d+1<=data.length from b),B1 rfl hx,
    Vb (data.take (d+1)) t x.Vars (by omega),s]
   rw [<-Aun hx hv t]
   cases i:(Dc (data.take (d+1)) x.Vars t&&decide (Bg t<=200)) with
   | false=>exact ⟨(fun h=>by cases h),fun _=>⟨.inl false,rfl,rfl⟩⟩
   | true=>
    have f:Bg t<=200:=by simp only [Cl,decide_eq_true_eq] at i; exact i.2
    simp only [bnt,cond_false,Bool.true_and]
    cases u:Hm t d x.Vars with
    | true=>exact ⟨fun _=>rfl,fun h=>by cases h⟩
    | false=>
     simp only [Bool.not_false,cond_true,Aul d 200 t 4000000 f (by omega) (by omega),Ad,Bool.false_or]
     cases mnt d t with
     | true=>exact ⟨(fun h=>by cases h),fun _=>⟨.inl false,rfl,rfl⟩⟩
     | false=>exact ⟨fun _=>rfl,fun h=>by cases h⟩
  .intro h
   exact ⟨.inr (),by simp only [h]; rfl,rfl⟩
 .rw [Ap (by omega:(y.Args.length:Int)>6),A1 k]; rfl
end Go.Ab
namespace Go.Ab
open Go
def bI (s:ByteArray) (i:Nat):Int:=if h:i<s.size then (s[i].toNat:Int) else 0
def loI (c:Int):Bool:=decide (97<=c)&&decide (c<=122)
def upI (c:Int):Bool:=decide (65<=c)&&decide (c<=90)
def diI (c:Int):Bool:=decide (48<=c)&&decide (c<=57)
def wiI (c:Int):Bool:=loI c||upI c||diI c||c==95
def Gv (s:ByteArray):Prop:=1<=s.size/\s.size<=24/\upI (bI s 0)=true/\∀i,i<s.size->wiI (bI s i)=true
theorem L6 {s:ByteArray} {i:Int} {n:Nat} (hi:i=n) (h:n<s.size):∃c:UInt8,H8 s i=some c/\(c.toNat:Int)=bI s n:=by
 subst hi
 refine ⟨s[n],?_,?_⟩
 .unfold H8
  rw [if_pos (by omega),show ((n:Int)).toNat=n from rfl]
  simp [h]
 .unfold bI; simp [h]
theorem Vg {s:ByteArray} {a b j:Nat} (hb:b<=s.size) (h:a+j<b):bI (s.extract a b) j=bI s (a+j):=by
 unfold bI
 have h1:j<(s.extract a b).size:=by rw [ByteArray.size_extract]; omega
 rw [dif_pos h1,dif_pos (by omega),ByteArray.getElem_extract]
theorem Vh {s:ByteArray} {lo hi:Int} {a b:Nat} (h1:lo=a) (h2:hi=b) (h3:a<=b) (c:b<=s.size):Eo s lo hi=some (s.extract a b):=by
 subst h1; subst h2; unfold Eo; rw [if_pos (by omega)]; rfl
theorem Akj {a b:ByteArray} (h:a.toList=b.toList):a=b:=by
 rw [ByteArray.toList_eq,ByteArray.toList_eq] at h
 have:a.data=b.data:=Array.toList_inj.1 h
 cases a; cases b; simp at this; subst this; rfl
theorem Akk (a b:ByteArray):(a.toList==b.toList)=decide (a=b):=by
 by_cases h:a=b
 .subst h; simp
 .rw [A1 h]
  cases hb:(a.toList==b.toList) with
  | false=>rfl
  | true=>exact absurd (Akj (by simpa using hb)) h
theorem Akl (c:Int):Rj c=some (loI c):=by unfold Rj loI; by_cases h:(97:Int)<=c <;> simp [h]
theorem Akm (c:Int):Pd c=some (upI c):=by unfold Pd upI; by_cases h:(65:Int)<=c <;> simp [h]
theorem Zd (c:Int):Nd c=some (diI c):=by unfold Nd diI; by_cases h:(48:Int)<=c <;> simp [h]
theorem Akn (c:Int):Rk c=some (wiI c):=by
 unfold Rk wiI
 rw [Akl,Akm,Zd]
 simp only [Ad]
 cases loI c <;> cases upI c <;> cases diI c <;> rfl
theorem Ads {S E:Type} {step:S->Option (S⊕E)} (s:ByteArray) (p:Int->Bool) (b:Nat->S) (f:Nat->E) (lo:Nat)
  (h1:∀j,lo<=j->j<s.size->p (bI s j)=true->step (b j)=some (.inl (b (j+1)))) (h2:∀j,lo<=j->j<s.size->p (bI s j)=false->step (b j)=some (.inr (f j))) (h3:step (b s.size)=some (.inr (f s.size))) :
  ∀(m i:Nat),lo<=i->i+m=s.size->∃n,i<=n/\n<=s.size/\(∀j,i<=j->j<n->p (bI s j)=true)/\(n<s.size->p (bI s n)=false)/\Aj step (b i)=some (f n):=by
 intro m
 induction m with
 | zero=>
  intro i _ hi
  have:i=s.size:=by omega
  subst this
  exact ⟨s.size,by omega,by omega,fun j _ _=>by omega,fun h=>by omega,Gg h3⟩
 | succ m ih=>
  intro i c hi
  cases hp:p (bI s i) with
  | true=>
   obtain ⟨n,a1,a2,a3,a4,a5⟩:=ih (i+1) (by omega) (by omega)
   refine ⟨n,by omega,a2,fun j b1 b2=>?_,a4,by rw [Lp (h1 i c (by omega) hp)]; exact a5⟩
   rcases Nat.lt_or_ge i j with h | h
   .exact a3 j h b2
   .have:j=i:=by omega
    subst this; exact hp
  | false=>exact ⟨i,by omega,by omega,fun j _ _=>by omega,fun _=>hp,Gg (h2 i c (by omega) hp)⟩
theorem Aup (s:ByteArray) (k:s.size<1099511627776):∃n,n<=s.size/\(∀j,j<n->wiI (bI s j)=true)/\(n<s.size->wiI (bI s n)=false)/\Up s=some (s.extract 0 n):=by
 have H:=Ads (step:=fun v3:Int=>bif (decide (v3<(s.size:Int))) then ((H8 s v3).bind fun h=>(Rk (h.toNat:Int)).bind fun v5=>bif v5 then some (.inl (Ac (v3+1))) else some (.inr v3)) else some (.inr v3))
  s wiI (fun j=>(j:Int)) (fun j=>(j:Int)) 0 (fun j _ hj hp=>by
   obtain ⟨c,g,f⟩:=L6 (s:=s) (i:=(j:Int)) rfl hj
   simp only [Ap (by omega:(j:Int)<(s.size:Int)),cond_true,g,Ad,f,Akn,hp,C2 hj (by omega)]) (fun j _ hj hp=>by
   obtain ⟨c,g,f⟩:=L6 (s:=s) (i:=(j:Int)) rfl hj
   simp only [Ap (by omega:(j:Int)<(s.size:Int)),cond_true,g,Ad,f,Akn,hp,cond_false]) (by simp) s.size 0 (by omega) (by omega)
 obtain ⟨n,_,a2,a3,a4,a5⟩:=H
 refine ⟨n,a2,fun j hj=>a3 j (by omega) hj,a4,?_⟩
 unfold Up
 have a5:Aj _ (0:Int)=some (n:Int):=a5
 rw [a5,Ad,Vh (lo:=0) (a:=0) (b:=n) rfl rfl (by omega) a2]; rfl
theorem Auq (s:ByteArray) (k:s.size<1099511627776):∃n,n<=s.size/\(∀j,j<n->diI (bI s j)=true)/\(n<s.size->diI (bI s n)=false)/\Yh s=some (s.extract 0 n):=by
 have H:=Ads (step:=fun v3:Int=>bif (decide (v3<(s.size:Int))) then ((H8 s v3).bind fun h=>(Nd (h.toNat:Int)).bind fun v5=>bif v5 then some (.inl (Ac (v3+1))) else some (.inr v3)) else some (.inr v3))
  s diI (fun j=>(j:Int)) (fun j=>(j:Int)) 0 (fun j _ hj hp=>by
   obtain ⟨c,g,f⟩:=L6 (s:=s) (i:=(j:Int)) rfl hj
   simp only [Ap (by omega:(j:Int)<(s.size:Int)),cond_true,g,Ad,f,Zd,hp,C2 hj (by omega)]) (fun j _ hj hp=>by
   obtain ⟨c,g,f⟩:=L6 (s:=s) (i:=(j:Int)) rfl hj
   simp only [Ap (by omega:(j:Int)<(s.size:Int)),cond_true,g,Ad,f,Zd,hp,cond_false]) (by simp) s.size 0 (by omega) (by omega)
 obtain ⟨n,_,a2,a3,a4,a5⟩:=H
 refine ⟨n,a2,fun j hj=>a3 j (by omega) hj,a4,?_⟩
 unfold Yh
 have a5:Aj _ (0:Int)=some (n:Int):=a5
 rw [a5,Ad,Vh (lo:=0) (a:=0) (b:=n) rfl rfl (by omega) a2]; rfl
theorem Lj {R:Type} {c:Bool} {X Y:Option R} {Q:R->Prop} (h1:∃r,X=some r/\Q r) (h2:∃r,Y=some r/\Q r):∃r,(bif c then X else Y)=some r/\Q r:=by cases c <;> assumption
theorem Adt {A R:Type} {X:Option A} {f:A->Option R} {Q:R->Prop} (P:A->Prop) (h1:∃a,X=some a/\P a) (h2:∀a,P a->∃r,f a=some r/\Q r):∃r,X.bind f=some r/\Q r:=by
 obtain ⟨a,e,h⟩:=h1
 rw [e]; exact h2 a h
theorem Aur (s:ByteArray):∃b,Uq s=some b/\True:=by
 unfold Uq
 repeat' first | refine Lj ?_ ?_ | exact ⟨_,rfl,trivial⟩
theorem Aus (s:ByteArray) (h1:1<=s.size):∃r,Us s=some r/\(r.size<=s.size):=by
 have g:Eo s 0 1=some (s.extract 0 1):=Vh rfl rfl (by omega) h1
 have c:(s.extract 0 1).size<=s.size:=by rw [ByteArray.size_extract]; omega
 unfold Us
 refine Adt (fun z=>∀r,z = .inl r->r.size<=s.size) ?_ ?_
 .by_cases h2:2<=s.size
  .have f:Eo s 0 2=some (s.extract 0 2):=Vh rfl rfl (by omega) h2
   have b:∀r,(Sum.inl (s.extract 0 2):ByteArray⊕Unit) = .inl r->r.size<=s.size:=by rintro r ⟨⟩; rw [ByteArray.size_extract]; omega
   simp only [f,Ad]
   repeat' first | refine Lj ?_ ?_ | with_reducible exact ⟨_,rfl,b⟩ | exact ⟨_,rfl,fun r h=>by cases h⟩
  .rw [A1 (by omega)]
   exact ⟨_,rfl,fun r h=>by cases h⟩
 .rintro (r | u) i
  .exact ⟨_,rfl,i r rfl⟩
  .simp only [g,Ad]
   have h0:(ByteArray.mk #[]).size<=s.size:=Nat.zero_le _
   repeat' first | refine Lj ?_ ?_ | with_reducible exact ⟨_,rfl,c⟩ | with_reducible exact ⟨_,rfl,h0⟩
theorem Aut (s:ByteArray) (g:s.size<1099511627776):∃b,Ur s=some b/\True:=by
 unfold Ur
 refine Db (fun (_,i)=>∃j:Nat,i=j/\j<=s.size) (fun (_,i)=>s.size-i.toNat) (fun _=>True) ⟨0,rfl,by omega⟩ ?_ ?_
 .rintro ⟨v,i⟩ ⟨j,rfl,hj⟩
  rcases Nat.lt_or_ge j s.size with h | h
  .obtain ⟨c,f,_⟩:=L6 (s:=s) (i:=(j:Int)) rfl h
   simp only [Ap (by omega:(j:Int)<(s.size:Int)),cond_true,f,Ad,C2 h (by omega)]
   cases decide (Ac (Ac (v*10)+Ac (wu8 ((c.toNat:Int)-48)))>1000000) with
   | true=>exact .inr ⟨_,rfl,trivial⟩
   | false=>exact .inl ⟨_,rfl,⟨j+1,rfl,by omega⟩,by simp; omega⟩
  .have:j=s.size:=by omega
   subst this
   exact .inr ⟨.inr (),by simp,trivial⟩
 .rintro (r | u) _ <;> exact ⟨_,rfl,trivial⟩
theorem Auu (s:ByteArray) (i:Nat) (hi:i<s.size) (S:s.size<1099511627776) :
  ∃r,Un s i=some r/\(r.2=0->1<=r.1.Text.size/\i+r.1.Text.size<=s.size/\(r.1.Kind=2->Gv r.1.Text))/\(Gv s->i=0->r=(⟨2,s,0⟩,0)):=by
 obtain ⟨c,N,M⟩:=L6 (s:=s) (i:=(i:Int)) rfl hi
 have x:Eo s (i:Int) (s.size:Int)=some (s.extract i s.size):=Vh rfl rfl (by omega) (by omega)
 have J:(s.extract i s.size).size=s.size-i:=by rw [ByteArray.size_extract]; omega
 have y:bI (s.extract i s.size) 0=bI s i:=Vg (by omega) (by omega)
 unfold Un
 simp only [N,Ad,M,Akl,Akm,Zd,x]
 have hw:(bif loI (bI s i) then some true else some (upI (bI s i)))=some (loI (bI s i)||upI (bI s i)):=by cases loI (bI s i) <;> rfl
 rw [hw]
 simp only [Ad]
 cases l:(loI (bI s i)||upI (bI s i)) with
 | true=>
  obtain ⟨n,I,E,z,q⟩:=Aup (s.extract i s.size) (by omega)
  have B:1<=n:=by
   rcases Nat.eq_zero_or_pos n with h | h
   .subst h
    have:=z (by omega)
    rw [y] at this
    unfold wiI at this
    rw [l] at this; cases this
   .exact h
  have hx:(s.extract i s.size).extract 0 n=s.extract i (i+n):=by rw [ByteArray.extract_extract]; congr 1; omega
  have u:(s.extract i (i+n)).size=n:=by rw [ByteArray.size_extract]; omega
  rw [hx] at q
  simp only [cond_true,q,Ad,u]
  have g:Gv s->i=0->n=s.size:=by
   intro hu h0
   rcases Nat.lt_or_ge n s.size with h | h
   .have:=z (by omega)
    rw [Vg (by omega) (by omega),hu.2.2.2 _ (by omega)] at this; cases this
   .omega
  by_cases L:n<=24
  .rw [A1 (by omega)]
   cases k:upI (bI s i) with
   | true=>
    refine ⟨_,rfl,fun _=>⟨?_,?_,fun _=>⟨?_,?_,?_,?_⟩⟩,?_⟩
    .show 1<=(s.extract i (i+n)).size; omega
    .show i+(s.extract i (i+n)).size<=s.size; omega
    .show 1<=(s.extract i (i+n)).size; omega
    .show (s.extract i (i+n)).size<=24; omega
    .show upI (bI (s.extract i (i+n)) 0)=true
     rw [Vg (by omega) (by omega)]; exact k
    .show ∀j,j<(s.extract i (i+n)).size->wiI (bI (s.extract i (i+n)) j)=true
     intro j hj
     rw [Vg (by omega) (by omega)]
     have:=E j (by omega)
     rw [Vg (by omega) (by omega)] at this; exact this
    .intro hu h0
     have:=g hu h0
     subst h0; subst this
     rw [Nat.zero_add,ByteArray.extract_zero_size]; rfl
   | false=>
    obtain ⟨b,hb,_⟩:=Aur (s.extract i (i+n))
    simp only [cond_false,hb,Ad]
    have f:Gv s->i=0->False:=by
     intro hu h0
     subst h0
     rw [hu.2.2.1] at k; cases k
    cases b with
    | true=>exact ⟨_,rfl,fun _=>⟨by show 1<=(s.extract i (i+n)).size; omega,by show i+(s.extract i (i+n)).size<=s.size; omega,fun h=>by cases h⟩,fun hu h0=>(f hu h0).elim⟩
    | false=>exact ⟨_,rfl,fun _=>⟨by show 1<=(s.extract i (i+n)).size; omega,by show i+(s.extract i (i+n)).size<=s.size; omega,fun h=>by cases h⟩,fun hu h0=>(f hu h0).elim⟩
  .rw [Ap (by omega)]
   refine ⟨_,rfl,(fun h=>by cases h),fun hu h0=>?_⟩
   have:=g hu h0
   have:=hu.2.1
   omega
 | false=>
  have f:Gv s->i=0->False:=by
   intro hu h0
   subst h0
   rw [hu.2.2.1,Bool.or_true] at l; cases l
  simp only [cond_false]
  cases hd:diI (bI s i) with
  | true=>
   obtain ⟨n,I,E,z,q⟩:=Auq (s.extract i s.size) (by omega)
   have B:1<=n:=by
    rcases Nat.eq_zero_or_pos n with h | h
    .subst h
     have:=z (by omega)
     rw [y,hd] at this; cases this
    .exact h
   have hx:(s.extract i s.size).extract 0 n=s.extract i (i+n):=by rw [ByteArray.extract_extract]; congr 1; omega
   have u:(s.extract i (i+n)).size=n:=by rw [ByteArray.size_extract]; omega
   rw [hx] at q
   obtain ⟨b,hb,_⟩:=Aut (s.extract i (i+n)) (by omega)
   simp only [cond_true,q,Ad,hb]
   refine Adt (fun _=>True) ?_ ?_
   .exact Lj ⟨_,rfl,trivial⟩ ⟨_,rfl,trivial⟩
   .intro v _
    refine Lj ⟨_,rfl,(fun h=>by cases h),fun hu h0=>(f hu h0).elim⟩ (Lj ⟨_,rfl,(fun h=>by cases h),fun hu h0=>(f hu h0).elim⟩ ⟨_,rfl,fun _=>⟨?_,?_,fun h=>by cases h⟩,fun hu h0=>(f hu h0).elim⟩)
    .show 1<=(s.extract i (i+n)).size; omega
    .show i+(s.extract i (i+n)).size<=s.size; omega
  | false=>
   obtain ⟨r,G,R⟩:=Aus (s.extract i s.size) (by omega)
   simp only [cond_false,G,Ad]
   rw [Akk]
   by_cases A:r=ByteArray.mk #[]
   .rw [Ap A]
    exact ⟨_,rfl,(fun h=>by cases h),fun hu h0=>(f hu h0).elim⟩
   .rw [A1 A]
    refine ⟨_,rfl,fun _=>⟨?_,?_,fun h=>by cases h⟩,fun hu h0=>(f hu h0).elim⟩
    .show 1<=r.size
     rcases Nat.eq_zero_or_pos r.size with h | h
     .have D:r.data.toList.length=0:=by simpa using h
      exact absurd (Akj (by rw [ByteArray.toList_eq,List.length_eq_zero_iff.1 D,ByteArray.toList_eq])) A
     .exact h
    .show i+r.size<=s.size; omega
theorem Auv (c:Int):Um c=some (c==9||c==10||c==13||c==32):=by
 unfold Um
 cases c==9 <;> cases c==10 <;> cases c==13 <;> rfl
theorem Ako (s:ByteArray) (V:s.size<1099511627776):∃b,O1 s=some b/\(b=true↔Gv s):=by
 unfold O1 Yc
 by_cases q:(s.size:Int)>16384
 .rw [Ap q]
  refine ⟨false,rfl,by simp; rintro ⟨_,h,_⟩; omega⟩
 rw [A1 q]
 simp only [cond_false]
 refine Adt (fun r:List Hh×Int×Int=>(r.2.2≠0/\¬Gv s)\/(r.2.2=0/\∃o e,r.1=o++[e]/\(∀t∈o,t.Kind=2->Gv t.Text)/\(Gv s->o = [⟨2,s,0⟩]))) ?_ ?_
 .refine Db (fun (v26,f)=>∃i:Nat,v26=i/\i<=s.size/\f.length<=i/\(∀t∈f,t.Kind=2->Gv t.Text)/\(Gv s->(i=0/\f = [])\/(i=s.size/\f = [⟨2,s,0⟩])))
   (fun (v26,_)=>s.size-v26.toNat)
   (fun z=>match z with | .inl o=>o.length<=16384/\(∀t∈o,t.Kind=2->Gv t.Text)/\(Gv s->o = [⟨2,s,0⟩]) | .inr (_,_,e)=>e≠0/\¬Gv s)
   ⟨0,rfl,by omega,by simp,by simp,fun _=>.inl ⟨rfl,rfl⟩⟩ ?_ ?_
  .rintro ⟨v,o⟩ ⟨i,rfl,hi,ho,hk,hu⟩
   rcases Nat.lt_or_ge i s.size with h | h
   .obtain ⟨c,G,E⟩:=L6 (s:=s) (i:=(i:Int)) rfl h
    have g:Gv s->i=0/\o = []:=fun u=>by
     rcases hu u with h' | h'
     .exact h'
     .omega
    simp only [Ap (by omega:(i:Int)<(s.size:Int)),cond_true,G,Ad,E,Auv]
    cases J:(bI s i==9||bI s i==10||bI s i==13||bI s i==32) with
    | true=>
     have k:¬Gv s:=by
      intro u
      have h0:=(g u).1
      subst h0
      have:=u.2.2.1
      simp only [upI,Cl,decide_eq_true_eq] at this
      simp only [Bool.or_eq_true,beq_iff_eq] at J
      omega
     exact .inl ⟨(((i+1:Nat):Int),o),by simp only [cond_true]; rw [C2 h (by omega)],⟨i+1,rfl,by omega,(by show o.length<=i+1; omega),hk,fun u=>(k u).elim⟩,by simp; omega⟩
    | false=>
     simp only [cond_false]
     cases B:(bI s i==35) with
     | true=>
      have k:¬Gv s:=by
       intro u
       have h0:=(g u).1
       subst h0
       have:=u.2.2.1
       simp only [upI,Cl,decide_eq_true_eq] at this
       simp only [beq_iff_eq] at B
       omega
      simp only [cond_true]
      obtain ⟨n,n1,n2,n3,U,I⟩:=Ads (step:=fun v32:Int=>bif (decide (v32<(s.size:Int))) then ((H8 s v32).bind fun L=>bif ((L.toNat:Int)==(10:Int)) then some (.inr (.inl v32)) else some (.inl (Ac (v32+1)))) else some (.inr (.inr v32)))
       s (fun c=>!(c==10)) (fun j=>(j:Int)) (fun j=>if j<s.size then Sum.inl (j:Int) else Sum.inr (j:Int)) 0 (fun j _ hj hp=>by
        obtain ⟨c,G,E⟩:=L6 (s:=s) (i:=(j:Int)) rfl hj
        simp only [Bool.not_eq_true'] at hp
        simp only [Ap (by omega:(j:Int)<(s.size:Int)),cond_true,G,Ad,E,hp,C2 hj (by omega),cond_false]) (fun j _ hj hp=>by
        obtain ⟨c,G,E⟩:=L6 (s:=s) (i:=(j:Int)) rfl hj
        simp only [Bool.not_eq_false'] at hp
        simp only [Ap (by omega:(j:Int)<(s.size:Int)),cond_true,G,Ad,E,hp,if_pos hj]) (by simp) (s.size-i) i (by omega) (by omega)
      have X:i<n:=by
       rcases Nat.lt_or_ge i n with h' | h'
       .exact h'
       .have:n=i:=by omega
        subst this
        have:=U h
        simp only [beq_iff_eq] at B
        rw [B] at this; cases this
      have I:Aj _ (i:Int)=_:=I
      rw [I,Ad]
      rcases Nat.lt_or_ge n s.size with h' | h'
      .rw [if_pos h']
       exact .inl ⟨((n:Int),o),rfl,⟨n,rfl,by omega,(by show o.length<=n; omega),hk,fun u=>(k u).elim⟩,by simp; omega⟩
      .rw [if_neg (by omega)]
       exact .inr ⟨.inl o,rfl,by omega,hk,fun u=>(k u).elim⟩
     | false=>
      obtain ⟨r,S,R,M⟩:=Auu s i h V
      simp only [cond_false,S,Ad]
      by_cases D:r.2=0
      .obtain ⟨a1,a2,a3⟩:=R D
       simp only [Fd D,cond_false]
       rw [D2 (by simp; omega),Ad]
       refine .inl ⟨(((i+r.1.Text.size:Nat):Int),o++[r.1]),?_,⟨i+r.1.Text.size,rfl,a2,by simp; omega,?_,?_⟩,by simp; omega⟩
       .rw [show Ac ((i:Int)+(r.1.Text.size:Int))=((i+r.1.Text.size:Nat):Int) by rw [Ac,B3] <;> omega]
       .intro t ht
        rcases List.mem_append.1 ht with h' | h'
        .exact hk t h'
        .simp at h'; subst h'; exact a3
       .intro u
        obtain ⟨b1,b2⟩:=g u
        have:=M u b1
        subst b1; subst b2; subst this
        exact .inr ⟨by simp,rfl⟩
      .simp only [Ec D,cond_true]
       refine .inr ⟨_,rfl,D,fun u=>?_⟩
       rw [M u (g u).1] at D
       exact D rfl
   .have:i=s.size:=by omega
    subst this
    refine .inr ⟨.inl o,by simp,by omega,hk,fun u=>?_⟩
    rcases hu u with ⟨h',_⟩ | ⟨_,h'⟩
    .have:=u.1; omega
    .exact h'
  .rintro (o | ⟨l,p,e⟩) N
   .obtain ⟨z1,z2,z3⟩:=N
    simp only
    rw [D2 (by simp; omega),Ad]
    exact ⟨_,rfl,.inr ⟨rfl,o,_,rfl,z2,z3⟩⟩
   .exact ⟨_,rfl,.inl N⟩
 .rintro ⟨l,p,e⟩ (⟨h1,h2⟩ | ⟨h1,o,t,h2,h3,A⟩)
  .simp only at h1
   simp only [Co h1,cond_false]
   exact ⟨_,rfl,by simp [h2]⟩
  .simp only at h1 h2
   subst h1; subst h2
   simp only [beq_self_eq_true,cond_true]
   match o,h3,A with
   | [],_,A=>exact ⟨false,by simp,by simp; intro u; cases A u⟩
   | [x],h3,A=>
    have Z:Af ([x]++[t]) 0=some x:=rfl
    simp only [Z,Ad,Akk]
    have Y:((([x]++[t]).length:Int)==2)=true:=rfl
    simp only [Y,cond_true]
    by_cases hx:x.Kind=2
    .simp only [Dw hx,cond_true]
     refine ⟨_,rfl,?_⟩
     rw [decide_eq_true_iff]
     constructor
     .intro h; rw [<-h]; exact h3 x (by simp) hx
     .intro u; have:=A u; simp at this; rw [this]
    .simp only [Co hx,cond_false]
     refine ⟨_,rfl,?_⟩
     simp only [Bool.false_eq_true,false_iff]
     intro u; have:=A u; simp at this; rw [this] at hx; exact hx rfl
   | x::y::ys,_,A=>
    refine ⟨false,?_,by simp; intro u; have:=A u; simp at this⟩
    rw [Co]
    .rfl
    .simp; omega
end Go.Ab
namespace Go.Ab
open Go
end Go.Ab
namespace Go.Ab
open Go
def Ze (data:List Al) (d:Nat) (v:Int) (y:L1):Prop:=Gv y.Name/\y.Args.length<=6/\y.Args.all (Nr data d v)=true
def Adu (data:List Al) (d:Nat) (x:Al):Prop:=0<=x.Vars/\x.Vars<=6/\1<=x.Cons.length/\x.Cons.length<=8/\Gv x.Name/\∀y∈x.Cons,Ze data d x.Vars y
def Hv (x:Al):List ByteArray:=x.Cons.map (·.Name)
def Hw (data:List Al):Prop:=data.length<=12/\(∀d x,data[d]? = some x->Adu data d x)/\(data.map (·.Name)).Nodup/\(data.flatMap Hv).Nodup
structure DSz (data:List Al):Prop where
 len:data.length<=1048576
 sz:SzD data
 nm:∀x∈data,x.Name.size<=1048576
 cn:∀x∈data,∀y∈x.Cons,y.Name.size<=1048576
theorem Pm (a b:ByteArray):(a==b)=true↔a=b:=by
 constructor
 .intro h
  cases a with | mk a=>cases b with | mk b=>
  have:a=b:=by exact eq_of_beq h
  rw [this]
 .rintro rfl
  cases a with | mk a=>exact beq_self_eq_true a
def I0 (o:List (ByteArray×Bool)) (L:List ByteArray):Prop:=(∀p∈o,p.2=true)/\∀s,Ea o s=true↔s∈L
theorem I0.nil:I0 [] []:=⟨by simp,by simp [Ea]⟩
theorem I0.get {o:List (ByteArray×Bool)} {L:List ByteArray} (h:I0 o L) {s:ByteArray} (b:Ea o s=true):Hf o s false=true:=by
 unfold Hf
 unfold Ea at b
 rw [List.any_eq_true] at b
 obtain ⟨p,g,f⟩:=b
 cases c:o.find? (fun p=>s==p.1) with
 | none=>exact absurd f (by have:=List.find?_eq_none.1 c p g; simpa using this)
 | some q=>exact h.1 q (List.mem_of_find?_eq_some c)
theorem Auw (o:List (ByteArray×Bool)) (s t:ByteArray) (v:Bool):Ea (Ep o s v) t=(Ea o t||t==s):=by
 induction o with
 | nil=>simp [Ep,Ea]
 | cons p o ih=>
  unfold Ep
  cases hp:(s==p.1) with
  | true=>
   have:s=p.1:=(Pm _ _).1 hp
   subst this
   simp only [cond_true,Ea,List.any_cons]
   cases t==p.1 <;> simp
  | false=>
   simp only [Ea,List.any_cons] at ih ⊢
   simp only [cond_false,List.any_cons,ih,Bool.or_assoc]
theorem I0.put {o:List (ByteArray×Bool)} {L:List ByteArray} (h:I0 o L) (s:ByteArray):I0 (Ep o s true) (L++[s]):=by
 refine ⟨?_,fun t=>?_⟩
 .have:∀o:List (ByteArray×Bool),(∀p∈o,p.2=true)->∀p∈Ep o s true,p.2=true:=by
   intro o
   induction o with
   | nil=>intro _ p hp; simp [Ep] at hp; rw [hp]
   | cons q o ih=>
    intro b p hp
    unfold Ep at hp
    cases hq:(s==q.1) with
    | true=>
     rw [hq] at hp
     simp only [cond_true,List.mem_cons] at hp
     rcases hp with rfl | hp
     .rfl
     .exact b p (by simp [hp])
    | false=>
     rw [hq] at hp
     simp only [cond_false,List.mem_cons] at hp
     rcases hp with rfl | hp
     .exact b _ (by simp)
     .exact ih (fun p hp=>b p (by simp [hp])) p hp
  exact this o h.1
 .rw [Auw,Bool.or_eq_true,h.2 t,Pm]; simp
theorem Aux (x:Al) {c:Nat} {y:L1} (hy:x.Cons[c]? = some y):Hv x=(x.Cons.take c).map (·.Name)++y.Name::(x.Cons.drop (c+1)).map (·.Name):=by
 have h:=List.take_append_drop c x.Cons
 have hc:=Es hy
 have e:x.Cons.drop c=y::x.Cons.drop (c+1):=by
  rw [List.drop_eq_getElem_cons hc]
  rw [Bw hc] at hy
  rw [Option.some.inj hy]
 unfold Hv
 conv=>lhs; rw [<-h,e]
 simp
theorem Akp {L m:List ByteArray} {s:ByteArray} (h:(L++s::m).Nodup):s ∉ L:=by
 rw [List.nodup_append] at h
 intro b
 exact h.2.2 s b s (by simp) rfl
theorem Akq {L:List ByteArray} {s:ByteArray} (h:L.Nodup) (c:s ∉ L):(L++[s]).Nodup:=by
 rw [List.nodup_append]
 refine ⟨h,by simp,?_⟩
 intro a ha b hb
 simp at hb; subst hb
 intro e; subst e; exact c ha
theorem Auy {data:List Al} (q:DSz data) {d:Nat} {x:Al} (hx:data[d]? = some x) (hv:x.Vars<=6) (o:List (ByteArray×Bool)) (L:List ByteArray) (G:I0 o L) (J:L.Nodup) :
  ∃z,Aj (S:=(Int×(List (ByteArray×Bool)))) (E:=(Bool⊕(Int×(List (ByteArray×Bool))))) (fun (f,g)=>
    bif (decide (f<(x.Cons.length:Int))) then (
    (Af x.Cons f).bind fun v54=>
    (O1 v54.Name).bind fun u=>
    bif (!u) then some (.inr (.inl false))
    else (
    bif (Ea g v54.Name) then (
    bif (Hf g v54.Name (false:Bool)) then some (.inr (.inl false))
    else (
    (M7 data d f).bind fun s=>
    bif (!s) then some (.inr (.inl false))
    else some (.inl ((Ac (f+1)),(Ep g v54.Name true)))))
    else (
    (M7 data d f).bind fun v58=>
    bif (!v58) then some (.inr (.inl false))
    else some (.inl ((Ac (f+1)),(Ep g v54.Name true))))))
    else some (.inr (.inr (f,g)))) (0,o)=some z /\
   match z with
   | .inl r=>r=false/\¬((∀y∈x.Cons,Ze data d x.Vars y)/\(L++Hv x).Nodup)
   | .inr (_,o')=>(∀y∈x.Cons,Ze data d x.Vars y)/\(L++Hv x).Nodup/\I0 o' (L++Hv x):=by
 have hxm:=Bs hx
 have I:=(q.sz x hxm).1
 refine Abo (fun (f,g)=>∃c:Nat,f=c/\c<=x.Cons.length/\(∀y∈x.Cons.take c,Ze data d x.Vars y)/\(L++(x.Cons.take c).map (·.Name)).Nodup/\I0 g (L++(x.Cons.take c).map (·.Name)))
  (fun (f,_)=>x.Cons.length-f.toNat) _ ?_ _ ⟨0,rfl,by omega,by simp,by simpa using J,by simpa using G⟩
 rintro ⟨v,g⟩ ⟨c,rfl,hc,h1,h2,h3⟩
 rcases Nat.lt_or_ge c x.Cons.length with h | h
 .have hy:x.Cons[c]? = some x.Cons[c]:=Bw h
  generalize x.Cons[c]=y at hy
  have k:=Bs hy
  obtain ⟨b,b1,b2⟩:=Ako y.Name (by have:=q.cn x hxm y k; omega)
  have ht:=C7 hy
  have B:L++Hv x=(L++(x.Cons.take c).map (·.Name))++y.Name::(x.Cons.drop (c+1)).map (·.Name):=by rw [Aux x hy]; simp
  simp only [Ap (by omega:(c:Int)<(x.Cons.length:Int)),cond_true,B1 rfl hy,Ad,b1,Auo q.sz d c hx hy hv q.len,C2 h (by omega)]
  cases b with
  | false=>
   refine .inr ⟨.inl false,rfl,rfl,fun hh=>?_⟩
   have:=b2.2 (hh.1 y k).1; cases this
  | true=>
   simp only [bnt,cond_false]
   cases j:Ea g y.Name with
   | true=>
    simp only [cond_true,h3.get j]
    refine .inr ⟨.inl false,rfl,rfl,fun hh=>?_⟩
    rw [B] at hh
    exact Akp hh.2 ((h3.2 _).1 j)
   | false=>
    simp only [cond_false]
    cases i:(decide (y.Args.length<=6)&&y.Args.all (Nr data d x.Vars)) with
    | false=>
     refine .inr ⟨.inl false,rfl,rfl,fun hh=>?_⟩
     have:=hh.1 y k
     rw [this.2.2,Ap this.2.1] at i; cases i
    | true=>
     simp only [Cl,decide_eq_true_eq] at i
     have A:y.Name ∉ L++(x.Cons.take c).map (·.Name):=fun hh=>by rw [(h3.2 _).2 hh] at j; cases j
     have e:L++(x.Cons.take (c+1)).map (·.Name)=(L++(x.Cons.take c).map (·.Name))++[y.Name]:=by rw [ht]; simp
     refine .inl ⟨_,rfl,⟨c+1,rfl,by omega,?_,?_,?_⟩,by simp; omega⟩
     .intro D l
      rw [ht] at l
      rcases List.mem_append.1 l with h' | h'
      .exact h1 D h'
      .simp at h'; subst h'; exact ⟨b2.1 rfl,i.1,i.2⟩
     .rw [e]; exact Akq h2 A
     .rw [e]; exact h3.put _
 .have:c=x.Cons.length:=by omega
  subst this
  rw [List.take_length] at h1 h2 h3
  exact .inr ⟨.inr ((x.Cons.length:Int),g),by simp,h1,h2,h3⟩
theorem Auz {data:List Al} {d:Nat} {x:Al} (hx:data[d]? = some x):data.flatMap Hv=((data.take d).flatMap Hv++Hv x)++(data.drop (d+1)).flatMap Hv/\data.map (·.Name)=(data.take d).map (·.Name)++x.Name::(data.drop (d+1)).map (·.Name):=by
 have h:=List.take_append_drop d data
 have hc:=Es hx
 have e:data.drop d=x::data.drop (d+1):=by
  rw [List.drop_eq_getElem_cons hc]
  rw [Bw hc] at hx
  rw [Option.some.inj hx]
 constructor
 .conv=>lhs; rw [<-h,e]
  simp [List.flatMap_append]
 .conv=>lhs; rw [<-h,e]
  simp
theorem Au0 {data:List Al} (i:DSz data):∃b,Tz data=some b/\(b=true↔Hw data):=by
 have E:=i.len
 unfold Tz
 rcases Nat.lt_or_ge 12 data.length with h12 | h12
 .rw [Ap (by omega)]
  exact ⟨false,rfl,by simp; intro h; have:=h.1; omega⟩
 rw [A1 (by omega)]
 simp only [cond_false]
 refine Db (fun (v31,c,f)=>∃d:Nat,v31=d/\d<=data.length/\(∀j x,j<d->data[j]? = some x->Adu data j x)/\((data.take d).map (·.Name)).Nodup/\((data.take d).flatMap Hv).Nodup/\I0 c ((data.take d).map (·.Name))/\I0 f ((data.take d).flatMap Hv))
  (fun (v31,_,_)=>data.length-v31.toNat) (fun z=>match z with | .inl r=>r=false/\¬Hw data | .inr _=>Hw data) ⟨0,rfl,by omega,by intro j x h; omega,by simp,by simp,by simpa using I0.nil,by simpa using I0.nil⟩ ?_ ?_
 .rintro ⟨v,c,f⟩ ⟨d,rfl,hd,h1,h2,h3,A,U⟩
  rcases Nat.lt_or_ge d data.length with h | h
  .have hx:data[d]? = some data[d]:=Bw h
   generalize data[d]=x at hx
   have hxm:=Bs hx
   obtain ⟨b,b1,b2⟩:=Ako x.Name (by have:=i.nm x hxm; omega)
   obtain ⟨f1,f2⟩:=Auz hx
   simp only [Ap (by omega:(d:Int)<(data.length:Int)),cond_true,B1 rfl hx,Ad,b1]
   have bad:∀(u:¬Adu data d x),∃e:Bool⊕((List (ByteArray×Bool))×(List (ByteArray×Bool))),(some (Sum.inr (Sum.inl false)):Option ((Int×(List (ByteArray×Bool))×(List (ByteArray×Bool)))⊕(Bool⊕((List (ByteArray×Bool))×(List (ByteArray×Bool))))))=some (.inr e)/\(match e with | .inl r=>r=false/\¬Hw data | .inr _=>Hw data) :=
    fun u=>⟨.inl false,rfl,rfl,fun hh=>u (hh.2.1 d x hx)⟩
   cases b with
   | false=>
    exact .inr (bad fun hh=>by have:=b2.2 hh.2.2.2.2.1; cases this)
   | true=>
    simp only [bnt,cond_false]
    cases g:Ea c x.Name with
    | true=>
     simp only [cond_true,A.get g,Ad]
     refine .inr ⟨.inl false,rfl,rfl,fun hh=>?_⟩
     have:=hh.2.2.1
     rw [f2] at this
     exact Akp this ((A.2 _).1 g)
    | false=>
     simp only [cond_false]
     by_cases l:x.Vars<0
     .simp only [Ap l,cond_true,Ad]
      exact .inr (bad fun hh=>by have:=hh.1; omega)
     by_cases s:x.Vars>6
     .simp only [A1 l,Ap s,cond_true,cond_false,Ad]
      exact .inr (bad fun hh=>by have:=hh.2.1; omega)
     simp only [A1 l,A1 s,cond_false,Ad]
     by_cases q:(x.Cons.length:Int)<1
     .simp only [Ap q,cond_true,Ad]
      exact .inr (bad fun hh=>by have:=hh.2.2.1; omega)
     by_cases y:(x.Cons.length:Int)>8
     .simp only [A1 q,Ap y,cond_true,cond_false,Ad]
      exact .inr (bad fun hh=>by have:=hh.2.2.2.1; omega)
     simp only [A1 q,A1 y,cond_false,Ad]
     obtain ⟨z,J,z2⟩:=Auy i hx (by omega) f _ U h3
     rw [J,Ad]
     match z,z2 with
     | .inl r,z2=>
      obtain ⟨rfl,z2⟩:=z2
      refine .inr ⟨.inl false,rfl,rfl,fun hh=>z2 ⟨(hh.2.1 d x hx).2.2.2.2.2,?_⟩⟩
      have:=hh.2.2.2
      rw [f1] at this
      exact (List.nodup_append.1 this).1
     | .inr (v60,B),z2=>
      obtain ⟨N,M,L⟩:=z2
      have ht:=C7 hx
      have D:x.Name ∉ (data.take d).map (·.Name):=fun hh=>by rw [(A.2 _).2 hh] at g; cases g
      have I:(data.take (d+1)).map (·.Name)=(data.take d).map (·.Name)++[x.Name]:=by rw [ht]; simp
      have G:(data.take (d+1)).flatMap Hv=(data.take d).flatMap Hv++Hv x:=by rw [ht]; simp [List.flatMap_append]
      refine .inl ⟨(((d+1:Nat):Int),Ep c x.Name true,B),by simp only [C2 h (by omega)],⟨d+1,rfl,by omega,?_,?_,?_,?_,?_⟩,by simp; omega⟩
      .intro j R S k
       rcases Nat.lt_or_ge j d with h' | h'
       .exact h1 j R h' k
       .have:j=d:=by omega
        subst this
        rw [hx] at k; cases k
        exact ⟨by omega,by omega,by omega,by omega,b2.1 rfl,N⟩
      .rw [I]; exact Akq h2 D
      .rw [G]; exact M
      .rw [I]; exact A.put _
      .rw [G]; exact L
  .have:d=data.length:=by omega
   subst this
   rw [List.take_length] at h2 h3
   exact .inr ⟨.inr (c,f),by simp,h12,fun d x hx=>h1 d x (Es hx) hx,h2,h3⟩
 .rintro (r | ⟨o,o'⟩) i
  .obtain ⟨rfl,i⟩:=i
   exact ⟨false,rfl,by simp [i]⟩
  .exact ⟨true,rfl,by simpa using i⟩
theorem Adv {data:List Al} (c:DSz data):∃b,Oo data=some b/\(b=true↔Hw data):=by
 obtain ⟨b,h1,h2⟩:=Au0 c
 refine ⟨b,?_,h2⟩
 unfold Oo
 rw [h1,Ad]
 cases b with
 | false=>rfl
 | true=>rfl
end Go.Ab
namespace Go.Ab
open Go
theorem SzD.args {data:List Al} (h:SzD data) {x:Al} (hx:x∈data) {y:L1} (hy:y∈x.Cons) {t:Ag} (ht:t∈y.Args):Bg t<=1048576/\t.Args.length<=1048576/\y.Args.length<=1048576:=by
 have h1:=(h x hx).2 y hy
 have h3:=Hu ht
 have f:=Hk t
 have c:=Jf t.Args
 have b:=Jf y.Args
 omega
end Go.Ab
namespace Go.Ab
open Go
def isV (σ:List Ag) (k n:Int):Bool:=k==4&&decide (0<=n)&&decide (n<(σ.length:Int))
mutual
def Cy (σ:List Ag):Ag->Ag
 | ⟨k,n,l⟩=>match (if isV σ k n then σ[n.toNat]? else none) with
  | some s=>s
  | none=>⟨k,n,Kq σ l⟩
def Kq (σ:List Ag):List Ag->List Ag
 | []=>[]
 | x::xs=>Cy σ x::Kq σ xs
end
theorem Adw (σ l:List Ag):Kq σ l=l.map (Cy σ):=by
 induction l with
 | nil=>rfl
 | cons x xs ih=>simp only [Kq,ih,List.map_cons]
theorem Zf {σ:List Ag} {k n:Int} (h:isV σ k n=true):∃s,σ[n.toNat]? = some s/\Af σ n=some s/\s∈σ:=by
 simp only [isV,Cl,decide_eq_true_eq] at h
 have b:n.toNat < σ.length:=by omega
 refine ⟨σ[n.toNat],Bw b,?_,List.getElem_mem b⟩
 unfold Af
 rw [if_pos (by omega),Bw b]
theorem Vi {σ:List Ag} {t s:Ag} (h:isV σ t.Kind t.Num=true) (b:σ[t.Num.toNat]? = some s):Cy σ t=s:=by
 cases t; simp only [Cy] at *; simp [h,b]
theorem Zg {σ:List Ag} {t:Ag} (h:isV σ t.Kind t.Num=false):Cy σ t=⟨t.Kind,t.Num,t.Args.map (Cy σ)⟩:=by
 cases t; simp only [Cy] at *; simp [h,Adw]
mutual
theorem Akr:∀t:Ag,Cy [] t=t
 | ⟨k,n,l⟩=>by
  have hv:isV [] k n=false:=by
   unfold isV
   by_cases h:0<=n
   .rw [A1 (by simp; omega:¬n<(([]:List Ag).length:Int))]; simp
   .rw [A1 h]; simp
  simp only [Cy,hv,Aks l]; rfl
theorem Aks:∀l:List Ag,Kq [] l=l
 | []=>rfl
 | x::xs=>by simp only [Kq,Akr x,Aks xs]
end
mutual
theorem Akt (σ:List Ag) (M:Nat) (hM:1<=M) (hσ:∀s∈σ,Bg s<=M):∀t:Ag,Bg (Cy σ t)<=Bg t*M
 | ⟨k,n,l⟩=>by
  cases hv:isV σ k n with
  | true=>
   obtain ⟨s,h1,_,h3⟩:=Zf hv
   rw [Vi (t:=⟨k,n,l⟩) hv h1]
   have:=hσ s h3
   have h2:=Rx ⟨k,n,l⟩
   calc Bg s<=1*M:=by omega
    _<=_:=Nat.mul_le_mul_right M h2
  | false=>
   have:=Aku σ M hM hσ l
   simp only [Cy,hv,Bg]
   simp only [Bool.false_eq_true,if_false,Bg]
   rw [Nat.add_mul]; omega
theorem Aku (σ:List Ag) (M:Nat) (hM:1<=M) (hσ:∀s∈σ,Bg s<=M):∀l:List Ag,Ci (Kq σ l)<=Ci l*M
 | []=>by simp [Kq,Ci]
 | x::xs=>by
  have h1:=Akt σ M hM hσ x
  have h2:=Aku σ M hM hσ xs
  simp only [Kq,Ci]
  rw [Nat.add_mul]; omega
end
theorem Akv (σ:List Ag) (t:Ag):(bif t.Kind==(4:Int) then bif decide (t.Num>=(0:Int)) then some (decide (t.Num<(σ.length:Int))) else some false else some false)=some (isV σ t.Kind t.Num):=by
 unfold isV
 cases t.Kind==4 <;> simp
 by_cases h:0<=t.Num <;> simp [h]
theorem Au1:∀(k:Nat) (t:Ag) (σ:List Ag) (M:Nat),(∀s∈σ,Bg s<=M)->Bg t+M+1<=k->k<1099511627776->Lz k t σ=some (Cy σ t):=by
 intro k
 induction k with
 | zero=>intro t σ M _ h; omega
 | succ k ih=>
  intro t σ M b h hk
  have f:=Hk t
  have c:=Jf t.Args
  rw [Lz]
  rw [show (show Option Bool from bif t.Kind==(4:Int) then bif decide (t.Num>=(0:Int)) then some (decide (t.Num<(σ.length:Int))) else some false else some false)=some (isV σ t.Kind t.Num) from Akv σ t,Ad]
  cases hv:isV σ t.Kind t.Num with
  | true=>
   obtain ⟨s,h1,h2,h3⟩:=Zf hv
   have:=b s h3
   simp only [cond_true,h2,Ad,Vi hv h1,ih s [] 0 (by simp) (by omega) (by omega),Akr]
  | false=>
   rw [Zg hv]
   simp only [cond_false]
   refine Fe t.Args (fun j=>((j:Int),(t.Args.take j).map (Cy σ))) rfl (by omega) ?_ ?_
   .intro j x hj hx h1 h2 h3
    have:=Hu (Bs hx)
    simp only [h1,h2,h3,cond_true,Ad,ih x σ M b (by omega) (by omega)]
    rw [D2 (by simp; omega),Ad,C7 hx]; simp
   .intro h1
    exact ⟨t.Args.map (Cy σ),by simp,rfl⟩
theorem Au2:∀(k:Nat) (t:Ag),Bg t<=k->Bg t<1099511627776->M8 k t=some (Bg t:Int):=by
 intro k
 induction k with
 | zero=>intro t h; have:=Rx t; omega
 | succ k ih=>
  intro t h ht
  have b:=Hk t
  have c:=Jf t.Args
  rw [M8]
  refine Fe t.Args (fun j=>(1+(Ci (t.Args.take j):Int),(j:Int))) rfl (by omega) ?_ ?_
  .intro j x hj hx h1 h2 h3
   have g:=Hu (Bs hx)
   have f:=Adq t.Args (j+1)
   have e:Ci (t.Args.take (j+1))=Ci (t.Args.take j)+Bg x:=by rw [C7 hx,Zc]; simp [Ci]
   simp only [h1,h2,h3,cond_true,Ad,ih x (by omega) (by omega)]
   rw [show Ac (1+(Ci (t.Args.take j):Int)+(Bg x:Int))=1+(Ci (t.Args.take (j+1)):Int) by rw [e,Ac,B3] <;> omega]
  .intro h1
   exact ⟨1+(Ci t.Args:Int),by simp,by rw [b]; simp⟩
theorem Au3 (σ:List Ag) (M:Nat) (D:1<=M) (q:M<=1048576) (z:∀s∈σ,Bg s<=M):∀(k:Nat) (t:Ag),Bg t<=k->Bg t<=1048576 ->
  ∃v:Nat,M9 k t (σ.map fun s=>(Bg s:Int))=some (v:Int)/\v<=Bg (Cy σ t)/\((v=Bg (Cy σ t))\/200<v):=by
 intro k
 induction k with
 | zero=>intro t h; have:=Rx t; omega
 | succ k ih=>
  intro t h ht
  have A:=Hk t
  have y:=Jf t.Args
  have g:∀x,Bg x<=1048576->Bg (Cy σ x)<=1099511627776:=fun x hx=>by
   have:=Akt σ M D z x
   have:Bg x*M<=1048576*1048576:=Nat.mul_le_mul hx q
   omega
  rw [M9]
  rw [show (show Option Bool from bif t.Kind==(4:Int) then bif decide (t.Num>=(0:Int)) then some (decide (t.Num<((σ.map fun s=>(Bg s:Int)).length:Int))) else some false else some false)=some (isV σ t.Kind t.Num) by rw [List.length_map]; exact Akv σ t,Ad]
  cases hv:isV σ t.Kind t.Num with
  | true=>
   obtain ⟨s,h1,h2,h3⟩:=Zf hv
   have hi:Af (σ.map fun s=>(Bg s:Int)) t.Num=some (Bg s:Int):=by
    have:=Ff h2
    rw [B1 (n:=t.Num.toNat) (by omega)]
    simp [h1]
   simp only [cond_true,hi,Ad,Vi hv h1]
   exact ⟨Bg s,rfl,Nat.le_refl _,.inl rfl⟩
  | false=>
   have u:=g t ht
   rw [Zg hv] at u ⊢
   simp only [cond_false]
   have f:Bg ⟨t.Kind,t.Num,t.Args.map (Cy σ)⟩=1+Ci (t.Args.map (Cy σ)):=by simp only [Bg]
   rw [f] at u ⊢
   refine Ys (fun v:Nat=>(v:Int)) (Db (fun (n,i)=>∃j:Nat,i=j/\j<=t.Args.length/\n=1+(Ci ((t.Args.map (Cy σ)).take j):Int)) (fun (_,i)=>t.Args.length-i.toNat)
    (fun n=>∃v:Nat,n=v/\v<=1+Ci (t.Args.map (Cy σ))/\(v=1+Ci (t.Args.map (Cy σ))\/200<v)) ⟨0,rfl,by omega,by simp [Ci]⟩ ?_ ?_)
   .rintro ⟨n,i⟩ ⟨j,rfl,hj,l⟩
    have l:n=_:=l
    subst l
    rcases Nat.lt_or_ge j t.Args.length with h' | h'
    .have hx:t.Args[j]? = some t.Args[j]:=Bw h'
     generalize t.Args[j]=x at hx
     have G:=Hu (Bs hx)
     obtain ⟨v,b,v2,v3⟩:=ih x (by omega) (by omega)
     have c:(t.Args.map (Cy σ))[j]? = some (Cy σ x):=by simp [hx]
     have e:Ci ((t.Args.map (Cy σ)).take (j+1))=Ci ((t.Args.map (Cy σ)).take j)+Bg (Cy σ x):=by rw [C7 c,Zc]; simp [Ci]
     have B:=Adq (t.Args.map (Cy σ)) (j+1)
     have E:Ac (1+(Ci ((t.Args.map (Cy σ)).take j):Int)+(v:Int))=((1+Ci ((t.Args.map (Cy σ)).take j)+v:Nat):Int):=by rw [Ac,B3] <;> omega
     simp only [Ap (by omega:(j:Int)<(t.Args.length:Int)),cond_true,B1 rfl hx,Ad,b,C2 h' (by omega),E]
     by_cases hb:1+Ci ((t.Args.map (Cy σ)).take j)+v>200
     .rw [Ap (by omega)]
      exact .inr ⟨_,rfl,_,rfl,by omega,.inr hb⟩
     .rw [A1 (by omega)]
      refine .inl ⟨_,rfl,⟨j+1,rfl,by omega,?_⟩,by simp; omega⟩
      have:v=Bg (Cy σ x):=by omega
      subst this
      rw [e]; omega
    .have:j=t.Args.length:=by omega
     subst this
     refine .inr ⟨_,by simp; rfl,1+Ci (t.Args.map (Cy σ)),?_,by omega,.inl rfl⟩
     rw [List.take_of_length_le (by simp)]; omega
   .rintro n ⟨v,rfl,b,v2⟩
    exact ⟨_,rfl,v,rfl,b,v2⟩
def G4 (data:List Al) (t:Ag) (c:Int):Option (List Ag) :=
 if t.Kind=5 then
  match Af data t.Num with
  | none=>none
  | some x=>if (t.Args.length:Int)=x.Vars then
    match Af x.Cons c with
    | none=>none
    | some y=>if (y.Args.map (Cy t.Args)).all (fun a=>decide (Bg a<=200)) then some (y.Args.map (Cy t.Args)) else none
   else none
 else none
def okL (o:Option (List Ag)):List Ag×Bool:=match o with | none=>([],false) | some l=>(l,true)
def Szv (data:List Al):Prop:=∀x∈data,∀y∈x.Cons,y.Args.length<=6/\∀a∈y.Args,Bg a<=200
theorem Hw.szv {data:List Al} (h:Hw data):Szv data:=by
 intro x hx y hy
 obtain ⟨d,hd⟩:=List.getElem?_of_mem hx
 have h1:=h.2.1 d x hd
 obtain ⟨_,c,b⟩:=h1.2.2.2.2.2 y hy
 refine ⟨c,fun a ha=>?_⟩
 have:=List.all_eq_true.1 b a ha
 unfold Nr at this
 rw [Bool.or_eq_true] at this
 rcases this with h' | h'
 .exact (Adr hd h1.2.1 h').2
 .simp only [Cl,decide_eq_true_eq] at h'; exact h'.2
end Go.Ab
namespace Go.Ab
open Go
theorem Zh {data:List Al} (A:Szv data) (t:Ag) (ht:Bg t<=200) (c:Int):Ro data t c=some (okL (G4 data t c)):=by
 have B:=Hk t
 have q:=Jf t.Args
 unfold Ro G4
 by_cases hk:t.Kind=5
 .simp only [Fd hk,cond_false,if_pos hk]
  cases hx:Af data t.Num with
  | none=>
   rcases Vc hx with h | h
   .simp only [Ap h,cond_true,Ad,okL]
   .by_cases h':t.Num<0
    .simp only [Ap h',cond_true,Ad,okL]
    .simp only [A1 h',Ap (show t.Num>=(data.length:Int) from h),cond_true,cond_false,Ad,okL]
  | some x=>
   obtain ⟨a1,a2,_,hxm⟩:=Ff hx
   simp only [A1 (by omega:¬t.Num<0),A1 (by omega:¬t.Num>=(data.length:Int)),cond_false,Ad]
   by_cases hv:(t.Args.length:Int)=x.Vars
   .simp only [Fd hv,cond_false,if_pos hv]
    cases hy:Af x.Cons c with
    | none=>
     rcases Vc hy with h | h
     .simp only [Ap h,cond_true,Ad,okL]
     .by_cases h':c<0
      .simp only [Ap h',cond_true,Ad,okL]
      .simp only [A1 h',Ap (show c>=(x.Cons.length:Int) from h),cond_true,cond_false,Ad,okL]
    | some y=>
     obtain ⟨b1,b2,_,i⟩:=Ff hy
     obtain ⟨G,b⟩:=A x hxm y i
     simp only [A1 (by omega:¬c<0),A1 (by omega:¬c>=(x.Cons.length:Int)),cond_false,Ad]
     rw [J2 (n:=t.Args.length) (c:=t.Args.length) rfl rfl (by omega) (by omega) (by omega),Ad]
     refine Fe t.Args (fun j=>((j:Int),((t.Args.take j).map fun s=>(Bg s:Int))++List.replicate (t.Args.length-j) 0)) rfl (by omega) ?_ ?_
     .intro j s hj g h1 h2 h3
      have:=Hu (Bs g)
      obtain ⟨m,D⟩:∃m,t.Args.length-j=m+1:=⟨t.Args.length-j-1,by omega⟩
      have E:t.Args.length-(j+1)=m:=by omega
      have k:j=((t.Args.take j).map fun s=>(Bg s:Int)).length:=by simp; omega
      simp only [h1,h2,h3,cond_true,Ad,Au2 4000000 s (by omega) (by omega),D,E,List.replicate_succ,Ve _ _ _ (j:Int) j rfl k,Vd _ _ _ _ (j:Int) j rfl k,C7 g]
      simp
     .intro h1
      refine ⟨t.Args.map fun s=>(Bg s:Int),by simp,?_⟩
      have l:∀s∈t.Args,Bg s<=200:=fun s g=>by have:=Hu g; omega
      refine (U4 (rt:=(y.Args.map (Cy t.Args),true)) (rf:=([],false)) y.Args (fun a=>decide (Bg (Cy t.Args a)<=200)) (fun j=>(j:Int)) rfl (by omega) ?_ ?_).trans ?_
      .intro j a ha h1 h2 h3
       have z:=b a (Bs ha)
       obtain ⟨v,u,v2,v3⟩:=Au3 t.Args 200 (by omega) (by omega) l 4000000 a (by omega) (by omega)
       simp only [h1,h2,h3,cond_true,Ad,u]
       by_cases hb:Bg (Cy t.Args a)<=200
       .rw [Ap hb,A1 (by omega)]
        exact ⟨fun _=>rfl,fun h=>by cases h⟩
       .rw [A1 hb,Ap (by omega)]
        exact ⟨(fun h=>by cases h),fun _=>⟨_,rfl,rfl⟩⟩
      .intro h1
       refine ⟨.inr (),by simp,?_⟩
       simp only
       refine Fe y.Args (fun j=>((j:Int),(y.Args.take j).map (Cy t.Args))) rfl (by omega) ?_ ?_
       .intro j a hj ha h1 h2 h3
        have z:=b a (Bs ha)
        simp only [h1,h2,h3,cond_true,Ad,Au1 4000000 a t.Args 200 l (by omega) (by omega)]
        rw [D2 (by simp; omega),Ad,C7 ha]; simp
       .intro h1
        exact ⟨y.Args.map (Cy t.Args),by simp,rfl⟩
      .rw [List.all_map]
       cases f:y.Args.all ((fun a=>decide (Bg a<=200)) ∘ Cy t.Args) with
       | true=>rw [if_pos rfl]; rw [show (y.Args.all fun a=>decide (Bg (Cy t.Args a)<=200))=true from f]; rfl
       | false=>rw [show (y.Args.all fun a=>decide (Bg (Cy t.Args a)<=200))=false from f]; rfl
   .simp only [Ec hv,cond_true,Ad,if_neg hv,okL]
 .simp only [Ec hk,cond_true,Ad,if_neg hk,okL]
theorem Au4 {data:List Al} (b:Szv data) (t:Ag) (ht:Bg t<=200) (c:Int):X1 data t c=some (okL (G4 data t c)):=Zh b t ht c
theorem Ns {data:List Al} {t:Ag} {c:Int} {l:List Ag} (h:G4 data t c=some l) :
  ∃x y,t.Kind=5/\Af data t.Num=some x/\(t.Args.length:Int)=x.Vars/\Af x.Cons c=some y/\l=y.Args.map (Cy t.Args)/\∀a∈l,Bg a<=200:=by
 unfold G4 at h
 by_cases hk:t.Kind=5
 .rw [if_pos hk] at h
  cases hx:Af data t.Num with
  | none=>rw [hx] at h; cases h
  | some x=>
   rw [hx] at h
   simp only at h
   by_cases hv:(t.Args.length:Int)=x.Vars
   .rw [if_pos hv] at h
    cases hy:Af x.Cons c with
    | none=>rw [hy] at h; cases h
    | some y=>
     rw [hy] at h
     simp only at h
     by_cases b:(y.Args.map (Cy t.Args)).all (fun a=>decide (Bg a<=200))=true
     .rw [if_pos b] at h
      cases h
      refine ⟨x,y,hk,rfl,hv,hy,rfl,fun a ha=>?_⟩
      have:=List.all_eq_true.1 b a ha
      simpa using this
     .rw [if_neg b] at h; cases h
   .rw [if_neg hv] at h; cases h
 .rw [if_neg hk] at h; cases h
def Ew (l:List Ag) (r:List Bool):List Ag:=((l.zip r).filter fun p=>!p.2).map (·.1)
def F2 (data:List Al) (t:Ag) (c:Int):Option (List Ag):=(G4 data t c).map fun l=>Ew l (C3 data t.Num c)
theorem Vj {data:List Al} {t:Ag} {c:Int} {l:List Ag} (h:G4 data t c=some l):(C3 data t.Num c).length=l.length:=by
 obtain ⟨x,y,_,hx,_,hy,rfl,_⟩:=Ns h
 unfold C3
 simp only [hx,hy,List.length_map]
theorem Adx {l:List Ag} {r:List Bool} {j:Nat} {a:Ag} {b:Bool} (h1:l[j]? = some a) (h2:r[j]? = some b):Ew (l.take (j+1)) (r.take (j+1))=Ew (l.take j) (r.take j)++bif b then [] else [a]:=by
 unfold Ew
 have f:=Es h1
 have c:=Es h2
 rw [C7 h1,C7 h2,List.zip_append (by simp; omega)]
 cases b <;> simp
theorem Zi (l:List Ag) (r:List Bool):(Ew l r).length<=l.length:=by
 unfold Ew
 rw [List.length_map]
 refine Nat.le_trans (List.length_filter_le _ _) ?_
 rw [List.length_zip]; omega
theorem Zj {data:List Al} (f:Szv data) (i:Li data) (t:Ag) (ht:Bg t<=200) (c:Int):Ri data t c=some (okL (F2 data t c)):=by
 unfold Ri F2
 rw [Zh f t ht c,Ad]
 cases g:G4 data t c with
 | none=>rfl
 | some l=>
  have k:=Vj g
  obtain ⟨x,y,_,hx,_,hy,s,_⟩:=Ns g
  obtain ⟨h,_⟩:=f x (Ff hx).2.2.2 y (Ff hy).2.2.2
  have q:l.length<=6:=by rw [s]; simpa using h
  simp only [okL,bnt,cond_false,Vf data t.Num c i,Ad,Option.map_some]
  refine Fe (C3 data t.Num c) (fun j=>((j:Int),Ew (l.take j) ((C3 data t.Num c).take j))) (by simp [Ew]) (by omega) ?_ ?_
  .intro j b hj hb h1 h2 h3
   have ha:l[j]? = some l[j]:=Bw (by omega)
   generalize l[j]=a at ha
   have u:=Zi (l.take j) ((C3 data t.Num c).take j)
   have:(l.take j).length<=6:=by simp; omega
   simp only [h1,h2,h3,cond_true,Ad,B1 rfl ha,Adx ha hb]
   rw [D2 (by simp; omega)]
   cases b <;> simp
  .intro h1
   refine ⟨Ew l (C3 data t.Num c),?_,rfl⟩
   simp only [h1]
   rw [List.take_of_length_le (by omega),List.take_of_length_le (Nat.le_refl _)]; rfl
def F3 (r:List Bool):List Int:=(r.zipIdx.filter fun p=>!p.1).map fun p=>(p.2:Int)
theorem Au5 {r:List Bool} {j:Nat} {b:Bool} (h:r[j]? = some b):(r.take (j+1)).zipIdx=(r.take j).zipIdx++[(b,j)]:=by
 have:=Es h
 rw [C7 h,List.zipIdx_append]; simp; omega
theorem Ady {data:List Al} {t:Ag} {c:Int} {l:List Ag} (h:F2 data t c=some l):(∀a∈l,Bg a<=200)/\∃x,Af data t.Num=some x/\0<=c/\c<x.Cons.length:=by
 unfold F2 at h
 cases b:G4 data t c with
 | none=>rw [b] at h; cases h
 | some m=>
  rw [b] at h
  cases h
  obtain ⟨x,y,_,hx,_,hy,_,g⟩:=Ns b
  refine ⟨fun a ha=>?_,x,hx,(Ff hy).1,(Ff hy).2.1⟩
  unfold Ew at ha
  obtain ⟨p,f,rfl⟩:=List.mem_map.1 ha
  exact g _ (List.of_mem_zip (List.mem_filter.1 f).1).1
end Go.Ab
namespace Go.Ab
open Go
mutual
def Cr:A5->Nat
 | ⟨_,l⟩=>1+Ed l
def Ed:List A5->Nat
 | []=>0
 | x::xs=>Cr x+Ed xs
end
theorem E2 (t:A5):Cr t=1+Ed t.Kids:=by cases t; simp only [Cr]
theorem Jg {l:List A5} {a:A5} (h:a∈l):Cr a<=Ed l:=by
 induction l with
 | nil=>cases h
 | cons x xs ih=>
  simp only [Ed]
  rcases List.mem_cons.1 h with rfl | h
  .omega
  .have:=ih h; omega
theorem L7 (l:List A5):l.length<=Ed l:=by
 induction l with
 | nil=>simp
 | cons x xs ih=>simp only [Ed,List.length_cons]; have:=E2 x; omega
mutual
def Et (data:List Al):A5->Ag->Option Nat
 | ⟨n,kids⟩,t=>
  if t.Kind=6 then (if n=0 then Cx data kids t.Args else none)
  else if t.Kind=7 then (if 0<=n/\n<=6/\kids.length=0 then some n.toNat else none)
  else if t.Kind=5 then (if n=0 then Fz data kids t else none)
  else if n=0/\kids.length=0 then some 0 else none
def Cx (data:List Al):List A5->List Ag->Option Nat
 | [],[]=>some 0
 | i::is,t::ts=>(Et data i t).bind fun a=>(Cx data is ts).map (a + ·)
 | [],_::_=>none
 | _::_,[]=>none
def Fz (data:List Al):List A5->Ag->Option Nat
 | [],_=>some 0
 | ⟨n,kids⟩::es,t=>(F2 data t n).bind fun ts=>(Cx data kids ts).bind fun a=>(Fz data es t).map (1+a + ·)
end
theorem Vk (data:List Al) (i:A5) (t:Ag):Et data i t=if t.Kind=6 then (if i.Num=0 then Cx data i.Kids t.Args else none)
  else if t.Kind=7 then (if 0<=i.Num/\i.Num<=6/\i.Kids.length=0 then some i.Num.toNat else none)
  else if t.Kind=5 then (if i.Num=0 then Fz data i.Kids t else none)
  else if i.Num=0/\i.Kids.length=0 then some 0 else none:=by cases i; simp only [Et]
theorem Zk (data:List Al) (e:A5) (es:List A5) (t:Ag):Fz data (e::es) t=(F2 data t e.Num).bind fun ts=>(Cx data e.Kids ts).bind fun a=>(Fz data es t).map (1+a + ·):=by cases e; simp only [Fz]
theorem Nt (data:List Al) (i:A5) (b:List A5) (t:Ag) (ts:List Ag):Cx data (i::b) (t::ts)=(Et data i t).bind fun a=>(Cx data b ts).map (a + ·):=by simp only [Cx]
theorem Adz (data:List Al):∀(b:List A5) (ts:List Ag),ts.length≠b.length->Cx data b ts=none
 | [],[],h=>absurd rfl h
 | i::b,t::ts,h=>by rw [Nt,Adz data b ts (by simpa using h)]; cases Et data i t <;> rfl
 | [],_::_,_=>by simp only [Cx]
 | _::_,[],_=>by simp only [Cx]
def Hx (o:Option Nat):Int:=match o with | some d=>if d<=6 then (d:Int) else -1 | none => -1
theorem Zl {d:Nat} (h:d<=6):Hx (some d)=d:=by simp [Hx,h]
theorem Ad0 {d:Nat} (h:6<d):Hx (some d) = -1:=by simp only [Hx]; rw [if_neg (by omega)]
theorem Akw (o:Option Nat):(Hx o = -1/\∀d,o=some d->6<d)\/∃d,o=some d/\d<=6/\Hx o=d:=by
 cases o with
 | none=>exact .inl ⟨rfl,fun d h=>by cases h⟩
 | some d=>
  rcases Nat.lt_or_ge 6 d with h | h
  .exact .inl ⟨Ad0 h,fun e b=>by cases b; exact h⟩
  .exact .inr ⟨d,rfl,h,Zl h⟩
theorem Akx {o:Option Nat} (h:∀d,o=some d->6<d):Hx o = -1:=by
 cases o with
 | none=>rfl
 | some d=>exact Ad0 (h d rfl)
def Pr (p:Int×Bool) (o:Option Nat):Prop:=(p.2=true/\∃d:Nat,o=some d/\d<=6/\p.1=d)\/(p.2=false/\∀d,o=some d->6<d)
theorem Nu {α:Type} {l:List α} {j:Nat} {x:α} (h:l[j]? = some x):l.drop j=x::l.drop (j+1):=by
 have hj:=Es h
 rw [List.drop_eq_getElem_cons hj]
 rw [Bw hj] at h
 rw [Option.some.inj h]
theorem Au6 {data:List Al} (M:Szv data) (N:Li data):∀k:Nat,
  (∀(i:A5) (t:Ag),2*Cr i<=k->Cr i<=1048576->Bg t<=200->∃p,Na k data t i=some p/\Pr p (Et data i t)) /\
  (∀(c:List A5) (ts:List Ag),2*Ed c+1<=k->Ed c<=1048576->(∀t∈ts,Bg t<=200)->∃p,Nc k data ts c=some p/\Pr p (Cx data c ts)):=by
 intro k
 induction k with
 | zero=>exact ⟨fun i t h=>by have:=E2 i; omega,fun c ts h=>by omega⟩
 | succ k ih=>
  obtain ⟨Z,J⟩:=ih
  constructor
  .intro i t hk hi ht
   have a8:=E2 i
   have a6:=L7 i.Kids
   rw [Na,Vk]
   by_cases U:t.Kind=6
   .simp only [Dw U,cond_true,if_pos U]
    by_cases h0:i.Num=0
    .simp only [Fd h0,cond_false,if_pos h0]
     obtain ⟨p,p1,p2⟩:=J i.Kids t.Args (by omega) (by omega) (fun a ha=>by have:=Hu ha; have:=Hk t; omega)
     rw [p1]
     exact ⟨p,rfl,p2⟩
    .simp only [Ec h0,cond_true,if_neg h0]
     exact ⟨_,rfl,.inr ⟨rfl,fun d h=>by cases h⟩⟩
   .simp only [Co U,cond_false,if_neg U]
    by_cases R:t.Kind=7
    .simp only [Dw R,cond_true,if_pos R]
     by_cases a1:0<=i.Num
     .by_cases a2:i.Num<=6
      .by_cases a3:i.Kids.length=0
       .rw [Ap (show i.Num>=0 from a1),Ap a2,if_pos ⟨a1,a2,a3⟩]
        exact ⟨_,rfl,.inl ⟨by simp [a3],i.Num.toNat,rfl,by omega,by simp; omega⟩⟩
       .rw [Ap (show i.Num>=0 from a1),Ap a2,if_neg (fun h=>a3 h.2.2)]
        exact ⟨_,rfl,.inr ⟨Co (by omega),fun d h=>by cases h⟩⟩
      .rw [Ap (show i.Num>=0 from a1),A1 a2,if_neg (fun h=>a2 h.2.1)]
       exact ⟨_,rfl,.inr ⟨rfl,fun d h=>by cases h⟩⟩
     .rw [A1 (show ¬i.Num>=0 from a1),if_neg (fun h=>a1 h.1)]
      exact ⟨_,rfl,.inr ⟨rfl,fun d h=>by cases h⟩⟩
    .simp only [Co R,cond_false,if_neg R]
     by_cases V:t.Kind=5
     .simp only [Dw V,cond_true,if_pos V]
      by_cases h0:i.Num=0
      .simp only [Fd h0,cond_false,if_pos h0]
       have key:∀(m j acc:Nat),j+m=i.Kids.length->acc<=6->∃z,Aj (S:=(Int×Int)) (E:=((Int×Bool)⊕Int)) (fun (v8,v9)=>
         bif (decide (v9<(i.Kids.length:Int))) then (
         (Af i.Kids v9).bind fun x=>
         (Ri data t x.Num).bind fun v12=>
         bif (!v12.2) then some (.inr (.inl (0,false)))
         else (
         (Nc k data v12.1 x.Kids).bind fun D=>
         bif (!D.2) then some (.inr (.inl (0,false)))
         else (
         bif (decide ((Ac (v8+(Ac (1+D.1))))>(6:Int))) then some (.inr (.inl (0,false)))
         else some (.inl ((Ac (v8+(Ac (1+D.1)))),(Ac (v9+1)))))))
         else some (.inr (.inr v8))) ((acc:Int),(j:Int))=some z/\(match z with | .inl p=>p=(0,false)/\∀d,(Fz data (i.Kids.drop j) t).map (acc + ·)=some d->6<d | .inr v=>∃d:Nat,(Fz data (i.Kids.drop j) t).map (acc + ·)=some d/\d<=6/\v=d):=by
        intro m
        induction m with
        | zero=>
         intro j acc hj g
         have:j=i.Kids.length:=by omega
         subst this
         exact ⟨.inr (acc:Int),Gg (by simp),acc,by simp [Fz],g,rfl⟩
        | succ m y=>
         intro j acc hj g
         have f:i.Kids[j]? = some i.Kids[j]:=Bw (by omega)
         generalize i.Kids[j]=e at f
         have a7:=Jg (Bs f)
         have aa:=E2 e
         rw [Nu f,Zk]
         cases hp:F2 data t e.Num with
         | none=>
          refine ⟨.inl (0,false),Gg ?_,rfl,fun d h=>by simp at h⟩
          simp only [Ap (by omega:(j:Int)<(i.Kids.length:Int)),cond_true,B1 rfl f,Ad,Zj M N t ht e.Num,hp,okL,Bool.not_false]
         | some ts=>
          obtain ⟨q,I,l⟩:=J e.Kids ts (by omega) (by omega) (Ady hp).1
          rcases l with ⟨l,a,A,q4,Y⟩ | ⟨l,A⟩
          .have X:Ac ((acc:Int)+Ac (1+q.1))=((acc+(1+a):Nat):Int):=by
            rw [Y,show Ac (1+(a:Int))=((1+a:Nat):Int) by rw [Ac,B3] <;> omega,Ac,B3] <;> omega
           by_cases hb:acc+(1+a)<=6
           .obtain ⟨z,s,z2⟩:=y (j+1) (acc+(1+a)) (by omega) hb
            refine ⟨z,?_,?_⟩
            .rw [Lp (s':=(((acc+(1+a):Nat):Int),((j+1:Nat):Int)))]
             .exact s
             .simp only [Ap (by omega:(j:Int)<(i.Kids.length:Int)),cond_true,B1 rfl f,Ad,Zj M N t ht e.Num,hp,okL,bnt,cond_false,I,l,X,A1 (by omega:¬((acc+(1+a):Nat):Int)>6),C2 (show j<i.Kids.length by omega) (by omega)]
            .have G:∀o:Option Nat,(((some a:Option Nat).bind fun a=>o.map (1+a + ·)).map (acc + ·))=o.map (acc+(1+a) + ·):=by
              intro o; cases o <;> simp [Nat.add_assoc]
             rw [Ad,A,G]
             exact z2
           .refine ⟨.inl (0,false),Gg ?_,rfl,fun d h=>?_⟩
            .simp only [Ap (by omega:(j:Int)<(i.Kids.length:Int)),cond_true,B1 rfl f,Ad,Zj M N t ht e.Num,hp,okL,bnt,cond_false,I,l,X,Ap (by omega:((acc+(1+a):Nat):Int)>6)]
            .rw [Ad,A,Ad] at h
             cases B:Fz data (i.Kids.drop (j+1)) t with
             | none=>rw [B] at h; cases h
             | some b=>rw [B] at h; simp at h; omega
          .refine ⟨.inl (0,false),Gg ?_,rfl,fun d h=>?_⟩
           .simp only [Ap (by omega:(j:Int)<(i.Kids.length:Int)),cond_true,B1 rfl f,Ad,Zj M N t ht e.Num,hp,okL,bnt,cond_false,I,l,Bool.not_false]
           .rw [Ad] at h
            cases ha:Cx data e.Kids ts with
            | none=>rw [ha] at h; cases h
            | some a=>
             rw [ha,Ad] at h
             have:=A a ha
             cases B:Fz data (i.Kids.drop (j+1)) t with
             | none=>rw [B] at h; cases h
             | some b=>rw [B] at h; simp at h; omega
       obtain ⟨z,s,z2⟩:=key i.Kids.length 0 0 (by omega) (by omega)
       have s:Aj _ ((0:Int),(0:Int))=some z:=s
       rw [s,Ad]
       have G:∀o:Option Nat,o.map (0 + ·)=o:=by intro o; cases o <;> simp
       rw [List.drop_zero,G] at z2
       match z,z2 with
       | .inl p,z2=>exact ⟨_,rfl,.inr ⟨by rw [z2.1],z2.2⟩⟩
       | .inr v,z2=>
        obtain ⟨d,d1,d2,d3⟩:=z2
        exact ⟨_,rfl,.inl ⟨rfl,d,d1,d2,d3⟩⟩
      .simp only [Ec h0,cond_true,if_neg h0]
       exact ⟨_,rfl,.inr ⟨rfl,fun d h=>by cases h⟩⟩
     .simp only [Co V,cond_false,if_neg V]
      by_cases h0:i.Num=0
      .simp only [Dw h0,cond_true]
       by_cases a3:i.Kids.length=0
       .rw [if_pos ⟨h0,a3⟩]
        exact ⟨_,rfl,.inl ⟨by simp [a3],0,rfl,by omega,rfl⟩⟩
       .rw [if_neg (fun h=>a3 h.2)]
        exact ⟨_,rfl,.inr ⟨Co (by omega),fun d h=>by cases h⟩⟩
      .simp only [Co h0,cond_false]
       rw [if_neg (fun h=>h0 h.1)]
       exact ⟨_,rfl,.inr ⟨rfl,fun d h=>by cases h⟩⟩
  .intro c ts hk hi ht
   have a6:=L7 c
   rw [Nc]
   by_cases hl:ts.length=c.length
   .rw [Fd (by omega)]
    simp only [cond_false]
    have key:∀(m j acc:Nat),j+m=c.length->acc<=6*j->∃z,Aj (S:=(Int×Int)) (E:=((Int×Bool)⊕Int)) (fun (v5,L)=>
      bif (decide (L<(ts.length:Int))) then (
      (Af ts L).bind fun v7=>
      (Af c L).bind fun v9=>
      (Na k data v7 v9).bind fun x=>
      bif (!x.2) then some (.inr (.inl (0,false)))
      else some (.inl ((Ac (v5+x.1)),(Ac (L+1)))))
      else some (.inr (.inr v5))) ((acc:Int),(j:Int))=some z/\(match z with | .inl p=>p=(0,false)/\∀d,(Cx data (c.drop j) (ts.drop j)).map (acc + ·)=some d->6<d | .inr v=>∃d:Nat,(Cx data (c.drop j) (ts.drop j)).map (acc + ·)=some d/\v=d):=by
     intro m
     induction m with
     | zero=>
      intro j acc hj g
      have:j=ts.length:=by omega
      subst this
      refine ⟨.inr (acc:Int),Gg (by simp),acc,?_,rfl⟩
      rw [List.drop_of_length_le (by omega),List.drop_of_length_le (by omega)]
      simp [Cx]
     | succ m y=>
      intro j acc hj g
      have f:c[j]? = some c[j]:=Bw (by omega)
      generalize c[j]=e at f
      have hu:ts[j]? = some ts[j]:=Bw (by omega)
      generalize ts[j]=u at hu
      have a7:=Jg (Bs f)
      rw [Nu f,Nu hu,Nt]
      obtain ⟨q,I,l⟩:=Z e u (by omega) (by omega) (ht u (Bs hu))
      rcases l with ⟨l,a,A,q4,Y⟩ | ⟨l,A⟩
      .have X:Ac ((acc:Int)+q.1)=((acc+a:Nat):Int):=by
        rw [Y,Ac,B3] <;> omega
       obtain ⟨z,s,z2⟩:=y (j+1) (acc+a) (by omega) (by omega)
       refine ⟨z,?_,?_⟩
       .rw [Lp (s':=(((acc+a:Nat):Int),((j+1:Nat):Int)))]
        .exact s
        .simp only [Ap (by omega:(j:Int)<(ts.length:Int)),cond_true,B1 rfl f,B1 rfl hu,Ad,bnt,cond_false,I,l,X,C2 (show j<c.length by omega) (by omega)]
       .have G:∀o:Option Nat,(((some a:Option Nat).bind fun a=>o.map (a + ·)).map (acc + ·))=o.map (acc+a + ·):=by
         intro o; cases o <;> simp [Nat.add_assoc]
        rw [A,G]
        exact z2
      .refine ⟨.inl (0,false),Gg ?_,rfl,fun d h=>?_⟩
       .simp only [Ap (by omega:(j:Int)<(ts.length:Int)),cond_true,B1 rfl f,B1 rfl hu,Ad,I,l,Bool.not_false]
       .cases ha:Et data e u with
        | none=>rw [ha] at h; cases h
        | some a=>
         rw [ha,Ad] at h
         have:=A a ha
         cases B:Cx data (c.drop (j+1)) (ts.drop (j+1)) with
         | none=>rw [B] at h; cases h
         | some b=>rw [B] at h; simp at h; omega
    obtain ⟨z,s,z2⟩:=key c.length 0 0 (by omega) (by omega)
    have s:Aj _ ((0:Int),(0:Int))=some z:=s
    rw [s,Ad]
    have G:∀o:Option Nat,o.map (0 + ·)=o:=by intro o; cases o <;> simp
    rw [List.drop_zero,List.drop_zero,G] at z2
    match z,z2 with
    | .inl p,z2=>exact ⟨_,rfl,.inr ⟨by rw [z2.1],z2.2⟩⟩
    | .inr v,z2=>
     obtain ⟨d,d1,d3⟩:=z2
     by_cases hd:d<=6
     .exact ⟨_,rfl,.inl ⟨Ap (by omega),d,d1,hd,d3⟩⟩
     .exact ⟨_,rfl,.inr ⟨A1 (by omega),fun e f=>by rw [d1] at f; cases f; omega⟩⟩
   .rw [Ec (by omega),Adz data c ts hl]
    exact ⟨_,rfl,.inr ⟨rfl,fun d h=>by cases h⟩⟩
end Go.Ab
namespace Go.Ab
open Go
theorem Hw.cons8 {data:List Al} (h:Hw data):∀x∈data,x.Cons.length<=8:=by
 intro x hx
 obtain ⟨d,hd⟩:=List.getElem?_of_mem hx
 exact (h.2.1 d x hd).2.2.2.1
end Go.Ab
