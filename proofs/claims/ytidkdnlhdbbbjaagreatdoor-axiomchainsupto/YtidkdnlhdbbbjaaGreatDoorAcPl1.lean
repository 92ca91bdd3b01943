/- Plain laws: what the plain functions answer. -/
import Derived.Test.YtidkdnlhdbbbjaaGreatDoorAcPl0
import Derived.Lib.ItoaLen
namespace Go.Ab
open Go Ieee
theorem Ar1 (n d:Nat):∃c,Toward.even.cut false n d=c/\(n / 2 ^ d<=c)/\c<=n / 2 ^ d+1/\(n % 2 ^ d=0->c=n / 2 ^ d):=by
 refine ⟨_,rfl,?_⟩
 unfold Toward.cut
 simp only [Nat.shiftLeft_eq,Nat.one_mul]
 by_cases hd:d<=n.log2+2
 .rw [Nat.min_eq_left hd]
  generalize h2:2 ^ d=g
  have h:0<g:=by rw [<-h2]; exact Nat.pow_pos (by decide)
  refine ⟨by omega,?_,fun h0=>?_⟩
  .have:=Bool.toNat_le (decide (g<2*(n % g))||(g==2*(n % g)&&n / g % 2==1))
   omega
  .rw [h0]
   have h1:decide (g<2*0)=false:=by simp
   have h3:(g==2*0)=false:=by simp; omega
   rw [h1,h3]; rfl
 .rw [Nat.min_eq_right (by omega)]
  have b:n<2 ^ (n.log2+1):=Nat.lt_log2_self
  have h:2 ^ (n.log2+2)=2*2 ^ (n.log2+1):=by rw [Nat.pow_succ]; omega
  have f:2 ^ (n.log2+2)<=2 ^ d:=Nat.pow_le_pow_right (by decide) (by omega)
  have l:n / 2 ^ (n.log2+2)=0:=Nat.div_eq_of_lt (by omega)
  have k:n % 2 ^ (n.log2+2)=n:=Nat.mod_eq_of_lt (by omega)
  have j:n / 2 ^ d=0:=Nat.div_eq_of_lt (by omega)
  have i:n % 2 ^ d=n:=Nat.mod_eq_of_lt (by omega)
  rw [l,k,j,i]
  have h1:decide (2 ^ (n.log2+2)<2*n)=false:=by simp; omega
  have h3:(2 ^ (n.log2+2)==2*n)=false:=by simp; omega
  rw [h1,h3]
  exact ⟨by simp,by simp,fun _=>rfl⟩
theorem Rn (f:Nat) (place e:Int) (u:f≠0) (E:place+f.log2=e) (h1 : -1000<=e) (h2:e<=900) :
  ∃(m:Nat) (p:Int),double.read (double.nearest false f place) = .number false m p/\4503599627370496<=m/\m<9007199254740992/\(p=e-52\/(p=e-51/\m=4503599627370496)):=by
 have g:max (place+f.log2-(double.fractionBits:Int)) double.leastPlace=e-52:=by
  have a:(double.fractionBits:Int)=52:=rfl
  have b:double.leastPlace = -1074:=by decide
  rw [a,b,E]; omega
 have hw:double.nearest false f place=min ((e-52+1074).toNat*4503599627370496+Toward.even.cut false (f <<< (place-(e-52)).toNat) ((e-52)-place).toNat) (2047*4503599627370496):=by
  unfold Format.nearest
  rw [if_neg u]
  simp only [g]
  have b:double.leastPlace = -1074:=by decide
  have c:double.binade=4503599627370496:=by decide
  have d:double.infRung=2047*4503599627370496:=by decide
  rw [b,c,d]
  unfold Format.word
  simp only [Bool.false_eq_true,if_false]
  congr 3
 have hk:4503599627370496<=Toward.even.cut false (f <<< (place-(e-52)).toNat) ((e-52)-place).toNat/\Toward.even.cut false (f <<< (place-(e-52)).toNat) ((e-52)-place).toNat<=9007199254740992:=by
  obtain ⟨c,hc,s,q,i⟩:=Ar1 (f <<< (place-(e-52)).toNat) ((e-52)-place).toNat
  rw [hc]
  have D:2 ^ f.log2<=f:=Nat.log2_self_le u
  have B:f<2 ^ (f.log2+1):=Nat.lt_log2_self
  rw [Nat.shiftLeft_eq] at s q i
  rcases Int.le_total place (e-52) with h | h
  .have z:(place-(e-52)).toNat=0:=by omega
   rw [z,Nat.pow_zero,Nat.mul_one] at s q i
   have hd:f.log2=52+((e-52)-place).toNat:=by omega
   have hp:2 ^ f.log2=4503599627370496*2 ^ ((e-52)-place).toNat:=by rw [hd,Nat.pow_add]
   have l:2 ^ (f.log2+1)=9007199254740992*2 ^ ((e-52)-place).toNat:=by rw [Nat.pow_succ,hp]; omega
   have hpos:0<2 ^ ((e-52)-place).toNat:=Nat.pow_pos (by decide)
   have a1:4503599627370496<=f / 2 ^ ((e-52)-place).toNat:=(Nat.le_div_iff_mul_le hpos).2 (by omega)
   have a2:f / 2 ^ ((e-52)-place).toNat<9007199254740992:=(Nat.div_lt_iff_lt_mul hpos).2 (by omega)
   omega
  .have z:((e-52)-place).toNat=0:=by omega
   rw [z,Nat.pow_zero,Nat.div_one] at s q i
   have I:=i (Nat.mod_one _)
   have hd:52=f.log2+(place-(e-52)).toNat:=by omega
   have hp:2 ^ f.log2*2 ^ (place-(e-52)).toNat=4503599627370496:=by rw [<-Nat.pow_add,<-hd]
   have l:2 ^ (f.log2+1)*2 ^ (place-(e-52)).toNat=9007199254740992:=by rw [Nat.pow_succ,Nat.mul_right_comm,hp]
   have hpos:0<2 ^ (place-(e-52)).toNat:=Nat.pow_pos (by decide)
   have a1:=Nat.mul_le_mul_right (2 ^ (place-(e-52)).toNat) D
   have a2:=Nat.mul_lt_mul_of_pos_right B hpos
   omega
 generalize Toward.even.cut false (f <<< (place-(e-52)).toNat) ((e-52)-place).toNat=c at *
 obtain ⟨t,ht⟩:∃t:Nat,(e-52+1074).toNat=t/\t<=1922/\(t:Int)=e+1022:=⟨_,rfl,by omega,by omega⟩
 rw [ht.1] at hw
 rw [Nat.min_eq_left (by omega)] at hw
 rw [hw]
 have b:double.leastPlace = -1074:=by decide
 have G:double.binade=4503599627370496:=by decide
 have d:double.infRung=2047*4503599627370496:=by decide
 have x:double.signWeight=9223372036854775808:=by decide
 unfold Format.read
 rw [b,G,d,x]
 have A:(t*4503599627370496+c) / 9223372036854775808=0:=Nat.div_eq_of_lt (by omega)
 have y:(t*4503599627370496+c) % 9223372036854775808=t*4503599627370496+c:=Nat.mod_eq_of_lt (by omega)
 simp only [A,y]
 rw [if_neg (by omega),if_pos (by omega)]
 by_cases hc:c<9007199254740992
 .refine ⟨c,e-52,?_,hk.1,hc,.inl rfl⟩
  have k:(t*4503599627370496+c) % 4503599627370496=c-4503599627370496:=by omega
  have j:(t*4503599627370496+c) / 4503599627370496=t+1:=by omega
  rw [k,j,show 4503599627370496+(c-4503599627370496)=c by omega,show (-1074:Int)+((t+1-1:Nat):Int)=e-52 by omega]; rfl
 .have hc:c=9007199254740992:=by omega
  subst hc
  refine ⟨4503599627370496,e-51,?_,by decide,by decide,.inr ⟨rfl,rfl⟩⟩
  have k:(t*4503599627370496+9007199254740992) % 4503599627370496=0:=by omega
  have j:(t*4503599627370496+9007199254740992) / 4503599627370496=t+2:=by omega
  rw [k,j,Nat.add_zero,show (-1074:Int)+((t+2-1:Nat):Int)=e-51 by omega]; rfl
theorem Acp (v:Int) (h:0<=v):floatOfInt .f64 v=double.nearest false v.natAbs 0:=by
 have e:decide (v<0)=false:=Av (by omega)
 show double.nearest (decide (v<0)) v.natAbs 0=_
 rw [e]
theorem Ar2:double.read 4876203697187506176 = .number false 7812500000000000 7:=by decide
theorem Yo {n k:Nat} (h1:2 ^ k<=n) (h2:n<2 ^ (k+1)):n.log2=k:=(Nat.log2_eq_iff (by have:=Nat.pow_pos (n:=k) (show 0<2 by decide); omega)).2 ⟨h1,h2⟩
theorem Uq {n k:Nat} (h:n<2 ^ (k+1)):n.log2<=k:=by
 by_cases h0:n=0
 .subst h0; simp
 .have:=(Nat.log2_lt h0).2 h; omega
theorem Acq {n k:Nat} (h:2 ^ k<=n):k<=n.log2:=(Nat.le_log2 (by have:=Nat.pow_pos (n:=k) (show 0<2 by decide); omega)).2 h
theorem Ar3 (x:Int) (h0:1<=x) (h1:x<1000000000):∃(w:Nat) (m:Nat) (p:Int),floatBits .mul .f64 (floatOfInt .f64 x) 4876203697187506176=some w/\double.read w = .number false m p/\4503599627370496<=m/\m<9007199254740992/\7<=p/\(p<=37\/(p=38/\m=4503599627370496)):=by
 have l:x.natAbs.log2<=29:=Uq (by simp; omega)
 obtain ⟨m1,b,g,a1,a2,a3⟩:=Rn x.natAbs 0 (x.natAbs.log2) (by omega) (by omega) (by omega) (by omega)
 have c:(m1*7812500000000000).log2=104\/((m1*7812500000000000).log2=105/\m1≠4503599627370496):=by
  have b1:2 ^ 104<=m1*7812500000000000:=by omega
  have b2:m1*7812500000000000<2 ^ 106:=by omega
  rcases Nat.lt_or_ge (m1*7812500000000000) (2 ^ 105) with h | h
  .exact .inl (Yo b1 h)
  .exact .inr ⟨Yo h b2,by rintro rfl; omega⟩
 obtain ⟨m2,i,f,k,j,q⟩:=Rn (m1*7812500000000000) (b+7) (b+7+(m1*7812500000000000).log2) (by omega) rfl (by omega) (by omega)
 refine ⟨double.nearest false (m1*7812500000000000) (b+7),m2,i,?_,f,k,j,by omega,by omega⟩
 show ((double.read (floatOfInt .f64 x)).product (double.read 4876203697187506176)).map double.write=_
 rw [Acp x (by omega),g,Ar2]; rfl
theorem Ar4 (w:Nat) (m:Nat) (p:Int) (hw:double.read w = .number false m p) (M:4503599627370496<=m) (L:m<9007199254740992) (I:7<=p) (j:p<=37\/(p=38/\m=4503599627370496)) (y:Int) (h0:0<=y) (h1:y<1000000000000000000) :
  ∃(w':Nat) (g:Nat) (f:Int),floatBits .add .f64 w (floatOfInt .f64 y)=some w'/\double.read w' = .number false g f/\4503599627370496<=g/\g<9007199254740992/\7<=f/\f<=39:=by
 obtain ⟨c,b,x,V,U⟩:∃(c:Nat) (b:Int),double.read (floatOfInt .f64 y) = .number false c b/\b<=8/\c<9007199254740992/\-1074<=b:=by
  rw [Acp y h0]
  by_cases hy:y.natAbs=0
  .rw [hy]; exact ⟨0,-1074,by decide,by decide,by decide,by decide⟩
  .have Z:y.natAbs.log2<=59:=Uq (by simp; omega)
   obtain ⟨m1,D,A,a1,a2,a3⟩:=Rn y.natAbs 0 (y.natAbs.log2) hy (by omega) (by omega) (by omega)
   exact ⟨m1,D,A,by omega,a2,by omega⟩
 generalize hb:min p b=base
 have ht:∃T:Nat,signed false m (p-base).toNat+signed false c (b-base).toNat=(T:Int)/\T=m*2 ^ (p-base).toNat+c*2 ^ (b-base).toNat:=by
  refine ⟨m <<< (p-base).toNat+c <<< (b-base).toNat,rfl,by rw [Nat.shiftLeft_eq,Nat.shiftLeft_eq]⟩
 obtain ⟨T,t1,t2⟩:=ht
 have G:0<2 ^ (p-base).toNat:=Nat.pow_pos (by decide)
 have i:2 ^ (b-base).toNat<=2 ^ (8-base).toNat:=Nat.pow_le_pow_right (by decide) (by omega)
 have J:m*2 ^ (p-base).toNat<=2 ^ (90-base).toNat:=by
  rcases j with h | ⟨rfl,rfl⟩
  .have e:2 ^ (90-base).toNat=2 ^ (p-base).toNat*2 ^ (90-p).toNat:=by rw [<-Nat.pow_add]; congr 1; omega
   have e2:2 ^ 53<=2 ^ (90-p).toNat:=Nat.pow_le_pow_right (by decide) (by omega)
   rw [e,Nat.mul_comm]
   exact Nat.mul_le_mul_left _ (by omega)
  .have e:2 ^ (90-base).toNat=2 ^ (38-base).toNat*2 ^ 52:=by rw [<-Nat.pow_add]; congr 1; omega
   rw [e,Nat.mul_comm]; omega
 have E:c*2 ^ (b-base).toNat<2 ^ (90-base).toNat:=by
  have e:2 ^ (90-base).toNat=2 ^ (8-base).toNat*2 ^ 82:=by rw [<-Nat.pow_add]; congr 1; omega
  have e3:c*2 ^ (b-base).toNat<=c*2 ^ (8-base).toNat:=Nat.mul_le_mul_left _ i
  have N:0<2 ^ (8-base).toNat:=Nat.pow_pos (by decide)
  have e5:c*2 ^ (8-base).toNat<2 ^ 82*2 ^ (8-base).toNat:=Nat.mul_lt_mul_of_pos_right (by omega) N
  rw [e,Nat.mul_comm (2 ^ (8-base).toNat)]; omega
 have s:T<2 ^ ((90-base).toNat+1):=by rw [Nat.pow_succ]; omega
 have q:2 ^ (52+(p-base).toNat)<=T:=by
  have:2 ^ 52*2 ^ (p-base).toNat<=m*2 ^ (p-base).toNat:=Nat.mul_le_mul_right _ (by omega)
  rw [Nat.pow_add]; omega
 have Y:=Uq s
 have X:=Acq q
 have u:T≠0:=by
  have:=Nat.pow_pos (n:=52+(p-base).toNat) (show 0<2 by decide); omega
 obtain ⟨m3,B,z,S,R,c3⟩:=Rn T base (base+T.log2) u rfl (by omega) (by omega)
 refine ⟨double.nearest false T base,m3,B,?_,z,S,R,by omega,by omega⟩
 show ((double.read w).sum (double.read (floatOfInt .f64 y))).map double.write=_
 rw [hw,x]
 have l:¬((T:Int)=0):=by omega
 have k:decide ((T:Int)<0)=false:=Av (by omega)
 simp only [Datum.sum,hb,t1,if_neg l,k,Option.map_some,Int.natAbs_natCast,Format.write]
theorem Ar5 {b m N:Nat} {p:Int} (g:double.read b = .number false m p) (i:(Datum.number false m p).toInt .zero=some (N:Int)) (h:N<=9223372036854775808):floatToIntVal .f64 b .u64=some (N:Int):=by
 have hd:FloatKind.f64.decode b = .number false m p:=g
 have f:IntKind.u64.min=0:=by decide
 have c:IntKind.u64.max=18446744073709551615:=by decide
 unfold floatToIntVal
 rw [hd,i]
 simp only [f,c]
 rw [if_pos ⟨by omega,by omega⟩]
theorem Ar6 (w:Nat) (m:Nat) (p:Int) (hw:double.read w = .number false m p) (R:4503599627370496<=m) (M:m<9007199254740992) (L:7<=p) (J:p<=39) (z:Int) (h0:1000000000<=z) (h1:z<1000000000000000000) :
  ∃(w':Nat) (n:Int),floatBits .quo .f64 w (floatOfInt .f64 z)=some w'/\floatToIntVal .f64 w' .u64=some n/\0<=n/\n<=9223372036854775808:=by
 have U:z.natAbs.log2<=59:=Uq (by simp; omega)
 have S:29<=z.natAbs.log2:=Acq (by simp; omega)
 obtain ⟨f,c,u,a1,a2,a3⟩:=Rn z.natAbs 0 (z.natAbs.log2) (by omega) (by omega) (by omega) (by omega)
 have D:m.log2=52:=Yo (by omega) (by omega)
 have y:f.log2=52:=Yo (by omega) (by omega)
 generalize hq:m*2 ^ 54 / f=q
 generalize l:((m*2 ^ 54 % f != 0).toNat)=s
 have E:s<=1:=by rw [<-l]; exact Bool.toNat_le _
 have I:q<2 ^ 55:=by rw [<-hq]; exact (Nat.div_lt_iff_lt_mul (by omega)).2 (by omega)
 have G:2 ^ 53<=q:=by rw [<-hq]; exact (Nat.le_div_iff_mul_le (by omega)).2 (by omega)
 have B:(2*q+s).log2<=55:=Uq (by omega)
 have A:54<=(2*q+s).log2:=Acq (by omega)
 obtain ⟨m4,b,x,c1,Y,Z⟩:=Rn (2*q+s) (p-c-(54:Nat)-1) (p-c-(54:Nat)-1+(2*q+s).log2) (by omega) rfl (by omega) (by omega)
 have j:(Datum.number false m p).quotient (double.fractionBits+2) (Datum.number false f c)=some (.number false (2*q+s) (p-c-(54:Nat)-1)):=by
  have i:¬f=0:=by omega
  have X:double.fractionBits+2=54:=rfl
  simp only [Datum.quotient,if_neg i,X,D,y,Nat.shiftLeft_eq,Nat.add_sub_cancel,hq,l,Bool.xor_self]
 have hb:m4*2 ^ b.toNat<=9223372036854775808:=by
  have k:b<=10\/(b=11/\m4=4503599627370496):=by omega
  rcases k with h | ⟨rfl,rfl⟩
  .have:2 ^ b.toNat<=2 ^ 10:=Nat.pow_le_pow_right (by decide) (by omega)
   have:=Nat.mul_le_mul (Nat.le_of_lt Y) this
   omega
  .decide
 obtain ⟨N,V,g⟩:∃N:Nat,(Datum.number false m4 b).toInt .zero=some (N:Int)/\N<=9223372036854775808:=by
  refine ⟨(m4 <<< b.toNat) / (1 <<< min (-b).toNat ((m4 <<< b.toNat).log2+2)),?_,?_⟩
  .simp only [Datum.toInt,Datum.integral,Toward.cut,signed,Bool.false_eq_true,if_false,Nat.shiftLeft_zero,Bool.toNat_false,Nat.add_zero]
  .rw [Nat.shiftLeft_eq m4]
   exact Nat.le_trans (Nat.div_le_self _ _) hb
 refine ⟨double.nearest false (2*q+s) (p-c-(54:Nat)-1),(N:Int),?_,?_,by omega,by omega⟩
 .have e:floatBits .quo .f64 w (floatOfInt .f64 z)=((double.read w).quotient (double.fractionBits+2) (double.read (floatOfInt .f64 z))).map double.write:=rfl
  rw [e,hw,Acp z (by omega),u,j]
  simp only [Option.map_some,Format.write]
 .exact Ar5 x V g
theorem Ar7 (r n:Nat) (h2:2<=A8 n) (E:A8 r<=A8 n+1) (G:A8 n<1099511627776):∃d:Nat,T1 (Ad r) (Ad n)=some (d:Int)/\d<1000000000:=by
 unfold T1
 unfold A8 at h2 E G
 have c:n≠0:=by rintro rfl; rw [Ep] at h2; simp at h2
 by_cases V:(Ad r).length<(Ad n).length
 .exact ⟨0,by rw [Am (by omega)]; rfl,by decide⟩
 .rw [Av (by omega),cond_false]
  have y:Ac (((Ad n).length:Int)-1)=(((Ad n).length-1:Nat):Int):=by rw [Ac,Bv] <;> omega
  have u:Ac (((Ad n).length:Int)-2)=(((Ad n).length-2:Nat):Int):=by rw [Ac,Bv] <;> omega
  have i1:(Ad n).length-1<(Ad n).length:=by omega
  have i2:(Ad n).length-2<(Ad n).length:=by omega
  have h:(Ad n).length-1<(Ad r).length:=by omega
  have g:(Ad n).length-2<(Ad r).length:=by omega
  have t1:=(D0 n).get i1
  have t2:=(D0 n).get i2
  have M:=(D0 r).get h
  have L:=(D0 r).get g
  have i:(Ad n)[(Ad n).length-1]≠0:=by
   have:=(Ya n).2 (G2 c)
   rwa [List.getLast_eq_getElem] at this
  rw [y,u,Dd rfl i1,Ae,Dd rfl i2,Ae,Dd rfl h,Ae,Dd rfl g,Ae]
  generalize (Ad n)[(Ad n).length-1]=a1 at *
  generalize (Ad n)[(Ad n).length-2]=a2 at *
  generalize (Ad r)[(Ad n).length-1]=b1 at *
  generalize (Ad r)[(Ad n).length-2]=b2 at *
  have l:As (As (As b1*1000000000)+As b2)=b1*1000000000+b2:=by
   rw [show As b1=b1 from Cw (by omega) (by omega),show As b2=b2 from Cw (by omega) (by omega),show As (b1*1000000000)=b1*1000000000 from Cw (by omega) (by omega)]
   exact Cw (by omega) (by omega)
  have j:As (As (As a1*1000000000)+As a2)=a1*1000000000+a2:=by
   rw [show As a1=a1 from Cw (by omega) (by omega),show As a2=a2 from Cw (by omega) (by omega),show As (a1*1000000000)=a1*1000000000 from Cw (by omega) (by omega)]
   exact Cw (by omega) (by omega)
  rw [l,j]
  by_cases X:(Ad r).length=(Ad n).length
  .rw [E8 (by omega),cond_true,Jb (by omega) (by omega) (by omega),Ae]
   have R:0<=(b1*1000000000+b2) / (a1*1000000000+a2):=Int.ediv_nonneg (by omega) (by omega)
   have N:(b1*1000000000+b2) / (a1*1000000000+a2)<1000000000:=Int.ediv_lt_of_lt_mul (by omega) (by omega)
   exact ⟨((b1*1000000000+b2) / (a1*1000000000+a2)).toNat,by congr 1; omega,by omega⟩
  .have hk:(Ad n).length<(Ad r).length:=by omega
   have b:r≠0:=by rintro rfl; rw [Ep] at hk; simp at hk
   have J:=(D0 r).get hk
   have f:(Ad r)[(Ad n).length]≠0:=by
    have:=(Ya r).2 (G2 b)
    rw [List.getLast_eq_getElem] at this
    have e:(Ad r).length-1=(Ad n).length:=by omega
    simpa [e] using this
   rw [C5 (by omega),cond_false,Dd rfl hk,Ae]
   generalize (Ad r)[(Ad n).length]=x at *
   obtain ⟨s,m3,A,f1,f2,f3,f4,f5,f6⟩:=Ar3 x (by omega) (by omega)
   obtain ⟨q,m4,z,g1,g2,g3,g4,g5,g6⟩:=Ar4 s m3 A f2 f3 f4 f5 f6 (b1*1000000000+b2) (by omega) (by omega)
   obtain ⟨I,k,D,B,U,S⟩:=Ar6 q m4 z g2 g3 g4 g5 g6 (a1*1000000000+a2) (by omega) (by omega)
   rw [f1,Ae,g1,Ae,D,Ae,B,Ae,show As (k+2)=k+2 from Cw (by omega) (by omega)]
   by_cases hc:(999999999:Int)<k+2
   .exact ⟨999999999,by rw [if_pos hc]; rfl,by decide⟩
   .exact ⟨(k+2).toNat,by rw [if_neg hc]; congr 1; omega,by omega⟩
end Go.Ab
namespace Go.Ab
open Go
theorem Ar8 (x r:Nat):A8 (x % 1000000000+1000000000*r)<=A8 r+1:=by
 apply Iu
 have:=K7 r
 rw [Nat.pow_succ]
 omega
set_option maxHeartbeats 1000000 in
theorem Acr (m n:Nat) (hm:A8 m<137438953472) (hn:A8 n<137438953472) (D:n≠0):Oa (Ad m) (Ad n)=some (Ad (m / n),Ad (m % n)):=by
 unfold Oa
 rw [Yl,Rj m n (by omega) (by omega),Ae]
 have af:=hm
 have ae:=hn
 unfold A8 at hm hn
 by_cases l:m<n
 .rw [show Eh m n = -1 by rw [Eh,if_pos l],Am (by decide:(-1:Int)<0),cond_true,O6 _ (by omega),Ae,Ari (Ya m),Nat.div_eq_of_lt l,Nat.mod_eq_of_lt l,Ep]
 .rw [Av (show ¬Eh m n<0 by rw [Eh,if_neg l]; split <;> decide),cond_false]
  have a8:(Ad n).length≠0:=fun e=>G2 D (List.length_eq_zero_iff.1 e)
  by_cases h1:(Ad n).length=1
  .rw [E8 (by omega:((Ad n).length:Int)=1),cond_true]
   have B:n<1000000000:=by
    have:=K7 n
    rw [show A8 n=1 from h1] at this
    simpa using this
   have Y:Ad n = [(n:Int)]:=by
    rw [Kh D,Nat.div_eq_of_lt B,Ep,Nat.mod_eq_of_lt B]
   rw [Y,show Ag [(n:Int)] 0=some (n:Int) from rfl,Ae,show As (n:Int)=n from Cw (by omega) (by omega),Ary m n (by omega) (by omega) (by omega),Ae]
   have a7:m % n<n:=Nat.mod_lt _ (by omega)
   rw [Aik,Ri (m % n) (by omega),Ae]
  .rw [C5 (by omega:((Ad n).length:Int)≠1),cond_false]
   have hw:Ac (((Ad m).length:Int)-1)=((Ad m).length:Int)-1:=by rw [Ac,Bv] <;> omega
   rw [H8 rfl rfl (Nat.le_refl _) (by omega) (by omega),hw]
   simp only [Ae]
   have ha:=D0 m
   refine G1 (fun (r,i,q)=>∃(k R:Nat),r=Ad R/\i=(k:Int)-1/\k<=(Ad m).length/\R<n/\q.length=(Ad m).length/\Bj q/\Ah (q.drop k)*n+R=Ah ((Ad m).drop k))
    (fun (_,i,_)=>(i+1).toNat) (fun (r,q)=>∃R:Nat,r=Ad R/\R<n/\q.length=(Ad m).length/\Bj q/\Ah q*n+R=m)
    ⟨(Ad m).length,0,by rw [Ep],rfl,Nat.le_refl _,by omega,by simp,Bj.replicate _,by simp [Ah]⟩ ?_ ?_
   .rintro ⟨r,i,q⟩ ⟨k,R,rfl,rfl,hk,J,u,g,A⟩
    cases k with
    | zero=>exact .inr ⟨(Ad R,q),by simp,R,rfl,J,u,g,by simpa [Ea] using A⟩
    | succ j=>
     have hj:j<(Ad m).length:=by omega
     have E:j<q.length:=by omega
     have hx:=ha.get hj
     obtain ⟨x,y⟩:∃x:Nat,(Ad m)[j]=(x:Int):=⟨(Ad m)[j].toNat,by omega⟩
     have L:x<1000000000:=by omega
     have e0:((j+1:Nat):Int)-1=(j:Int):=by omega
     have e1:decide ((j:Int)>=0)=true:=Am (by omega)
     have Z:A8 R<=A8 n:=G3 (by omega)
     have ac:A8 (x+1000000000*R)<=A8 R+1:=by
      have:=Ar8 x R
      rwa [Nat.mod_eq_of_lt L] at this
     have ah:(Ad R).length<=(Ad n).length:=Z
     have G:Il ((x:Int)::Ad R)=some (Ad (x+1000000000*R)):=by
      rw [O6 _ (by simp; omega)]
      congr 1
      refine Jc ?_ ?_
      .intro d hd
       rcases List.mem_cons.1 hd with rfl | hd
       .omega
       .exact D0 R d hd
      .simp only [Ah,Ea]; omega
     obtain ⟨d0,U,ag⟩:=Ar7 (x+1000000000*R) n (by unfold A8; omega) (by omega) (by omega)
     generalize a6:x+1000000000*R=f at *
     have ab:f<1000000000*n:=by omega
     have s:∀d:Nat,d<18446744073709551616->Om (d:Int)=some (Ad d)/\K1 (Ad n) (Ad d)=some (Ad (n*d)):=by
      intro d hd
      have:=Rh hd
      exact ⟨by rw [Aik,Ri d hd],Yn n d (by omega) (by omega)⟩
     have I:∀d:Nat,d<18446744073709551616->M0 (Ad (n*d)) (Ad f)=some (Eh (n*d) f):=by
      intro d hd
      have h3:=Rh hd
      have h4:=Hg n d
      rw [Yl,Rj _ _ (by omega) (by omega)]
     simp only [e0,e1,cond_true,Dd rfl hj,y,Ae,Ds (show ([(x:Int)].length+(Ad R).length)*4<=_ by simp; omega),List.singleton_append,G,U]
     refine .inl (X6 (Fe (fun d=>∃e:Nat,d=e/\e<=d0) (fun d=>d.toNat) (fun d=>∃e:Nat,d=e/\e<=d0/\n*e<=f) ⟨d0,rfl,Nat.le_refl _⟩ ?_ ?_))
     .rintro d ⟨e,rfl,he⟩
      by_cases X:e=0
      .subst X
       exact .inr ⟨0,rfl,0,rfl,by omega,by simp⟩
      .obtain ⟨m1,m2⟩:=s e (by omega)
       simp only [Am (by omega:(e:Int)>0),cond_true,m1,m2,I e (by omega),Ae]
       by_cases hc:f<n*e
       .refine .inl ⟨((e-1:Nat):Int),?_,⟨e-1,rfl,by omega⟩,by simp; omega⟩
        rw [show Eh (n*e) f=1 by rw [Eh,if_neg (by omega),if_pos hc],show decide ((1:Int)>0)=true from rfl,cond_true,show As ((e:Int)-1)=((e-1:Nat):Int) by rw [As,Cw] <;> omega]
       .refine .inr ⟨(e:Int),?_,e,rfl,he,by omega⟩
        rw [Av (show ¬Eh (n*e) f>0 by rw [Eh,if_neg hc]; split <;> decide),cond_false]
     .rintro d ⟨e,rfl,he,N⟩
      obtain ⟨m1,m2⟩:=s e (by omega)
      simp only [m1,m2,Ae,Ym f (n*e) (by omega) N]
      refine Fe (fun (r,d)=>∃(c b:Nat),r=Ad c/\d=b/\n*b+c=f) (fun (r,_)=>(Ah r).toNat) (fun (r,d)=>∃(c b:Nat),r=Ad c/\d=b/\n*b+c=f/\c<n) ⟨f-n*e,e,rfl,rfl,by omega⟩ ?_ ?_
      .rintro ⟨r,d⟩ ⟨c,b,rfl,rfl,M⟩
       have aa:A8 c<=A8 f:=G3 (by omega)
       have V:b<1000000000:=by
        rcases Nat.lt_or_ge b 1000000000 with h | h
        .exact h
        .exfalso
         have:n*1000000000<=n*b:=Nat.mul_le_mul_left n h
         omega
       simp only [Yl,Rj c n (by omega) (by omega),Ae]
       by_cases hc:c<n
       .refine .inr ⟨(Ad c,(b:Int)),?_,c,b,rfl,rfl,M,hc⟩
        rw [Av (show ¬Eh c n>=0 by rw [Eh,if_pos hc]; decide),cond_false]
       .refine .inl ⟨(Ad (c-n),((b+1:Nat):Int)),?_,⟨c-n,b+1,rfl,rfl,?_⟩,?_⟩
        .rw [Am (show Eh c n>=0 by rw [Eh,if_neg hc]; split <;> decide),cond_true,Ym c n (by omega) (by omega),Ae,show As ((b:Int)+1)=((b+1:Nat):Int) by rw [As,Cw] <;> omega]
        .rw [Nat.mul_add]; omega
        .simp only [Ea]; omega
      .rintro ⟨r,d⟩ ⟨c,b,rfl,rfl,M,a1⟩
       have V:b<1000000000:=by
        rcases Nat.lt_or_ge b 1000000000 with h | h
        .exact h
        .exfalso
         have:n*1000000000<=n*b:=Nat.mul_le_mul_left n h
         omega
       have w1:Bw (b:Int)=b:=Em (by omega) (by omega)
       have w8:Ac ((j:Int)-1)=(j:Int)-1:=by rw [Ac,Bv] <;> omega
       refine ⟨_,by simp only [Dd rfl E,Ae,w1,w8,E7 rfl],(Ad c,(j:Int)-1,q.set j (b:Int)),rfl,⟨j,c,rfl,rfl,by omega,a1,by simpa using u,g.set _ (by omega) (by omega),?_⟩,by simp⟩
       have d1:(q.set j (b:Int)).drop j=(b:Int)::q.drop (j+1):=by
        rw [List.drop_eq_getElem_cons (by simpa using E),List.drop_set_of_lt (by omega)]; simp
       rw [d1,List.drop_eq_getElem_cons hj,y]
       simp only [Ah]
       rw [<-A]
       have:((n*b+c:Nat):Int)=((x+1000000000*R:Nat):Int):=by rw [M,a6]
       simp only [Int.natCast_add,Int.natCast_mul] at this
       grind
   .rintro ⟨r,q⟩ ⟨R,rfl,J,u,g,A⟩
    dsimp only
    have ad:=Fp g.u32
    obtain ⟨Q,hQ⟩:∃Q:Nat,Ah q=Q:=⟨(Ah q).toNat,by omega⟩
    rw [hQ] at A
    have z:Q*n+R=m:=by
     have:((Q*n+R:Nat):Int)=(m:Int):=by simp only [Int.natCast_add,Int.natCast_mul]; exact A
     omega
    have hd:m / n=Q:=by rw [<-z,Nat.mul_comm,Nat.mul_add_div (by omega),Nat.div_eq_of_lt J]; rfl
    have S:m % n=R:=by rw [<-z,Nat.mul_comm,Nat.mul_add_mod,Nat.mod_eq_of_lt J]
    rw [O6 q (by omega),Ae,Jc g hQ,hd,S]
theorem Ar9 (m n:Nat) (h:A8 m<137438953472) (g:A8 n<137438953472):Tn (Ad m) (Ad n)=some (Ad (Nat.gcd m n)):=by
 unfold Tn
 refine G1 (fun (a,b)=>∃x y:Nat,a=Ad x/\b=Ad y/\A8 x<137438953472/\A8 y<137438953472/\Nat.gcd x y=Nat.gcd m n) (fun (_,b)=>(Ah b).toNat)
  (fun r=>r=Ad (Nat.gcd m n)) ⟨m,n,rfl,rfl,h,g,rfl⟩ ?_ (by rintro e rfl; rfl)
 rintro ⟨a,b⟩ ⟨x,y,rfl,rfl,hx,hy,f⟩
 by_cases c:y=0
 .subst c
  refine .inr ⟨Ad x,by rw [Ep]; rfl,?_⟩
  rw [<-f,Nat.gcd_zero_right]
 .have i:(Ad y).length≠0:=fun e=>G2 c (List.length_eq_zero_iff.1 e)
  have j:decide (((Ad y).length:Int)>0)=true:=Am (by omega)
  refine .inl ⟨(Ad y,Ad (x % y)),?_,⟨y,x % y,rfl,rfl,hy,by have:=G3 (Nat.mod_le x y); omega,?_⟩,?_⟩
  .simp only [j,cond_true,Acr x y hx hy c,Ae]
  .rw [<-f,Nat.gcd_comm y,<-Nat.gcd_rec,Nat.gcd_comm]
  .simp only [Ea]
   have:=Nat.mod_lt x (by omega:y>0)
   omega
end Go.Ab
namespace Go.Ab
open Go
def L5 (b:Bool) (n d:Nat):Ap:=if d=0 then ⟨false,[],[1]⟩ else Bf b n d
theorem Acs {n:Nat} (h:n≠0):(Ad n).length≠0:=fun e=>G2 h (List.length_eq_zero_iff.1 e)
theorem Acu (c:Bool) (a b:List Int) (ha:Kg a) (hb:Kg b) (s:a.length<137438953400) (q:b.length<137438953400):Ky c a b=some (L5 c (Ah a).toNat (Ah b).toNat):=by
 unfold Ky
 have h1:=Yk ha
 have h2:=Yk hb
 rw [Aij a ha (by omega),Ae,Aij b hb (by omega),Ae]
 generalize (Ah a).toNat=n at *
 generalize (Ah b).toNat=d at *
 by_cases g:n=0
 .subst g
  have:L5 c 0 d=⟨false,[],[1]⟩:=by unfold L5; split <;> simp [Bf]
  rw [this,Ep]; rfl
 .have k:=Acs g
  by_cases hd:d=0
  .subst hd
   simp only [C5 (by omega:((Ad n).length:Int)≠0),cond_false,Ep,Ae]
   rfl
  .have l:=Acs hd
   have f:Nat.gcd n d≠0:=by have:=Nat.gcd_pos_of_pos_left d (by omega:0<n); omega
   have x:A8 (Nat.gcd n d)<=A8 n:=G3 (Nat.gcd_le_left d (by omega:0<n))
   simp only [C5 (by omega:((Ad n).length:Int)≠0),cond_false,C5 (by omega:((Ad d).length:Int)≠0),Ae,Ar9 n d (by omega) (by omega)]
   rw [L5,if_neg hd,Bf,if_neg g]
   have key:(bif (((Ad (Nat.gcd n d)).length:Int) != (1:Int)) then some true else ((Ag (Ad (Nat.gcd n d)) 0).bind fun j=>some (j != (1:Int))))=some (decide (Nat.gcd n d≠1)):=by
    have h3:=Acj (Nat.gcd n d)
    unfold Oj at h3
    by_cases u:(Ad (Nat.gcd n d)).length=1
    .rw [E8 (by omega:((Ad (Nat.gcd n d)).length:Int)=1),cond_true] at h3
     rw [D3 (by omega:((Ad (Nat.gcd n d)).length:Int)=1),cond_false]
     cases i:Ag (Ad (Nat.gcd n d)) 0 with
     | none=>rw [i] at h3; cases h3
     | some v=>
      rw [i] at h3
      simp only [Ae] at h3 ⊢
      have h3:=Option.some.inj h3
      congr 1
      rw [bne,h3]; simp
    .rw [C5 (by omega:((Ad (Nat.gcd n d)).length:Int)≠1),cond_false] at h3
     rw [Dq (by omega:((Ad (Nat.gcd n d)).length:Int)≠1),cond_true]
     have h3:=Option.some.inj h3
     have:Nat.gcd n d≠1:=by simpa using h3.symm
     rw [Am this]
   rw [key,Ae]
   by_cases h:Nat.gcd n d=1
   .rw [Av (by simpa using h),cond_false,h]; simp
   .rw [Am h,cond_true,Acr n _ (by omega) (by omega) f,Ae,Acr d _ (by omega) (by omega) f,Ae]
theorem Asa (a:Ap):L5 a.Neg (Ah a.Num).toNat (Ah a.Den).toNat=Bf (sv a) (nv a) (dv a):=by
 unfold L5 sv nv dv
 by_cases b:(Ah a.Num).toNat=0
 .simp [b,Bf]
 .by_cases hd:(Ah a.Den).toNat=0
  .simp [hd,Bf]
  .simp [b,hd]
theorem Acv (a:Ap) (k:Nat) (h:RB k a) (hk:k<137438953400):N1 a=some (Bf (sv a) (nv a) (dv a)):=by
 unfold N1
 have:=h.nl
 have:=h.dl
 rw [Acu _ _ _ h.num h.den (by omega) (by omega),Ae,Asa]
theorem Acw (s:Bool) (n d:Nat) (hd:d≠0):(Bf s n d).Num=Ad (nv (Bf s n d))/\(Bf s n d).Den=Ad (dv (Bf s n d))/\(Bf s n d).Neg=sv (Bf s n d):=by
 obtain ⟨h1,h2,h3,c⟩:=Rm s n d hd
 rw [h1,h2]
 by_cases h0:n=0
 .subst h0
  rw [c rfl,Rl]
  have b:d / Nat.gcd 0 d=1:=by rw [Nat.gcd_zero_left]; exact Nat.div_self (by omega)
  rw [b,Nat.zero_div,Ep,Uo]; exact ⟨rfl,rfl,rfl⟩
 .rw [h3 h0]; simp [Bf,h0]
theorem Yp (a:Ap):∃g:Nat,g≠0/\nv a=g*nv (Bf (sv a) (nv a) (dv a))/\dv a=g*dv (Bf (sv a) (nv a) (dv a))/\sv (Bf (sv a) (nv a) (dv a))=sv a:=by
 obtain ⟨h1,h2,h3,b⟩:=Rm (sv a) (nv a) (dv a) (Eu a)
 have hd:=Eu a
 have c:0<Nat.gcd (nv a) (dv a):=Nat.gcd_pos_of_pos_right _ (by omega)
 refine ⟨Nat.gcd (nv a) (dv a),by omega,?_,?_,?_⟩
 .rw [h1]; exact (Nat.mul_div_cancel' (Nat.gcd_dvd_left _ _)).symm
 .rw [h2]; exact (Nat.mul_div_cancel' (Nat.gcd_dvd_right _ _)).symm
 .by_cases h0:nv a=0
  .rw [b h0]
   unfold nv at h0
   unfold sv
   split at h0
   .rename_i hc; rw [if_pos hc]
   .omega
  .exact h3 h0
theorem Asb (s:Bool) (n d:Nat) (h:d≠0):L5 s n d=Bf s n d:=by rw [L5,if_neg h]
theorem Acx (b:Bool) (n d:Nat) (f:A8 n<137438953400) (hd:A8 d<137438953400) (c:d≠0):Ky b (Ad n) (Ad d)=some (Bf b n d):=by
 unfold A8 at f hd
 rw [Acu b _ _ (D0 n).u32 (D0 d).u32 f hd,Ea,Ea,Int.toNat_natCast,Int.toNat_natCast,Asb _ _ _ c]
theorem Ail {k:Nat} {a:Ap} (h:RB k a):RB (k+1) (Bf (sv a) (nv a) (dv a)):=K8 _ _ _ _ h.nv h.dv (by omega)
theorem Aim {k:Nat} {a:Ap} (h:RB k a):A8 (nv (Bf (sv a) (nv a) (dv a)))<=k+1/\A8 (dv (Bf (sv a) (nv a) (dv a)))<=k+1:=by
 obtain ⟨g,b,h1,h2,_⟩:=Yp a
 have a1:=h.nv
 have a2:=h.dv
 refine ⟨Nat.le_trans (G3 ?_) a1,Nat.le_trans (G3 ?_) a2⟩
 .exact Nat.le_trans (Nat.le_mul_of_pos_left _ (by omega)) (Nat.le_of_eq h1.symm)
 .exact Nat.le_trans (Nat.le_mul_of_pos_left _ (by omega)) (Nat.le_of_eq h2.symm)
theorem Asd (l:Bool) (c j:Nat) (k:Bool) (b i g h:Nat) (y:g≠0) (x:h≠0):Hq l (g*c) (g*j) k (h*b) (h*i)=g*h*Hq l c j k b i/\Ki l (g*c) (g*j) k (h*b) (h*i)=Ki l c j k b i:=by
 have u:g*c*(h*i)=g*h*(c*i):=by grind
 have s:h*b*(g*j)=g*h*(b*j):=by grind
 have hc:(g*h*(b*j)<=g*h*(c*i))↔(b*j<=c*i):=Nat.mul_le_mul_left_iff (Nat.mul_pos (by omega) (by omega))
 unfold Hq Ki
 rw [u,s]
 by_cases q:l=k
 .simp only [if_pos q]
  exact ⟨by rw [Nat.mul_add],trivial⟩
 .simp only [if_neg q]
  by_cases f:b*j<=c*i
  .simp only [if_pos f,if_pos (hc.2 f)]
   exact ⟨by rw [Nat.mul_sub],trivial⟩
  .simp only [if_neg f,if_neg (fun h=>f (hc.1 h))]
   exact ⟨by rw [Nat.mul_sub],trivial⟩
theorem Ain (a b:Ap) (j k:Nat) (ha:RB j a) (hb:RB k b) (hj:j<34359738368) (hk:k<34359738368) :
  N8 a b=some (Bf (Ki (sv a) (nv a) (dv a) (sv b) (nv b) (dv b)) (Hq (sv a) (nv a) (dv a) (sv b) (nv b) (dv b)) (dv a*dv b)):=by
 unfold N8
 rw [Acv a j ha (by omega),Ae,Acv b k hb (by omega),Ae]
 obtain ⟨g,q,a1,a2,a3⟩:=Yp a
 obtain ⟨h,l,b1,b2,B⟩:=Yp b
 obtain ⟨f1,f2,f3⟩:=Acw (sv a) (nv a) (dv a) (Eu a)
 obtain ⟨A,y,x⟩:=Acw (sv b) (nv b) (dv b) (Eu b)
 obtain ⟨I,G⟩:=Aim ha
 obtain ⟨E,D⟩:=Aim hb
 rw [f1,f2,f3,A,y,x,a3,B]
 generalize hc:Bf (sv a) (nv a) (dv a)=c at *
 generalize hd:Bf (sv b) (nv b) (dv b)=d at *
 have m1:=Hg (nv c) (dv d)
 have m2:=Hg (nv d) (dv c)
 have m3:=Hg (dv c) (dv d)
 have m4:=Yd (nv c*dv d) (nv d*dv c)
 have m5:=G3 (Nat.sub_le (nv c*dv d) (nv d*dv c))
 have m6:=G3 (Nat.sub_le (nv d*dv c) (nv c*dv d))
 have z:dv c*dv d≠0:=Nat.mul_ne_zero (Eu c) (Eu d)
 obtain ⟨u,s⟩:=Asd (sv a) (nv c) (dv c) (sv b) (nv d) (dv d) g h q l
 rw [a1,a2,b1,b2,u,s,show g*dv c*(h*dv d)=g*h*(dv c*dv d) by grind,O5 _ _ _ _ (Nat.mul_ne_zero q l)]
 rw [Yn _ _ (by omega) (by omega),Ae,Yn _ _ (by omega) (by omega),Ae,Yn _ _ (by omega) (by omega),Ae]
 unfold Ki Hq
 by_cases i:sv a=sv b
 .have e:(sv a==sv b)=true:=by rw [i]; exact beq_self_eq_true _
  rw [e,cond_true,Ar0 _ _ (by omega) (by omega),Ae,Acx _ _ _ (by omega) (by omega) z,Ae,if_pos i,if_pos i]
 .have e:(sv a==sv b)=false:=by simpa using i
  rw [e,cond_false,Yl,Rj _ _ (by omega) (by omega),Ae,if_neg i,if_neg i]
  by_cases f:nv d*dv c<=nv c*dv d
  .rw [Am (show Eh (nv c*dv d) (nv d*dv c)>=0 by rw [Eh,if_neg (by omega)]; split <;> decide),cond_true,Ym _ _ (by omega) f,Ae,Acx _ _ _ (by omega) (by omega) z,Ae,if_pos f,if_pos f]
  .rw [Av (show ¬Eh (nv c*dv d) (nv d*dv c)>=0 by rw [Eh,if_pos (by omega)]; decide),cond_false,Ym _ _ (by omega) (by omega),Ae,Acx _ _ _ (by omega) (by omega) z,Ae,if_neg f,if_neg f]
theorem Aio (a:Ap) (k:Nat) (h:RB k a) (hk:k<137438953400):Qc a=some (Hh (sv a) (nv a)):=by
 unfold Qc
 rw [Acv a k h hk,Ae]
 obtain ⟨g,b,a1,a2,a3⟩:=Yp a
 obtain ⟨f1,f2,f3⟩:=Acw (sv a) (nv a) (dv a) (Eu a)
 rw [f1,f3,a3,Hh]
 by_cases h0:nv a=0
 .have:nv (Bf (sv a) (nv a) (dv a))=0:=by
   rw [h0] at a1
   rcases Nat.mul_eq_zero.1 a1.symm with h | h
   .exact (b h).elim
   .rw [h0]; exact h
  rw [this,Ep,if_pos h0]; rfl
 .have:nv (Bf (sv a) (nv a) (dv a))≠0:=by
   intro e; rw [e,Nat.mul_zero] at a1; exact h0 a1
  have:=Acs this
  rw [C5 (by omega),cond_false,if_neg h0]
  cases sv a <;> rfl
theorem Ase (a:Ap) (k:Nat) (h:RB k a) (hk:k<137438953400):Tf a=some (Bf (!sv a) (nv a) (dv a)):=by
 unfold Tf
 have:=h.nl
 have:=h.dl
 rw [Acu _ _ _ h.num h.den (by omega) (by omega),Ae]
 congr 1
 unfold L5 sv nv dv
 by_cases b:(Ah a.Num).toNat=0
 .simp [b,Bf]
 .by_cases hd:(Ah a.Den).toNat=0
  .simp [hd,Bf]
  .simp [b,hd]
theorem Asf (a:Ap) (k:Nat) (h:RB k a) (hk:k<8589934592):S0 a a=some 0:=by
 unfold S0 W6
 have h1:=h.nv
 have h2:=h.dv
 have u:=Ase a k h (by omega)
 have i:RB (k+1) (Bf (!sv a) (nv a) (dv a)):=K8 _ _ _ _ h1 h2 (by omega)
 obtain ⟨j,q,l,A⟩:=Rm (!sv a) (nv a) (dv a) (Eu a)
 rw [u,Ae,Ain a _ k (k+1) h i (by omega) (by omega),Ae,Ae]
 generalize hc:Bf (!sv a) (nv a) (dv a)=c at *
 have B:0<Nat.gcd (nv a) (dv a):=Nat.gcd_pos_of_pos_right _ (by have:=Eu a; omega)
 have y:nv a=Nat.gcd (nv a) (dv a)*nv c:=by rw [j]; exact (Nat.mul_div_cancel' (Nat.gcd_dvd_left _ _)).symm
 have z:dv a=Nat.gcd (nv a) (dv a)*dv c:=by rw [q]; exact (Nat.mul_div_cancel' (Nat.gcd_dvd_right _ _)).symm
 have b:Hq (sv a) (nv a) (dv a) (sv c) (nv c) (dv c)=0:=by
  by_cases h0:nv a=0
  .have:nv c=0:=by rw [j,h0]; simp
   unfold Hq
   rw [h0,this]
   split
   .simp
   .split <;> simp
  .have s:sv a≠sv c:=by rw [l h0]; cases sv a <;> decide
   have:nv c*dv a=nv a*dv c:=by
    generalize Nat.gcd (nv a) (dv a)=g at *
    rw [y,z]; grind
   unfold Hq
   rw [if_neg s,this,if_pos (Nat.le_refl _),Nat.sub_self]
 rw [b,Rl]
 have f:RB 1 ⟨false,[],[1]⟩:=by
  refine ⟨(fun _ h=>by cases h),(fun x h=>?_),by simp,by simp⟩
  simp at h; subst h; decide
 rw [Aio _ 1 f (by decide)]
 rfl
end Go.Ab
namespace Go.Ab
open Go
theorem Yq (s:Bool) (n d:Nat) (hd:d≠0):∃g:Nat,g≠0/\n=g*nv (Bf s n d)/\d=g*dv (Bf s n d)/\(n≠0->sv (Bf s n d)=s)/\(n=0->sv (Bf s n d)=false):=by
 obtain ⟨h1,h2,h3,b⟩:=Rm s n d hd
 have c:0<Nat.gcd n d:=Nat.gcd_pos_of_pos_right _ (by omega)
 exact ⟨Nat.gcd n d,by omega,by rw [h1]; exact (Nat.mul_div_cancel' (Nat.gcd_dvd_left _ _)).symm,by rw [h2]; exact (Nat.mul_div_cancel' (Nat.gcd_dvd_right _ _)).symm,h3,b⟩
theorem Asg (s t:Bool) (n d m e:Nat) (hd:d≠0) (q:e≠0):Bf (sv (Bf s n d) != sv (Bf t m e)) (nv (Bf s n d)*nv (Bf t m e)) (dv (Bf s n d)*dv (Bf t m e))=Bf (s != t) (n*m) (d*e):=by
 obtain ⟨g,l,a1,a2,a3,_⟩:=Yq s n d hd
 obtain ⟨h,k,b1,b2,x,_⟩:=Yq t m e q
 have u:Bf (s != t) (n*m) (d*e)=Bf (sv (Bf s n d) != sv (Bf t m e)) (n*m) (d*e):=by
  apply Aih
  intro b
  have i:n≠0:=fun e=>b (by rw [e]; simp)
  have j:m≠0:=fun e=>b (by rw [e]; simp)
  rw [a3 i,x j]
 rw [u]
 generalize Bf s n d=c at *
 generalize Bf t m e=f at *
 rw [a1,a2,b1,b2,show g*nv c*(h*nv f)=g*h*(nv c*nv f) by grind,show g*dv c*(h*dv f)=g*h*(dv c*dv f) by grind,O5 _ _ _ _ (Nat.mul_ne_zero l k)]
def Fi (n:Nat):Nat->Nat
 | 0=>1
 | k+1=>Fi n k*(n-k)
def fct:Nat->Nat
 | 0=>1
 | k+1=>fct k*(k+1)
theorem Yr:∀k,fct k≠0
 | 0=>by decide
 | k+1=>Nat.mul_ne_zero (Yr k) (by omega)
theorem Ash {n k:Nat} (h:n<k):Fi n k=0:=by
 induction k with
 | zero=>omega
 | succ k ih=>
  simp only [Fi]
  rcases Nat.lt_or_ge n k with h' | h'
  .rw [ih h']; simp
  .have:n-k=0:=by omega
   rw [this]; simp
theorem Asi (n k:Nat) (b:n<1000000000):A8 (Fi n k)<=k+1:=by
 induction k with
 | zero=>simp [Fi,O4]
 | succ k ih=>
  have h1:=Hg (Fi n k) (n-k)
  have h2:A8 (n-k)<=1:=Iu (by simp; omega)
  simp only [Fi]; omega
theorem Asj (k:Nat) (hk:k<1000000000):A8 (fct k)<=k+1:=by
 induction k with
 | zero=>simp [fct,O4]
 | succ k ih=>
  have h1:=Hg (fct k) (k+1)
  have h2:A8 (k+1)<=1:=Iu (by simp; omega)
  simp only [fct]
  have:=ih (by omega)
  omega
theorem Aip {n:Nat} (h:n<1000000000):A8 n<=1:=Iu (by simpa using h)
theorem Ask (n k:Nat) (b:n<1000000000) (hk:k<=64):RB (k+1) (Bf false (Fi n k) (fct k)) :=
 K8 _ _ _ _ (Asi n k b) (Asj k (by omega)) (by omega)
theorem Aiq (a:Ap):Ap.mk a.Neg a.Num a.Den=a:=by cases a; rfl
theorem Air (n k:Nat) (A:n<1000000000) (hk:k<=64):Ol (n:Int) (k:Int)=some (Bf false (Fi n k) (fct k)):=by
 unfold Ol
 have B:Fx 1=some (Bf false (Fi n 0) (fct 0)):=Up 1 (by decide) (by decide)
 rw [B,Ae]
 refine G1 (fun (i,s,b,c)=>∃q:Nat,i=q/\q<=k/\q<=n/\Ap.mk s b c=Bf false (Fi n q) (fct q)) (fun (i,_,_,_)=>k-i.toNat)
  (fun e=>match e with | .inl r=>r=Bf false (Fi n k) (fct k) | .inr (s,b,c)=>Ap.mk s b c=Bf false (Fi n k) (fct k)) ⟨0,rfl,by omega,by omega,Aiq _⟩ ?_ ?_
 .rintro ⟨i,s,b,c⟩ ⟨q,rfl,hq,z,ha⟩
  rcases Nat.lt_or_ge q k with h | h
  .simp only [Am (by omega:(q:Int)<(k:Int)),cond_true]
   by_cases x:n=q
   .subst x
    refine .inr ⟨.inl (Bf false 0 1),?_,?_⟩
    .rw [E8 rfl,cond_true,Up 0 (by decide) (by decide)]; rfl
    .show Bf false 0 1=_
     rw [Ash h,Rl,Rl]
   .have u:Ac ((n:Int)-(q:Int))=((n-q:Nat):Int):=by rw [Ac,Bv] <;> omega
    have l:Ac ((q:Int)+1)=((q+1:Nat):Int):=Jd h (by omega)
    have y:N5 ((n-q:Nat):Int) ((q+1:Nat):Int)=some (Bf false (n-q) (q+1)):=by
     rw [Arw _ _ (by omega) (by omega) (by omega) (by omega) (by omega),Av (by omega:¬((n-q:Nat):Int)<0),Av (by omega:¬((q+1:Nat):Int)<0)]; rfl
    have g:RB 1 (Bf false (n-q) (q+1)):=K8 _ _ _ _ (Aip (by omega)) (Aip (by omega)) (by omega)
    have j:=Acn _ _ _ _ (Ask n q A (by omega)) g (by omega) (by omega)
    rw [Asg false false (Fi n q) (fct q) (n-q) (q+1) (Yr q) (by omega)] at j
    refine .inl ⟨(((q+1:Nat):Int),(Bf false (Fi n (q+1)) (fct (q+1))).Neg,(Bf false (Fi n (q+1)) (fct (q+1))).Num,(Bf false (Fi n (q+1)) (fct (q+1))).Den),?_,⟨q+1,rfl,by omega,by omega,Aiq _⟩,by simp; omega⟩
    rw [C5 (by omega),cond_false,u,l,y,Ae,ha,j,Ae]; rfl
  .have:q=k:=by omega
   subst this
   refine .inr ⟨.inr (s,b,c),by simp,ha⟩
 .rintro (e | ⟨s,b,c⟩) f
  .simp only at f ⊢; rw [f]
  .simp only at f ⊢; rw [f]
end Go.Ab
namespace Go.Ab
open Go
mutual
def Bt:Ai->Nat
 | ⟨_,_,l⟩=>1+Cn l
def Cn:List Ai->Nat
 | []=>0
 | x::xs=>Bt x+Cn xs
end
theorem Ju (t:Ai):Bt t=1+Cn t.Args:=by cases t; simp only [Bt]
theorem Ro (t:Ai):1<=Bt t:=by rw [Ju]; omega
theorem Kj {l:List Ai} {a:Ai} (h:a∈l):Bt a<=Cn l:=by
 induction l with
 | nil=>cases h
 | cons x xs ih=>
  simp only [Cn]
  rcases List.mem_cons.1 h with rfl | h
  .omega
  .have:=ih h; omega
theorem K9 (l:List Ai):l.length<=Cn l:=by
 induction l with
 | nil=>simp
 | cons x xs ih=>simp only [Cn,List.length_cons]; have:=Ro x; omega
theorem Ys (l m:List Ai):Cn (l++m)=Cn l+Cn m:=by
 induction l with
 | nil=>simp [Cn]
 | cons x xs ih=>simp only [List.cons_append,Cn,ih]; omega
def Jv (data:List A4) (vars k n:Int) (len:Nat):Bool :=
 if k=1\/k=2\/k=3 then n==0&&len==0
 else if k=4 then decide (0<=n)&&decide (n<vars)&&len==0
 else if k=5 then decide (0<=n)&&(match data[n.toNat]? with | some d=>(len:Int)==d.Vars | none=>false)
 else if k=6 then n==0&&decide (2<=len)&&decide (len<=6)
 else if k=7\/k=8 then n==0&&len==1
 else if k=9 then n==0&&decide (1<=len)&&decide (len<=7)
 else false
mutual
def Fq (data:List A4) (vars:Int):Ai->Bool
 | ⟨k,n,l⟩=>Jv data vars k n l.length&&Ez data vars l
def Ez (data:List A4) (vars:Int):List Ai->Bool
 | []=>true
 | x::xs=>Fq data vars x&&Ez data vars xs
end
theorem Acy (data:List A4) (vars:Int) (t:Ai):Fq data vars t=(Jv data vars t.Kind t.Num t.Args.length&&Ez data vars t.Args):=by cases t; simp only [Fq]
theorem Asl {α:Type} (l:List α) (n:Nat):((l.length:Int)==(n:Int))=(l.length==n):=by
 by_cases h:l.length=n
 .subst h; simp
 .rw [C5 (by omega)]; simp [h]
theorem Asm (k:Nat) (t:Ai) (data:List A4) (vars left:Int) (h1:1<=left) (h2:left<=1000) :
  Kb (k+1) t ⟨data,vars,left⟩=bif Jv data vars t.Kind t.Num t.Args.length then ((Rb k t.Args ⟨data,vars,left-1⟩).bind fun v12=>some ((!v12.1),v12.2)) else some (false,⟨data,vars,left-1⟩):=by
 have hw:Ac (left-1)=left-1:=Bv (by omega) (by omega)
 have b:¬left-1<0:=by omega
 rw [Kb]
 simp only [hw,Av b,cond_false]
 generalize g:(Rb k t.Args ⟨data,vars,left-1⟩).bind (fun v12=>some ((!v12.1),v12.2))=X
 generalize f:(some (false,⟨data,vars,left-1⟩):Option (Bool×Fd))=Y
 unfold Jv Ag
 generalize t.Args.length=len
 generalize t.Kind=c
 generalize t.Num=n
 cases hd:data[n.toNat]? <;> simp only [Bool.cond_eq_ite,Arf,Ae,Option.bind_none,hd] <;> grind
theorem Acz {l:List Ai} {j:Nat} (h:j<l.length):Cn (l.take (j+1))=Cn (l.take j)+Bt l[j]:=by
 rw [List.take_succ_eq_append_getElem h,Ys]; simp [Cn]
theorem Ais (data:List A4) (vars:Int) (l m:List Ai):Ez data vars (l++m)=(Ez data vars l&&Ez data vars m):=by
 induction l with
 | nil=>simp [Ez]
 | cons x xs ih=>simp only [List.cons_append,Ez,ih,Bool.and_assoc]
theorem Ait (data:List A4) (vars:Int) {l:List Ai} {j:Nat} (h:j<l.length):Ez data vars (l.take (j+1))=(Ez data vars (l.take j)&&Fq data vars l[j]):=by
 rw [List.take_succ_eq_append_getElem h,Ais]; simp [Ez]
theorem Ac0 (l:List Ai) (j:Nat):Cn (l.take j)<=Cn l:=by
 have:=Ys (l.take j) (l.drop j)
 rw [List.take_append_drop] at this; omega
theorem Asn (data:List A4) (vars:Int) (l:List Ai) (j:Nat) (h:Ez data vars l=true):Ez data vars (l.take j)=true:=by
 have:=Ais data vars (l.take j) (l.drop j)
 rw [List.take_append_drop,h] at this
 have:=this.symm
 simp only [bae] at this
 exact this.1
theorem Aso (data:List A4) (vars:Int) (k:Nat) (l:List Ai) (c:Nat) (G:l.length<1099511627776)
  (ih:∀(a:Ai),a∈l->∀f:Nat,f<=c->∃g:Int,Kb k a ⟨data,vars,f⟩=some (Fq data vars a&&decide (Bt a<=f),⟨data,vars,g⟩)/\((Fq data vars a&&decide (Bt a<=f))=true->g=(f:Int)-Bt a)) :
  ∃p:Int×Int,Ug (k+2) l ⟨data,vars,c⟩=some (p.1,⟨data,vars,p.2⟩)/\((Ez data vars l&&decide (Cn l<=c))=true->p.1 = -1/\p.2=(c:Int)-Cn l)/\((Ez data vars l&&decide (Cn l<=c))=false->0<=p.1):=by
 rw [Ug]
 refine X7 (fun p:Int×Int=>(p.1,Fd.mk data vars p.2)) (Fe
  (fun (v3,v4,v5,s)=>∃j:Nat,v3=j/\j<=l.length/\v4=data/\v5=vars/\Ez data vars (l.take j)=true/\Cn (l.take j)<=c/\s=(c:Int)-Cn (l.take j))
  (fun (v3,_,_,_)=>l.length-v3.toNat)
  (fun z=>match z with | .inl (i,b)=>0<=i/\(∃g,b=⟨data,vars,g⟩)/\(Ez data vars l&&decide (Cn l<=c))=false | .inr (v4,v5,s)=>v4=data/\v5=vars/\(Ez data vars l&&decide (Cn l<=c))=true/\s=(c:Int)-Cn l)
  ⟨0,rfl,by omega,rfl,rfl,rfl,by simp [Cn],by simp [Cn]⟩ ?_ ?_)
 .rintro ⟨v3,v4,v5,s⟩ ⟨j,rfl,hj,rfl,rfl,x,A,rfl⟩
  rcases Nat.lt_or_ge j l.length with h | h
  .obtain ⟨u,y⟩:∃u:Nat,(c:Int)-Cn (l.take j)=u/\u<=c:=⟨c-Cn (l.take j),by omega,by omega⟩
   obtain ⟨g,E,D⟩:=ih l[j] (List.getElem_mem h) u y.2
   simp only [Am (by omega:(j:Int)<(l.length:Int)),cond_true,Dd rfl h,Ae,Tp,y.1,E]
   cases hb:(Fq v4 v5 l[j]&&decide (Bt l[j]<=u)) with
   | true=>
    have I:=D hb
    simp only [bae,decide_eq_true_eq] at hb
    refine .inl ⟨(((j+1:Nat):Int),v4,v5,g),?_,⟨j+1,rfl,by omega,rfl,rfl,?_,?_,?_⟩,by simp; omega⟩
    .simp only [bnt,cond_false]
     rw [show Ac ((j:Int)+1)=((j+1:Nat):Int) by rw [Ac,Bv] <;> omega]
    .rw [Ait _ _ h,x,hb.1]; rfl
    .rw [Acz h]; omega
    .show g=_
     rw [Acz h]; omega
   | false=>
    refine .inr ⟨.inl ((j:Int),⟨v4,v5,g⟩),by simp,by omega,⟨g,rfl⟩,?_⟩
    cases q:(Ez v4 v5 l&&decide (Cn l<=c)) with
    | false=>rfl
    | true=>
     exfalso
     simp only [bae,decide_eq_true_eq] at q
     have a1:=Asn v4 v5 l (j+1) q.1
     rw [Ait _ _ h] at a1
     simp only [bae] at a1
     have a2:=Ac0 l (j+1)
     rw [Acz h] at a2
     rw [a1.2,Bool.true_and,decide_eq_false_iff_not] at hb
     omega
  .have:j=l.length:=by omega
   subst this
   rw [List.take_length] at *
   refine .inr ⟨.inr (v4,v5,(c:Int)-Cn l),by simp,rfl,rfl,by simp [x,A],rfl⟩
 .rintro (⟨i,b⟩ | ⟨v4,v5,s⟩) B
  .obtain ⟨a1,⟨g,rfl⟩,a3⟩:=B
   exact ⟨_,rfl,(i,g),rfl,(fun h=>by rw [a3] at h; cases h),fun _=>a1⟩
  .obtain ⟨rfl,rfl,a3,rfl⟩:=B
   exact ⟨_,rfl,(-1,_),rfl,fun _=>⟨rfl,rfl⟩,fun h=>by rw [a3] at h; cases h⟩
theorem Asp (data:List A4) (vars:Int):∀(left:Nat) (t:Ai) (k:Nat),left<=200->4*left+4<=k->Bt t<1099511627776 ->
  ∃f:Int,Kb k t ⟨data,vars,left⟩=some (Fq data vars t&&decide (Bt t<=left),⟨data,vars,f⟩)/\((Fq data vars t&&decide (Bt t<=left))=true->f=(left:Int)-Bt t):=by
 intro left
 induction left using Nat.strongRecOn with
 | _ left s=>
  intro t k B hk ht
  have hp:=Ro t
  obtain ⟨g,rfl⟩:∃g,k=g+1:=⟨k-1,by omega⟩
  cases left with
  | zero=>
   refine ⟨-1,?_,fun h=>by simp at h; omega⟩
   rw [Kb]
   have hd:decide (Bt t<=0)=false:=Av (by omega)
   rw [hd,Bool.and_false]
   rfl
  | succ b=>
   rw [Asm g t data vars ((b+1:Nat):Int) (by omega) (by omega)]
   have z:((b+1:Nat):Int)-1=(b:Int):=by omega
   rw [z,Acy]
   cases A:Jv data vars t.Kind t.Num t.Args.length with
   | false=>exact ⟨b,by simp,fun h=>by simp at h⟩
   | true=>
    obtain ⟨q,rfl⟩:∃q,g=q+3:=⟨g-3,by omega⟩
    have j:=Ju t
    have x:=K9 t.Args
    obtain ⟨⟨i,f⟩,h1,h2,h3⟩:=Aso data vars q t.Args b (by omega) (fun a ha c y=>by
     have:=Kj ha
     exact s c (by omega) a q (by omega) (by omega) (by omega))
    have l:decide (Bt t<=b+1)=decide (Cn t.Args<=b):=by
     rw [j]; congr 1; simp only [eq_iff_iff]; omega
    simp only [cond_true,Rb,h1,Ae,Bool.true_and,l]
    refine ⟨f,?_,fun h=>?_⟩
    .cases hb:(Ez data vars t.Args&&decide (Cn t.Args<=b)) with
     | true=>
      have u:i = -1:=(h2 hb).1
      rw [Av (by omega:¬i>=0)]; rfl
     | false=>
      have u:0<=i:=h3 hb
      rw [Am (by omega:i>=0)]; rfl
    .have u:f=(b:Int)-Cn t.Args:=(h2 h).2
     rw [u,j]; omega
theorem Ur (data:List A4) (t:Ai) (vars:Int) (ht:Bt t<1099511627776):Mx data t vars=some (Fq data vars t&&decide (Bt t<=200)):=by
 unfold Mx
 obtain ⟨b,h1,_⟩:=Asp data vars 200 t 4000000 (by decide) (by decide) ht
 have h1:Kb 4000000 t ⟨data,vars,200⟩=_:=h1
 rw [h1]; rfl
end Go.Ab
namespace Go.Ab
open Go
def O7 (a:Ai) (i:Int):Bool:=a.Kind==4&&a.Num==i&&a.Args.length==0
def Aiu (l:List Ai):Bool:=l.zipIdx.all fun q=>O7 q.1 q.2
def Iw (t:Ai) (d vars:Int):Bool:=t.Kind==5&&t.Num==d&&(t.Args.length:Int)==vars&&Aiu t.Args
def Ib (data:List A4) (d c:Int):List Bool :=
 match Ag data d with
 | none=>[]
 | some x=>match Ag x.Cons c with
  | none=>[]
  | some y=>y.Args.map fun t=>Iw t d x.Vars
theorem Je {α:Type} {l:List α} {i:Int} {x:α} (h:Ag l i=some x):0<=i/\i<l.length/\l[i.toNat]? = some x/\x∈l:=by
 unfold Ag at h
 split at h
 .have h1:i.toNat<l.length:=Ey h
  exact ⟨by assumption,by omega,h,Cv h⟩
 .cases h
theorem Us {α:Type} {l:List α} {i:Int} (h:Ag l i=none):i<0\/(l.length:Int)<=i:=by
 unfold Ag at h
 split at h
 .rw [List.getElem?_eq_none_iff] at h
  right; omega
 .left; omega
theorem Asq {R:Type} (data:List A4) (d c:Int) (F:A4->L3->Option R) (z:R) (X:Option R)
  (f:X=((bif (decide (d<(0:Int))) then some true else bif (decide (d>=(data.length:Int))) then some true else bif (decide (c<(0:Int))) then some true else
   (Ag data d).bind fun b=>some (decide (c>=(b.Cons.length:Int))):Option Bool).bind fun v2=>bif v2 then some z else (Ag data d).bind fun v3=>(Ag v3.Cons c).bind fun v4=>F v3 v4)) :
  X=match Ag data d with
   | none=>some z
   | some x=>match Ag x.Cons c with
    | none=>some z
    | some y=>F x y:=by
 subst f
 cases hx:Ag data d with
 | none=>
  rcases Us hx with h | h
  .simp only [Am h,cond_true,Ae]
  .by_cases h':d<0
   .simp only [Am h',cond_true,Ae]
   .simp only [Av h',Am (show d>=(data.length:Int) from h),cond_true,cond_false,Ae]
 | some x=>
  obtain ⟨a1,a2,_,_⟩:=Je hx
  simp only [Av (by omega:¬d<0),Av (by omega:¬d>=(data.length:Int)),cond_false,Ae]
  cases hy:Ag x.Cons c with
  | none=>
   rcases Us hy with h | h
   .simp only [Am h,cond_true,Ae]
   .by_cases h':c<0
    .simp only [Am h',cond_true,Ae]
    .simp only [Av h',Am (show c>=(x.Cons.length:Int) from h),cond_true,cond_false,Ae]
  | some y=>
   obtain ⟨b1,b2,_,_⟩:=Je hy
   simp only [Av (by omega:¬c<0),Av (by omega:¬c>=(x.Cons.length:Int)),cond_false,Ae]
def Asr (l:List Ai):Prop:=l.length<=4194304/\∀a∈l,a.Args.length<=4194304
def Ut (data:List A4):Prop:=∀x∈data,∀y∈x.Cons,Asr y.Args
theorem Ac1 {α:Type} (l m:List α) (y x:α) (i:Int) (n:Nat) (h:i=n) (b:n=l.length):Cf (l++y::m) i x=l++x::m:=by
 rw [E7 h]; subst b; simp
theorem Ac2 {α:Type} (l m:List α) (y:α) (i:Int) (n:Nat) (h:i=n) (b:n=l.length):Ag (l++y::m) i=some y:=by
 rw [Ck h]; subst b; simp
theorem Ass (l:List Ai) (k f:List Bool) (i:Int) (n:Nat) (b:Bool) (h:i=n) (s:n=k.length) (A:l.length<1099511627776) {R:Type} {J:Int×List Bool->Option R} {r:R}
  (z:J ((l.length:Int),k++(b&&Aiu l)::f)=some r) :
  (Al (S:=(Int×(List Bool))) (E:=(Int×(List Bool))) (fun (c,g)=>
   bif (decide (c<(l.length:Int))) then (
   (Ag l c).bind fun v44=>
   bif (v44.Kind != (4:Int)) then (
   (Ag g i).bind fun v46=>
   some (.inl ((Ac (c+1)),(Cf g i false)))
   )
   else (
   bif (v44.Num != c) then (
   (Ag g i).bind fun y=>
   some (.inl ((Ac (c+1)),(Cf g i false)))
   )
   else (
   bif (decide ((v44.Args.length:Int)>(0:Int))) then (
   (Ag g i).bind fun u=>
   some (.inl ((Ac (c+1)),(Cf g i false)))
   )
   else (
   some (.inl ((Ac (c+1)),g))
   )
   )
   )
   )
   else (
   some (.inr (c,g))
   )
    ) (0,k++b::f)).bind J=some r:=by
 refine Iv l (fun j=>((j:Int),k++(b&&(l.take j).zipIdx.all (fun q=>O7 q.1 q.2))::f)) (by simp) (by omega) ?_ ?_
 .intro j x hj hx h1 h2 h3
  have e:(l.take (j+1)).zipIdx.all (fun q=>O7 q.1 q.2)=((l.take j).zipIdx.all (fun q=>O7 q.1 q.2)&&O7 x j):=by
   rw [D4 hx,List.zipIdx_append,List.all_append]; simp [Nat.min_eq_left (Nat.le_of_lt hj)]
  simp only [h1,h2,h3,cond_true,Ae,Ac2 k f _ i n h s,Ac1 k f _ _ i n h s,e]
  unfold O7
  by_cases g1:x.Kind=4
  .by_cases g2:x.Num=j
   .by_cases g3:x.Args.length=0
    .rw [Av (by omega)]; simp [g1,g2,g3]
    .rw [Am (by omega)]
     have:(x.Args.length==0)=false:=by simpa using g3
     simp [g1,g2,this]
   .simp [g1,g2,Dq g2]
  .simp [g1,Dq g1]
 .intro h1
  refine ⟨_,by simp only [h1]; rfl,?_⟩
  rw [List.take_length]
  exact z
theorem Aiv (data:List A4) (d c:Int) (hd:Ut data):Qu data d c=some (Ib data d c):=by
 unfold Qu
 rw [Asq data d c (fun v3 v4=>_) [] _ rfl]
 unfold Ib
 cases hx:Ag data d with
 | none=>rfl
 | some x=>
  cases hy:Ag x.Cons c with
  | none=>simp only [hy]
  | some y=>
   simp only [hy]
   have f:=hd x (Je hx).2.2.2 y (Je hy).2.2.2
   have g:=f.1
   rw [H8 (n:=y.Args.length) (c:=y.Args.length) rfl rfl (by omega) (by omega) (by omega),Ae]
   refine Iv y.Args (fun j=>((j:Int),((y.Args.take j).map fun t=>Iw t d x.Vars)++List.replicate (y.Args.length-j) false)) rfl (by omega) ?_ ?_
   .intro j t hj ht h1 h2 h3
    obtain ⟨m,h⟩:∃m,y.Args.length-j=m+1:=⟨y.Args.length-j-1,by omega⟩
    have i:y.Args.length-(j+1)=m:=by omega
    have b:j=((y.Args.take j).map fun t=>Iw t d x.Vars).length:=by simp; omega
    simp only [h1,h2,cond_true,Ae,h,i,List.replicate_succ,D4 ht,List.map_append,List.map_cons,List.map_nil,List.append_assoc,List.cons_append,List.nil_append,
     Ac2 _ _ _ (j:Int) j rfl b,Ac1 _ _ _ _ (j:Int) j rfl b]
    have hb:(bif t.Kind==5 then bif t.Num==d then some (List.map (fun t=>Iw t d x.Vars) (List.take j y.Args)++((t.Args.length:Int)==x.Vars)::List.replicate m false)
       else some (List.map (fun t=>Iw t d x.Vars) (List.take j y.Args)++false::List.replicate m false)
      else some (List.map (fun t=>Iw t d x.Vars) (List.take j y.Args)++false::List.replicate m false))=some (List.map (fun t=>Iw t d x.Vars) (List.take j y.Args)++(t.Kind==5&&t.Num==d&&((t.Args.length:Int)==x.Vars))::List.replicate m false):=by
     cases t.Kind==5 <;> cases t.Num==d <;> simp
    rw [hb,Ae]
    refine Ass t.Args _ _ (j:Int) j _ rfl b (by have:=f.2 t (Cv ht); omega) ?_
    rw [h3]; rfl
   .intro h1
    exact ⟨_,by simp only [h1]; rfl,by simp⟩
mutual
def mnt (d:Int):Ai->Bool
 | ⟨k,n,l⟩=>(k==5&&n==d)||L6 d l
def L6 (d:Int):List Ai->Bool
 | []=>false
 | x::xs=>mnt d x||L6 d xs
end
theorem Ast (d:Int) (t:Ai):mnt d t=((t.Kind==5&&t.Num==d)||L6 d t.Args):=by cases t; simp only [mnt]
theorem Asu (d:Int) (l:List Ai):L6 d l=l.any (mnt d):=by
 induction l with
 | nil=>rfl
 | cons x xs ih=>simp only [L6,ih,List.any_cons]
theorem Asv (d:Int):∀(n:Nat) (t:Ai) (k:Nat),Bt t<=n->4*n+4<=k->n<1099511627776->Oq k t d=some (mnt d t):=by
 intro n
 induction n with
 | zero=>intro t k h; have:=Ro t; omega
 | succ n ih=>
  intro t k h hk l
  obtain ⟨k,rfl⟩:∃c,k=c+4:=⟨k-4,by omega⟩
  have f:=Ju t
  have b:=K9 t.Args
  have key:Ra (k+3) t.Args d=some (L6 d t.Args):=by
   rw [Ra,Xw]
   rw [Asu]
   refine Um (Ah8 t.Args (mnt d) (by omega) ?_ (fun h=>by simp only [h]; rfl) (fun _=>rfl) rfl) (fun i g=>by rw [g])
   intro j x hx h1 h2 h3
   have q:=Kj hx
   simp only [h1,h2,h3,cond_true,Ae,T9,ih x k (by omega) (by omega) (by omega)]
  rw [Oq,key,Ast]
  cases t.Kind==5 <;> cases t.Num==d <;> simp
end Go.Ab
namespace Go.Ab
open Go
theorem Asw (data:List A4) (v:Int) (l:List Ai):Ez data v l=l.all (Fq data v):=by
 induction l with
 | nil=>rfl
 | cons x xs ih=>simp only [Ez,ih,List.all_cons]
theorem Asx (data:List A4) (d:Nat) (v k n:Int) (len:Nat):(Jv (data.take (d+1)) v k n len && !(k==5&&n==(d:Int)))=Jv (data.take d) v k n len:=by
 by_cases hk:k=5
 .subst hk
  unfold Jv
  simp only [beq_self_eq_true,Bool.true_and,List.getElem?_take]
  by_cases b:n=d
  .subst b; simp
  .by_cases h0:0<=n
   .have e:(n==(d:Int))=false:=C5 b
    rcases Nat.lt_or_ge n.toNat d with h | h
    .simp [h,e,show n.toNat<d+1 by omega]
    .simp [e,show ¬n.toNat<d by omega,show ¬n.toNat<d+1 by omega]
   .simp [h0]
 .have e:(k==(5:Int))=false:=C5 hk
  simp only [e,Bool.false_and,Bool.not_false,Bool.and_true,Jv,hk,if_false]
mutual
theorem Aiw (data:List A4) (d:Nat) (v:Int):∀t:Ai,(Fq (data.take (d+1)) v t && !mnt d t)=Fq (data.take d) v t
 | ⟨k,n,l⟩=>by
  have h1:=Aix data d v l
  have h2:=Asx data d v k n l.length
  simp only [Fq,mnt]
  rw [<-h1,<-h2]
  cases Jv (data.take (d+1)) v k n l.length <;> cases (k==5&&n==(d:Int)) <;> cases Ez (data.take (d+1)) v l <;> simp
theorem Aix (data:List A4) (d:Nat) (v:Int):∀l:List Ai,(Ez (data.take (d+1)) v l && !L6 d l)=Ez (data.take d) v l
 | []=>by simp [Ez,L6]
 | x::xs=>by
  have h1:=Aiw data d v x
  have h2:=Aix data d v xs
  simp only [Ez,L6]
  rw [<-h1,<-h2]
  cases Fq (data.take (d+1)) v x <;> cases mnt d x <;> cases Ez (data.take (d+1)) v xs <;> simp
end
theorem Aiy:∀l:List Ai,(∀a∈l,a.Args.length=0)->Cn l=l.length
 | [],_=>rfl
 | x::xs,h=>by
  have h1:=h x (by simp)
  simp only [Cn,List.length_cons]
  rw [Aiy xs (fun a ha=>h a (by simp [ha])),Ju,List.length_eq_zero_iff.1 h1]
  simp only [Cn]; omega
theorem Aiz {data:List A4} {d:Nat} {x:A4} (hx:data[d]? = some x) (g:x.Vars<=6) {t:Ai} (h:Iw t d x.Vars=true):Fq (data.take (d+1)) x.Vars t=true/\Bt t<=200:=by
 unfold Iw at h
 simp only [bae,beq_iff_eq] at h
 obtain ⟨⟨⟨h1,h2⟩,h3⟩,f⟩:=h
 have ha:∀a∈t.Args,∃i:Nat,i<t.Args.length/\a.Kind=4/\a.Num=i/\a.Args.length=0:=by
  intro a ha
  obtain ⟨i,c⟩:=List.getElem?_of_mem ha
  have:=Jt f c
  simp only [O7,bae,beq_iff_eq] at this
  exact ⟨i,Ey c,this.1.1,this.1.2,this.2⟩
 refine ⟨?_,?_⟩
 .rw [Acy,Asw,bae]
  constructor
  .rw [h1,h2]
   unfold Jv
   simp [hx,h3]
  .rw [List.all_eq_true]
   intro a b
   obtain ⟨i,i1,i2,i3,i4⟩:=ha a b
   rw [Acy,i2,i3,i4,List.length_eq_zero_iff.1 i4]
   unfold Jv
   simp [Ez]; omega
 .rw [Ju,Aiy _ (fun a h=>(ha a h).choose_spec.2.2.2)]
  omega
def O8 (data:List A4) (d:Nat) (v:Int) (t:Ai):Bool:=Iw t d v||(Fq (data.take d) v t&&decide (Bt t<=200))
theorem Asy {data:List A4} {d:Nat} {x:A4} (hx:data[d]? = some x) (b:x.Vars<=6) (t:Ai):((Fq (data.take (d+1)) x.Vars t&&decide (Bt t<=200))&&(Iw t d x.Vars || !mnt d t))=O8 data d x.Vars t:=by
 unfold O8
 cases h:Iw t d x.Vars with
 | true=>
  obtain ⟨h1,h2⟩:=Aiz hx b h
  rw [h1,Am h2]; rfl
 | false=>
  rw [<-Aiw data d x.Vars t]
  cases Fq (data.take (d+1)) x.Vars t <;> cases decide (Bt t<=200) <;> simp
def SzD (data:List A4):Prop:=∀x∈data,x.Cons.length<=1048576/\∀y∈x.Cons,Cn y.Args<=1048576
theorem SzD.short {data:List A4} (h:SzD data):Ut data:=fun x hx y hy=>by
 have h1:=(h x hx).2 y hy
 have h2:=K9 y.Args
 refine ⟨by omega,fun a ha=>?_⟩
 have h3:=Kj ha
 have c:=Ju a
 have b:=K9 a.Args
 omega
theorem Asz {data:List A4} (g:SzD data) (d c:Nat) {x:A4} {y:L3} (hx:data[d]? = some x) (hy:x.Cons[c]? = some y) (q:x.Vars<=6) (hd:data.length<=1048576) :
  M2 data d c=some (decide (y.Args.length<=6)&&y.Args.all (O8 data d x.Vars)):=by
 have b:=Ey hx
 have l:=(g x (Cv hx)).2 y (Cv hy)
 unfold M2
 rw [Ck rfl hx,Ae,Ck rfl hy,Ae,Aiv data d c g.short]
 by_cases k:y.Args.length<=6
 .rw [Av (by omega:¬(y.Args.length:Int)>6),Am k]
  simp only [cond_false,Bool.true_and,Ae]
  refine (Yf y.Args (O8 data d x.Vars) (fun j=>(j:Int)) rfl (by omega) (rt:=true) (rf:=false) ?_ ?_).trans (by rw [Yg])
  .intro j t ht h1 h2 h3
   have s:=Kj (Cv ht)
   have u:Ag (Ib data d c) (j:Int)=some (Iw t d x.Vars):=by
    unfold Ib
    simp only [Ck rfl hx,Ck rfl hy]
    rw [Ck rfl]
    simp [ht]
   simp only [h1,h2,h3,cond_true,Ae,show Ac ((d:Int)+1)=((d+1:Nat):Int) from Dv b (by omega),X8 rfl (show d+1<=data.length from b),Ck rfl hx,
    Ur (data.take (d+1)) t x.Vars (by omega),u]
   rw [<-Asy hx q t]
   cases i:(Fq (data.take (d+1)) x.Vars t&&decide (Bt t<=200)) with
   | false=>exact ⟨(fun h=>by cases h),fun _=>⟨.inl false,rfl,rfl⟩⟩
   | true=>
    have f:Bt t<=200:=by simp only [bae,decide_eq_true_eq] at i; exact i.2
    simp only [bnt,cond_false,Bool.true_and]
    cases z:Iw t d x.Vars with
    | true=>exact ⟨fun _=>rfl,fun h=>by cases h⟩
    | false=>
     simp only [Bool.not_false,cond_true,Asv d 200 t 4000000 f (by omega) (by omega),Ae,Bool.false_or]
     cases mnt d t with
     | true=>exact ⟨(fun h=>by cases h),fun _=>⟨.inl false,rfl,rfl⟩⟩
     | false=>exact ⟨fun _=>rfl,fun h=>by cases h⟩
  .intro h
   exact ⟨.inr (),by simp only [h]; rfl,rfl⟩
 .rw [Am (by omega:(y.Args.length:Int)>6),Av k]; rfl
end Go.Ab
namespace Go.Ab
open Go
def bI (s:ByteArray) (i:Nat):Int:=if h:i<s.size then (s[i].toNat:Int) else 0
def loI (c:Int):Bool:=decide (97<=c)&&decide (c<=122)
def upI (c:Int):Bool:=decide (65<=c)&&decide (c<=90)
def diI (c:Int):Bool:=decide (48<=c)&&decide (c<=57)
def wiI (c:Int):Bool:=loI c||upI c||diI c||c==95
def Gn (s:ByteArray):Prop:=1<=s.size/\s.size<=24/\upI (bI s 0)=true/\∀i,i<s.size->wiI (bI s i)=true
theorem L7 {s:ByteArray} {i:Int} {n:Nat} (b:i=n) (h:n<s.size):∃c:UInt8,Ha s i=some c/\(c.toNat:Int)=bI s n:=by
 subst b
 refine ⟨s[n],?_,?_⟩
 .unfold Ha
  rw [if_pos (by omega),show ((n:Int)).toNat=n from rfl]
  simp [h]
 .unfold bI; simp [h]
theorem Uu {s:ByteArray} {a b j:Nat} (hb:b<=s.size) (h:a+j<b):bI (s.extract a b) j=bI s (a+j):=by
 unfold bI
 have h1:j<(s.extract a b).size:=by rw [ByteArray.size_extract]; omega
 rw [dif_pos h1,dif_pos (by omega),ByteArray.getElem_extract]
theorem Uv {s:ByteArray} {lo c:Int} {a b:Nat} (h1:lo=a) (h2:c=b) (h3:a<=b) (f:b<=s.size):Es s lo c=some (s.extract a b):=by
 subst h1; subst h2; unfold Es; rw [if_pos (by omega)]; rfl
theorem Ai0 {a b:ByteArray} (h:a.toList=b.toList):a=b:=by
 rw [ByteArray.toList_eq,ByteArray.toList_eq] at h
 have:a.data=b.data:=Array.toList_inj.1 h
 cases a; cases b; simp at this; subst this; rfl
theorem Ai1 (a b:ByteArray):(a.toList==b.toList)=decide (a=b):=by
 by_cases h:a=b
 .subst h; simp
 .rw [Av h]
  cases hb:(a.toList==b.toList) with
  | false=>rfl
  | true=>exact absurd (Ai0 (by simpa using hb)) h
theorem Ai2 (c:Int):Q5 c=some (loI c):=by unfold Q5 loI; by_cases h:(97:Int)<=c <;> simp [h]
theorem Ai3 (c:Int):Ox c=some (upI c):=by unfold Ox upI; by_cases h:(65:Int)<=c <;> simp [h]
theorem Yt (c:Int):M5 c=some (diI c):=by unfold M5 diI; by_cases h:(48:Int)<=c <;> simp [h]
theorem Ai4 (c:Int):Q6 c=some (wiI c):=by
 unfold Q6 wiI
 rw [Ai2,Ai3,Yt]
 simp only [Ae]
 cases loI c <;> cases upI c <;> cases diI c <;> rfl
theorem Ac3 {S E:Type} {step:S->Option (S⊕E)} (s:ByteArray) (p:Int->Bool) (b:Nat->S) (f:Nat->E) (lo:Nat)
  (h1:∀j,lo<=j->j<s.size->p (bI s j)=true->step (b j)=some (.inl (b (j+1)))) (h2:∀j,lo<=j->j<s.size->p (bI s j)=false->step (b j)=some (.inr (f j))) (h3:step (b s.size)=some (.inr (f s.size))) :
  ∀(m i:Nat),lo<=i->i+m=s.size->∃n,i<=n/\n<=s.size/\(∀j,i<=j->j<n->p (bI s j)=true)/\(n<s.size->p (bI s n)=false)/\Al step (b i)=some (f n):=by
 intro m
 induction m with
 | zero=>
  intro i _ g
  have:i=s.size:=by omega
  subst this
  exact ⟨s.size,by omega,by omega,fun j _ _=>by omega,fun h=>by omega,Fg h3⟩
 | succ m ih=>
  intro i c g
  cases hp:p (bI s i) with
  | true=>
   obtain ⟨n,a1,a2,a3,a4,a5⟩:=ih (i+1) (by omega) (by omega)
   refine ⟨n,by omega,a2,fun j b1 b2=>?_,a4,by rw [Kv (h1 i c (by omega) hp)]; exact a5⟩
   rcases Nat.lt_or_ge i j with h | h
   .exact a3 j h b2
   .have:j=i:=by omega
    subst this; exact hp
  | false=>exact ⟨i,by omega,by omega,fun j _ _=>by omega,fun _=>hp,Fg (h2 i c (by omega) hp)⟩
theorem As0 (s:ByteArray) (k:s.size<1099511627776):∃n,n<=s.size/\(∀j,j<n->wiI (bI s j)=true)/\(n<s.size->wiI (bI s n)=false)/\Ub s=some (s.extract 0 n):=by
 have H:=Ac3 (step:=fun v3:Int=>bif (decide (v3<(s.size:Int))) then ((Ha s v3).bind fun h=>(Q6 (h.toNat:Int)).bind fun v5=>bif v5 then some (.inl (Ac (v3+1))) else some (.inr v3)) else some (.inr v3))
  s wiI (fun j=>(j:Int)) (fun j=>(j:Int)) 0 (fun j _ hj hp=>by
   obtain ⟨c,g,f⟩:=L7 (s:=s) (i:=(j:Int)) rfl hj
   simp only [Am (by omega:(j:Int)<(s.size:Int)),cond_true,g,Ae,f,Ai4,hp,Dv hj (by omega)]) (fun j _ hj hp=>by
   obtain ⟨c,g,f⟩:=L7 (s:=s) (i:=(j:Int)) rfl hj
   simp only [Am (by omega:(j:Int)<(s.size:Int)),cond_true,g,Ae,f,Ai4,hp,cond_false]) (by simp) s.size 0 (by omega) (by omega)
 obtain ⟨n,_,a2,a3,a4,a5⟩:=H
 refine ⟨n,a2,fun j hj=>a3 j (by omega) hj,a4,?_⟩
 unfold Ub
 have a5:Al _ (0:Int)=some (n:Int):=a5
 rw [a5,Ae,Uv (lo:=0) (a:=0) (b:=n) rfl rfl (by omega) a2]; rfl
theorem As1 (s:ByteArray) (k:s.size<1099511627776):∃n,n<=s.size/\(∀j,j<n->diI (bI s j)=true)/\(n<s.size->diI (bI s n)=false)/\Xv s=some (s.extract 0 n):=by
 have H:=Ac3 (step:=fun v3:Int=>bif (decide (v3<(s.size:Int))) then ((Ha s v3).bind fun h=>(M5 (h.toNat:Int)).bind fun v5=>bif v5 then some (.inl (Ac (v3+1))) else some (.inr v3)) else some (.inr v3))
  s diI (fun j=>(j:Int)) (fun j=>(j:Int)) 0 (fun j _ hj hp=>by
   obtain ⟨c,g,f⟩:=L7 (s:=s) (i:=(j:Int)) rfl hj
   simp only [Am (by omega:(j:Int)<(s.size:Int)),cond_true,g,Ae,f,Yt,hp,Dv hj (by omega)]) (fun j _ hj hp=>by
   obtain ⟨c,g,f⟩:=L7 (s:=s) (i:=(j:Int)) rfl hj
   simp only [Am (by omega:(j:Int)<(s.size:Int)),cond_true,g,Ae,f,Yt,hp,cond_false]) (by simp) s.size 0 (by omega) (by omega)
 obtain ⟨n,_,a2,a3,a4,a5⟩:=H
 refine ⟨n,a2,fun j hj=>a3 j (by omega) hj,a4,?_⟩
 unfold Xv
 have a5:Al _ (0:Int)=some (n:Int):=a5
 rw [a5,Ae,Uv (lo:=0) (a:=0) (b:=n) rfl rfl (by omega) a2]; rfl
theorem Rp {R:Type} {c:Bool} {X Y:Option R} {Q:R->Prop} (h1:∃r,X=some r/\Q r) (h2:∃r,Y=some r/\Q r):∃r,(bif c then X else Y)=some r/\Q r:=by cases c <;> assumption
theorem Ac4 {A R:Type} {X:Option A} {f:A->Option R} {Q:R->Prop} (P:A->Prop) (h1:∃a,X=some a/\P a) (h2:∀a,P a->∃r,f a=some r/\Q r):∃r,X.bind f=some r/\Q r:=by
 obtain ⟨a,e,h⟩:=h1
 rw [e]; exact h2 a h
theorem As2 (s:ByteArray):∃b,Uc s=some b/\True:=by
 unfold Uc
 repeat' first | refine Rp ?_ ?_ | exact ⟨_,rfl,trivial⟩
theorem As3 (s:ByteArray) (h1:1<=s.size):∃r,Ue s=some r/\(r.size<=s.size):=by
 have g:Es s 0 1=some (s.extract 0 1):=Uv rfl rfl (by omega) h1
 have c:(s.extract 0 1).size<=s.size:=by rw [ByteArray.size_extract]; omega
 unfold Ue
 refine Ac4 (fun z=>∀r,z = .inl r->r.size<=s.size) ?_ ?_
 .by_cases h2:2<=s.size
  .have f:Es s 0 2=some (s.extract 0 2):=Uv rfl rfl (by omega) h2
   have b:∀r,(Sum.inl (s.extract 0 2):ByteArray⊕Unit) = .inl r->r.size<=s.size:=by rintro r ⟨⟩; rw [ByteArray.size_extract]; omega
   simp only [f,Ae]
   repeat' first | refine Rp ?_ ?_ | with_reducible exact ⟨_,rfl,b⟩ | exact ⟨_,rfl,fun r h=>by cases h⟩
  .rw [Av (by omega)]
   exact ⟨_,rfl,fun r h=>by cases h⟩
 .rintro (r | u) i
  .exact ⟨_,rfl,i r rfl⟩
  .simp only [g,Ae]
   have h0:(ByteArray.mk #[]).size<=s.size:=Nat.zero_le _
   repeat' first | refine Rp ?_ ?_ | with_reducible exact ⟨_,rfl,c⟩ | with_reducible exact ⟨_,rfl,h0⟩
theorem As4 (s:ByteArray) (g:s.size<1099511627776):∃b,Ud s=some b/\True:=by
 unfold Ud
 refine Fe (fun (_,i)=>∃j:Nat,i=j/\j<=s.size) (fun (_,i)=>s.size-i.toNat) (fun _=>True) ⟨0,rfl,by omega⟩ ?_ ?_
 .rintro ⟨v,i⟩ ⟨j,rfl,hj⟩
  rcases Nat.lt_or_ge j s.size with h | h
  .obtain ⟨c,f,_⟩:=L7 (s:=s) (i:=(j:Int)) rfl h
   simp only [Am (by omega:(j:Int)<(s.size:Int)),cond_true,f,Ae,Dv h (by omega)]
   cases decide (Ac (Ac (v*10)+Ac (wu8 ((c.toNat:Int)-48)))>1000000) with
   | true=>exact .inr ⟨_,rfl,trivial⟩
   | false=>exact .inl ⟨_,rfl,⟨j+1,rfl,by omega⟩,by simp; omega⟩
  .have:j=s.size:=by omega
   subst this
   exact .inr ⟨.inr (),by simp,trivial⟩
 .rintro (r | u) _ <;> exact ⟨_,rfl,trivial⟩
theorem As5 (s:ByteArray) (i:Nat) (J:i<s.size) (S:s.size<1099511627776) :
  ∃r,T8 s i=some r/\(r.2=0->1<=r.1.Text.size/\i+r.1.Text.size<=s.size/\(r.1.Kind=2->Gn r.1.Text))/\(Gn s->i=0->r=(⟨2,s,0⟩,0)):=by
 obtain ⟨c,N,M⟩:=L7 (s:=s) (i:=(i:Int)) rfl J
 have u:Es s (i:Int) (s.size:Int)=some (s.extract i s.size):=Uv rfl rfl (by omega) (by omega)
 have I:(s.extract i s.size).size=s.size-i:=by rw [ByteArray.size_extract]; omega
 have x:bI (s.extract i s.size) 0=bI s i:=Uu (by omega) (by omega)
 unfold T8
 simp only [N,Ae,M,Ai2,Ai3,Yt,u]
 have hw:(bif loI (bI s i) then some true else some (upI (bI s i)))=some (loI (bI s i)||upI (bI s i)):=by cases loI (bI s i) <;> rfl
 rw [hw]
 simp only [Ae]
 cases l:(loI (bI s i)||upI (bI s i)) with
 | true=>
  obtain ⟨n,G,D,y,n4⟩:=As0 (s.extract i s.size) (by omega)
  have A:1<=n:=by
   rcases Nat.eq_zero_or_pos n with h | h
   .subst h
    have:=y (by omega)
    rw [x] at this
    unfold wiI at this
    rw [l] at this; cases this
   .exact h
  have hx:(s.extract i s.size).extract 0 n=s.extract i (i+n):=by rw [ByteArray.extract_extract]; congr 1; omega
  have q:(s.extract i (i+n)).size=n:=by rw [ByteArray.size_extract]; omega
  rw [hx] at n4
  simp only [cond_true,n4,Ae,q]
  have g:Gn s->i=0->n=s.size:=by
   intro hu h0
   rcases Nat.lt_or_ge n s.size with h | h
   .have:=y (by omega)
    rw [Uu (by omega) (by omega),hu.2.2.2 _ (by omega)] at this; cases this
   .omega
  by_cases L:n<=24
  .rw [Av (by omega)]
   cases k:upI (bI s i) with
   | true=>
    refine ⟨_,rfl,fun _=>⟨?_,?_,fun _=>⟨?_,?_,?_,?_⟩⟩,?_⟩
    .show 1<=(s.extract i (i+n)).size; omega
    .show i+(s.extract i (i+n)).size<=s.size; omega
    .show 1<=(s.extract i (i+n)).size; omega
    .show (s.extract i (i+n)).size<=24; omega
    .show upI (bI (s.extract i (i+n)) 0)=true
     rw [Uu (by omega) (by omega)]; exact k
    .show ∀j,j<(s.extract i (i+n)).size->wiI (bI (s.extract i (i+n)) j)=true
     intro j hj
     rw [Uu (by omega) (by omega)]
     have:=D j (by omega)
     rw [Uu (by omega) (by omega)] at this; exact this
    .intro hu h0
     have:=g hu h0
     subst h0; subst this
     rw [Nat.zero_add,ByteArray.extract_zero_size]; rfl
   | false=>
    obtain ⟨b,hb,_⟩:=As2 (s.extract i (i+n))
    simp only [cond_false,hb,Ae]
    have f:Gn s->i=0->False:=by
     intro hu h0
     subst h0
     rw [hu.2.2.1] at k; cases k
    cases b with
    | true=>exact ⟨_,rfl,fun _=>⟨by show 1<=(s.extract i (i+n)).size; omega,by show i+(s.extract i (i+n)).size<=s.size; omega,fun h=>by cases h⟩,fun hu h0=>(f hu h0).elim⟩
    | false=>exact ⟨_,rfl,fun _=>⟨by show 1<=(s.extract i (i+n)).size; omega,by show i+(s.extract i (i+n)).size<=s.size; omega,fun h=>by cases h⟩,fun hu h0=>(f hu h0).elim⟩
  .rw [Am (by omega)]
   refine ⟨_,rfl,(fun h=>by cases h),fun hu h0=>?_⟩
   have:=g hu h0
   have:=hu.2.1
   omega
 | false=>
  have f:Gn s->i=0->False:=by
   intro hu h0
   subst h0
   rw [hu.2.2.1,Bool.or_true] at l; cases l
  simp only [cond_false]
  cases hd:diI (bI s i) with
  | true=>
   obtain ⟨n,G,D,y,n4⟩:=As1 (s.extract i s.size) (by omega)
   have A:1<=n:=by
    rcases Nat.eq_zero_or_pos n with h | h
    .subst h
     have:=y (by omega)
     rw [x,hd] at this; cases this
    .exact h
   have hx:(s.extract i s.size).extract 0 n=s.extract i (i+n):=by rw [ByteArray.extract_extract]; congr 1; omega
   have q:(s.extract i (i+n)).size=n:=by rw [ByteArray.size_extract]; omega
   rw [hx] at n4
   obtain ⟨b,hb,_⟩:=As4 (s.extract i (i+n)) (by omega)
   simp only [cond_true,n4,Ae,hb]
   refine Ac4 (fun _=>True) ?_ ?_
   .exact Rp ⟨_,rfl,trivial⟩ ⟨_,rfl,trivial⟩
   .intro v _
    refine Rp ⟨_,rfl,(fun h=>by cases h),fun hu h0=>(f hu h0).elim⟩ (Rp ⟨_,rfl,(fun h=>by cases h),fun hu h0=>(f hu h0).elim⟩ ⟨_,rfl,fun _=>⟨?_,?_,fun h=>by cases h⟩,fun hu h0=>(f hu h0).elim⟩)
    .show 1<=(s.extract i (i+n)).size; omega
    .show i+(s.extract i (i+n)).size<=s.size; omega
  | false=>
   obtain ⟨r,E,R⟩:=As3 (s.extract i s.size) (by omega)
   simp only [cond_false,E,Ae]
   rw [Ai1]
   by_cases z:r=ByteArray.mk #[]
   .rw [Am z]
    exact ⟨_,rfl,(fun h=>by cases h),fun hu h0=>(f hu h0).elim⟩
   .rw [Av z]
    refine ⟨_,rfl,fun _=>⟨?_,?_,fun h=>by cases h⟩,fun hu h0=>(f hu h0).elim⟩
    .show 1<=r.size
     rcases Nat.eq_zero_or_pos r.size with h | h
     .have B:r.data.toList.length=0:=by simpa using h
      exact absurd (Ai0 (by rw [ByteArray.toList_eq,List.length_eq_zero_iff.1 B,ByteArray.toList_eq])) z
     .exact h
    .show i+r.size<=s.size; omega
theorem As6 (c:Int):T7 c=some (c==9||c==10||c==13||c==32):=by
 unfold T7
 cases c==9 <;> cases c==10 <;> cases c==13 <;> rfl
theorem Ai5 (s:ByteArray) (U:s.size<1099511627776):∃b,Od s=some b/\(b=true↔Gn s):=by
 unfold Od Xj
 by_cases q:(s.size:Int)>16384
 .rw [Am q]
  refine ⟨false,rfl,by simp; rintro ⟨_,h,_⟩; omega⟩
 rw [Av q]
 simp only [cond_false]
 refine Ac4 (fun r:List Hf×Int×Int=>(r.2.2≠0/\¬Gn s)\/(r.2.2=0/\∃o e,r.1=o++[e]/\(∀t∈o,t.Kind=2->Gn t.Text)/\(Gn s->o = [⟨2,s,0⟩]))) ?_ ?_
 .refine Fe (fun (v26,f)=>∃i:Nat,v26=i/\i<=s.size/\f.length<=i/\(∀t∈f,t.Kind=2->Gn t.Text)/\(Gn s->(i=0/\f = [])\/(i=s.size/\f = [⟨2,s,0⟩])))
   (fun (v26,_)=>s.size-v26.toNat)
   (fun z=>match z with | .inl o=>o.length<=16384/\(∀t∈o,t.Kind=2->Gn t.Text)/\(Gn s->o = [⟨2,s,0⟩]) | .inr (_,_,e)=>e≠0/\¬Gn s)
   ⟨0,rfl,by omega,by simp,by simp,fun _=>.inl ⟨rfl,rfl⟩⟩ ?_ ?_
  .rintro ⟨v,o⟩ ⟨i,rfl,hi,ho,hk,hu⟩
   rcases Nat.lt_or_ge i s.size with h | h
   .obtain ⟨c,G,E⟩:=L7 (s:=s) (i:=(i:Int)) rfl h
    have g:Gn s->i=0/\o = []:=fun u=>by
     rcases hu u with h' | h'
     .exact h'
     .omega
    simp only [Am (by omega:(i:Int)<(s.size:Int)),cond_true,G,Ae,E,As6]
    cases J:(bI s i==9||bI s i==10||bI s i==13||bI s i==32) with
    | true=>
     have k:¬Gn s:=by
      intro u
      have h0:=(g u).1
      subst h0
      have:=u.2.2.1
      simp only [upI,bae,decide_eq_true_eq] at this
      simp only [Bool.or_eq_true,beq_iff_eq] at J
      omega
     exact .inl ⟨(((i+1:Nat):Int),o),by simp only [cond_true]; rw [Dv h (by omega)],⟨i+1,rfl,by omega,(by show o.length<=i+1; omega),hk,fun u=>(k u).elim⟩,by simp; omega⟩
    | false=>
     simp only [cond_false]
     cases B:(bI s i==35) with
     | true=>
      have k:¬Gn s:=by
       intro u
       have h0:=(g u).1
       subst h0
       have:=u.2.2.1
       simp only [upI,bae,decide_eq_true_eq] at this
       simp only [beq_iff_eq] at B
       omega
      simp only [cond_true]
      obtain ⟨n,n1,n2,n3,n4,I⟩:=Ac3 (step:=fun v32:Int=>bif (decide (v32<(s.size:Int))) then ((Ha s v32).bind fun L=>bif ((L.toNat:Int)==(10:Int)) then some (.inr (.inl v32)) else some (.inl (Ac (v32+1)))) else some (.inr (.inr v32)))
       s (fun c=>!(c==10)) (fun j=>(j:Int)) (fun j=>if j<s.size then Sum.inl (j:Int) else Sum.inr (j:Int)) 0 (fun j _ hj hp=>by
        obtain ⟨c,G,E⟩:=L7 (s:=s) (i:=(j:Int)) rfl hj
        simp only [Bool.not_eq_true'] at hp
        simp only [Am (by omega:(j:Int)<(s.size:Int)),cond_true,G,Ae,E,hp,Dv hj (by omega),cond_false]) (fun j _ hj hp=>by
        obtain ⟨c,G,E⟩:=L7 (s:=s) (i:=(j:Int)) rfl hj
        simp only [Bool.not_eq_false'] at hp
        simp only [Am (by omega:(j:Int)<(s.size:Int)),cond_true,G,Ae,E,hp,if_pos hj]) (by simp) (s.size-i) i (by omega) (by omega)
      have V:i<n:=by
       rcases Nat.lt_or_ge i n with h' | h'
       .exact h'
       .have:n=i:=by omega
        subst this
        have:=n4 h
        simp only [beq_iff_eq] at B
        rw [B] at this; cases this
      have I:Al _ (i:Int)=_:=I
      rw [I,Ae]
      rcases Nat.lt_or_ge n s.size with h' | h'
      .rw [if_pos h']
       exact .inl ⟨((n:Int),o),rfl,⟨n,rfl,by omega,(by show o.length<=n; omega),hk,fun u=>(k u).elim⟩,by simp; omega⟩
      .rw [if_neg (by omega)]
       exact .inr ⟨.inl o,rfl,by omega,hk,fun u=>(k u).elim⟩
     | false=>
      obtain ⟨r,S,R,M⟩:=As5 s i h U
      simp only [cond_false,S,Ae]
      by_cases D:r.2=0
      .obtain ⟨a1,a2,a3⟩:=R D
       simp only [D3 D,cond_false]
       rw [Ds (by simp; omega),Ae]
       refine .inl ⟨(((i+r.1.Text.size:Nat):Int),o++[r.1]),?_,⟨i+r.1.Text.size,rfl,a2,by simp; omega,?_,?_⟩,by simp; omega⟩
       .rw [show Ac ((i:Int)+(r.1.Text.size:Int))=((i+r.1.Text.size:Nat):Int) by rw [Ac,Bv] <;> omega]
       .intro t ht
        rcases List.mem_append.1 ht with h' | h'
        .exact hk t h'
        .simp at h'; subst h'; exact a3
       .intro u
        obtain ⟨b1,b2⟩:=g u
        have:=M u b1
        subst b1; subst b2; subst this
        exact .inr ⟨by simp,rfl⟩
      .simp only [Dq D,cond_true]
       refine .inr ⟨_,rfl,D,fun u=>?_⟩
       rw [M u (g u).1] at D
       exact D rfl
   .have:i=s.size:=by omega
    subst this
    refine .inr ⟨.inl o,by simp,by omega,hk,fun u=>?_⟩
    rcases hu u with ⟨h',_⟩ | ⟨_,h'⟩
    .have:=u.1; omega
    .exact h'
  .rintro (o | ⟨l,p,e⟩) N
   .obtain ⟨Z,z2,z3⟩:=N
    simp only
    rw [Ds (by simp; omega),Ae]
    exact ⟨_,rfl,.inr ⟨rfl,o,_,rfl,z2,z3⟩⟩
   .exact ⟨_,rfl,.inl N⟩
 .rintro ⟨l,p,e⟩ (⟨h1,h2⟩ | ⟨h1,o,t,h2,h3,A⟩)
  .simp only at h1
   simp only [C5 h1,cond_false]
   exact ⟨_,rfl,by simp [h2]⟩
  .simp only at h1 h2
   subst h1; subst h2
   simp only [beq_self_eq_true,cond_true]
   match o,h3,A with
   | [],_,A=>exact ⟨false,by simp,by simp; intro u; cases A u⟩
   | [x],h3,A=>
    have Y:Ag ([x]++[t]) 0=some x:=rfl
    simp only [Y,Ae,Ai1]
    have X:((([x]++[t]).length:Int)==2)=true:=rfl
    simp only [X,cond_true]
    by_cases hx:x.Kind=2
    .simp only [E8 hx,cond_true]
     refine ⟨_,rfl,?_⟩
     rw [decide_eq_true_iff]
     constructor
     .intro h; rw [<-h]; exact h3 x (by simp) hx
     .intro u; have:=A u; simp at this; rw [this]
    .simp only [C5 hx,cond_false]
     refine ⟨_,rfl,?_⟩
     simp only [Bool.false_eq_true,false_iff]
     intro u; have:=A u; simp at this; rw [this] at hx; exact hx rfl
   | x::y::ys,_,A=>
    refine ⟨false,?_,by simp; intro u; have:=A u; simp at this⟩
    rw [C5]
    .rfl
    .simp; omega
end Go.Ab
namespace Go.Ab
open Go
end Go.Ab
namespace Go.Ab
open Go
def Yu (data:List A4) (d:Nat) (v:Int) (y:L3):Prop:=Gn y.Name/\y.Args.length<=6/\y.Args.all (O8 data d v)=true
def Ac5 (data:List A4) (d:Nat) (x:A4):Prop:=0<=x.Vars/\x.Vars<=6/\1<=x.Cons.length/\x.Cons.length<=8/\Gn x.Name/\∀y∈x.Cons,Yu data d x.Vars y
def Hr (x:A4):List ByteArray:=x.Cons.map (·.Name)
def La (data:List A4):Prop:=data.length<=12/\(∀d x,data[d]? = some x->Ac5 data d x)/\(data.map (·.Name)).Nodup/\(data.flatMap Hr).Nodup
structure DSz (data:List A4):Prop where
 len:data.length<=1048576
 sz:SzD data
 nm:∀x∈data,x.Name.size<=1048576
 cn:∀x∈data,∀y∈x.Cons,y.Name.size<=1048576
theorem O9 (a b:ByteArray):(a==b)=true↔a=b:=by
 constructor
 .intro h
  cases a with | mk a=>cases b with | mk b=>
  have:a=b:=by exact eq_of_beq h
  rw [this]
 .rintro rfl
  cases a with | mk a=>exact beq_self_eq_true a
def Ix (o:List (ByteArray×Bool)) (L:List ByteArray):Prop:=(∀p∈o,p.2=true)/\∀s,Ej o s=true↔s∈L
theorem Ix.nil:Ix [] []:=⟨by simp,by simp [Ej]⟩
theorem Ix.get {o:List (ByteArray×Bool)} {L:List ByteArray} (h:Ix o L) {s:ByteArray} (b:Ej o s=true):Hb o s false=true:=by
 unfold Hb
 unfold Ej at b
 rw [List.any_eq_true] at b
 obtain ⟨p,g,f⟩:=b
 cases c:o.find? (fun p=>s==p.1) with
 | none=>exact absurd f (by have:=List.find?_eq_none.1 c p g; simpa using this)
 | some q=>exact h.1 q (List.mem_of_find?_eq_some c)
theorem As7 (o:List (ByteArray×Bool)) (s t:ByteArray) (v:Bool):Ej (Et o s v) t=(Ej o t||t==s):=by
 induction o with
 | nil=>simp [Et,Ej]
 | cons p o ih=>
  unfold Et
  cases hp:(s==p.1) with
  | true=>
   have:s=p.1:=(O9 _ _).1 hp
   subst this
   simp only [cond_true,Ej,List.any_cons]
   cases t==p.1 <;> simp
  | false=>
   simp only [Ej,List.any_cons] at ih ⊢
   simp only [cond_false,List.any_cons,ih,Bool.or_assoc]
theorem Ix.put {o:List (ByteArray×Bool)} {L:List ByteArray} (h:Ix o L) (s:ByteArray):Ix (Et o s true) (L++[s]):=by
 refine ⟨?_,fun t=>?_⟩
 .have:∀o:List (ByteArray×Bool),(∀p∈o,p.2=true)->∀p∈Et o s true,p.2=true:=by
   intro o
   induction o with
   | nil=>intro _ p hp; simp [Et] at hp; rw [hp]
   | cons q o ih=>
    intro b p hp
    unfold Et at hp
    cases hq:(s==q.1) with
    | true=>
     rw [hq] at hp
     simp only [cond_true,List.mem_cons] at hp
     rcases hp with rfl | hp
     .rfl
     .exact b p (by simp [hp])
    | false=>
     rw [hq] at hp
     simp only [cond_false,List.mem_cons] at hp
     rcases hp with rfl | hp
     .exact b _ (by simp)
     .exact ih (fun p hp=>b p (by simp [hp])) p hp
  exact this o h.1
 .rw [As7,Bool.or_eq_true,h.2 t,O9]; simp
theorem As8 (x:A4) {c:Nat} {y:L3} (hy:x.Cons[c]? = some y):Hr x=(x.Cons.take c).map (·.Name)++y.Name::(x.Cons.drop (c+1)).map (·.Name):=by
 have h:=List.take_append_drop c x.Cons
 have hc:=Ey hy
 have e:x.Cons.drop c=y::x.Cons.drop (c+1):=by
  rw [List.drop_eq_getElem_cons hc]
  rw [Cp hc] at hy
  rw [Option.some.inj hy]
 unfold Hr
 conv=>lhs; rw [<-h,e]
 simp
theorem Ai6 {L m:List ByteArray} {s:ByteArray} (h:(L++s::m).Nodup):s ∉ L:=by
 rw [List.nodup_append] at h
 intro b
 exact h.2.2 s b s (by simp) rfl
theorem Ai7 {L:List ByteArray} {s:ByteArray} (h:L.Nodup) (c:s ∉ L):(L++[s]).Nodup:=by
 rw [List.nodup_append]
 refine ⟨h,by simp,?_⟩
 intro a ha b hb
 simp at hb; subst hb
 intro e; subst e; exact c ha
theorem As9 {data:List A4} (s:DSz data) {d:Nat} {x:A4} (hx:data[d]? = some x) (I:x.Vars<=6) (o:List (ByteArray×Bool)) (L:List ByteArray) (J:Ix o L) (N:L.Nodup) :
  ∃z,Al (S:=(Int×(List (ByteArray×Bool)))) (E:=(Bool⊕(Int×(List (ByteArray×Bool))))) (fun (f,g)=>
    bif (decide (f<(x.Cons.length:Int))) then (
    (Ag x.Cons f).bind fun v54=>
    (Od v54.Name).bind fun A=>
    bif (!A) then some (.inr (.inl false))
    else (
    bif (Ej g v54.Name) then (
    bif (Hb g v54.Name (false:Bool)) then some (.inr (.inl false))
    else (
    (M2 data d f).bind fun u=>
    bif (!u) then some (.inr (.inl false))
    else some (.inl ((Ac (f+1)),(Et g v54.Name true)))))
    else (
    (M2 data d f).bind fun v58=>
    bif (!v58) then some (.inr (.inl false))
    else some (.inl ((Ac (f+1)),(Et g v54.Name true))))))
    else some (.inr (.inr (f,g)))) (0,o)=some z /\
   match z with
   | .inl r=>r=false/\¬((∀y∈x.Cons,Yu data d x.Vars y)/\(L++Hr x).Nodup)
   | .inr (_,o')=>(∀y∈x.Cons,Yu data d x.Vars y)/\(L++Hr x).Nodup/\Ix o' (L++Hr x):=by
 have hxm:=Cv hx
 have M:=(s.sz x hxm).1
 refine Lj (fun (f,g)=>∃c:Nat,f=c/\c<=x.Cons.length/\(∀y∈x.Cons.take c,Yu data d x.Vars y)/\(L++(x.Cons.take c).map (·.Name)).Nodup/\Ix g (L++(x.Cons.take c).map (·.Name)))
  (fun (f,_)=>x.Cons.length-f.toNat) _ ?_ _ ⟨0,rfl,by omega,by simp,by simpa using N,by simpa using J⟩
 rintro ⟨v,g⟩ ⟨c,rfl,hc,h1,h2,h3⟩
 rcases Nat.lt_or_ge c x.Cons.length with h | h
 .have hy:x.Cons[c]? = some x.Cons[c]:=Cp h
  generalize x.Cons[c]=y at hy
  have l:=Cv hy
  obtain ⟨b,b1,b2⟩:=Ai5 y.Name (by have:=s.cn x hxm y l; omega)
  have ht:=D4 hy
  have D:L++Hr x=(L++(x.Cons.take c).map (·.Name))++y.Name::(x.Cons.drop (c+1)).map (·.Name):=by rw [As8 x hy]; simp
  simp only [Am (by omega:(c:Int)<(x.Cons.length:Int)),cond_true,Ck rfl hy,Ae,b1,Asz s.sz d c hx hy I s.len,Dv h (by omega)]
  cases b with
  | false=>
   refine .inr ⟨.inl false,rfl,rfl,fun k=>?_⟩
   have:=b2.2 (k.1 y l).1; cases this
  | true=>
   simp only [bnt,cond_false]
   cases j:Ej g y.Name with
   | true=>
    simp only [cond_true,h3.get j]
    refine .inr ⟨.inl false,rfl,rfl,fun k=>?_⟩
    rw [D] at k
    exact Ai6 k.2 ((h3.2 _).1 j)
   | false=>
    simp only [cond_false]
    cases i:(decide (y.Args.length<=6)&&y.Args.all (O8 data d x.Vars)) with
    | false=>
     refine .inr ⟨.inl false,rfl,rfl,fun k=>?_⟩
     have:=k.1 y l
     rw [this.2.2,Am this.2.1] at i; cases i
    | true=>
     simp only [bae,decide_eq_true_eq] at i
     have B:y.Name ∉ L++(x.Cons.take c).map (·.Name):=fun k=>by rw [(h3.2 _).2 k] at j; cases j
     have e:L++(x.Cons.take (c+1)).map (·.Name)=(L++(x.Cons.take c).map (·.Name))++[y.Name]:=by rw [ht]; simp
     refine .inl ⟨_,rfl,⟨c+1,rfl,by omega,?_,?_,?_⟩,by simp; omega⟩
     .intro G q
      rw [ht] at q
      rcases List.mem_append.1 q with h' | h'
      .exact h1 G h'
      .simp at h'; subst h'; exact ⟨b2.1 rfl,i.1,i.2⟩
     .rw [e]; exact Ai7 h2 B
     .rw [e]; exact h3.put _
 .have:c=x.Cons.length:=by omega
  subst this
  rw [List.take_length] at h1 h2 h3
  exact .inr ⟨.inr ((x.Cons.length:Int),g),by simp,h1,h2,h3⟩
theorem Ata {data:List A4} {d:Nat} {x:A4} (hx:data[d]? = some x):data.flatMap Hr=((data.take d).flatMap Hr++Hr x)++(data.drop (d+1)).flatMap Hr/\data.map (·.Name)=(data.take d).map (·.Name)++x.Name::(data.drop (d+1)).map (·.Name):=by
 have h:=List.take_append_drop d data
 have hc:=Ey hx
 have e:data.drop d=x::data.drop (d+1):=by
  rw [List.drop_eq_getElem_cons hc]
  rw [Cp hc] at hx
  rw [Option.some.inj hx]
 constructor
 .conv=>lhs; rw [<-h,e]
  simp [List.flatMap_append]
 .conv=>lhs; rw [<-h,e]
  simp
theorem Atb {data:List A4} (j:DSz data):∃b,Tg data=some b/\(b=true↔La data):=by
 have G:=j.len
 unfold Tg
 rcases Nat.lt_or_ge 12 data.length with h12 | h12
 .rw [Am (by omega)]
  exact ⟨false,rfl,by simp; intro h; have:=h.1; omega⟩
 rw [Av (by omega)]
 simp only [cond_false]
 refine Fe (fun (v31,f,g)=>∃d:Nat,v31=d/\d<=data.length/\(∀k x,k<d->data[k]? = some x->Ac5 data k x)/\((data.take d).map (·.Name)).Nodup/\((data.take d).flatMap Hr).Nodup/\Ix f ((data.take d).map (·.Name))/\Ix g ((data.take d).flatMap Hr))
  (fun (v31,_,_)=>data.length-v31.toNat) (fun z=>match z with | .inl r=>r=false/\¬La data | .inr _=>La data) ⟨0,rfl,by omega,by intro k x h; omega,by simp,by simp,by simpa using Ix.nil,by simpa using Ix.nil⟩ ?_ ?_
 .rintro ⟨v,f,g⟩ ⟨d,rfl,hd,h1,h2,h3,B,V⟩
  rcases Nat.lt_or_ge d data.length with h | h
  .have hx:data[d]? = some data[d]:=Cp h
   generalize data[d]=x at hx
   have hxm:=Cv hx
   obtain ⟨b,b1,b2⟩:=Ai5 x.Name (by have:=j.nm x hxm; omega)
   obtain ⟨f1,f2⟩:=Ata hx
   simp only [Am (by omega:(d:Int)<(data.length:Int)),cond_true,Ck rfl hx,Ae,b1]
   have bad:∀(y:¬Ac5 data d x),∃e:Bool⊕((List (ByteArray×Bool))×(List (ByteArray×Bool))),(some (Sum.inr (Sum.inl false)):Option ((Int×(List (ByteArray×Bool))×(List (ByteArray×Bool)))⊕(Bool⊕((List (ByteArray×Bool))×(List (ByteArray×Bool))))))=some (.inr e)/\(match e with | .inl r=>r=false/\¬La data | .inr _=>La data) :=
    fun y=>⟨.inl false,rfl,rfl,fun c=>y (c.2.1 d x hx)⟩
   cases b with
   | false=>
    exact .inr (bad fun c=>by have:=b2.2 c.2.2.2.2.1; cases this)
   | true=>
    simp only [bnt,cond_false]
    cases i:Ej f x.Name with
    | true=>
     simp only [cond_true,B.get i,Ae]
     refine .inr ⟨.inl false,rfl,rfl,fun c=>?_⟩
     have:=c.2.2.1
     rw [f2] at this
     exact Ai6 this ((B.2 _).1 i)
    | false=>
     simp only [cond_false]
     by_cases q:x.Vars<0
     .simp only [Am q,cond_true,Ae]
      exact .inr (bad fun c=>by have:=c.1; omega)
     by_cases u:x.Vars>6
     .simp only [Av q,Am u,cond_true,cond_false,Ae]
      exact .inr (bad fun c=>by have:=c.2.1; omega)
     simp only [Av q,Av u,cond_false,Ae]
     by_cases s:(x.Cons.length:Int)<1
     .simp only [Am s,cond_true,Ae]
      exact .inr (bad fun c=>by have:=c.2.2.1; omega)
     by_cases A:(x.Cons.length:Int)>8
     .simp only [Av s,Am A,cond_true,cond_false,Ae]
      exact .inr (bad fun c=>by have:=c.2.2.2.1; omega)
     simp only [Av s,Av A,cond_false,Ae]
     obtain ⟨z,L,z2⟩:=As9 j hx (by omega) g _ V h3
     rw [L,Ae]
     match z,z2 with
     | .inl r,z2=>
      obtain ⟨rfl,z2⟩:=z2
      refine .inr ⟨.inl false,rfl,rfl,fun c=>z2 ⟨(c.2.1 d x hx).2.2.2.2.2,?_⟩⟩
      have:=c.2.2.2
      rw [f1] at this
      exact (List.nodup_append.1 this).1
     | .inr (v60,D),z2=>
      obtain ⟨R,N,M⟩:=z2
      have ht:=D4 hx
      have E:x.Name ∉ (data.take d).map (·.Name):=fun c=>by rw [(B.2 _).2 c] at i; cases i
      have J:(data.take (d+1)).map (·.Name)=(data.take d).map (·.Name)++[x.Name]:=by rw [ht]; simp
      have I:(data.take (d+1)).flatMap Hr=(data.take d).flatMap Hr++Hr x:=by rw [ht]; simp [List.flatMap_append]
      refine .inl ⟨(((d+1:Nat):Int),Et f x.Name true,D),by simp only [Dv h (by omega)],⟨d+1,rfl,by omega,?_,?_,?_,?_,?_⟩,by simp; omega⟩
      .intro k S U l
       rcases Nat.lt_or_ge k d with h' | h'
       .exact h1 k S h' l
       .have:k=d:=by omega
        subst this
        rw [hx] at l; cases l
        exact ⟨by omega,by omega,by omega,by omega,b2.1 rfl,R⟩
      .rw [J]; exact Ai7 h2 E
      .rw [I]; exact N
      .rw [J]; exact B.put _
      .rw [I]; exact M
  .have:d=data.length:=by omega
   subst this
   rw [List.take_length] at h2 h3
   exact .inr ⟨.inr (f,g),by simp,h12,fun d x hx=>h1 d x (Ey hx) hx,h2,h3⟩
 .rintro (r | ⟨o,o'⟩) j
  .obtain ⟨rfl,j⟩:=j
   exact ⟨false,rfl,by simp [j]⟩
  .exact ⟨true,rfl,by simpa using j⟩
theorem Ai8 {data:List A4} (c:DSz data):∃b,S4 data=some b/\(b=true↔La data):=by
 obtain ⟨b,h1,h2⟩:=Atb c
 refine ⟨b,?_,h2⟩
 unfold S4
 rw [h1,Ae]
 cases b with
 | false=>rfl
 | true=>rfl
end Go.Ab
namespace Go.Ab
open Go
theorem SzD.args {data:List A4} (h:SzD data) {x:A4} (hx:x∈data) {y:L3} (hy:y∈x.Cons) {t:Ai} (ht:t∈y.Args):Bt t<=1048576/\t.Args.length<=1048576/\y.Args.length<=1048576:=by
 have h1:=(h x hx).2 y hy
 have h3:=Kj ht
 have f:=Ju t
 have c:=K9 t.Args
 have b:=K9 y.Args
 omega
end Go.Ab
namespace Go.Ab
open Go
def isV (σ:List Ai) (k n:Int):Bool:=k==4&&decide (0<=n)&&decide (n<(σ.length:Int))
mutual
def Dc (σ:List Ai):Ai->Ai
 | ⟨k,n,l⟩=>match (if isV σ k n then σ[n.toNat]? else none) with
  | some s=>s
  | none=>⟨k,n,L8 σ l⟩
def L8 (σ:List Ai):List Ai->List Ai
 | []=>[]
 | x::xs=>Dc σ x::L8 σ xs
end
theorem Atc (σ l:List Ai):L8 σ l=l.map (Dc σ):=by
 induction l with
 | nil=>rfl
 | cons x xs ih=>simp only [L8,ih,List.map_cons]
theorem Ac6 {σ:List Ai} {k n:Int} (h:isV σ k n=true):∃s,σ[n.toNat]? = some s/\Ag σ n=some s/\s∈σ:=by
 simp only [isV,bae,decide_eq_true_eq] at h
 have b:n.toNat < σ.length:=by omega
 refine ⟨σ[n.toNat],Cp b,?_,List.getElem_mem b⟩
 unfold Ag
 rw [if_pos (by omega),Cp b]
theorem Ac7 {σ:List Ai} {t s:Ai} (h:isV σ t.Kind t.Num=true) (b:σ[t.Num.toNat]? = some s):Dc σ t=s:=by
 cases t; simp only [Dc] at *; simp [h,b]
theorem Ai9 {σ:List Ai} {t:Ai} (h:isV σ t.Kind t.Num=false):Dc σ t=⟨t.Kind,t.Num,t.Args.map (Dc σ)⟩:=by
 cases t; simp only [Dc] at *; simp [h,Atc]
mutual
theorem Aja:∀t:Ai,Dc [] t=t
 | ⟨k,n,l⟩=>by
  have hv:isV [] k n=false:=by
   unfold isV
   by_cases h:0<=n
   .rw [Av (by simp; omega:¬n<(([]:List Ai).length:Int))]; simp
   .rw [Av h]; simp
  simp only [Dc,hv,Ajb l]; rfl
theorem Ajb:∀l:List Ai,L8 [] l=l
 | []=>rfl
 | x::xs=>by simp only [L8,Aja x,Ajb xs]
end
mutual
theorem Ajc (σ:List Ai) (M:Nat) (hM:1<=M) (hσ:∀s∈σ,Bt s<=M):∀t:Ai,Bt (Dc σ t)<=Bt t*M
 | ⟨k,n,l⟩=>by
  cases hv:isV σ k n with
  | true=>
   obtain ⟨s,h1,_,h3⟩:=Ac6 hv
   rw [Ac7 (t:=⟨k,n,l⟩) hv h1]
   have:=hσ s h3
   have h2:=Ro ⟨k,n,l⟩
   calc Bt s<=1*M:=by omega
    _<=_:=Nat.mul_le_mul_right M h2
  | false=>
   have:=Ajd σ M hM hσ l
   simp only [Dc,hv,Bt]
   simp only [Bool.false_eq_true,if_false,Bt]
   rw [Nat.add_mul]; omega
theorem Ajd (σ:List Ai) (M:Nat) (hM:1<=M) (hσ:∀s∈σ,Bt s<=M):∀l:List Ai,Cn (L8 σ l)<=Cn l*M
 | []=>by simp [L8,Cn]
 | x::xs=>by
  have h1:=Ajc σ M hM hσ x
  have h2:=Ajd σ M hM hσ xs
  simp only [L8,Cn]
  rw [Nat.add_mul]; omega
end
theorem Aje (σ:List Ai) (t:Ai):(bif t.Kind==(4:Int) then bif decide (t.Num>=(0:Int)) then some (decide (t.Num<(σ.length:Int))) else some false else some false)=some (isV σ t.Kind t.Num):=by
 unfold isV
 cases t.Kind==4 <;> simp
 by_cases h:0<=t.Num <;> simp [h]
theorem Atd:∀(k:Nat) (t:Ai) (σ:List Ai) (M:Nat),(∀s∈σ,Bt s<=M)->Bt t+M+1<=k->k<1099511627776->M3 k t σ=some (Dc σ t):=by
 intro k
 induction k with
 | zero=>intro t σ M _ h; omega
 | succ k ih=>
  intro t σ M c h hk
  have g:=Ju t
  have f:=K9 t.Args
  rw [M3]
  rw [show (show Option Bool from bif t.Kind==(4:Int) then bif decide (t.Num>=(0:Int)) then some (decide (t.Num<(σ.length:Int))) else some false else some false)=some (isV σ t.Kind t.Num) from Aje σ t,Ae]
  cases b:isV σ t.Kind t.Num with
  | true=>
   obtain ⟨s,h1,h2,h3⟩:=Ac6 b
   have:=c s h3
   simp only [cond_true,h2,Ae,Ac7 b h1,ih s [] 0 (by simp) (by omega) (by omega),Aja]
  | false=>
   rw [Ai9 b]
   simp only [cond_false]
   refine Iv t.Args (fun j=>((j:Int),(t.Args.take j).map (Dc σ))) rfl (by omega) ?_ ?_
   .intro j x hj hx h1 h2 h3
    have:=Kj (Cv hx)
    simp only [h1,h2,h3,cond_true,Ae,ih x σ M c (by omega) (by omega)]
    rw [Ds (by simp; omega),Ae,D4 hx]; simp
   .intro h1
    exact ⟨t.Args.map (Dc σ),by simp,rfl⟩
theorem Ate:∀(k:Nat) (t:Ai),Bt t<=k->Bt t<1099511627776->Oh k t=some (Bt t:Int):=by
 intro k
 induction k with
 | zero=>intro t h; have:=Ro t; omega
 | succ k ih=>
  intro t h ht
  have b:=Ju t
  have c:=K9 t.Args
  rw [Oh]
  refine Iv t.Args (fun j=>(1+(Cn (t.Args.take j):Int),(j:Int))) rfl (by omega) ?_ ?_
  .intro j x hj hx h1 h2 h3
   have g:=Kj (Cv hx)
   have f:=Ac0 t.Args (j+1)
   have e:Cn (t.Args.take (j+1))=Cn (t.Args.take j)+Bt x:=by rw [D4 hx,Ys]; simp [Cn]
   simp only [h1,h2,h3,cond_true,Ae,ih x (by omega) (by omega)]
   rw [show Ac (1+(Cn (t.Args.take j):Int)+(Bt x:Int))=1+(Cn (t.Args.take (j+1)):Int) by rw [e,Ac,Bv] <;> omega]
  .intro h1
   exact ⟨1+(Cn t.Args:Int),by simp,by rw [b]; simp⟩
theorem Atf (σ:List Ai) (M:Nat) (G:1<=M) (u:M<=1048576) (A:∀s∈σ,Bt s<=M):∀(k:Nat) (t:Ai),Bt t<=k->Bt t<=1048576 ->
  ∃v:Nat,Oi k t (σ.map fun s=>(Bt s:Int))=some (v:Int)/\v<=Bt (Dc σ t)/\((v=Bt (Dc σ t))\/200<v):=by
 intro k
 induction k with
 | zero=>intro t h; have:=Ro t; omega
 | succ k ih=>
  intro t h ht
  have B:=Ju t
  have z:=K9 t.Args
  have l:∀x,Bt x<=1048576->Bt (Dc σ x)<=1099511627776:=fun x hx=>by
   have:=Ajc σ M G A x
   have:Bt x*M<=1048576*1048576:=Nat.mul_le_mul hx u
   omega
  rw [Oi]
  rw [show (show Option Bool from bif t.Kind==(4:Int) then bif decide (t.Num>=(0:Int)) then some (decide (t.Num<((σ.map fun s=>(Bt s:Int)).length:Int))) else some false else some false)=some (isV σ t.Kind t.Num) by rw [List.length_map]; exact Aje σ t,Ae]
  cases f:isV σ t.Kind t.Num with
  | true=>
   obtain ⟨s,h1,h2,h3⟩:=Ac6 f
   have E:Ag (σ.map fun s=>(Bt s:Int)) t.Num=some (Bt s:Int):=by
    have:=Je h2
    rw [Ck (n:=t.Num.toNat) (by omega)]
    simp [h1]
   simp only [cond_true,E,Ae,Ac7 f h1]
   exact ⟨Bt s,rfl,Nat.le_refl _,.inl rfl⟩
  | false=>
   have y:=l t ht
   rw [Ai9 f] at y ⊢
   simp only [cond_false]
   have g:Bt ⟨t.Kind,t.Num,t.Args.map (Dc σ)⟩=1+Cn (t.Args.map (Dc σ)):=by simp only [Bt]
   rw [g] at y ⊢
   refine X7 (fun v:Nat=>(v:Int)) (Fe (fun (n,i)=>∃j:Nat,i=j/\j<=t.Args.length/\n=1+(Cn ((t.Args.map (Dc σ)).take j):Int)) (fun (_,i)=>t.Args.length-i.toNat)
    (fun n=>∃v:Nat,n=v/\v<=1+Cn (t.Args.map (Dc σ))/\(v=1+Cn (t.Args.map (Dc σ))\/200<v)) ⟨0,rfl,by omega,by simp [Cn]⟩ ?_ ?_)
   .rintro ⟨n,i⟩ ⟨j,rfl,hj,q⟩
    have q:n=_:=q
    subst q
    rcases Nat.lt_or_ge j t.Args.length with h' | h'
    .have hx:t.Args[j]? = some t.Args[j]:=Cp h'
     generalize t.Args[j]=x at hx
     have J:=Kj (Cv hx)
     obtain ⟨v,b,v2,v3⟩:=ih x (by omega) (by omega)
     have c:(t.Args.map (Dc σ))[j]? = some (Dc σ x):=by simp [hx]
     have e:Cn ((t.Args.map (Dc σ)).take (j+1))=Cn ((t.Args.map (Dc σ)).take j)+Bt (Dc σ x):=by rw [D4 c,Ys]; simp [Cn]
     have D:=Ac0 (t.Args.map (Dc σ)) (j+1)
     have I:Ac (1+(Cn ((t.Args.map (Dc σ)).take j):Int)+(v:Int))=((1+Cn ((t.Args.map (Dc σ)).take j)+v:Nat):Int):=by rw [Ac,Bv] <;> omega
     simp only [Am (by omega:(j:Int)<(t.Args.length:Int)),cond_true,Ck rfl hx,Ae,b,Dv h' (by omega),I]
     by_cases hb:1+Cn ((t.Args.map (Dc σ)).take j)+v>200
     .rw [Am (by omega)]
      exact .inr ⟨_,rfl,_,rfl,by omega,.inr hb⟩
     .rw [Av (by omega)]
      refine .inl ⟨_,rfl,⟨j+1,rfl,by omega,?_⟩,by simp; omega⟩
      have:v=Bt (Dc σ x):=by omega
      subst this
      rw [e]; omega
    .have:j=t.Args.length:=by omega
     subst this
     refine .inr ⟨_,by simp; rfl,1+Cn (t.Args.map (Dc σ)),?_,by omega,.inl rfl⟩
     rw [List.take_of_length_le (by simp)]; omega
   .rintro n ⟨v,rfl,b,v2⟩
    exact ⟨_,rfl,v,rfl,b,v2⟩
def Nf (data:List A4) (t:Ai) (c:Int):Option (List Ai) :=
 if t.Kind=5 then
  match Ag data t.Num with
  | none=>none
  | some x=>if (t.Args.length:Int)=x.Vars then
    match Ag x.Cons c with
    | none=>none
    | some y=>if (y.Args.map (Dc t.Args)).all (fun a=>decide (Bt a<=200)) then some (y.Args.map (Dc t.Args)) else none
   else none
 else none
def okL (o:Option (List Ai)):List Ai×Bool:=match o with | none=>([],false) | some l=>(l,true)
def Szv (data:List A4):Prop:=∀x∈data,∀y∈x.Cons,y.Args.length<=6/\∀a∈y.Args,Bt a<=200
theorem La.szv {data:List A4} (h:La data):Szv data:=by
 intro x hx y hy
 obtain ⟨d,hd⟩:=List.getElem?_of_mem hx
 have h1:=h.2.1 d x hd
 obtain ⟨_,c,b⟩:=h1.2.2.2.2.2 y hy
 refine ⟨c,fun a ha=>?_⟩
 have:=List.all_eq_true.1 b a ha
 unfold O8 at this
 rw [Bool.or_eq_true] at this
 rcases this with h' | h'
 .exact (Aiz hd h1.2.1 h').2
 .simp only [bae,decide_eq_true_eq] at h'; exact h'.2
end Go.Ab
namespace Go.Ab
open Go
theorem Atg {data:List A4} (B:Szv data) (t:Ai) (ht:Bt t<=200) (c:Int):Xx data t c=some (okL (Nf data t c)):=by
 have D:=Ju t
 have u:=K9 t.Args
 unfold Xx Nf
 by_cases hk:t.Kind=5
 .simp only [D3 hk,cond_false,if_pos hk]
  cases hx:Ag data t.Num with
  | none=>
   rcases Us hx with h | h
   .simp only [Am h,cond_true,Ae,okL]
   .by_cases h':t.Num<0
    .simp only [Am h',cond_true,Ae,okL]
    .simp only [Av h',Am (show t.Num>=(data.length:Int) from h),cond_true,cond_false,Ae,okL]
  | some x=>
   obtain ⟨a1,a2,_,hxm⟩:=Je hx
   simp only [Av (by omega:¬t.Num<0),Av (by omega:¬t.Num>=(data.length:Int)),cond_false,Ae]
   by_cases g:(t.Args.length:Int)=x.Vars
   .simp only [D3 g,cond_false,if_pos g]
    cases hy:Ag x.Cons c with
    | none=>
     rcases Us hy with h | h
     .simp only [Am h,cond_true,Ae,okL]
     .by_cases h':c<0
      .simp only [Am h',cond_true,Ae,okL]
      .simp only [Av h',Am (show c>=(x.Cons.length:Int) from h),cond_true,cond_false,Ae,okL]
    | some y=>
     obtain ⟨b1,b2,_,k⟩:=Je hy
     obtain ⟨I,b⟩:=B x hxm y k
     simp only [Av (by omega:¬c<0),Av (by omega:¬c>=(x.Cons.length:Int)),cond_false,Ae]
     rw [H8 (n:=t.Args.length) (c:=t.Args.length) rfl rfl (by omega) (by omega) (by omega),Ae]
     refine Iv t.Args (fun j=>((j:Int),((t.Args.take j).map fun s=>(Bt s:Int))++List.replicate (t.Args.length-j) 0)) rfl (by omega) ?_ ?_
     .intro j s hj i h1 h2 h3
      have:=Kj (Cv i)
      obtain ⟨m,E⟩:∃m,t.Args.length-j=m+1:=⟨t.Args.length-j-1,by omega⟩
      have G:t.Args.length-(j+1)=m:=by omega
      have l:j=((t.Args.take j).map fun s=>(Bt s:Int)).length:=by simp; omega
      simp only [h1,h2,h3,cond_true,Ae,Ate 4000000 s (by omega) (by omega),E,G,List.replicate_succ,Ac2 _ _ _ (j:Int) j rfl l,Ac1 _ _ _ _ (j:Int) j rfl l,D4 i]
      simp
     .intro h1
      refine ⟨t.Args.map fun s=>(Bt s:Int),by simp,?_⟩
      have q:∀s∈t.Args,Bt s<=200:=fun s i=>by have:=Kj i; omega
      refine (Yf (rt:=(y.Args.map (Dc t.Args),true)) (rf:=([],false)) y.Args (fun a=>decide (Bt (Dc t.Args a)<=200)) (fun j=>(j:Int)) rfl (by omega) ?_ ?_).trans ?_
      .intro j a ha h1 h2 h3
       have A:=b a (Cv ha)
       obtain ⟨v,z,v2,v3⟩:=Atf t.Args 200 (by omega) (by omega) q 4000000 a (by omega) (by omega)
       simp only [h1,h2,h3,cond_true,Ae,z]
       by_cases hb:Bt (Dc t.Args a)<=200
       .rw [Am hb,Av (by omega)]
        exact ⟨fun _=>rfl,fun h=>by cases h⟩
       .rw [Av hb,Am (by omega)]
        exact ⟨(fun h=>by cases h),fun _=>⟨_,rfl,rfl⟩⟩
      .intro h1
       refine ⟨.inr (),by simp,?_⟩
       simp only
       refine Iv y.Args (fun j=>((j:Int),(y.Args.take j).map (Dc t.Args))) rfl (by omega) ?_ ?_
       .intro j a hj ha h1 h2 h3
        have A:=b a (Cv ha)
        simp only [h1,h2,h3,cond_true,Ae,Atd 4000000 a t.Args 200 q (by omega) (by omega)]
        rw [Ds (by simp; omega),Ae,D4 ha]; simp
       .intro h1
        exact ⟨y.Args.map (Dc t.Args),by simp,rfl⟩
      .rw [List.all_map]
       cases f:y.Args.all ((fun a=>decide (Bt a<=200)) ∘ Dc t.Args) with
       | true=>rw [if_pos rfl]; rw [show (y.Args.all fun a=>decide (Bt (Dc t.Args a)<=200))=true from f]; rfl
       | false=>rw [show (y.Args.all fun a=>decide (Bt (Dc t.Args a)<=200))=false from f]; rfl
   .simp only [Dq g,cond_true,Ae,if_neg g,okL]
 .simp only [Dq hk,cond_true,Ae,if_neg hk,okL]
theorem Ac8 {data:List A4} {t:Ai} {c:Int} {l:List Ai} (h:Nf data t c=some l) :
  ∃x y,t.Kind=5/\Ag data t.Num=some x/\(t.Args.length:Int)=x.Vars/\Ag x.Cons c=some y/\l=y.Args.map (Dc t.Args)/\∀a∈l,Bt a<=200:=by
 unfold Nf at h
 by_cases hk:t.Kind=5
 .rw [if_pos hk] at h
  cases hx:Ag data t.Num with
  | none=>rw [hx] at h; cases h
  | some x=>
   rw [hx] at h
   simp only at h
   by_cases f:(t.Args.length:Int)=x.Vars
   .rw [if_pos f] at h
    cases hy:Ag x.Cons c with
    | none=>rw [hy] at h; cases h
    | some y=>
     rw [hy] at h
     simp only at h
     by_cases b:(y.Args.map (Dc t.Args)).all (fun a=>decide (Bt a<=200))=true
     .rw [if_pos b] at h
      cases h
      refine ⟨x,y,hk,rfl,f,hy,rfl,fun a ha=>?_⟩
      have:=List.all_eq_true.1 b a ha
      simpa using this
     .rw [if_neg b] at h; cases h
   .rw [if_neg f] at h; cases h
 .rw [if_neg hk] at h; cases h
def Iy (l:List Ai) (r:List Bool):List Ai:=((l.zip r).filter fun p=>!p.2).map (·.1)
def Kk (data:List A4) (t:Ai) (c:Int):Option (List Ai):=(Nf data t c).map fun l=>Iy l (Ib data t.Num c)
theorem Ath {data:List A4} {t:Ai} {c:Int} {l:List Ai} (h:Nf data t c=some l):(Ib data t.Num c).length=l.length:=by
 obtain ⟨x,y,_,hx,_,hy,rfl,_⟩:=Ac8 h
 unfold Ib
 simp only [hx,hy,List.length_map]
theorem Ati {l:List Ai} {r:List Bool} {j:Nat} {a:Ai} {b:Bool} (h1:l[j]? = some a) (h2:r[j]? = some b):Iy (l.take (j+1)) (r.take (j+1))=Iy (l.take j) (r.take j)++bif b then [] else [a]:=by
 unfold Iy
 have f:=Ey h1
 have c:=Ey h2
 rw [D4 h1,D4 h2,List.zip_append (by simp; omega)]
 cases b <;> simp
theorem Atj (l:List Ai) (r:List Bool):(Iy l r).length<=l.length:=by
 unfold Iy
 rw [List.length_map]
 refine Nat.le_trans (List.length_filter_le _ _) ?_
 rw [List.length_zip]; omega
theorem Atl {data:List A4} {t:Ai} {c:Int} {l:List Ai} (h:Kk data t c=some l):(∀a∈l,Bt a<=200)/\∃x,Ag data t.Num=some x/\0<=c/\c<x.Cons.length:=by
 unfold Kk at h
 cases b:Nf data t c with
 | none=>rw [b] at h; cases h
 | some m=>
  rw [b] at h
  cases h
  obtain ⟨x,y,_,hx,_,hy,_,g⟩:=Ac8 b
  refine ⟨fun a ha=>?_,x,hx,(Je hy).1,(Je hy).2.1⟩
  unfold Iy at ha
  obtain ⟨p,f,rfl⟩:=List.mem_map.1 ha
  exact g _ (List.of_mem_zip (List.mem_filter.1 f).1).1
end Go.Ab
namespace Go.Ab
open Go
mutual
def Dk:Bo->Nat
 | ⟨_,l⟩=>1+Fj l
def Fj:List Bo->Nat
 | []=>0
 | x::xs=>Dk x+Fj xs
end
theorem Gp (t:Bo):Dk t=1+Fj t.Kids:=by cases t; simp only [Dk]
theorem Pa {l:List Bo} {a:Bo} (h:a∈l):Dk a<=Fj l:=by
 induction l with
 | nil=>cases h
 | cons x xs ih=>
  simp only [Fj]
  rcases List.mem_cons.1 h with rfl | h
  .omega
  .have:=ih h; omega
theorem Rq (l:List Bo):l.length<=Fj l:=by
 induction l with
 | nil=>simp
 | cons x xs ih=>simp only [Fj,List.length_cons]; have:=Gp x; omega
mutual
def Ic (data:List A4):Bo->Ai->Option Nat
 | ⟨n,kids⟩,t=>
  if t.Kind=6 then (if n=0 then Fr data kids t.Args else none)
  else if t.Kind=7 then (if 0<=n/\n<=6/\kids.length=0 then some n.toNat else none)
  else if t.Kind=5 then (if n=0 then Jf data kids t else none)
  else if n=0/\kids.length=0 then some 0 else none
def Fr (data:List A4):List Bo->List Ai->Option Nat
 | [],[]=>some 0
 | i::is,t::ts=>(Ic data i t).bind fun a=>(Fr data is ts).map (a + ·)
 | [],_::_=>none
 | _::_,[]=>none
def Jf (data:List A4):List Bo->Ai->Option Nat
 | [],_=>some 0
 | ⟨n,kids⟩::es,t=>(Kk data t n).bind fun ts=>(Fr data kids ts).bind fun a=>(Jf data es t).map (1+a + ·)
end
theorem Ajf (data:List A4) (i:Bo) (t:Ai):Ic data i t=if t.Kind=6 then (if i.Num=0 then Fr data i.Kids t.Args else none)
  else if t.Kind=7 then (if 0<=i.Num/\i.Num<=6/\i.Kids.length=0 then some i.Num.toNat else none)
  else if t.Kind=5 then (if i.Num=0 then Jf data i.Kids t else none)
  else if i.Num=0/\i.Kids.length=0 then some 0 else none:=by cases i; simp only [Ic]
theorem Ajg (data:List A4) (e:Bo) (es:List Bo) (t:Ai):Jf data (e::es) t=(Kk data t e.Num).bind fun ts=>(Fr data e.Kids ts).bind fun a=>(Jf data es t).map (1+a + ·):=by cases e; simp only [Jf]
theorem Ac9 (data:List A4) (i:Bo) (b:List Bo) (t:Ai) (ts:List Ai):Fr data (i::b) (t::ts)=(Ic data i t).bind fun a=>(Fr data b ts).map (a + ·):=by simp only [Fr]
theorem Ajh (data:List A4):∀(b:List Bo) (ts:List Ai),ts.length≠b.length->Fr data b ts=none
 | [],[],h=>absurd rfl h
 | i::b,t::ts,h=>by rw [Ac9,Ajh data b ts (by simpa using h)]; cases Ic data i t <;> rfl
 | [],_::_,_=>by simp only [Fr]
 | _::_,[],_=>by simp only [Fr]
def Iz (o:Option Nat):Int:=match o with | some d=>if d<=6 then (d:Int) else -1 | none => -1
theorem Aji {d:Nat} (h:d<=6):Iz (some d)=d:=by simp [Iz,h]
theorem Ada {d:Nat} (h:6<d):Iz (some d) = -1:=by simp only [Iz]; rw [if_neg (by omega)]
theorem Atm (o:Option Nat):(Iz o = -1/\∀d,o=some d->6<d)\/∃d,o=some d/\d<=6/\Iz o=d:=by
 cases o with
 | none=>exact .inl ⟨rfl,fun d h=>by cases h⟩
 | some d=>
  rcases Nat.lt_or_ge 6 d with h | h
  .exact .inl ⟨Ada h,fun e b=>by cases b; exact h⟩
  .exact .inr ⟨d,rfl,h,Aji h⟩
theorem Atn {o:Option Nat} (h:∀d,o=some d->6<d):Iz o = -1:=by
 cases o with
 | none=>rfl
 | some d=>exact Ada (h d rfl)
theorem I0 {α:Type} {l:List α} {j:Nat} {x:α} (h:l[j]? = some x):l.drop j=x::l.drop (j+1):=by
 have hj:=Ey h
 rw [List.drop_eq_getElem_cons hj]
 rw [Cp hj] at h
 rw [Option.some.inj h]
end Go.Ab
namespace Go.Ab
open Go
end Go.Ab
namespace Go.Ab
open Go
def I64 (n:Int):Prop:= -9223372036854775808<=n/\n<=9223372036854775807
def ti (n:Int):List Int:=(Lib.itoa n).map fun c=>(c.toNat:Int)
def L9 (c:Int):Bool:=c==45||(decide (48<=c)&&decide (c<=57))
theorem Rr {d:Nat} (h:d<10):(UInt8.ofNat (48+d)).toNat=48+d:=by
 rw [UInt8.toNat_ofNat']; omega
theorem Yv:∀(n u:Nat),u<=n->∀c∈Lib.decDigits u,48<=c.toNat/\c.toNat<=57:=by
 intro n
 induction n with
 | zero=>
  intro u hu c hc
  rw [Lib.decDigits,dif_pos (by omega)] at hc
  simp only [List.mem_singleton] at hc
  subst hc; rw [Rr (by omega)]; omega
 | succ n ih=>
  intro u hu c hc
  rw [Lib.decDigits] at hc
  split at hc
  .simp only [List.mem_singleton] at hc
   subst hc; rw [Rr (by omega)]; omega
  .rcases List.mem_append.1 hc with h | h
   .exact ih (u / 10) (by omega) c h
   .simp only [List.mem_singleton] at h
    subst h; rw [Rr (by omega)]; omega
def Yw (l:List UInt8):Nat:=l.foldl (fun a c=>10*a+(c.toNat-48)) 0
theorem Ajj:∀(n u:Nat),u<=n->Yw (Lib.decDigits u)=u:=by
 intro n
 induction n with
 | zero=>
  intro u hu
  rw [Lib.decDigits,dif_pos (by omega)]
  simp only [Yw,List.foldl_cons,List.foldl_nil]
  rw [Rr (by omega)]; omega
 | succ n ih=>
  intro u hu
  rw [Lib.decDigits]
  split
  .simp only [Yw,List.foldl_cons,List.foldl_nil]
   rw [Rr (by omega)]; omega
  .have:=ih (u / 10) (by omega)
   unfold Yw at *
   rw [List.foldl_append,this]
   simp only [List.foldl_cons,List.foldl_nil]
   rw [Rr (by omega)]; omega
theorem Ajk {u v:Nat} (h:Lib.decDigits u=Lib.decDigits v):u=v:=by
 rw [<-Ajj u u (Nat.le_refl _),h,Ajj v v (Nat.le_refl _)]
theorem Ato (u:Nat):Lib.decDigits u≠[]:=by
 rw [Lib.decDigits]; split <;> simp
theorem Atp {m n:Int} (h:Lib.itoa m=Lib.itoa n):m=n:=by
 have b:∀u v:Nat,45::Lib.decDigits u≠Lib.decDigits v:=by
  intro u v e
  have:=Yv v v (Nat.le_refl _) 45 (by rw [<-e]; simp)
  exact absurd this (by decide)
 unfold Lib.itoa at h
 split at h <;> split at h
 .have:=Ajk (List.cons.inj h).2; omega
 .exact absurd h (b _ _)
 .exact absurd h.symm (b _ _)
 .have:=Ajk h; omega
theorem Ge (n:Int):∀c∈ti n,L9 c=true:=by
 intro c hc
 unfold ti at hc
 obtain ⟨b,hb,rfl⟩:=List.mem_map.1 hc
 have key:b=45\/(48<=b.toNat/\b.toNat<=57):=by
  unfold Lib.itoa at hb
  split at hb
  .rcases List.mem_cons.1 hb with h | h
   .exact .inl h
   .exact .inr (Yv _ _ (Nat.le_refl _) b h)
  .exact .inr (Yv _ _ (Nat.le_refl _) b hb)
 unfold L9
 rcases key with rfl | ⟨h1,h2⟩
 .decide
 .rw [Bool.or_eq_true,bae,decide_eq_true_eq,decide_eq_true_eq]; right; omega
theorem Adb (n:Int):ti n≠[]:=by
 unfold ti Lib.itoa
 split
 .simp
 .simpa using Ato _
theorem Pb {m n:Int} (h:ti m=ti n):m=n:=by
 unfold ti at h
 have:∀l m:List UInt8,l.map (fun c=>(c.toNat:Int))=m.map (fun c=>(c.toNat:Int))->l=m:=by
  intro l
  induction l with
  | nil=>intro m h; cases m with | nil=>rfl | cons=>simp at h
  | cons x xs ih=>
   intro m h
   cases m with
   | nil=>simp at h
   | cons y ys=>
    simp only [List.map_cons,List.cons.injEq] at h
    rw [ih ys h.2,UInt8.toNat.inj (by omega:x.toNat=y.toNat)]
 exact Atp (this _ _ h)
theorem Kl {n:Int} (h:I64 n):(ti n).length<=21:=by
 unfold ti; rw [List.length_map]; exact Lib.itoa_length_le n h.1 h.2
def Ng (X:List Int):Prop:=∀c m,X=c::m->L9 c=false/\c≠40
def Jg (X:List Int):Prop:=∀c m,X=c::m->L9 c=false
theorem Ma:∀(a b X Y:List Int),(∀c∈a,L9 c=true)->(∀c∈b,L9 c=true)->Jg X->Jg Y->a++X=b++Y->a=b/\X=Y
 | [],[],_,_,_,_,_,_,h=>⟨rfl,h⟩
 | [],y::b,X,Y,_,hb,g,_,h=>by
  have:=g y (b++Y) h
  rw [hb y (by simp)] at this; cases this
 | x::a,[],X,Y,ha,_,_,f,h=>by
  have:=f x (a++X) h.symm
  rw [ha x (by simp)] at this; cases this
 | x::a,y::b,X,Y,ha,hb,g,f,h=>by
  simp only [List.cons_append,List.cons.injEq] at h
  obtain ⟨j,i⟩:=Ma a b X Y (fun c hc=>ha c (by simp [hc])) (fun c hc=>hb c (by simp [hc])) g f h.2
  exact ⟨by rw [h.1,j],i⟩
mutual
def wx:Bo->List Int
 | ⟨n,kids⟩=>ti n++(if kids.length=0 then [] else 40::(wxs kids++[41]))
def wxs:List Bo->List Int
 | []=>[]
 | x::xs=>wx x++44::wxs xs
end
theorem Adc (i:Bo):wx i=ti i.Num++(if i.Kids.length=0 then [] else 40::(wxs i.Kids++[41])):=by cases i; simp only [wx]
theorem Ajl (l m:List Bo):wxs (l++m)=wxs l++wxs m:=by
 induction l with
 | nil=>simp [wxs]
 | cons x xs ih=>simp only [List.cons_append,wxs,ih,List.append_assoc]
theorem Ajm (b:List Bo) (X:List Int) (f:Ng X):Jg ((if b.length=0 then [] else 40::(wxs b++[41]))++X):=by
 intro c m h
 by_cases hk:b.length=0
 .rw [if_pos hk,List.nil_append] at h
  exact (f c m h).1
 .rw [if_neg hk,List.cons_append] at h
  cases h; decide
theorem Ajn (X:List Int):Ng (44::X):=by intro c m h; cases h; exact ⟨by decide,by decide⟩
theorem Ajo:Ng []:=by intro c m h; cases h
mutual
theorem Add:∀(i j:Bo) (X Y:List Int),Ng X->Ng Y->wx i++X=wx j++Y->i=j/\X=Y
 | ⟨n,k⟩,⟨n',k'⟩,X,Y,hX,hY,h=>by
  simp only [wx,List.append_assoc] at h
  obtain ⟨e1,e2⟩:=Ma _ _ _ _ (Ge n) (Ge n') (Ajm k X hX) (Ajm k' Y hY) h
  have e1:=Pb e1
  subst e1
  by_cases hk:k.length=0
  .by_cases hk':k'.length=0
   .rw [if_pos hk,if_pos hk'] at e2
    rw [List.length_eq_zero_iff.1 hk,List.length_eq_zero_iff.1 hk']
    exact ⟨rfl,e2⟩
   .rw [if_pos hk,if_neg hk',List.nil_append,List.cons_append] at e2
    exact absurd rfl (hX _ _ e2).2
  .by_cases hk':k'.length=0
   .rw [if_neg hk,if_pos hk',List.nil_append,List.cons_append] at e2
    exact absurd rfl (hY _ _ e2.symm).2
   .rw [if_neg hk,if_neg hk',List.cons_append,List.cons_append,List.append_assoc,List.append_assoc] at e2
    obtain ⟨e3,e4⟩:=Ajp k k' X Y hX hY (List.cons.inj e2).2
    rw [e3]; exact ⟨rfl,e4⟩
theorem Ajp:∀(l m:List Bo) (X Y:List Int),Ng X->Ng Y->wxs l++([41]++X)=wxs m++([41]++Y)->l=m/\X=Y
 | [],[],X,Y,_,_,h=>by
  simp only [wxs,List.nil_append,List.cons_append,List.cons.injEq,true_and] at h
  exact ⟨rfl,h⟩
 | [],y::ys,X,Y,_,_,h=>by
  exfalso
  cases ht:ti y.Num with
  | nil=>exact Adb _ ht
  | cons c r=>
   have hc:=Ge y.Num c (by rw [ht]; simp)
   simp only [wxs,Adc y,ht,List.nil_append,List.cons_append,List.cons.injEq] at h
   rw [<-h.1] at hc; exact absurd hc (by decide)
 | x::xs,[],X,Y,_,_,h=>by
  exfalso
  cases ht:ti x.Num with
  | nil=>exact Adb _ ht
  | cons c r=>
   have hc:=Ge x.Num c (by rw [ht]; simp)
   simp only [wxs,Adc x,ht,List.nil_append,List.cons_append,List.cons.injEq] at h
   rw [h.1] at hc; exact absurd hc (by decide)
 | x::xs,y::ys,X,Y,hX,hY,h=>by
  simp only [wxs,List.append_assoc,List.cons_append] at h
  obtain ⟨e1,e2⟩:=Add x y _ _ (Ajn _) (Ajn _) h
  obtain ⟨e3,e4⟩:=Ajp xs ys X Y hX hY (by simpa using e2)
  exact ⟨by rw [e1,e3],e4⟩
end
mutual
def iR:Bo->Prop
 | ⟨n,l⟩=>I64 n/\iRs l
def iRs:List Bo->Prop
 | []=>True
 | x::xs=>iR x/\iRs xs
end
theorem Atq (i:Bo):iR i↔I64 i.Num/\iRs i.Kids:=by cases i; simp only [iR]
theorem Atr {l:List Bo} (h:iRs l) {a:Bo} (ha:a∈l):iR a:=by
 induction l with
 | nil=>cases ha
 | cons x xs ih=>
  simp only [iRs] at h
  rcases List.mem_cons.1 ha with rfl | ha
  .exact h.1
  .exact ih h.2 ha
mutual
theorem Ade:∀i:Bo,iR i->(wx i).length+1<=24*Dk i
 | ⟨n,l⟩,h=>by
  simp only [iR] at h
  have h1:=Yx l h.2
  have h2:=Kl h.1
  simp only [wx,Dk,List.length_append]
  by_cases hl:l.length=0
  .rw [if_pos hl]; simp; omega
  .rw [if_neg hl]; simp; omega
theorem Yx:∀l:List Bo,iRs l->(wxs l).length<=24*Fj l
 | [],_=>by simp [wxs,Fj]
 | x::xs,h=>by
  simp only [iRs] at h
  have h1:=Ade x h.1
  have h2:=Yx xs h.2
  have h3:=Gp x
  simp only [wxs,Fj,List.length_append,List.length_cons]; omega
end
theorem Ajq (l m:List Bo):Fj (l++m)=Fj l+Fj m:=by
 induction l with
 | nil=>simp [Fj]
 | cons x xs ih=>simp only [List.cons_append,Fj,ih]; omega
theorem Ats (l m:List Bo):iRs (l++m)↔iRs l/\iRs m:=by
 induction l with
 | nil=>simp [iRs]
 | cons x xs ih=>simp only [List.cons_append,iRs,ih,and_assoc]
theorem Adf {n:Int} (h:I64 n):Lk n=some ⟨(Lib.itoa n).toArray⟩:=by unfold Lk; rw [if_pos (show _/\_ from h)]
theorem Att (n:Int):J8 ⟨(Lib.itoa n).toArray⟩=ti n:=by unfold J8 ti; simp
theorem Atu:∀(k:Nat) (i:Bo) (b:List Int),Dk i<=k->iR i->b.length+24*Dk i<=1099511627776->Oe k i b=some (b++wx i):=by
 intro k
 induction k with
 | zero=>intro i b h; have:=Gp i; omega
 | succ k ih=>
  intro i b h c hb
  have E:=Gp i
  have A:=Rq i.Kids
  have c:=(Atq i).1 c
  have D:=Kl c.1
  rw [Oe,Adc]
  simp only [Gl,Adf c.1,Ae,Fo,Re,Att]
  rw [Ds (by omega)]
  simp only [Ae]
  by_cases h0:i.Kids.length=0
  .rw [Av (by omega),if_pos h0]; simp
  .rw [Am (by omega),if_neg h0]
   simp only [cond_true,Qz,Re,Ae]
   rw [Ds (by simp; omega),Ae]
   have g:=Yx i.Kids c.2
   have l:∀j,(wxs (i.Kids.take j)).length<=24*Fj i.Kids:=fun j=>by
    have:=Ajl (i.Kids.take j) (i.Kids.drop j)
    rw [List.take_append_drop] at this
    rw [this,List.length_append] at g; omega
   refine Iv i.Kids (fun j=>((j:Int),b++ti i.Num++[40]++wxs (i.Kids.take j))) (by simp [wxs]) (by omega) ?_ ?_
   .intro j x hj hx h1 h2 h3
    have B:=Pa (Cv hx)
    have f:=Atr c.2 (Cv hx)
    have z:=Ade x f
    have q:=l (j+1)
    have e:wxs (i.Kids.take (j+1))=wxs (i.Kids.take j)++(wx x++[44]):=by rw [D4 hx,Ajl]; simp [wxs]
    rw [e] at q
    simp only [List.length_append,List.length_cons,List.length_nil] at q
    simp only [h1,h2,h3,cond_true,Ae]
    have y:Fj (i.Kids.take j)+Dk x<=Fj i.Kids:=by
     have s:=Ajq (i.Kids.take (j+1)) (i.Kids.drop (j+1))
     rw [List.take_append_drop,D4 hx,Ajq] at s
     simp only [Fj] at s; omega
    have u:(wxs (i.Kids.take j)).length<=24*Fj (i.Kids.take j):=Yx _ (by
     have:=(Ats (i.Kids.take j) (i.Kids.drop j)).1 (by rw [List.take_append_drop]; exact c.2)
     exact this.1)
    rw [ih x _ (by omega) f (by simp; omega)]
    simp only [Ae]
    rw [Ds (by simp; omega),e]
    simp
   .intro h1
    refine ⟨b++ti i.Num++[40]++wxs i.Kids,by simp,?_⟩
    rw [Ds (by simp; omega)]
    simp
def Hs (v:Int) (i:Bo):List Int:=118::(ti v++58::wx i)
def Lb (v:Int) (i:Bo):ByteArray:=⟨(Ev (Hs v i)).toArray⟩
mutual
theorem Ajr:∀i:Bo,∀c∈wx i,0<=c/\c<256
 | ⟨n,l⟩,c,h=>by
  simp only [wx,List.mem_append] at h
  rcases h with h | h
  .have:=Ge n c h
   simp only [L9,Bool.or_eq_true,bae,beq_iff_eq,decide_eq_true_eq] at this
   omega
  .by_cases hl:l.length=0
   .rw [if_pos hl] at h; cases h
   .rw [if_neg hl] at h
    simp only [List.mem_cons,List.mem_append,List.not_mem_nil,or_false] at h
    rcases h with h | h | h
    .omega
    .exact Ajs l c h
    .omega
theorem Ajs:∀l:List Bo,∀c∈wxs l,0<=c/\c<256
 | [],c,h=>by simp [wxs] at h
 | x::xs,c,h=>by
  simp only [wxs,List.mem_append,List.mem_cons] at h
  rcases h with h | h | h
  .exact Ajr x c h
  .omega
  .exact Ajs xs c h
end
theorem Yy (v:Int) (i:Bo):∀c∈Hs v i,0<=c/\c<256:=by
 intro c h
 simp only [Hs,List.mem_cons,List.mem_append] at h
 rcases h with h | h | h | h
 .omega
 .have:=Ge v c h
  simp only [L9,Bool.or_eq_true,bae,beq_iff_eq,decide_eq_true_eq] at this
  omega
 .omega
 .exact Ajr i c h
theorem Adg:∀l m:List Int,(∀c∈l,0<=c/\c<256)->(∀c∈m,0<=c/\c<256)->Ev l=Ev m->l=m
 | [],[],_,_,_=>rfl
 | [],_::_,_,_,h=>by simp [Ev] at h
 | _::_,[],_,_,h=>by simp [Ev] at h
 | x::xs,y::ys,h1,h2,h=>by
  simp only [Ev,List.map_cons,List.cons.injEq] at h
  have hx:=h1 x (by simp)
  have hy:=h2 y (by simp)
  have e:x.toNat=y.toNat:=by
   have:=congrArg UInt8.toNat h.1
   rw [UInt8.toNat_ofNat',UInt8.toNat_ofNat'] at this
   omega
  rw [Adg xs ys (fun c hc=>h1 c (by simp [hc])) (fun c hc=>h2 c (by simp [hc])) h.2,show x=y by omega]
theorem Atv {v w:Int} {i j:Bo} (h:Lb v i=Lb w j):v=w/\i=j:=by
 unfold Lb at h
 have h1:(Ev (Hs v i)).toArray=(Ev (Hs w j)).toArray:=by injection h
 have h2:Ev (Hs v i)=Ev (Hs w j):=by simpa using congrArg Array.toList h1
 have h3:=Adg _ _ (Yy v i) (Yy w j) h2
 simp only [Hs,List.cons.injEq,true_and] at h3
 have b:∀X:List Int,Jg (58::X):=fun X c m e=>by cases e; decide
 obtain ⟨k,g⟩:=Ma _ _ _ _ (Ge v) (Ge w) (b _) (b _) h3
 obtain ⟨f,_⟩:=Add i j [] [] Ajo Ajo (by simpa using (List.cons.inj g).2)
 exact ⟨Pb k,f⟩
theorem Atw (l:List UInt8):J8 ⟨l.toArray⟩=l.map fun b=>(b.toNat:Int):=by unfold J8; simp
theorem Ajt (v:Int) (i:Bo) (c:I64 v) (g:iR i) (q:Dk i<=1048576):Lz v i=some (Lb v i):=by
 have l:=Kl c
 have f:(Lib.itoa v).length=(ti v).length:=by unfold ti; simp
 unfold Lz
 have k:Eg (ByteArray.mk #[118]) ⟨(Lib.itoa v).toArray⟩=some ⟨(118::Lib.itoa v).toArray⟩:=by
  unfold Eg
  rw [if_pos]
  .congr 1
  .show 1+(Lib.itoa v).toArray.size<=9223372036854775807
   rw [List.size_toArray]; omega
 have j:Eg ⟨(118::Lib.itoa v).toArray⟩ (ByteArray.mk #[58])=some ⟨(118::(Lib.itoa v++[58])).toArray⟩:=by
  unfold Eg
  rw [if_pos]
  .congr 1
  .show (118::Lib.itoa v).toArray.size+1<=9223372036854775807
   rw [List.size_toArray,List.length_cons]; omega
 simp only [Gl,Adf c,Ae,k,j,H6,Ts,Atw]
 rw [Ds (by simp; omega)]
 simp only [Ae]
 rw [Atu 4000000 i _ (by omega) g (by simp; omega)]
 simp only [Ae,Jq]
 have h:([]++(118::(Lib.itoa v++[58])).map fun b=>(b.toNat:Int))++wx i=Hs v i:=by
  unfold Hs ti; simp
 rw [h]
 unfold Ss Lb
 rw [if_pos (Yy v i)]; rfl
end Go.Ab
