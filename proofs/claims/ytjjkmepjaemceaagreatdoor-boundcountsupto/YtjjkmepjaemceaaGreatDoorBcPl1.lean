/- Plain laws: what the plain functions answer. -/
import Derived.Test.YtjjkmepjaemceaaGreatDoorBcPl0
namespace Go.Ab
open Go Ieee
theorem Asp (n d:Nat):∃c,Toward.even.cut false n d=c/\(n / 2 ^ d<=c)/\c<=n / 2 ^ d+1/\(n % 2 ^ d=0->c=n / 2 ^ d):=by
 refine ⟨_,rfl,?_⟩
 unfold Toward.cut
 simp only [Nat.shiftLeft_eq,Nat.one_mul]
 by_cases hd:d<=n.log2+2
 .rw [Nat.min_eq_left hd]
  generalize h2:2 ^ d=g
  have h:0<g:=by rw [<-h2]; exact Nat.pow_pos (by decide)
  refine ⟨by omega,?_,fun i=>?_⟩
  .have:=Bool.toNat_le (decide (g<2*(n % g))||(g==2*(n % g)&&n / g % 2==1))
   omega
  .rw [i]
   have h1:decide (g<2*0)=false:=by simp
   have h3:(g==2*0)=false:=by simp; omega
   rw [h1,h3]; rfl
 .rw [Nat.min_eq_right (by omega)]
  have b:n<2 ^ (n.log2+1):=Nat.lt_log2_self
  have h:2 ^ (n.log2+2)=2*2 ^ (n.log2+1):=by rw [Nat.pow_succ]; omega
  have f:2 ^ (n.log2+2)<=2 ^ d:=Nat.pow_le_pow_right (by decide) (by omega)
  have q:n / 2 ^ (n.log2+2)=0:=Nat.div_eq_of_lt (by omega)
  have l:n % 2 ^ (n.log2+2)=n:=Nat.mod_eq_of_lt (by omega)
  have k:n / 2 ^ d=0:=Nat.div_eq_of_lt (by omega)
  have j:n % 2 ^ d=n:=Nat.mod_eq_of_lt (by omega)
  rw [q,l,k,j]
  have h1:decide (2 ^ (n.log2+2)<2*n)=false:=by simp; omega
  have h3:(2 ^ (n.log2+2)==2*n)=false:=by simp; omega
  rw [h1,h3]
  exact ⟨by simp,by simp,fun _=>rfl⟩
theorem Tl (f:Nat) (place e:Int) (s:f≠0) (E:place+f.log2=e) (h1 : -1000<=e) (h2:e<=900) :
  ∃(m:Nat) (p:Int),double.read (double.nearest false f place) = .number false m p/\4503599627370496<=m/\m<9007199254740992/\(p=e-52\/(p=e-51/\m=4503599627370496)):=by
 have g:max (place+f.log2-(double.fractionBits:Int)) double.leastPlace=e-52:=by
  have a:(double.fractionBits:Int)=52:=rfl
  have b:double.leastPlace = -1074:=by decide
  rw [a,b,E]; omega
 have j:double.nearest false f place=min ((e-52+1074).toNat*4503599627370496+Toward.even.cut false (f <<< (place-(e-52)).toNat) ((e-52)-place).toNat) (2047*4503599627370496):=by
  unfold Format.nearest
  rw [if_neg s]
  simp only [g]
  have b:double.leastPlace = -1074:=by decide
  have c:double.binade=4503599627370496:=by decide
  have d:double.infRung=2047*4503599627370496:=by decide
  rw [b,c,d]
  unfold Format.word
  simp only [Bool.false_eq_true,if_false]
  congr 3
 have hk:4503599627370496<=Toward.even.cut false (f <<< (place-(e-52)).toNat) ((e-52)-place).toNat/\Toward.even.cut false (f <<< (place-(e-52)).toNat) ((e-52)-place).toNat<=9007199254740992:=by
  obtain ⟨c,hc,q,l,i⟩:=Asp (f <<< (place-(e-52)).toNat) ((e-52)-place).toNat
  rw [hc]
  have B:2 ^ f.log2<=f:=Nat.log2_self_le s
  have A:f<2 ^ (f.log2+1):=Nat.lt_log2_self
  rw [Nat.shiftLeft_eq] at q l i
  rcases Int.le_total place (e-52) with h | h
  .have z:(place-(e-52)).toNat=0:=by omega
   rw [z,Nat.pow_zero,Nat.mul_one] at q l i
   have hd:f.log2=52+((e-52)-place).toNat:=by omega
   have hp:2 ^ f.log2=4503599627370496*2 ^ ((e-52)-place).toNat:=by rw [hd,Nat.pow_add]
   have k:2 ^ (f.log2+1)=9007199254740992*2 ^ ((e-52)-place).toNat:=by rw [Nat.pow_succ,hp]; omega
   have hpos:0<2 ^ ((e-52)-place).toNat:=Nat.pow_pos (by decide)
   have a1:4503599627370496<=f / 2 ^ ((e-52)-place).toNat:=(Nat.le_div_iff_mul_le hpos).2 (by omega)
   have a2:f / 2 ^ ((e-52)-place).toNat<9007199254740992:=(Nat.div_lt_iff_lt_mul hpos).2 (by omega)
   omega
  .have z:((e-52)-place).toNat=0:=by omega
   rw [z,Nat.pow_zero,Nat.div_one] at q l i
   have I:=i (Nat.mod_one _)
   have hd:52=f.log2+(place-(e-52)).toNat:=by omega
   have hp:2 ^ f.log2*2 ^ (place-(e-52)).toNat=4503599627370496:=by rw [<-Nat.pow_add,<-hd]
   have k:2 ^ (f.log2+1)*2 ^ (place-(e-52)).toNat=9007199254740992:=by rw [Nat.pow_succ,Nat.mul_right_comm,hp]
   have hpos:0<2 ^ (place-(e-52)).toNat:=Nat.pow_pos (by decide)
   have a1:=Nat.mul_le_mul_right (2 ^ (place-(e-52)).toNat) B
   have a2:=Nat.mul_lt_mul_of_pos_right A hpos
   omega
 generalize Toward.even.cut false (f <<< (place-(e-52)).toNat) ((e-52)-place).toNat=c at *
 obtain ⟨t,D⟩:∃t:Nat,(e-52+1074).toNat=t/\t<=1922/\(t:Int)=e+1022:=⟨_,rfl,by omega,by omega⟩
 rw [D.1] at j
 rw [Nat.min_eq_left (by omega)] at j
 rw [j]
 have b:double.leastPlace = -1074:=by decide
 have G:double.binade=4503599627370496:=by decide
 have d:double.infRung=2047*4503599627370496:=by decide
 have u:double.signWeight=9223372036854775808:=by decide
 unfold Format.read
 rw [b,G,d,u]
 have y:(t*4503599627370496+c) / 9223372036854775808=0:=Nat.div_eq_of_lt (by omega)
 have x:(t*4503599627370496+c) % 9223372036854775808=t*4503599627370496+c:=Nat.mod_eq_of_lt (by omega)
 simp only [y,x]
 rw [if_neg (by omega),if_pos (by omega)]
 by_cases hc:c<9007199254740992
 .refine ⟨c,e-52,?_,hk.1,hc,.inl rfl⟩
  have r1:(t*4503599627370496+c) % 4503599627370496=c-4503599627370496:=by omega
  have r2:(t*4503599627370496+c) / 4503599627370496=t+1:=by omega
  rw [r1,r2,show 4503599627370496+(c-4503599627370496)=c by omega,show (-1074:Int)+((t+1-1:Nat):Int)=e-52 by omega]; rfl
 .have hc:c=9007199254740992:=by omega
  subst hc
  refine ⟨4503599627370496,e-51,?_,by decide,by decide,.inr ⟨rfl,rfl⟩⟩
  have r1:(t*4503599627370496+9007199254740992) % 4503599627370496=0:=by omega
  have r2:(t*4503599627370496+9007199254740992) / 4503599627370496=t+2:=by omega
  rw [r1,r2,Nat.add_zero,show (-1074:Int)+((t+2-1:Nat):Int)=e-51 by omega]; rfl
theorem Ab3 (v:Int) (h:0<=v):floatOfInt .f64 v=double.nearest false v.natAbs 0:=by
 have e:decide (v<0)=false:=A8 (by omega)
 show double.nearest (decide (v<0)) v.natAbs 0=_
 rw [e]
theorem Asq:double.read 4876203697187506176 = .number false 7812500000000000 7:=by decide
theorem Yc {n k:Nat} (h1:2 ^ k<=n) (h2:n<2 ^ (k+1)):n.log2=k:=(Nat.log2_eq_iff (by have:=Nat.pow_pos (n:=k) (show 0<2 by decide); omega)).2 ⟨h1,h2⟩
theorem Vm {n k:Nat} (h:n<2 ^ (k+1)):n.log2<=k:=by
 by_cases b:n=0
 .subst b; simp
 .have:=(Nat.log2_lt b).2 h; omega
theorem Ab4 {n k:Nat} (h:2 ^ k<=n):k<=n.log2:=(Nat.le_log2 (by have:=Nat.pow_pos (n:=k) (show 0<2 by decide); omega)).2 h
theorem Asr (x:Int) (k:1<=x) (h1:x<1000000000):∃(w:Nat) (m:Nat) (p:Int),floatBits .mul .f64 (floatOfInt .f64 x) 4876203697187506176=some w/\double.read w = .number false m p/\4503599627370496<=m/\m<9007199254740992/\7<=p/\(p<=37\/(p=38/\m=4503599627370496)):=by
 have j:x.natAbs.log2<=29:=Vm (by simp; omega)
 obtain ⟨m1,b,r1,a1,a2,a3⟩:=Tl x.natAbs 0 (x.natAbs.log2) (by omega) (by omega) (by omega) (by omega)
 have c:(m1*7812500000000000).log2=104\/((m1*7812500000000000).log2=105/\m1≠4503599627370496):=by
  have b1:2 ^ 104<=m1*7812500000000000:=by omega
  have b2:m1*7812500000000000<2 ^ 106:=by omega
  rcases Nat.lt_or_ge (m1*7812500000000000) (2 ^ 105) with h | h
  .exact .inl (Yc b1 h)
  .exact .inr ⟨Yc h b2,by rintro rfl; omega⟩
 obtain ⟨m2,f,r2,i,g,l⟩:=Tl (m1*7812500000000000) (b+7) (b+7+(m1*7812500000000000).log2) (by omega) rfl (by omega) (by omega)
 refine ⟨double.nearest false (m1*7812500000000000) (b+7),m2,f,?_,r2,i,g,by omega,by omega⟩
 show ((double.read (floatOfInt .f64 x)).product (double.read 4876203697187506176)).map double.write=_
 rw [Ab3 x (by omega),r1,Asq]; rfl
theorem Ass (w:Nat) (m:Nat) (p:Int) (E:double.read w = .number false m p) (N:4503599627370496<=m) (M:m<9007199254740992) (J:7<=p) (j:p<=37\/(p=38/\m=4503599627370496)) (y:Int) (R:0<=y) (h1:y<1000000000000000000) :
  ∃(w':Nat) (g:Nat) (f:Int),floatBits .add .f64 w (floatOfInt .f64 y)=some w'/\double.read w' = .number false g f/\4503599627370496<=g/\g<9007199254740992/\7<=f/\f<=39:=by
 obtain ⟨c,b,x,Y,X⟩:∃(c:Nat) (b:Int),double.read (floatOfInt .f64 y) = .number false c b/\b<=8/\c<9007199254740992/\-1074<=b:=by
  rw [Ab3 y R]
  by_cases hy:y.natAbs=0
  .rw [hy]; exact ⟨0,-1074,by decide,by decide,by decide,by decide⟩
  .have hl:y.natAbs.log2<=59:=Vm (by simp; omega)
   obtain ⟨m1,B,r1,a1,a2,a3⟩:=Tl y.natAbs 0 (y.natAbs.log2) hy (by omega) (by omega) (by omega)
   exact ⟨m1,B,r1,by omega,a2,by omega⟩
 generalize hb:min p b=base
 have G:∃T:Nat,signed false m (p-base).toNat+signed false c (b-base).toNat=(T:Int)/\T=m*2 ^ (p-base).toNat+c*2 ^ (b-base).toNat:=by
  refine ⟨m <<< (p-base).toNat+c <<< (b-base).toNat,rfl,by rw [Nat.shiftLeft_eq,Nat.shiftLeft_eq]⟩
 obtain ⟨T,t1,t2⟩:=G
 have I:0<2 ^ (p-base).toNat:=Nat.pow_pos (by decide)
 have i:2 ^ (b-base).toNat<=2 ^ (8-base).toNat:=Nat.pow_le_pow_right (by decide) (by omega)
 have L:m*2 ^ (p-base).toNat<=2 ^ (90-base).toNat:=by
  rcases j with h | ⟨rfl,rfl⟩
  .have e:2 ^ (90-base).toNat=2 ^ (p-base).toNat*2 ^ (90-p).toNat:=by rw [<-Nat.pow_add]; congr 1; omega
   have e2:2 ^ 53<=2 ^ (90-p).toNat:=Nat.pow_le_pow_right (by decide) (by omega)
   rw [e,Nat.mul_comm]
   exact Nat.mul_le_mul_left _ (by omega)
  .have e:2 ^ (90-base).toNat=2 ^ (38-base).toNat*2 ^ 52:=by rw [<-Nat.pow_add]; congr 1; omega
   rw [e,Nat.mul_comm]; omega
 have D:c*2 ^ (b-base).toNat<2 ^ (90-base).toNat:=by
  have e:2 ^ (90-base).toNat=2 ^ (8-base).toNat*2 ^ 82:=by rw [<-Nat.pow_add]; congr 1; omega
  have e3:c*2 ^ (b-base).toNat<=c*2 ^ (8-base).toNat:=Nat.mul_le_mul_left _ i
  have S:0<2 ^ (8-base).toNat:=Nat.pow_pos (by decide)
  have e5:c*2 ^ (8-base).toNat<2 ^ 82*2 ^ (8-base).toNat:=Nat.mul_lt_mul_of_pos_right (by omega) S
  rw [e,Nat.mul_comm (2 ^ (8-base).toNat)]; omega
 have s:T<2 ^ ((90-base).toNat+1):=by rw [Nat.pow_succ]; omega
 have q:2 ^ (52+(p-base).toNat)<=T:=by
  have:2 ^ 52*2 ^ (p-base).toNat<=m*2 ^ (p-base).toNat:=Nat.mul_le_mul_right _ (by omega)
  rw [Nat.pow_add]; omega
 have l1:=Vm s
 have l2:=Ab4 q
 have u:T≠0:=by
  have:=Nat.pow_pos (n:=52+(p-base).toNat) (show 0<2 by decide); omega
 obtain ⟨m3,A,z,V,U,c3⟩:=Tl T base (base+T.log2) u rfl (by omega) (by omega)
 refine ⟨double.nearest false T base,m3,A,?_,z,V,U,by omega,by omega⟩
 show ((double.read w).sum (double.read (floatOfInt .f64 y))).map double.write=_
 rw [E,x]
 have l:¬((T:Int)=0):=by omega
 have k:decide ((T:Int)<0)=false:=A8 (by omega)
 simp only [Datum.sum,hb,t1,if_neg l,k,Option.map_some,Int.natAbs_natCast,Format.write]
theorem Ast {b m N:Nat} {p:Int} (g:double.read b = .number false m p) (i:(Datum.number false m p).toInt .zero=some (N:Int)) (h:N<=9223372036854775808):floatToIntVal .f64 b .u64=some (N:Int):=by
 have hd:FloatKind.f64.decode b = .number false m p:=g
 have f:IntKind.u64.min=0:=by decide
 have c:IntKind.u64.max=18446744073709551615:=by decide
 unfold floatToIntVal
 rw [hd,i]
 simp only [f,c]
 rw [if_pos ⟨by omega,by omega⟩]
theorem Asu (w:Nat) (m:Nat) (p:Int) (G:double.read w = .number false m p) (U:4503599627370496<=m) (S:m<9007199254740992) (R:7<=p) (M:p<=39) (z:Int) (h0:1000000000<=z) (h1:z<1000000000000000000) :
  ∃(w':Nat) (n:Int),floatBits .quo .f64 w (floatOfInt .f64 z)=some w'/\floatToIntVal .f64 w' .u64=some n/\0<=n/\n<=9223372036854775808:=by
 have X:z.natAbs.log2<=59:=Vm (by simp; omega)
 have V:29<=z.natAbs.log2:=Ab4 (by simp; omega)
 obtain ⟨f,c,x,a1,a2,a3⟩:=Tl z.natAbs 0 (z.natAbs.log2) (by omega) (by omega) (by omega) (by omega)
 have E:m.log2=52:=Yc (by omega) (by omega)
 have A:f.log2=52:=Yc (by omega) (by omega)
 generalize k:m*2 ^ 54 / f=q
 generalize u:((m*2 ^ 54 % f != 0).toNat)=s
 have I:s<=1:=by rw [<-u]; exact Bool.toNat_le _
 have L:q<2 ^ 55:=by rw [<-k]; exact (Nat.div_lt_iff_lt_mul (by omega)).2 (by omega)
 have J:2 ^ 53<=q:=by rw [<-k]; exact (Nat.le_div_iff_mul_le (by omega)).2 (by omega)
 have D:(2*q+s).log2<=55:=Vm (by omega)
 have B:54<=(2*q+s).log2:=Ab4 (by omega)
 obtain ⟨m4,b,y,c1,c2,c3⟩:=Tl (2*q+s) (p-c-(54:Nat)-1) (p-c-(54:Nat)-1+(2*q+s).log2) (by omega) rfl (by omega) (by omega)
 have j:(Datum.number false m p).quotient (double.fractionBits+2) (Datum.number false f c)=some (.number false (2*q+s) (p-c-(54:Nat)-1)):=by
  have i:¬f=0:=by omega
  have fb:double.fractionBits+2=54:=rfl
  simp only [Datum.quotient,if_neg i,fb,E,A,Nat.shiftLeft_eq,Nat.add_sub_cancel,k,u,Bool.xor_self]
 have hb:m4*2 ^ b.toNat<=9223372036854775808:=by
  have l:b<=10\/(b=11/\m4=4503599627370496):=by omega
  rcases l with h | ⟨rfl,rfl⟩
  .have:2 ^ b.toNat<=2 ^ 10:=Nat.pow_le_pow_right (by decide) (by omega)
   have:=Nat.mul_le_mul (Nat.le_of_lt c2) this
   omega
  .decide
 obtain ⟨N,Y,g⟩:∃N:Nat,(Datum.number false m4 b).toInt .zero=some (N:Int)/\N<=9223372036854775808:=by
  refine ⟨(m4 <<< b.toNat) / (1 <<< min (-b).toNat ((m4 <<< b.toNat).log2+2)),?_,?_⟩
  .simp only [Datum.toInt,Datum.integral,Toward.cut,signed,Bool.false_eq_true,if_false,Nat.shiftLeft_zero,Bool.toNat_false,Nat.add_zero]
  .rw [Nat.shiftLeft_eq m4]
   exact Nat.le_trans (Nat.div_le_self _ _) hb
 refine ⟨double.nearest false (2*q+s) (p-c-(54:Nat)-1),(N:Int),?_,?_,by omega,by omega⟩
 .have e:floatBits .quo .f64 w (floatOfInt .f64 z)=((double.read w).quotient (double.fractionBits+2) (double.read (floatOfInt .f64 z))).map double.write:=rfl
  rw [e,G,Ab3 z (by omega),x,j]
  simp only [Option.map_some,Format.write]
 .exact Ast y Y g
theorem Asv (r n:Nat) (h2:2<=B1 n) (E:B1 r<=B1 n+1) (G:B1 n<1099511627776):∃d:Nat,Sq (Ar r) (Ar n)=some (d:Int)/\d<1000000000:=by
 unfold Sq
 unfold B1 at h2 E G
 have c:n≠0:=by rintro rfl; rw [Fb] at h2; simp at h2
 by_cases S:(Ar r).length<(Ar n).length
 .exact ⟨0,by rw [A4 (by omega)]; rfl,by decide⟩
 .rw [A8 (by omega),cond_false]
  have y:Al (((Ar n).length:Int)-1)=(((Ar n).length-1:Nat):Int):=by rw [Al,Cl] <;> omega
  have u:Al (((Ar n).length:Int)-2)=(((Ar n).length-2:Nat):Int):=by rw [Al,Cl] <;> omega
  have i1:(Ar n).length-1<(Ar n).length:=by omega
  have i2:(Ar n).length-2<(Ar n).length:=by omega
  have h:(Ar n).length-1<(Ar r).length:=by omega
  have g:(Ar n).length-2<(Ar r).length:=by omega
  have t1:=(Eb n).get i1
  have t2:=(Eb n).get i2
  have s1:=(Eb r).get h
  have s2:=(Eb r).get g
  have i:(Ar n)[(Ar n).length-1]≠0:=by
   have:=(X1 n).2 (G6 c)
   rwa [List.getLast_eq_getElem] at this
  rw [y,u,Df rfl i1,Ap,Df rfl i2,Ap,Df rfl h,Ap,Df rfl g,Ap]
  generalize (Ar n)[(Ar n).length-1]=a1 at *
  generalize (Ar n)[(Ar n).length-2]=a2 at *
  generalize (Ar r)[(Ar n).length-1]=b1 at *
  generalize (Ar r)[(Ar n).length-2]=b2 at *
  have l:Bd (Bd (Bd b1*1000000000)+Bd b2)=b1*1000000000+b2:=by
   rw [show Bd b1=b1 from C6 (by omega) (by omega),show Bd b2=b2 from C6 (by omega) (by omega),show Bd (b1*1000000000)=b1*1000000000 from C6 (by omega) (by omega)]
   exact C6 (by omega) (by omega)
  have j:Bd (Bd (Bd a1*1000000000)+Bd a2)=a1*1000000000+a2:=by
   rw [show Bd a1=a1 from C6 (by omega) (by omega),show Bd a2=a2 from C6 (by omega) (by omega),show Bd (a1*1000000000)=a1*1000000000 from C6 (by omega) (by omega)]
   exact C6 (by omega) (by omega)
  rw [l,j]
  by_cases U:(Ar r).length=(Ar n).length
  .rw [Ct (by omega),cond_true,Je (by omega) (by omega) (by omega),Ap]
   have M:0<=(b1*1000000000+b2) / (a1*1000000000+a2):=Int.ediv_nonneg (by omega) (by omega)
   have L:(b1*1000000000+b2) / (a1*1000000000+a2)<1000000000:=Int.ediv_lt_of_lt_mul (by omega) (by omega)
   exact ⟨((b1*1000000000+b2) / (a1*1000000000+a2)).toNat,by congr 1; omega,by omega⟩
  .have hk:(Ar n).length<(Ar r).length:=by omega
   have b:r≠0:=by rintro rfl; rw [Fb] at hk; simp at hk
   have J:=(Eb r).get hk
   have f:(Ar r)[(Ar n).length]≠0:=by
    have:=(X1 r).2 (G6 b)
    rw [List.getLast_eq_getElem] at this
    have e:(Ar r).length-1=(Ar n).length:=by omega
    simpa [e] using this
   rw [Cg (by omega),cond_false,Df rfl hk,Ap]
   generalize (Ar r)[(Ar n).length]=x at *
   obtain ⟨s,m3,A,f1,f2,f3,f4,f5,f6⟩:=Asr x (by omega) (by omega)
   obtain ⟨q,m4,z,g1,g2,g3,g4,g5,g6⟩:=Ass s m3 A f2 f3 f4 f5 f6 (b1*1000000000+b2) (by omega) (by omega)
   obtain ⟨I,k,D,B,R,N⟩:=Asu q m4 z g2 g3 g4 g5 g6 (a1*1000000000+a2) (by omega) (by omega)
   rw [f1,Ap,g1,Ap,D,Ap,B,Ap,show Bd (k+2)=k+2 from C6 (by omega) (by omega)]
   by_cases hc:(999999999:Int)<k+2
   .exact ⟨999999999,by rw [if_pos hc]; rfl,by decide⟩
   .exact ⟨(k+2).toNat,by rw [if_neg hc]; congr 1; omega,by omega⟩
end Go.Ab
namespace Go.Ab
open Go
theorem Asw (x r:Nat):B1 (x % 1000000000+1000000000*r)<=B1 r+1:=by
 apply Kq
 have:=L5 r
 rw [Nat.pow_succ]
 omega
set_option maxHeartbeats 1000000 in
theorem Ab5 (m n:Nat) (hm:B1 m<137438953472) (hn:B1 n<137438953472) (A:n≠0):Nu (Ar m) (Ar n)=some (Ar (m / n),Ar (m % n)):=by
 unfold Nu
 rw [Ya,Th m n (by omega) (by omega),Ap]
 have ae:=hm
 have ad:=hn
 unfold B1 at hm hn
 by_cases f:m<n
 .rw [show Ev m n = -1 by rw [Ev,if_pos f],A4 (by decide:(-1:Int)<0),cond_true,Q5 _ (by omega),Ap,Ar3 (X1 m),Nat.div_eq_of_lt f,Nat.mod_eq_of_lt f,Fb]
 .rw [A8 (show ¬Ev m n<0 by rw [Ev,if_neg f]; split <;> decide),cond_false]
  have a7:(Ar n).length≠0:=fun e=>G6 A (List.length_eq_zero_iff.1 e)
  by_cases h1:(Ar n).length=1
  .rw [Ct (by omega:((Ar n).length:Int)=1),cond_true]
   have z:n<1000000000:=by
    have:=L5 n
    rw [show B1 n=1 from h1] at this
    simpa using this
   have V:Ar n = [(n:Int)]:=by
    rw [Kp A,Nat.div_eq_of_lt z,Fb,Nat.mod_eq_of_lt z]
   rw [V,show Au [(n:Int)] 0=some (n:Int) from rfl,Ap,show Bd (n:Int)=n from C6 (by omega) (by omega),Asm m n (by omega) (by omega) (by omega),Ap]
   have a6:m % n<n:=Nat.mod_lt _ (by omega)
   rw [X9,Ol (m % n) (by omega),Ap]
  .rw [Cg (by omega:((Ar n).length:Int)≠1),cond_false]
   have hw:Al (((Ar m).length:Int)-1)=((Ar m).length:Int)-1:=by rw [Al,Cl] <;> omega
   rw [Ko rfl rfl (Nat.le_refl _) (by omega) (by omega),hw]
   simp only [Ap]
   have ha:=Eb m
   refine Gm (fun (r,i,q)=>∃(k R:Nat),r=Ar R/\i=(k:Int)-1/\k<=(Ar m).length/\R<n/\q.length=(Ar m).length/\Cb q/\A0 (q.drop k)*n+R=A0 ((Ar m).drop k))
    (fun (_,i,_)=>(i+1).toNat) (fun (r,q)=>∃R:Nat,r=Ar R/\R<n/\q.length=(Ar m).length/\Cb q/\A0 q*n+R=m)
    ⟨(Ar m).length,0,by rw [Fb],rfl,Nat.le_refl _,by omega,by simp,Cb.replicate _,by simp [A0]⟩ ?_ ?_
   .rintro ⟨r,i,q⟩ ⟨k,R,rfl,rfl,hk,G,l,c,y⟩
    cases k with
    | zero=>exact .inr ⟨(Ar R,q),by simp,R,rfl,G,l,c,by simpa [En] using y⟩
    | succ j=>
     have hj:j<(Ar m).length:=by omega
     have B:j<q.length:=by omega
     have hx:=ha.get hj
     obtain ⟨x,s⟩:∃x:Nat,(Ar m)[j]=(x:Int):=⟨(Ar m)[j].toNat,by omega⟩
     have I:x<1000000000:=by omega
     have e0:((j+1:Nat):Int)-1=(j:Int):=by omega
     have e1:decide ((j:Int)>=0)=true:=A4 (by omega)
     have X:B1 R<=B1 n:=Hf (by omega)
     have ab:B1 (x+1000000000*R)<=B1 R+1:=by
      have:=Asw x R
      rwa [Nat.mod_eq_of_lt I] at this
     have ag:(Ar R).length<=(Ar n).length:=X
     have D:H8 ((x:Int)::Ar R)=some (Ar (x+1000000000*R)):=by
      rw [Q5 _ (by simp; omega)]
      congr 1
      refine Jf ?_ ?_
      .intro d hd
       rcases List.mem_cons.1 hd with rfl | hd
       .omega
       .exact Eb R d hd
      .simp only [A0,En]; omega
     obtain ⟨d0,N,af⟩:=Asv (x+1000000000*R) n (by unfold B1; omega) (by omega) (by omega)
     generalize a1:x+1000000000*R=R1 at *
     have aa:R1<1000000000*n:=by omega
     have g:∀d:Nat,d<18446744073709551616->Jn (d:Int)=some (Ar d)/\H6 (Ar n) (Ar d)=some (Ar (n*d)):=by
      intro d hd
      have:=Q3 hd
      exact ⟨by rw [X9,Ol d hd],On n d (by omega) (by omega)⟩
     have E:∀d:Nat,d<18446744073709551616->Mn (Ar (n*d)) (Ar R1)=some (Ev (n*d) R1):=by
      intro d hd
      have h3:=Q3 hd
      have h4:=Gt n d
      rw [Ya,Th _ _ (by omega) (by omega)]
     simp only [e0,e1,cond_true,Df rfl hj,s,Ap,Dw (show ([(x:Int)].length+(Ar R).length)*4<=_ by simp; omega),List.singleton_append,D,N]
     refine .inl (Xz (E3 (fun d=>∃e:Nat,d=e/\e<=d0) (fun d=>d.toNat) (fun d=>∃e:Nat,d=e/\e<=d0/\n*e<=R1) ⟨d0,rfl,Nat.le_refl _⟩ ?_ ?_))
     .rintro d ⟨e,rfl,he⟩
      by_cases U:e=0
      .subst U
       exact .inr ⟨0,rfl,0,rfl,by omega,by simp⟩
      .obtain ⟨m1,m2⟩:=g e (by omega)
       simp only [A4 (by omega:(e:Int)>0),cond_true,m1,m2,E e (by omega),Ap]
       by_cases hc:R1<n*e
       .refine .inl ⟨((e-1:Nat):Int),?_,⟨e-1,rfl,by omega⟩,by simp; omega⟩
        rw [show Ev (n*e) R1=1 by rw [Ev,if_neg (by omega),if_pos hc],show decide ((1:Int)>0)=true from rfl,cond_true,show Bd ((e:Int)-1)=((e-1:Nat):Int) by rw [Bd,C6] <;> omega]
       .refine .inr ⟨(e:Int),?_,e,rfl,he,by omega⟩
        rw [A8 (show ¬Ev (n*e) R1>0 by rw [Ev,if_neg hc]; split <;> decide),cond_false]
     .rintro d ⟨e,rfl,he,L⟩
      obtain ⟨m1,m2⟩:=g e (by omega)
      simp only [m1,m2,Ap,Yb R1 (n*e) (by omega) L]
      refine E3 (fun (r,d)=>∃(R2 b:Nat),r=Ar R2/\d=b/\n*b+R2=R1) (fun (r,_)=>(A0 r).toNat) (fun (r,d)=>∃(R2 b:Nat),r=Ar R2/\d=b/\n*b+R2=R1/\R2<n) ⟨R1-n*e,e,rfl,rfl,by omega⟩ ?_ ?_
      .rintro ⟨r,d⟩ ⟨R2,b,rfl,rfl,J⟩
       have a8:B1 R2<=B1 R1:=Hf (by omega)
       have S:b<1000000000:=by
        rcases Nat.lt_or_ge b 1000000000 with h | h
        .exact h
        .exfalso
         have:n*1000000000<=n*b:=Nat.mul_le_mul_left n h
         omega
       simp only [Ya,Th R2 n (by omega) (by omega),Ap]
       by_cases hc:R2<n
       .refine .inr ⟨(Ar R2,(b:Int)),?_,R2,b,rfl,rfl,J,hc⟩
        rw [A8 (show ¬Ev R2 n>=0 by rw [Ev,if_pos hc]; decide),cond_false]
       .refine .inl ⟨(Ar (R2-n),((b+1:Nat):Int)),?_,⟨R2-n,b+1,rfl,rfl,?_⟩,?_⟩
        .rw [A4 (show Ev R2 n>=0 by rw [Ev,if_neg hc]; split <;> decide),cond_true,Yb R2 n (by omega) (by omega),Ap,show Bd ((b:Int)+1)=((b+1:Nat):Int) by rw [Bd,C6] <;> omega]
        .rw [Nat.mul_add]; omega
        .simp only [En]; omega
      .rintro ⟨r,d⟩ ⟨R2,b,rfl,rfl,J,Y⟩
       have S:b<1000000000:=by
        rcases Nat.lt_or_ge b 1000000000 with h | h
        .exact h
        .exfalso
         have:n*1000000000<=n*b:=Nat.mul_le_mul_left n h
         omega
       have w1:Bt (b:Int)=b:=E4 (by omega) (by omega)
       have w8:Al ((j:Int)-1)=(j:Int)-1:=by rw [Al,Cl] <;> omega
       refine ⟨_,by simp only [Df rfl B,Ap,w1,w8,Hm rfl],(Ar R2,(j:Int)-1,q.set j (b:Int)),rfl,⟨j,R2,rfl,rfl,by omega,Y,by simpa using l,c.set _ (by omega) (by omega),?_⟩,by simp⟩
       have d1:(q.set j (b:Int)).drop j=(b:Int)::q.drop (j+1):=by
        rw [List.drop_eq_getElem_cons (by simpa using B),List.drop_set_of_lt (by omega)]; simp
       rw [d1,List.drop_eq_getElem_cons hj,s]
       simp only [A0]
       rw [<-y]
       have:((n*b+R2:Nat):Int)=((x+1000000000*R:Nat):Int):=by rw [J,a1]
       simp only [Int.natCast_add,Int.natCast_mul] at this
       grind
   .rintro ⟨r,q⟩ ⟨R,rfl,G,l,c,y⟩
    dsimp only
    have ac:=Fz c.u32
    obtain ⟨Q,hQ⟩:∃Q:Nat,A0 q=Q:=⟨(A0 q).toNat,by omega⟩
    rw [hQ] at y
    have u:Q*n+R=m:=by
     have:((Q*n+R:Nat):Int)=(m:Int):=by simp only [Int.natCast_add,Int.natCast_mul]; exact y
     omega
    have hd:m / n=Q:=by rw [<-u,Nat.mul_comm,Nat.mul_add_div (by omega),Nat.div_eq_of_lt G]; rfl
    have M:m % n=R:=by rw [<-u,Nat.mul_comm,Nat.mul_add_mod,Nat.mod_eq_of_lt G]
    rw [Q5 q (by omega),Ap,Jf c hQ,hd,M]
theorem Asx (m n:Nat) (h:B1 m<137438953472) (g:B1 n<137438953472):Sh (Ar m) (Ar n)=some (Ar (Nat.gcd m n)):=by
 unfold Sh
 refine Gm (fun (a,b)=>∃x y:Nat,a=Ar x/\b=Ar y/\B1 x<137438953472/\B1 y<137438953472/\Nat.gcd x y=Nat.gcd m n) (fun (_,b)=>(A0 b).toNat)
  (fun r=>r=Ar (Nat.gcd m n)) ⟨m,n,rfl,rfl,h,g,rfl⟩ ?_ (by rintro e rfl; rfl)
 rintro ⟨a,b⟩ ⟨x,y,rfl,rfl,hx,hy,f⟩
 by_cases c:y=0
 .subst c
  refine .inr ⟨Ar x,by rw [Fb]; rfl,?_⟩
  rw [<-f,Nat.gcd_zero_right]
 .have i:(Ar y).length≠0:=fun e=>G6 c (List.length_eq_zero_iff.1 e)
  have j:decide (((Ar y).length:Int)>0)=true:=A4 (by omega)
  refine .inl ⟨(Ar y,Ar (x % y)),?_,⟨y,x % y,rfl,rfl,hy,by have:=Hf (Nat.mod_le x y); omega,?_⟩,?_⟩
  .simp only [j,cond_true,Ab5 x y hx hy c,Ap]
  .rw [<-f,Nat.gcd_comm y,<-Nat.gcd_rec,Nat.gcd_comm]
  .simp only [En]
   have:=Nat.mod_lt x (by omega:y>0)
   omega
end Go.Ab
namespace Go.Ab
open Go
def M0 (b:Bool) (n d:Nat):A1:=if d=0 then ⟨false,[],[1]⟩ else Bp b n d
theorem Yd {n:Nat} (h:n≠0):(Ar n).length≠0:=fun e=>G6 h (List.length_eq_zero_iff.1 e)
theorem Ab6 (c:Bool) (a b:List Int) (ha:Ju a) (hb:Ju b) (q:a.length<137438953400) (l:b.length<137438953400):Hc c a b=some (M0 c (A0 a).toNat (A0 b).toNat):=by
 unfold Hc
 have h1:=X7 ha
 have h2:=X7 hb
 rw [Aic a ha (by omega),Ap,Aic b hb (by omega),Ap]
 generalize (A0 a).toNat=n at *
 generalize (A0 b).toNat=d at *
 by_cases g:n=0
 .subst g
  have:M0 c 0 d=⟨false,[],[1]⟩:=by unfold M0; split <;> simp [Bp]
  rw [this,Fb]; rfl
 .have j:=Yd g
  by_cases hd:d=0
  .subst hd
   simp only [Cg (by omega:((Ar n).length:Int)≠0),cond_false,Fb,Ap]
   rfl
  .have k:=Yd hd
   have f:Nat.gcd n d≠0:=by have:=Nat.gcd_pos_of_pos_left d (by omega:0<n); omega
   have u:B1 (Nat.gcd n d)<=B1 n:=Hf (Nat.gcd_le_left d (by omega:0<n))
   simp only [Cg (by omega:((Ar n).length:Int)≠0),cond_false,Cg (by omega:((Ar d).length:Int)≠0),Ap,Asx n d (by omega) (by omega)]
   rw [M0,if_neg hd,Bp,if_neg g]
   have key:(bif (((Ar (Nat.gcd n d)).length:Int) != (1:Int)) then some true else ((Au (Ar (Nat.gcd n d)) 0).bind fun i=>some (i != (1:Int))))=some (decide (Nat.gcd n d≠1)):=by
    have h3:=Ab0 (Nat.gcd n d)
    unfold N4 at h3
    by_cases s:(Ar (Nat.gcd n d)).length=1
    .rw [Ct (by omega:((Ar (Nat.gcd n d)).length:Int)=1),cond_true] at h3
     rw [C0 (by omega:((Ar (Nat.gcd n d)).length:Int)=1),cond_false]
     cases hi:Au (Ar (Nat.gcd n d)) 0 with
     | none=>rw [hi] at h3; cases h3
     | some v=>
      rw [hi] at h3
      simp only [Ap] at h3 ⊢
      have h3:=Option.some.inj h3
      congr 1
      rw [bne,h3]; simp
    .rw [Cg (by omega:((Ar (Nat.gcd n d)).length:Int)≠1),cond_false] at h3
     rw [C7 (by omega:((Ar (Nat.gcd n d)).length:Int)≠1),cond_true]
     have h3:=Option.some.inj h3
     have:Nat.gcd n d≠1:=by simpa using h3.symm
     rw [A4 this]
   rw [key,Ap]
   by_cases h:Nat.gcd n d=1
   .rw [A8 (by simpa using h),cond_false,h]; simp
   .rw [A4 h,cond_true,Ab5 n _ (by omega) (by omega) f,Ap,Ab5 d _ (by omega) (by omega) f,Ap]
theorem Asy (a:A1):M0 a.Neg (A0 a.Num).toNat (A0 a.Den).toNat=Bp (sv a) (nv a) (dv a):=by
 unfold M0 sv nv dv
 by_cases b:(A0 a.Num).toNat=0
 .simp [b,Bp]
 .by_cases hd:(A0 a.Den).toNat=0
  .simp [hd,Bp]
  .simp [b,hd]
theorem Oo (a:A1) (k:Nat) (h:RB k a) (hk:k<137438953400):I9 a=some (Bp (sv a) (nv a) (dv a)):=by
 unfold I9
 have:=h.nl
 have:=h.dl
 rw [Ab6 _ _ _ h.num h.den (by omega) (by omega),Ap,Asy]
theorem Q6 (s:Bool) (n d:Nat) (hd:d≠0):(Bp s n d).Num=Ar (nv (Bp s n d))/\(Bp s n d).Den=Ar (dv (Bp s n d))/\(Bp s n d).Neg=sv (Bp s n d):=by
 obtain ⟨h1,h2,h3,f⟩:=Tk s n d hd
 rw [h1,h2]
 by_cases c:n=0
 .subst c
  rw [f rfl,Vk]
  have b:d / Nat.gcd 0 d=1:=by rw [Nat.gcd_zero_left]; exact Nat.div_self (by omega)
  rw [b,Nat.zero_div,Fb,Ti]; exact ⟨rfl,rfl,rfl⟩
 .rw [h3 c]; simp [Bp,c]
theorem Oq (a:A1):∃g:Nat,g≠0/\nv a=g*nv (Bp (sv a) (nv a) (dv a))/\dv a=g*dv (Bp (sv a) (nv a) (dv a))/\sv (Bp (sv a) (nv a) (dv a))=sv a:=by
 obtain ⟨h1,h2,h3,c⟩:=Tk (sv a) (nv a) (dv a) (Hn a)
 have hd:=Hn a
 have f:0<Nat.gcd (nv a) (dv a):=Nat.gcd_pos_of_pos_right _ (by omega)
 refine ⟨Nat.gcd (nv a) (dv a),by omega,?_,?_,?_⟩
 .rw [h1]; exact (Nat.mul_div_cancel' (Nat.gcd_dvd_left _ _)).symm
 .rw [h2]; exact (Nat.mul_div_cancel' (Nat.gcd_dvd_right _ _)).symm
 .by_cases b:nv a=0
  .rw [c b]
   unfold nv at b
   unfold sv
   split at b
   .rename_i hc; rw [if_pos hc]
   .omega
  .exact h3 b
theorem Asz (s:Bool) (n d:Nat) (h:d≠0):M0 s n d=Bp s n d:=by rw [M0,if_neg h]
theorem Q7 (b:Bool) (n d:Nat) (f:B1 n<137438953400) (hd:B1 d<137438953400) (c:d≠0):Hc b (Ar n) (Ar d)=some (Bp b n d):=by
 unfold B1 at f hd
 rw [Ab6 b _ _ (Eb n).u32 (Eb d).u32 f hd,En,En,Int.toNat_natCast,Int.toNat_natCast,Asz _ _ _ c]
theorem Tm {k:Nat} {a:A1} (h:RB k a):B1 (nv (Bp (sv a) (nv a) (dv a)))<=k+1/\B1 (dv (Bp (sv a) (nv a) (dv a)))<=k+1:=by
 obtain ⟨g,b,h1,h2,_⟩:=Oq a
 have a1:=h.nv
 have a2:=h.dv
 refine ⟨Nat.le_trans (Hf ?_) a1,Nat.le_trans (Hf ?_) a2⟩
 .exact Nat.le_trans (Nat.le_mul_of_pos_left _ (by omega)) (Nat.le_of_eq h1.symm)
 .exact Nat.le_trans (Nat.le_mul_of_pos_left _ (by omega)) (Nat.le_of_eq h2.symm)
theorem Aid (a b:A1) (j k:Nat) (ha:RB j a) (hb:RB k b) (hj:j<34359738368) (hk:k<34359738368):I4 a b=some (Bp (sv a != sv b) (nv a*nv b) (dv a*dv b)):=by
 unfold I4
 rw [Oo a j ha (by omega),Ap,Oo b k hb (by omega),Ap]
 obtain ⟨g,i,a1,a2,a3⟩:=Oq a
 obtain ⟨h,f,b1,b2,b3⟩:=Oq b
 obtain ⟨f1,f2,f3⟩:=Q6 (sv a) (nv a) (dv a) (Hn a)
 obtain ⟨s,q,l⟩:=Q6 (sv b) (nv b) (dv b) (Hn b)
 obtain ⟨A,y⟩:=Tm ha
 obtain ⟨x,u⟩:=Tm hb
 rw [f1,f2,f3,s,q,l,a3,b3]
 generalize hc:Bp (sv a) (nv a) (dv a)=c at *
 generalize hd:Bp (sv b) (nv b) (dv b)=d at *
 have m1:=Gt (nv c) (nv d)
 have m2:=Gt (dv c) (dv d)
 have z:dv c*dv d≠0:=Nat.mul_ne_zero (Hn c) (Hn d)
 rw [On _ _ (by omega) (by omega),Ap,On _ _ (by omega) (by omega),Ap,Q7 _ _ _ (by omega) (by omega) z,Ap]
 rw [a1,a2,b1,b2,show g*nv c*(h*nv d)=g*h*(nv c*nv d) by grind,show g*dv c*(h*dv d)=g*h*(dv c*dv d) by grind,Vl _ _ _ _ (Nat.mul_ne_zero i f)]
theorem As0 (s1:Bool) (c j:Nat) (s2:Bool) (b i g h:Nat) (u:g≠0) (s:h≠0):Ho s1 (g*c) (g*j) s2 (h*b) (h*i)=g*h*Ho s1 c j s2 b i/\Ks s1 (g*c) (g*j) s2 (h*b) (h*i)=Ks s1 c j s2 b i:=by
 have q:g*c*(h*i)=g*h*(c*i):=by grind
 have l:h*b*(g*j)=g*h*(b*j):=by grind
 have hc:(g*h*(b*j)<=g*h*(c*i))↔(b*j<=c*i):=Nat.mul_le_mul_left_iff (Nat.mul_pos (by omega) (by omega))
 unfold Ho Ks
 rw [q,l]
 by_cases k:s1=s2
 .simp only [if_pos k]
  exact ⟨by rw [Nat.mul_add],trivial⟩
 .simp only [if_neg k]
  by_cases f:b*j<=c*i
  .simp only [if_pos f,if_pos (hc.2 f)]
   exact ⟨by rw [Nat.mul_sub],trivial⟩
  .simp only [if_neg f,if_neg (fun h=>f (hc.1 h))]
   exact ⟨by rw [Nat.mul_sub],trivial⟩
theorem Ab7 (a b:A1) (j k:Nat) (ha:RB j a) (hb:RB k b) (hj:j<34359738368) (hk:k<34359738368) :
  J9 a b=some (Bp (Ks (sv a) (nv a) (dv a) (sv b) (nv b) (dv b)) (Ho (sv a) (nv a) (dv a) (sv b) (nv b) (dv b)) (dv a*dv b)):=by
 unfold J9
 rw [Oo a j ha (by omega),Ap,Oo b k hb (by omega),Ap]
 obtain ⟨g,q,a1,a2,a3⟩:=Oq a
 obtain ⟨h,l,b1,b2,b3⟩:=Oq b
 obtain ⟨f1,f2,f3⟩:=Q6 (sv a) (nv a) (dv a) (Hn a)
 obtain ⟨x,u,s⟩:=Q6 (sv b) (nv b) (dv b) (Hn b)
 obtain ⟨D,B⟩:=Tm ha
 obtain ⟨A,y⟩:=Tm hb
 rw [f1,f2,f3,x,u,s,a3,b3]
 generalize hc:Bp (sv a) (nv a) (dv a)=c at *
 generalize hd:Bp (sv b) (nv b) (dv b)=d at *
 have m1:=Gt (nv c) (dv d)
 have m2:=Gt (nv d) (dv c)
 have m3:=Gt (dv c) (dv d)
 have m4:=Abt (nv c*dv d) (nv d*dv c)
 have m5:=Hf (Nat.sub_le (nv c*dv d) (nv d*dv c))
 have m6:=Hf (Nat.sub_le (nv d*dv c) (nv c*dv d))
 have z:dv c*dv d≠0:=Nat.mul_ne_zero (Hn c) (Hn d)
 obtain ⟨s1,s2⟩:=As0 (sv a) (nv c) (dv c) (sv b) (nv d) (dv d) g h q l
 rw [a1,a2,b1,b2,s1,s2,show g*dv c*(h*dv d)=g*h*(dv c*dv d) by grind,Vl _ _ _ _ (Nat.mul_ne_zero q l)]
 rw [On _ _ (by omega) (by omega),Ap,On _ _ (by omega) (by omega),Ap,On _ _ (by omega) (by omega),Ap]
 unfold Ks Ho
 by_cases i:sv a=sv b
 .have e:(sv a==sv b)=true:=by rw [i]; exact beq_self_eq_true _
  rw [e,cond_true,Aso _ _ (by omega) (by omega),Ap,Q7 _ _ _ (by omega) (by omega) z,Ap,if_pos i,if_pos i]
 .have e:(sv a==sv b)=false:=by simpa using i
  rw [e,cond_false,Ya,Th _ _ (by omega) (by omega),Ap,if_neg i,if_neg i]
  by_cases f:nv d*dv c<=nv c*dv d
  .rw [A4 (show Ev (nv c*dv d) (nv d*dv c)>=0 by rw [Ev,if_neg (by omega)]; split <;> decide),cond_true,Yb _ _ (by omega) f,Ap,Q7 _ _ _ (by omega) (by omega) z,Ap,if_pos f,if_pos f]
  .rw [A8 (show ¬Ev (nv c*dv d) (nv d*dv c)>=0 by rw [Ev,if_pos (by omega)]; decide),cond_false,Yb _ _ (by omega) (by omega),Ap,Q7 _ _ _ (by omega) (by omega) z,Ap,if_neg f,if_neg f]
theorem Ab8 (a:A1) (k:Nat) (h:RB k a) (hk:k<137438953400):Nn a=some (Mz (sv a) (nv a)):=by
 unfold Nn
 rw [Oo a k h hk,Ap]
 obtain ⟨g,c,a1,a2,a3⟩:=Oq a
 obtain ⟨f1,f2,f3⟩:=Q6 (sv a) (nv a) (dv a) (Hn a)
 rw [f1,f3,a3,Mz]
 by_cases b:nv a=0
 .have:nv (Bp (sv a) (nv a) (dv a))=0:=by
   rw [b] at a1
   rcases Nat.mul_eq_zero.1 a1.symm with h | h
   .exact (c h).elim
   .rw [b]; exact h
  rw [this,Fb,if_pos b]; rfl
 .have:nv (Bp (sv a) (nv a) (dv a))≠0:=by
   intro e; rw [e,Nat.mul_zero] at a1; exact b a1
  have:=Yd this
  rw [Cg (by omega),cond_false,if_neg b]
  cases sv a <;> rfl
theorem Aie (a:A1) (k:Nat) (h:RB k a) (hk:k<137438953400):Pv a=some (Bp (!sv a) (nv a) (dv a)):=by
 unfold Pv
 have:=h.nl
 have:=h.dl
 rw [Ab6 _ _ _ h.num h.den (by omega) (by omega),Ap]
 congr 1
 unfold M0 sv nv dv
 by_cases b:(A0 a.Num).toNat=0
 .simp [b,Bp]
 .by_cases hd:(A0 a.Den).toNat=0
  .simp [hd,Bp]
  .simp [b,hd]
theorem As1 (a:A1) (k:Nat) (h:RB k a) (hk:k<8589934592):Pl a a=some 0:=by
 unfold Pl No
 have h1:=h.nv
 have h2:=h.dv
 have s:=Aie a k h (by omega)
 have i:RB (k+1) (Bp (!sv a) (nv a) (dv a)):=Ib _ _ _ _ h1 h2 (by omega)
 obtain ⟨r1,r2,l,z⟩:=Tk (!sv a) (nv a) (dv a) (Hn a)
 rw [s,Ap,Ab7 a _ k (k+1) h i (by omega) (by omega),Ap,Ap]
 generalize hc:Bp (!sv a) (nv a) (dv a)=c at *
 have A:0<Nat.gcd (nv a) (dv a):=Nat.gcd_pos_of_pos_right _ (by have:=Hn a; omega)
 have u:nv a=Nat.gcd (nv a) (dv a)*nv c:=by rw [r1]; exact (Nat.mul_div_cancel' (Nat.gcd_dvd_left _ _)).symm
 have y:dv a=Nat.gcd (nv a) (dv a)*dv c:=by rw [r2]; exact (Nat.mul_div_cancel' (Nat.gcd_dvd_right _ _)).symm
 have b:Ho (sv a) (nv a) (dv a) (sv c) (nv c) (dv c)=0:=by
  by_cases j:nv a=0
  .have:nv c=0:=by rw [r1,j]; simp
   unfold Ho
   rw [j,this]
   split
   .simp
   .split <;> simp
  .have q:sv a≠sv c:=by rw [l j]; cases sv a <;> decide
   have:nv c*dv a=nv a*dv c:=by
    generalize Nat.gcd (nv a) (dv a)=g at *
    rw [u,y]; grind
   unfold Ho
   rw [if_neg q,this,if_pos (Nat.le_refl _),Nat.sub_self]
 rw [b,Vk]
 have f:RB 1 ⟨false,[],[1]⟩:=by
  refine ⟨(fun _ h=>by cases h),(fun x h=>?_),by simp,by simp⟩
  simp at h; subst h; decide
 rw [Ab8 _ 1 f (by decide)]
 rfl
theorem Vn (z:Int) (h1 : -9223372036854775808<=z) (h2:z<=9223372036854775807):Gs z=some (Bp (decide (z<0)) z.natAbs 1):=by
 unfold Gs
 have j:=Q3 (n:=z.natAbs) (by omega)
 have c:([1]:List Int)=Ar 1:=Ti.symm
 by_cases h:z<0
 .have i:Al (z+1)=z+1:=Cl (by omega) (by omega)
  have g:Al (0-(z+1))=0-(z+1):=Cl (by omega) (by omega)
  have f:Bd (0-(z+1))=0-(z+1):=C6 (by omega) (by omega)
  have b:Bd (0-(z+1)+1)=((z.natAbs:Nat):Int):=by rw [Bd,C6 (by omega) (by omega)]; omega
  rw [A4 h,cond_true,i,g,f,b,X9,Ol _ (by omega),Ap,c,Q7 _ _ _ (by omega) (by rw [Is]; decide) (by decide),Ap]
 .have b:Bd z=((z.natAbs:Nat):Int):=by rw [Bd,C6 (by omega) (by omega)]; omega
  rw [A8 h,cond_false,b,X9,Ol _ (by omega),Ap,c,Q7 _ _ _ (by omega) (by rw [Is]; decide) (by decide),Ap]
theorem As2 (a b:A1) (j k:Nat) (ha:RB j a) (hb:RB k b) (hj:j<34359738368) (hk:k<34359738368) (i:nv b≠0):Ss a b=some (Bp (sv a != sv b) (nv a*dv b) (dv a*nv b),true):=by
 unfold Ss
 rw [Oo a j ha (by omega),Ap,Oo b k hb (by omega),Ap]
 obtain ⟨g,q,a1,a2,a3⟩:=Oq a
 obtain ⟨h,l,b1,b2,b3⟩:=Oq b
 obtain ⟨f1,f2,f3⟩:=Q6 (sv a) (nv a) (dv a) (Hn a)
 obtain ⟨x,u,s⟩:=Q6 (sv b) (nv b) (dv b) (Hn b)
 obtain ⟨D,B⟩:=Tm ha
 obtain ⟨A,y⟩:=Tm hb
 rw [f1,f2,f3,x,u,s,a3,b3]
 generalize hc:Bp (sv a) (nv a) (dv a)=c at *
 generalize hd:Bp (sv b) (nv b) (dv b)=d at *
 have m1:=Gt (nv c) (dv d)
 have m2:=Gt (dv c) (nv d)
 have f:nv d≠0:=by intro e; rw [e,Nat.mul_zero] at b1; exact i b1
 have z:dv c*nv d≠0:=Nat.mul_ne_zero (Hn c) f
 have:=Yd f
 rw [Cg (by omega),cond_false,On _ _ (by omega) (by omega),Ap,On _ _ (by omega) (by omega),Ap,Q7 _ _ _ (by omega) (by omega) z,Ap]
 rw [a1,a2,b1,b2,show g*nv c*(h*dv d)=g*h*(nv c*dv d) by grind,show g*dv c*(h*nv d)=g*h*(dv c*nv d) by grind,Vl _ _ _ _ (Nat.mul_ne_zero q l)]
end Go.Ab
namespace Go.Ab
open Go
theorem Ye (s:Bool) (n d:Nat) (hd:d≠0):∃g:Nat,g≠0/\n=g*nv (Bp s n d)/\d=g*dv (Bp s n d)/\(n≠0->sv (Bp s n d)=s)/\(n=0->sv (Bp s n d)=false):=by
 obtain ⟨h1,h2,h3,b⟩:=Tk s n d hd
 have c:0<Nat.gcd n d:=Nat.gcd_pos_of_pos_right _ (by omega)
 exact ⟨Nat.gcd n d,by omega,by rw [h1]; exact (Nat.mul_div_cancel' (Nat.gcd_dvd_left _ _)).symm,by rw [h2]; exact (Nat.mul_div_cancel' (Nat.gcd_dvd_right _ _)).symm,h3,b⟩
theorem Aif (s t:Bool) (n d m e:Nat) (hd:d≠0) (q:e≠0):Bp (sv (Bp s n d) != sv (Bp t m e)) (nv (Bp s n d)*nv (Bp t m e)) (dv (Bp s n d)*dv (Bp t m e))=Bp (s != t) (n*m) (d*e):=by
 obtain ⟨g,l,a1,a2,a3,_⟩:=Ye s n d hd
 obtain ⟨h,k,b1,b2,b3,_⟩:=Ye t m e q
 have u:Bp (s != t) (n*m) (d*e)=Bp (sv (Bp s n d) != sv (Bp t m e)) (n*m) (d*e):=by
  apply Ab2
  intro b
  have i:n≠0:=fun e=>b (by rw [e]; simp)
  have j:m≠0:=fun e=>b (by rw [e]; simp)
  rw [a3 i,b3 j]
 rw [u]
 generalize Bp s n d=c at *
 generalize Bp t m e=f at *
 rw [a1,a2,b1,b2,show g*nv c*(h*nv f)=g*h*(nv c*nv f) by grind,show g*dv c*(h*dv f)=g*h*(dv c*dv f) by grind,Vl _ _ _ _ (Nat.mul_ne_zero l k)]
theorem As3 (s t:Bool) (n d m e:Nat) (hd:d≠0) (u:e≠0) (i:m≠0):Bp (sv (Bp s n d) != sv (Bp t m e)) (nv (Bp s n d)*dv (Bp t m e)) (dv (Bp s n d)*nv (Bp t m e))=Bp (s != t) (n*e) (d*m)/\nv (Bp t m e)≠0:=by
 obtain ⟨g,q,a1,a2,a3,_⟩:=Ye s n d hd
 obtain ⟨h,l,b1,b2,b3,_⟩:=Ye t m e u
 have j:nv (Bp t m e)≠0:=by intro z; rw [z,Nat.mul_zero] at b1; exact i b1
 refine ⟨?_,j⟩
 have x:Bp (s != t) (n*e) (d*m)=Bp (sv (Bp s n d) != sv (Bp t m e)) (n*e) (d*m):=by
  apply Ab2
  intro b
  have k:n≠0:=fun e=>b (by rw [e]; simp)
  rw [a3 k,b3 i]
 rw [x]
 generalize Bp s n d=c at *
 generalize Bp t m e=f at *
 rw [a1,a2,b1,b2,show g*nv c*(h*dv f)=g*h*(nv c*dv f) by grind,show g*dv c*(h*nv f)=g*h*(dv c*nv f) by grind,Vl _ _ _ _ (Nat.mul_ne_zero q l)]
def Ez (n:Nat):Nat->Nat
 | 0=>1
 | k+1=>Ez n k*(n-k)
def fct:Nat->Nat
 | 0=>1
 | k+1=>fct k*(k+1)
theorem Yf:∀k,fct k≠0
 | 0=>by decide
 | k+1=>Nat.mul_ne_zero (Yf k) (by omega)
theorem Ab9 {n k:Nat} (h:n<k):Ez n k=0:=by
 induction k with
 | zero=>omega
 | succ k ih=>
  simp only [Ez]
  rcases Nat.lt_or_ge n k with h' | h'
  .rw [ih h']; simp
  .have:n-k=0:=by omega
   rw [this]; simp
theorem Aig (n k:Nat) (b:n<1000000000):B1 (Ez n k)<=k+1:=by
 induction k with
 | zero=>simp [Ez,Is]
 | succ k ih=>
  have h1:=Gt (Ez n k) (n-k)
  have h2:B1 (n-k)<=1:=Kq (by simp; omega)
  simp only [Ez]; omega
theorem Aih (k:Nat) (hk:k<1000000000):B1 (fct k)<=k+1:=by
 induction k with
 | zero=>simp [fct,Is]
 | succ k ih=>
  have h1:=Gt (fct k) (k+1)
  have h2:B1 (k+1)<=1:=Kq (by simp; omega)
  simp only [fct]
  have:=ih (by omega)
  omega
theorem Ot {n:Nat} (h:n<1000000000):B1 n<=1:=Kq (by simpa using h)
theorem Aca (n k:Nat) (b:n<1000000000) (hk:k<=64):RB (k+1) (Bp false (Ez n k) (fct k)) :=
 Ib _ _ _ _ (Aig n k b) (Aih k (by omega)) (by omega)
theorem Yg (a:A1):A1.mk a.Neg a.Num a.Den=a:=by cases a; rfl
theorem As4 (n k:Nat) (A:n<1000000000) (hk:k<=64):Sb (n:Int) (k:Int)=some (Bp false (Ez n k) (fct k)):=by
 unfold Sb
 have B:G5 1=some (Bp false (Ez n 0) (fct 0)):=X8 1 (by decide) (by decide)
 rw [B,Ap]
 refine Gm (fun (i,s,b,c)=>∃q:Nat,i=q/\q<=k/\q<=n/\A1.mk s b c=Bp false (Ez n q) (fct q)) (fun (i,_,_,_)=>k-i.toNat)
  (fun e=>match e with | .inl r=>r=Bp false (Ez n k) (fct k) | .inr (s,b,c)=>A1.mk s b c=Bp false (Ez n k) (fct k)) ⟨0,rfl,by omega,by omega,Yg _⟩ ?_ ?_
 .rintro ⟨i,s,b,c⟩ ⟨q,rfl,D,z,ha⟩
  rcases Nat.lt_or_ge q k with h | h
  .simp only [A4 (by omega:(q:Int)<(k:Int)),cond_true]
   by_cases x:n=q
   .subst x
    refine .inr ⟨.inl (Bp false 0 1),?_,?_⟩
    .rw [Ct rfl,cond_true,X8 0 (by decide) (by decide)]; rfl
    .show Bp false 0 1=_
     rw [Ab9 h,Vk,Vk]
   .have u:Al ((n:Int)-(q:Int))=((n-q:Nat):Int):=by rw [Al,Cl] <;> omega
    have l:Al ((q:Int)+1)=((q+1:Nat):Int):=Ir h (by omega)
    have y:Pw ((n-q:Nat):Int) ((q+1:Nat):Int)=some (Bp false (n-q) (q+1)):=by
     rw [Asj _ _ (by omega) (by omega) (by omega) (by omega) (by omega),A8 (by omega:¬((n-q:Nat):Int)<0),A8 (by omega:¬((q+1:Nat):Int)<0)]; rfl
    have g:RB 1 (Bp false (n-q) (q+1)):=Ib _ _ _ _ (Ot (by omega)) (Ot (by omega)) (by omega)
    have j:=Aia _ _ _ _ (Aca n q A (by omega)) g (by omega) (by omega)
    rw [Aif false false (Ez n q) (fct q) (n-q) (q+1) (Yf q) (by omega)] at j
    refine .inl ⟨(((q+1:Nat):Int),(Bp false (Ez n (q+1)) (fct (q+1))).Neg,(Bp false (Ez n (q+1)) (fct (q+1))).Num,(Bp false (Ez n (q+1)) (fct (q+1))).Den),?_,⟨q+1,rfl,by omega,by omega,Yg _⟩,by simp; omega⟩
    rw [Cg (by omega),cond_false,u,l,y,Ap,ha,j,Ap]; rfl
  .have:q=k:=by omega
   subst this
   refine .inr ⟨.inr (s,b,c),by simp,ha⟩
 .rintro (e | ⟨s,b,c⟩) f
  .simp only at f ⊢; rw [f]
  .simp only at f ⊢; rw [f]
theorem As5 (n q:Nat) (y:n<1000000000) (x:q<1000000000):∃s:Bool,No (Bp false n 1) (Bp false q 1)=some (Bp s (if q<=n then n-q else q-n) 1)/\(q<=n->n-q≠0->s=false):=by
 have hc:∀(s:Bool) (m:Nat),nv (Bp s m 1)=m/\dv (Bp s m 1)=1/\(m≠0->sv (Bp s m 1)=s)/\(m=0->sv (Bp s m 1)=false):=by
  intro s m
  obtain ⟨h1,h2,h3,z⟩:=Tk s m 1 (by decide)
  refine ⟨by rw [h1]; simp,by rw [h2]; simp,h3,z⟩
 have k:RB 1 (Bp false n 1):=Ib _ _ _ _ (Ot y) (by rw [Is]; decide) (by omega)
 have j:RB 1 (Bp false q 1):=Ib _ _ _ _ (Ot x) (by rw [Is]; decide) (by omega)
 obtain ⟨a1,a2,a3,a4⟩:=hc false n
 obtain ⟨b1,b2,b3,b4⟩:=hc false q
 have u:sv (Bp false n 1)=false:=by
  by_cases h:n=0
  .exact a4 h
  .exact a3 h
 have l:sv (Bp false q 1)=false:=by
  by_cases h:q=0
  .exact b4 h
  .exact b3 h
 have f:Pv (Bp false q 1)=some (Bp true q 1):=by rw [Aie _ 1 j (by decide),l,b1,b2]; rfl
 obtain ⟨E,D,B,A⟩:=hc true q
 have i:RB 1 (Bp true q 1):=Ib _ _ _ _ (Ot x) (by rw [Is]; decide) (by omega)
 have g:=Ab7 _ _ 1 1 k i (by decide) (by decide)
 unfold No
 rw [f,Ap,g,Ap,a1,a2,E,D,u]
 by_cases c:q=0
 .subst c
  refine ⟨false,?_,fun _ _=>rfl⟩
  rw [A rfl]
  simp [Ks,Ho]
 .rw [B c]
  by_cases b:q<=n
  .refine ⟨false,?_,fun _ _=>rfl⟩
   simp [Ks,Ho,b]
  .refine ⟨true,?_,fun h=>(b h).elim⟩
   simp [Ks,Ho,b]
theorem As6 (n k:Nat) (B:n<1000000000) (hk:k<=64):P4 (Bp false n 1) (k:Int)=some (Bp false (Ez n k) (fct k)):=by
 unfold P4
 have M:Gs 1=some (Bp false (Ez n 0) (fct 0)):=Vn 1 (by decide) (by decide)
 rw [M,Ap]
 refine Gm (fun (i,s,g,j)=>∃q:Nat,i=q/\q<=k/\A1.mk s g j=Bp false (Ez n q) (fct q)) (fun (i,_,_,_)=>k-i.toNat)
  (fun (s,g,j)=>A1.mk s g j=Bp false (Ez n k) (fct k)) ⟨0,rfl,by omega,Yg _⟩ ?_ ?_
 .rintro ⟨i,s,g,j⟩ ⟨q,rfl,R,ha⟩
  rcases Nat.lt_or_ge q k with h | h
  .have J:Al ((q:Int)+1)=((q+1:Nat):Int):=Ir h (by omega)
   have G:∀z:Nat,z<1000000000->Vb (z:Int)=some (Bp false z 1):=by
    intro z N
    have:=Vn (z:Int) (by omega) (by omega)
    rw [A8 (by omega:¬(z:Int)<0)] at this
    exact this
   obtain ⟨t,l,L⟩:=As5 n q B (by omega)
   have u:RB 1 (Bp t (if q<=n then n-q else q-n) 1):=Ib _ _ _ _ (Ot (by split <;> omega)) (by rw [Is]; decide) (by omega)
   have E:=Aid _ _ _ _ (Aca n q B (by omega)) u (by omega) (by omega)
   rw [Aif _ _ _ _ _ _ (Yf q) (by decide),Nat.mul_one] at E
   have c:Ez n q*(if q<=n then n-q else q-n)=Ez n (q+1):=by
    simp only [Ez]
    by_cases f:q<=n
    .rw [if_pos f]
    .rw [Ab9 (by omega)]; simp
   have D:Bp (false != t) (Ez n q*(if q<=n then n-q else q-n)) (fct q)=Bp false (Ez n (q+1)) (fct q):=by
    rw [c]
    apply Ab2
    intro b
    have f:q<=n:=by
     rcases Nat.lt_or_ge n q with h' | h'
     .rw [Ab9 (by omega)] at b; exact (b rfl).elim
     .exact h'
    have A:n-q≠0:=by
     intro e; simp only [Ez,e,Nat.mul_zero] at b; exact b rfl
    rw [L f A]; rfl
   rw [D] at E
   have y:RB (q+2) (Bp false (Ez n (q+1)) (fct q)):=Ib _ _ _ _ (Aig n (q+1) B) (by have:=Aih q (by omega); omega) (by omega)
   have x:RB 1 (Bp false (q+1) 1):=Ib _ _ _ _ (Ot (by omega)) (by rw [Is]; decide) (by omega)
   obtain ⟨d1,d2⟩:=As3 false false (Ez n (q+1)) (fct q) (q+1) 1 (Yf q) (by decide) (by omega)
   have hd:=As2 _ _ _ _ y x (by omega) (by omega) d2
   rw [d1,Nat.mul_one] at hd
   refine .inl ⟨(((q+1:Nat):Int),(Bp false (Ez n (q+1)) (fct (q+1))).Neg,(Bp false (Ez n (q+1)) (fct (q+1))).Num,(Bp false (Ez n (q+1)) (fct (q+1))).Den),?_,⟨q+1,rfl,by omega,Yg _⟩,by simp; omega⟩
   simp only [A4 (by omega:(q:Int)<(k:Int)),cond_true,G q (by omega),Ap,l,ha,E,J,G (q+1) (by omega),hd]
   rfl
  .have:q=k:=by omega
   subst this
   exact .inr ⟨(s,g,j),by simp,ha⟩
 .rintro ⟨s,g,j⟩ I
  simp only at I ⊢; rw [I]
theorem As7 (n:Nat) (k:Int) (g:n<1000000000):∃(c:A1) (b:Bool),Nm (n:Int) k=some (c,b)/\J8 (n:Int) k=some (c,b)/\RB 65 c:=by
 have l:G5 0=some (Bp false 0 1):=X8 0 (by decide) (by decide)
 have z2:Gs 0=some (Bp false 0 1):=Vn 0 (by decide) (by decide)
 have z3:RB 65 (Bp false 0 1):=Ib _ _ _ _ (by simp [Vg]) (by rw [Is]; decide) (by decide)
 unfold Nm J8
 by_cases h1:k<0
 .refine ⟨Bp false 0 1,false,?_,?_,z3⟩
  .simp only [A4 h1,cond_true,Ap,l]
  .simp only [A4 h1,cond_true,Ap,z2]
 .by_cases h2:k>64
  .refine ⟨Bp false 0 1,false,?_,?_,z3⟩
   .simp only [A8 h1,cond_false,A4 h2,cond_true,Ap,l]
   .simp only [A8 h1,cond_false,A4 h2,cond_true,Ap,z2]
  .obtain ⟨m,rfl⟩:∃m:Nat,k=m:=⟨k.toNat,by omega⟩
   refine ⟨Bp false (Ez n m) (fct m),true,?_,?_,(Aca n m g (by omega)).mono (by omega)⟩
   .have e:(if (n:Int)>0 then (n:Int) else 0)=(n:Int):=by split <;> omega
    simp only [A8 h1,cond_false,A8 h2,Ap,e,As4 n m g (by omega)]
   .have q:=Vn (n:Int) (by omega) (by omega)
    rw [A8 (by omega:¬(n:Int)<0)] at q
    have j:RB 1 (Bp false n 1):=Ib _ _ _ _ (Ot g) (by rw [Is]; decide) (by omega)
    have f:=Ab8 _ 1 j (by decide)
    obtain ⟨r1,r2,u,s⟩:=Tk false n 1 (by decide)
    have x:sv (Bp false n 1)=false:=by
     by_cases h:n=0
     .exact s h
     .exact u h
    have i:¬Mz false (nv (Bp false n 1))<0:=by unfold Mz; split <;> decide
    rw [x] at f
    simp only [A8 h1,cond_false,A8 h2,Ap,q,Ut,Int.natAbs_natCast,f,A8 i,As6 n m g (by omega)]
end Go.Ab
namespace Go.Ab
open Go
mutual
def Br:Ao->Nat
 | ⟨_,_,l⟩=>1+Cw l
def Cw:List Ao->Nat
 | []=>0
 | x::xs=>Br x+Cw xs
end
theorem Gd (t:Ao):Br t=1+Cw t.Args:=by cases t; simp only [Br]
theorem Kt (t:Ao):1<=Br t:=by rw [Gd]; omega
theorem Gg {l:List Ao} {a:Ao} (h:a∈l):Br a<=Cw l:=by
 induction l with
 | nil=>cases h
 | cons x xs ih=>
  simp only [Cw]
  rcases List.mem_cons.1 h with rfl | h
  .omega
  .have:=ih h; omega
theorem Hq (l:List Ao):l.length<=Cw l:=by
 induction l with
 | nil=>simp
 | cons x xs ih=>simp only [Cw,List.length_cons]; have:=Kt x; omega
theorem Yh (l m:List Ao):Cw (l++m)=Cw l+Cw m:=by
 induction l with
 | nil=>simp [Cw]
 | cons x xs ih=>simp only [List.cons_append,Cw,ih]; omega
def Hr (data:List A5) (vars k n:Int) (len:Nat):Bool :=
 if k=1\/k=2\/k=3 then n==0&&len==0
 else if k=4 then decide (0<=n)&&decide (n<vars)&&len==0
 else if k=5 then decide (0<=n)&&(match data[n.toNat]? with | some d=>(len:Int)==d.Vars | none=>false)
 else if k=6 then n==0&&decide (2<=len)&&decide (len<=6)
 else if k=7\/k=8 then n==0&&len==1
 else if k=9 then n==0&&decide (1<=len)&&decide (len<=7)
 else false
mutual
def Di (data:List A5) (vars:Int):Ao->Bool
 | ⟨k,n,l⟩=>Hr data vars k n l.length&&Dz data vars l
def Dz (data:List A5) (vars:Int):List Ao->Bool
 | []=>true
 | x::xs=>Di data vars x&&Dz data vars xs
end
theorem Tn (data:List A5) (vars:Int) (t:Ao):Di data vars t=(Hr data vars t.Kind t.Num t.Args.length&&Dz data vars t.Args):=by cases t; simp only [Di]
theorem Acb {α:Type} (l:List α) (n:Nat):((l.length:Int)==(n:Int))=(l.length==n):=by
 by_cases h:l.length=n
 .subst h; simp
 .rw [Cg (by omega)]; simp [h]
theorem As8 (k:Nat) (t:Ao) (data:List A5) (vars left:Int) (h1:1<=left) (h2:left<=1000) :
  Ik (k+1) t ⟨data,vars,left⟩=bif Hr data vars t.Kind t.Num t.Args.length then ((Ob k t.Args ⟨data,vars,left-1⟩).bind fun v12=>some ((!v12.1),v12.2)) else some (false,⟨data,vars,left-1⟩):=by
 have c:Al (left-1)=left-1:=Cl (by omega) (by omega)
 have b:¬left-1<0:=by omega
 rw [Ik]
 simp only [c,A8 b,cond_false]
 generalize h:(Ob k t.Args ⟨data,vars,left-1⟩).bind (fun v12=>some ((!v12.1),v12.2))=X
 generalize g:(some (false,⟨data,vars,left-1⟩):Option (Bool×D2))=Y
 unfold Hr Au
 generalize t.Args.length=len
 generalize t.Kind=f
 generalize t.Num=n
 cases hd:data[n.toNat]? <;> simp only [Bool.cond_eq_ite,Abp,Ap,Option.bind_none,hd] <;> grind
theorem Vo {l:List Ao} {j:Nat} (h:j<l.length):Cw (l.take (j+1))=Cw (l.take j)+Br l[j]:=by
 rw [List.take_succ_eq_append_getElem h,Yh]; simp [Cw]
theorem Aii (data:List A5) (vars:Int) (l m:List Ao):Dz data vars (l++m)=(Dz data vars l&&Dz data vars m):=by
 induction l with
 | nil=>simp [Dz]
 | cons x xs ih=>simp only [List.cons_append,Dz,ih,Bool.and_assoc]
theorem Yi (data:List A5) (vars:Int) {l:List Ao} {j:Nat} (h:j<l.length):Dz data vars (l.take (j+1))=(Dz data vars (l.take j)&&Di data vars l[j]):=by
 rw [List.take_succ_eq_append_getElem h,Aii]; simp [Dz]
theorem Vp (l:List Ao) (j:Nat):Cw (l.take j)<=Cw l:=by
 have:=Yh (l.take j) (l.drop j)
 rw [List.take_append_drop] at this; omega
theorem Aij (data:List A5) (vars:Int) (l:List Ao) (j:Nat) (h:Dz data vars l=true):Dz data vars (l.take j)=true:=by
 have:=Aii data vars (l.take j) (l.drop j)
 rw [List.take_append_drop,h] at this
 have:=this.symm
 simp only [Dl] at this
 exact this.1
theorem As9 (data:List A5) (vars:Int) (k:Nat) (l:List Ao) (c:Nat) (G:l.length<1099511627776)
  (ih:∀(a:Ao),a∈l->∀f:Nat,f<=c->∃g:Int,Ik k a ⟨data,vars,f⟩=some (Di data vars a&&decide (Br a<=f),⟨data,vars,g⟩)/\((Di data vars a&&decide (Br a<=f))=true->g=(f:Int)-Br a)) :
  ∃p:Int×Int,Qv (k+2) l ⟨data,vars,c⟩=some (p.1,⟨data,vars,p.2⟩)/\((Dz data vars l&&decide (Cw l<=c))=true->p.1 = -1/\p.2=(c:Int)-Cw l)/\((Dz data vars l&&decide (Cw l<=c))=false->0<=p.1):=by
 rw [Qv]
 refine Abo (fun p:Int×Int=>(p.1,D2.mk data vars p.2)) (E3
  (fun (v3,v4,v5,s)=>∃j:Nat,v3=j/\j<=l.length/\v4=data/\v5=vars/\Dz data vars (l.take j)=true/\Cw (l.take j)<=c/\s=(c:Int)-Cw (l.take j))
  (fun (v3,_,_,_)=>l.length-v3.toNat)
  (fun z=>match z with | .inl (i,b)=>0<=i/\(∃g,b=⟨data,vars,g⟩)/\(Dz data vars l&&decide (Cw l<=c))=false | .inr (v4,v5,s)=>v4=data/\v5=vars/\(Dz data vars l&&decide (Cw l<=c))=true/\s=(c:Int)-Cw l)
  ⟨0,rfl,by omega,rfl,rfl,rfl,by simp [Cw],by simp [Cw]⟩ ?_ ?_)
 .rintro ⟨v3,v4,v5,s⟩ ⟨j,rfl,hj,rfl,rfl,x,A,rfl⟩
  rcases Nat.lt_or_ge j l.length with h | h
  .obtain ⟨u,y⟩:∃u:Nat,(c:Int)-Cw (l.take j)=u/\u<=c:=⟨c-Cw (l.take j),by omega,by omega⟩
   obtain ⟨g,E,D⟩:=ih l[j] (List.getElem_mem h) u y.2
   simp only [A4 (by omega:(j:Int)<(l.length:Int)),cond_true,Df rfl h,Ap,Qf,y.1,E]
   cases hb:(Di v4 v5 l[j]&&decide (Br l[j]<=u)) with
   | true=>
    have I:=D hb
    simp only [Dl,decide_eq_true_eq] at hb
    refine .inl ⟨(((j+1:Nat):Int),v4,v5,g),?_,⟨j+1,rfl,by omega,rfl,rfl,?_,?_,?_⟩,by simp; omega⟩
    .simp only [Dr,cond_false]
     rw [show Al ((j:Int)+1)=((j+1:Nat):Int) by rw [Al,Cl] <;> omega]
    .rw [Yi _ _ h,x,hb.1]; rfl
    .rw [Vo h]; omega
    .show g=_
     rw [Vo h]; omega
   | false=>
    refine .inr ⟨.inl ((j:Int),⟨v4,v5,g⟩),by simp,by omega,⟨g,rfl⟩,?_⟩
    cases q:(Dz v4 v5 l&&decide (Cw l<=c)) with
    | false=>rfl
    | true=>
     exfalso
     simp only [Dl,decide_eq_true_eq] at q
     have a1:=Aij v4 v5 l (j+1) q.1
     rw [Yi _ _ h] at a1
     simp only [Dl] at a1
     have a2:=Vp l (j+1)
     rw [Vo h] at a2
     rw [a1.2,Bool.true_and,decide_eq_false_iff_not] at hb
     omega
  .have:j=l.length:=by omega
   subst this
   rw [List.take_length] at *
   refine .inr ⟨.inr (v4,v5,(c:Int)-Cw l),by simp,rfl,rfl,by simp [x,A],rfl⟩
 .rintro (⟨i,b⟩ | ⟨v4,v5,s⟩) B
  .obtain ⟨a1,⟨g,rfl⟩,a3⟩:=B
   exact ⟨_,rfl,(i,g),rfl,(fun h=>by rw [a3] at h; cases h),fun _=>a1⟩
  .obtain ⟨rfl,rfl,a3,rfl⟩:=B
   exact ⟨_,rfl,(-1,_),rfl,fun _=>⟨rfl,rfl⟩,fun h=>by rw [a3] at h; cases h⟩
theorem Ata (data:List A5) (vars:Int):∀(left:Nat) (t:Ao) (k:Nat),left<=200->4*left+4<=k->Br t<1099511627776 ->
  ∃f:Int,Ik k t ⟨data,vars,left⟩=some (Di data vars t&&decide (Br t<=left),⟨data,vars,f⟩)/\((Di data vars t&&decide (Br t<=left))=true->f=(left:Int)-Br t):=by
 intro left
 induction left using Nat.strongRecOn with
 | _ left s=>
  intro t k D hk A
  have hp:=Kt t
  obtain ⟨g,rfl⟩:∃g,k=g+1:=⟨k-1,by omega⟩
  cases left with
  | zero=>
   refine ⟨-1,?_,fun h=>by simp at h; omega⟩
   rw [Ik]
   have hd:decide (Br t<=0)=false:=A8 (by omega)
   rw [hd,Bool.and_false]
   rfl
  | succ b=>
   rw [As8 g t data vars ((b+1:Nat):Int) (by omega) (by omega)]
   have z:((b+1:Nat):Int)-1=(b:Int):=by omega
   rw [z,Tn]
   cases B:Hr data vars t.Kind t.Num t.Args.length with
   | false=>exact ⟨b,by simp,fun h=>by simp at h⟩
   | true=>
    obtain ⟨q,rfl⟩:∃q,g=q+3:=⟨g-3,by omega⟩
    have j:=Gd t
    have x:=Hq t.Args
    obtain ⟨⟨i,f⟩,h1,h2,h3⟩:=As9 data vars q t.Args b (by omega) (fun a ha c y=>by
     have:=Gg ha
     exact s c (by omega) a q (by omega) (by omega) (by omega))
    have l:decide (Br t<=b+1)=decide (Cw t.Args<=b):=by
     rw [j]; congr 1; simp only [eq_iff_iff]; omega
    simp only [cond_true,Ob,h1,Ap,Bool.true_and,l]
    refine ⟨f,?_,fun h=>?_⟩
    .cases hb:(Dz data vars t.Args&&decide (Cw t.Args<=b)) with
     | true=>
      have u:i = -1:=(h2 hb).1
      rw [A8 (by omega:¬i>=0)]; rfl
     | false=>
      have u:0<=i:=h3 hb
      rw [A4 (by omega:i>=0)]; rfl
    .have u:f=(b:Int)-Cw t.Args:=(h2 h).2
     rw [u,j]; omega
theorem To (data:List A5) (t:Ao) (vars:Int) (b:Br t<1099511627776):Kb data t vars=some (Di data vars t&&decide (Br t<=200)):=by
 unfold Kb
 obtain ⟨c,h1,_⟩:=Ata data vars 200 t 4000000 (by decide) (by decide) b
 have h1:Ik 4000000 t ⟨data,vars,200⟩=_:=h1
 rw [h1]; rfl
theorem Aik:∀(k:Nat) (t:Ao),Br t<=k->Br t<1099511627776->Ja k t=some (Br t:Int):=by
 intro k
 induction k with
 | zero=>intro t h; have:=Kt t; omega
 | succ k ih=>
  intro t h l
  have c:=Gd t
  have f:=Hq t.Args
  rw [Ja]
  refine Gm (fun (n,i)=>∃j:Nat,i=j/\j<=t.Args.length/\n=1+(Cw (t.Args.take j):Int)) (fun (_,i)=>t.Args.length-i.toNat) (fun n=>n=(Br t:Int)) ⟨0,rfl,by omega,by simp [Cw]⟩ ?_ (by rintro n rfl; rfl)
  rintro ⟨n,i⟩ ⟨j,rfl,hj,rfl⟩
  rcases Nat.lt_or_ge j t.Args.length with h' | h'
  .have q:=Gg (List.getElem_mem h')
   have g:=Vp t.Args j
   have b:=Vp t.Args (j+1)
   rw [Vo h'] at b
   refine .inl ⟨(1+(Cw (t.Args.take (j+1)):Int),((j+1:Nat):Int)),?_,⟨j+1,rfl,by omega,rfl⟩,by simp; omega⟩
   simp only [A4 (by omega:(j:Int)<(t.Args.length:Int)),cond_true,Df rfl h',Ap,ih t.Args[j] (by omega) (by omega)]
   rw [show Al ((j:Int)+1)=((j+1:Nat):Int) by rw [Al,Cl] <;> omega,show Al (1+(Cw (t.Args.take j):Int)+(Br t.Args[j]:Int))=1+(Cw (t.Args.take (j+1)):Int) by rw [Vo h',Al,Cl] <;> omega]
  .have:j=t.Args.length:=by omega
   subst this
   exact .inr ⟨1+(Cw t.Args:Int),by simp,by rw [c]; omega⟩
theorem Atb (data:List A5) (vars:Int):∀(k:Nat) (t:Ao),Br t<=k->Br t<1099511627776->Kd k data t vars=some (Di data vars t):=by
 intro k
 induction k with
 | zero=>intro t h; have:=Kt t; omega
 | succ k ih=>
  intro t h D
  have y:=Gd t
  have l:=Hq t.Args
  have c:(Bc (S:=Int) (E:=(Bool⊕Unit)) (fun v8=>bif (decide (v8<(t.Args.length:Int))) then ((Au t.Args v8).bind fun v9=>(Kd k data v9 vars).bind fun v10=>bif (!v10) then some (.inr (.inl false)) else some (.inl (Al (v8+1)))) else some (.inr (.inr ()))) 0).bind (fun z=>match z with | .inl x=>some x | .inr _=>some true)=some (Dz data vars t.Args):=by
   refine Gm (fun i=>∃j:Nat,i=j/\j<=t.Args.length/\Dz data vars (t.Args.take j)=true) (fun i=>t.Args.length-i.toNat)
    (fun z=>match z with | .inl r=>r=Dz data vars t.Args | .inr _=>Dz data vars t.Args=true) ⟨0,rfl,by omega,by simp [Dz]⟩ ?_ ?_
   .rintro i ⟨j,rfl,hj,f⟩
    rcases Nat.lt_or_ge j t.Args.length with h' | h'
    .have J:=Gg (List.getElem_mem h')
     simp only [A4 (by omega:(j:Int)<(t.Args.length:Int)),cond_true,Df rfl h',Ap,ih t.Args[j] (by omega) (by omega)]
     cases hb:Di data vars t.Args[j] with
     | true=>
      refine .inl ⟨((j+1:Nat):Int),?_,⟨j+1,rfl,by omega,by rw [Yi _ _ h',f,hb]; rfl⟩,by simp; omega⟩
      simp only [Dr,cond_false]
      rw [show Al ((j:Int)+1)=((j+1:Nat):Int) by rw [Al,Cl] <;> omega]
     | false=>
      refine .inr ⟨.inl false,by simp,?_⟩
      show false=_
      cases q:Dz data vars t.Args with
      | false=>rfl
      | true=>
       have a1:=Aij data vars t.Args (j+1) q
       rw [Yi _ _ h',hb,Bool.and_false] at a1; cases a1
    .have:j=t.Args.length:=by omega
     subst this
     rw [List.take_length] at f
     exact .inr ⟨.inr (),by simp,f⟩
   .rintro (r | u) s
    .simp only at s ⊢; rw [s]
    .simp only at s ⊢; rw [s]
  rw [Kd,Tn]
  refine Eq.trans (b:=Option.bind _ (fun z:Bool⊕Unit=>match z with | .inl B=>some B | .inr _=>some (Dz data vars t.Args))) (Ar0 ?_) ?_
  .rintro (r | u)
   .rfl
   .exact c
  have g:t.Args.length=0->Dz data vars t.Args=true:=by
   intro e; rw [List.length_eq_zero_iff.1 e]; rfl
  unfold Hr Au
  clear c ih h D y l
  generalize Dz data vars t.Args=X at *
  generalize t.Args.length=len at *
  generalize t.Kind=I
  generalize t.Num=n
  by_cases A:len=0
  .have hx:=g A
   subst A; subst hx
   cases hd:data[n.toNat]? <;> simp only [Bool.cond_eq_ite,Abp,Ap,Option.bind_none,hd] <;> grind
  .have G:((len:Int)==0)=false:=Cg (by omega)
   have h1:(len==0)=false:=by simpa using A
   have h2:((len:Int) != 1)=(!(len==1)):=by
    by_cases h:len=1
    .subst h; rfl
    .rw [C7 (by omega)]; simp [h]
   cases hd:data[n.toNat]? <;> simp only [G,h1,h2,Bool.cond_eq_ite,Abp,Ap,Option.bind_none,hd,Bool.and_false,Bool.false_and] <;> grind
theorem Tp (data:List A5) (t:Ao) (vars:Int) (b:Br t<=4000000):Jo data t vars=some (Di data vars t&&decide (Br t<=200)):=by
 unfold Jo
 rw [Aik 4000000 t b (by omega),Ap,Atb data vars 4000000 t b (by omega)]
 by_cases h:Br t<=200
 .rw [A4 (by omega:(Br t:Int)<=200),A4 h]; simp
 .rw [A8 (by omega:¬(Br t:Int)<=200),A8 h]; simp
end Go.Ab
namespace Go.Ab
open Go
def L6 (a:Ao) (i:Int):Bool:=a.Kind==4&&a.Num==i&&a.Args.length==0
def Ail (l:List Ao):Bool:=l.zipIdx.all fun q=>L6 q.1 q.2
def Gn (t:Ao) (d vars:Int):Bool:=t.Kind==5&&t.Num==d&&(t.Args.length:Int)==vars&&Ail t.Args
theorem Aim (t:Ao) (d vars:Int) (c:t.Args.length<1099511627776):Lv t d vars=some (Gn t d vars):=by
 unfold Lv Gn
 by_cases h1:t.Kind=5
 .by_cases h2:t.Num=d
  .by_cases h3:(t.Args.length:Int)=vars
   .simp only [C0 h1,C0 h2,C0 h3,cond_false,Ap,Ct h1,Ct h2,Ct h3,Bool.true_and]
    refine (Kr t.Args (fun q=>L6 q.1 q.2) (fun j=>(j:Int)) rfl (by omega) (rt:=true) (rf:=false) ?_ ?_).trans (by rw [Jx]; rfl)
    .intro j x hx _ hd hi b
     simp only [hd,hi,b,cond_true,Ap,L6]
     constructor
     .intro h
      simp only [Dl,beq_iff_eq] at h
      simp [h.1.1,h.1.2,h.2]
     .intro h
      by_cases g1:x.Kind=4
      .by_cases g2:x.Num=j
       .by_cases g3:x.Args.length=0
        .simp [g1,g2,g3] at h
        .exact ⟨.inl false,by simp only [C0 g1,C0 g2,cond_false]; rw [A4 (by omega)]; rfl,rfl⟩
       .exact ⟨.inl false,by simp only [C0 g1,C7 g2,cond_false]; rfl,rfl⟩
      .exact ⟨.inl false,by simp only [C7 g1]; rfl,rfl⟩
    .intro hd _
     exact ⟨.inr (),by simp only [hd]; rfl,rfl⟩
   .simp only [C0 h1,C0 h2,C7 h3,cond_false,cond_true,Ap,Cg h3,Bool.and_false,Bool.false_and]
  .simp only [C0 h1,C7 h2,cond_false,cond_true,Ap,Cg h2,Bool.and_false,Bool.false_and]
 .simp only [C7 h1,cond_true,Ap,Cg h1,Bool.false_and]
def Ec (data:List A5) (d c:Int):List Bool :=
 match Au data d with
 | none=>[]
 | some x=>match Au x.Cons c with
  | none=>[]
  | some y=>y.Args.map fun t=>Gn t d x.Vars
theorem Eo {α:Type} {l:List α} {i:Int} {x:α} (h:Au l i=some x):0<=i/\i<l.length/\l[i.toNat]? = some x/\x∈l:=by
 unfold Au at h
 split at h
 .have h1:i.toNat<l.length:=Em h
  exact ⟨by assumption,by omega,h,Cq h⟩
 .cases h
theorem M1 {α:Type} {l:List α} {i:Int} (h:Au l i=none):i<0\/(l.length:Int)<=i:=by
 unfold Au at h
 split at h
 .rw [List.getElem?_eq_none_iff] at h
  right; omega
 .left; omega
theorem Ain {R:Type} (data:List A5) (d c:Int) (F:A5->Jc->Option R) (z:R) (X:Option R)
  (f:X=((bif (decide (d<(0:Int))) then some true else bif (decide (d>=(data.length:Int))) then some true else bif (decide (c<(0:Int))) then some true else
   (Au data d).bind fun b=>some (decide (c>=(b.Cons.length:Int))):Option Bool).bind fun v2=>bif v2 then some z else (Au data d).bind fun v3=>(Au v3.Cons c).bind fun v4=>F v3 v4)) :
  X=match Au data d with
   | none=>some z
   | some x=>match Au x.Cons c with
    | none=>some z
    | some y=>F x y:=by
 subst f
 cases hx:Au data d with
 | none=>
  rcases M1 hx with h | h
  .simp only [A4 h,cond_true,Ap]
  .by_cases h':d<0
   .simp only [A4 h',cond_true,Ap]
   .simp only [A8 h',A4 (show d>=(data.length:Int) from h),cond_true,cond_false,Ap]
 | some x=>
  obtain ⟨a1,a2,_,_⟩:=Eo hx
  simp only [A8 (by omega:¬d<0),A8 (by omega:¬d>=(data.length:Int)),cond_false,Ap]
  cases hy:Au x.Cons c with
  | none=>
   rcases M1 hy with h | h
   .simp only [A4 h,cond_true,Ap]
   .by_cases h':c<0
    .simp only [A4 h',cond_true,Ap]
    .simp only [A8 h',A4 (show c>=(x.Cons.length:Int) from h),cond_true,cond_false,Ap]
  | some y=>
   obtain ⟨b1,b2,_,_⟩:=Eo hy
   simp only [A8 (by omega:¬c<0),A8 (by omega:¬c>=(x.Cons.length:Int)),cond_false,Ap]
def Atc (l:List Ao):Prop:=l.length<=4194304/\∀a∈l,a.Args.length<=4194304
def Hs (data:List A5):Prop:=∀x∈data,∀y∈x.Cons,Atc y.Args
theorem Acd (data:List A5) (d c:Int) (hd:Hs data):Qa data d c=some (Ec data d c):=by
 unfold Qa
 rw [Ain data d c (fun v4 v5=>_) [] _ rfl]
 unfold Ec
 cases hx:Au data d with
 | none=>rfl
 | some x=>
  cases hy:Au x.Cons c with
  | none=>simp only [hy]
  | some y=>
   simp only [hy]
   have b:=hd x (Eo hx).2.2.2 y (Eo hy).2.2.2
   refine F6 y.Args (fun j=>((j:Int),(y.Args.take j).map fun t=>Gn t d x.Vars)) rfl (by have:=b.1; omega) ?_ ?_
   .intro j t hj f h1 h2 h3
    simp only [h1,h2,cond_true,Ap,Aim t d x.Vars (by have:=b.2 t (Cq f); omega)]
    rw [Dw (by simp; have:=b.1; omega),Ap,h3,D7 f,List.map_append]; rfl
   .intro h1
    exact ⟨_,by simp only [h1]; rfl,by simp⟩
theorem Atd (data:List A5) (d c:Int) (hd:Hs data):Xq data d c=some (Ec data d c):=Acd data d c hd
theorem Yj {α:Type} (l m:List α) (y x:α) (i:Int) (n:Nat) (h:i=n) (b:n=l.length):Dy (l++y::m) i x=l++x::m:=by
 rw [Hm h]; subst b; simp
theorem Yk {α:Type} (l m:List α) (y:α) (i:Int) (n:Nat) (h:i=n) (b:n=l.length):Au (l++y::m) i=some y:=by
 rw [Cs h]; subst b; simp
theorem Ate (l:List Ao) (k f:List Bool) (i:Int) (n:Nat) (b:Bool) (h:i=n) (u:n=k.length) (B:l.length<1099511627776) {R:Type} {J:Int×List Bool->Option R} {r:R}
  (A:J ((l.length:Int),k++(b&&Ail l)::f)=some r) :
  (Bc (S:=(Int×(List Bool))) (E:=(Int×(List Bool))) (fun (c,g)=>
   bif (decide (c<(l.length:Int))) then (
   (Au l c).bind fun s=>
   bif (s.Kind != (4:Int)) then (
   (Au g i).bind fun v46=>
   some (.inl ((Al (c+1)),(Dy g i false)))
   )
   else (
   bif (s.Num != c) then (
   (Au g i).bind fun z=>
   some (.inl ((Al (c+1)),(Dy g i false)))
   )
   else (
   bif (decide ((s.Args.length:Int)>(0:Int))) then (
   (Au g i).bind fun y=>
   some (.inl ((Al (c+1)),(Dy g i false)))
   )
   else (
   some (.inl ((Al (c+1)),g))
   )
   )
   )
   )
   else (
   some (.inr (c,g))
   )
    ) (0,k++b::f)).bind J=some r:=by
 refine F6 l (fun j=>((j:Int),k++(b&&(l.take j).zipIdx.all (fun q=>L6 q.1 q.2))::f)) (by simp) (by omega) ?_ ?_
 .intro j x hj hx h1 h2 h3
  have e:(l.take (j+1)).zipIdx.all (fun q=>L6 q.1 q.2)=((l.take j).zipIdx.all (fun q=>L6 q.1 q.2)&&L6 x j):=by
   rw [D7 hx,List.zipIdx_append,List.all_append]; simp [Nat.min_eq_left (Nat.le_of_lt hj)]
  simp only [h1,h2,h3,cond_true,Ap,Yk k f _ i n h u,Yj k f _ _ i n h u,e]
  unfold L6
  by_cases g1:x.Kind=4
  .by_cases g2:x.Num=j
   .by_cases g3:x.Args.length=0
    .rw [A8 (by omega)]; simp [g1,g2,g3]
    .rw [A4 (by omega)]
     have:(x.Args.length==0)=false:=by simpa using g3
     simp [g1,g2,this]
   .simp [g1,g2,C7 g2]
  .simp [g1,C7 g1]
 .intro h1
  refine ⟨_,by simp only [h1]; rfl,?_⟩
  rw [List.take_length]
  exact A
theorem Yl (data:List A5) (d c:Int) (hd:Hs data):Mq data d c=some (Ec data d c):=by
 unfold Mq
 rw [Ain data d c (fun v3 v4=>_) [] _ rfl]
 unfold Ec
 cases hx:Au data d with
 | none=>rfl
 | some x=>
  cases hy:Au x.Cons c with
  | none=>simp only [hy]
  | some y=>
   simp only [hy]
   have g:=hd x (Eo hx).2.2.2 y (Eo hy).2.2.2
   have h:=g.1
   rw [Ko (n:=y.Args.length) (c:=y.Args.length) rfl rfl (by omega) (by omega) (by omega),Ap]
   refine F6 y.Args (fun j=>((j:Int),((y.Args.take j).map fun t=>Gn t d x.Vars)++List.replicate (y.Args.length-j) false)) rfl (by omega) ?_ ?_
   .intro j t hj f h1 h2 h3
    obtain ⟨m,i⟩:∃m,y.Args.length-j=m+1:=⟨y.Args.length-j-1,by omega⟩
    have k:y.Args.length-(j+1)=m:=by omega
    have b:j=((y.Args.take j).map fun t=>Gn t d x.Vars).length:=by simp; omega
    simp only [h1,h2,cond_true,Ap,i,k,List.replicate_succ,D7 f,List.map_append,List.map_cons,List.map_nil,List.append_assoc,List.cons_append,List.nil_append,
     Yk _ _ _ (j:Int) j rfl b,Yj _ _ _ _ (j:Int) j rfl b]
    have hb:(bif t.Kind==5 then bif t.Num==d then some (List.map (fun t=>Gn t d x.Vars) (List.take j y.Args)++((t.Args.length:Int)==x.Vars)::List.replicate m false)
       else some (List.map (fun t=>Gn t d x.Vars) (List.take j y.Args)++false::List.replicate m false)
      else some (List.map (fun t=>Gn t d x.Vars) (List.take j y.Args)++false::List.replicate m false))=some (List.map (fun t=>Gn t d x.Vars) (List.take j y.Args)++(t.Kind==5&&t.Num==d&&((t.Args.length:Int)==x.Vars))::List.replicate m false):=by
     cases t.Kind==5 <;> cases t.Num==d <;> simp
    rw [hb,Ap]
    refine Ate t.Args _ _ (j:Int) j _ rfl b (by have:=g.2 t (Cq f); omega) ?_
    rw [h3]; rfl
   .intro h1
    exact ⟨_,by simp only [h1]; rfl,by simp⟩
mutual
def mnt (d:Int):Ao->Bool
 | ⟨k,n,l⟩=>(k==5&&n==d)||M2 d l
def M2 (d:Int):List Ao->Bool
 | []=>false
 | x::xs=>mnt d x||M2 d xs
end
theorem Atf (d:Int) (t:Ao):mnt d t=((t.Kind==5&&t.Num==d)||M2 d t.Args):=by cases t; simp only [mnt]
theorem Atg (d:Int) (l:List Ao):M2 d l=l.any (mnt d):=by
 induction l with
 | nil=>rfl
 | cons x xs ih=>simp only [M2,ih,List.any_cons]
theorem Ath (d:Int):∀(n:Nat) (t:Ao) (k:Nat),Br t<=n->4*n+4<=k->n<1099511627776->L0 k t d=some (mnt d t):=by
 intro n
 induction n with
 | zero=>intro t k h; have:=Kt t; omega
 | succ n ih=>
  intro t k h hk g
  obtain ⟨k,rfl⟩:∃c,k=c+4:=⟨k-4,by omega⟩
  have f:=Gd t
  have b:=Hq t.Args
  have key:Oa (k+3) t.Args d=some (M2 d t.Args):=by
   rw [Oa,Tc]
   rw [Atg]
   refine Q2 (Abv t.Args (mnt d) (by omega) ?_ (fun h=>by simp only [h]; rfl) (fun _=>rfl) rfl) (fun i hi=>by rw [hi])
   intro j x hx h1 h2 h3
   have l:=Gg hx
   simp only [h1,h2,h3,cond_true,Ap,Qp,ih x k (by omega) (by omega) (by omega)]
  rw [L0,key,Atf]
  cases t.Kind==5 <;> cases t.Num==d <;> simp
end Go.Ab
namespace Go.Ab
open Go
theorem Aio (data:List A5) (v:Int) (l:List Ao):Dz data v l=l.all (Di data v):=by
 induction l with
 | nil=>rfl
 | cons x xs ih=>simp only [Dz,ih,List.all_cons]
theorem Ati (data:List A5) (d:Nat) (v k n:Int) (len:Nat):(Hr (data.take (d+1)) v k n len && !(k==5&&n==(d:Int)))=Hr (data.take d) v k n len:=by
 by_cases hk:k=5
 .subst hk
  unfold Hr
  simp only [beq_self_eq_true,Bool.true_and,List.getElem?_take]
  by_cases b:n=d
  .subst b; simp
  .by_cases c:0<=n
   .have e:(n==(d:Int))=false:=Cg b
    rcases Nat.lt_or_ge n.toNat d with h | h
    .simp [h,e,show n.toNat<d+1 by omega]
    .simp [e,show ¬n.toNat<d by omega,show ¬n.toNat<d+1 by omega]
   .simp [c]
 .have e:(k==(5:Int))=false:=Cg hk
  simp only [e,Bool.false_and,Bool.not_false,Bool.and_true,Hr,hk,if_false]
mutual
theorem Aip (data:List A5) (d:Nat) (v:Int):∀t:Ao,(Di (data.take (d+1)) v t && !mnt d t)=Di (data.take d) v t
 | ⟨k,n,l⟩=>by
  have h1:=Aiq data d v l
  have h2:=Ati data d v k n l.length
  simp only [Di,mnt]
  rw [<-h1,<-h2]
  cases Hr (data.take (d+1)) v k n l.length <;> cases (k==5&&n==(d:Int)) <;> cases Dz (data.take (d+1)) v l <;> simp
theorem Aiq (data:List A5) (d:Nat) (v:Int):∀l:List Ao,(Dz (data.take (d+1)) v l && !M2 d l)=Dz (data.take d) v l
 | []=>by simp [Dz,M2]
 | x::xs=>by
  have h1:=Aip data d v x
  have h2:=Aiq data d v xs
  simp only [Dz,M2]
  rw [<-h1,<-h2]
  cases Di (data.take (d+1)) v x <;> cases mnt d x <;> cases Dz (data.take (d+1)) v xs <;> simp
end
theorem Air:∀l:List Ao,(∀a∈l,a.Args.length=0)->Cw l=l.length
 | [],_=>rfl
 | x::xs,h=>by
  have h1:=h x (by simp)
  simp only [Cw,List.length_cons]
  rw [Air xs (fun a ha=>h a (by simp [ha])),Gd,List.length_eq_zero_iff.1 h1]
  simp only [Cw]; omega
theorem Ace {data:List A5} {d:Nat} {x:A5} (hx:data[d]? = some x) (f:x.Vars<=6) {t:Ao} (h:Gn t d x.Vars=true):Di (data.take (d+1)) x.Vars t=true/\Br t<=200:=by
 unfold Gn at h
 simp only [Dl,beq_iff_eq] at h
 obtain ⟨⟨⟨h1,h2⟩,h3⟩,c⟩:=h
 have ha:∀a∈t.Args,∃i:Nat,i<t.Args.length/\a.Kind=4/\a.Num=i/\a.Args.length=0:=by
  intro a ha
  obtain ⟨i,hi⟩:=List.getElem?_of_mem ha
  have:=Hg c hi
  simp only [L6,Dl,beq_iff_eq] at this
  exact ⟨i,Em hi,this.1.1,this.1.2,this.2⟩
 refine ⟨?_,?_⟩
 .rw [Tn,Aio,Dl]
  constructor
  .rw [h1,h2]
   unfold Hr
   simp [hx,h3]
  .rw [List.all_eq_true]
   intro a b
   obtain ⟨i,i1,i2,i3,i4⟩:=ha a b
   rw [Tn,i2,i3,i4,List.length_eq_zero_iff.1 i4]
   unfold Hr
   simp [Dz]; omega
 .rw [Gd,Air _ (fun a h=>(ha a h).choose_spec.2.2.2)]
  omega
def Ht (data:List A5) (d:Nat) (v:Int) (t:Ao):Bool:=Gn t d v||(Di (data.take d) v t&&decide (Br t<=200))
theorem Atj {data:List A5} {d:Nat} {x:A5} (hx:data[d]? = some x) (b:x.Vars<=6) (t:Ao):((Di (data.take (d+1)) x.Vars t&&decide (Br t<=200))&&(Gn t d x.Vars || !mnt d t))=Ht data d x.Vars t:=by
 unfold Ht
 cases h:Gn t d x.Vars with
 | true=>
  obtain ⟨h1,h2⟩:=Ace hx b h
  rw [h1,A4 h2]; rfl
 | false=>
  rw [<-Aip data d x.Vars t]
  cases Di (data.take (d+1)) x.Vars t <;> cases decide (Br t<=200) <;> simp
def SzD (data:List A5):Prop:=∀x∈data,x.Cons.length<=1048576/\∀y∈x.Cons,Cw y.Args<=1048576
theorem SzD.short {data:List A5} (h:SzD data):Hs data:=fun x hx y hy=>by
 have h1:=(h x hx).2 y hy
 have h2:=Hq y.Args
 refine ⟨by omega,fun a ha=>?_⟩
 have h3:=Gg ha
 have c:=Gd a
 have b:=Hq a.Args
 omega
theorem Atk {data:List A5} (g:SzD data) (d c:Nat) {x:A5} {y:Jc} (hx:data[d]? = some x) (hy:x.Cons[c]? = some y) (s:x.Vars<=6) (hd:data.length<=1048576) :
  Mt data d c=some (decide (y.Args.length<=6)&&y.Args.all (Ht data d x.Vars)):=by
 have b:=Em hx
 have q:=(g x (Cq hx)).2 y (Cq hy)
 unfold Mt
 rw [Cs rfl hx,Ap,Cs rfl hy,Ap,Yl data d c g.short]
 by_cases l:y.Args.length<=6
 .rw [A8 (by omega:¬(y.Args.length:Int)>6),A4 l]
  simp only [cond_false,Bool.true_and,Ap]
  refine (Jw y.Args (Ht data d x.Vars) (fun j=>(j:Int)) rfl (by omega) (rt:=true) (rf:=false) ?_ ?_).trans (by rw [Jx])
  .intro j t i h1 h2 h3
   have u:=Gg (Cq i)
   have z:Au (Ec data d c) (j:Int)=some (Gn t d x.Vars):=by
    unfold Ec
    simp only [Cs rfl hx,Cs rfl hy]
    rw [Cs rfl]
    simp [i]
   simp only [h1,h2,h3,cond_true,Ap,show Al ((d:Int)+1)=((d+1:Nat):Int) from D3 b (by omega),Vf rfl (show d+1<=data.length from b),Cs rfl hx,
    To (data.take (d+1)) t x.Vars (by omega),z]
   rw [<-Atj hx s t]
   cases k:(Di (data.take (d+1)) x.Vars t&&decide (Br t<=200)) with
   | false=>exact ⟨(fun h=>by cases h),fun _=>⟨.inl false,rfl,rfl⟩⟩
   | true=>
    have f:Br t<=200:=by simp only [Dl,decide_eq_true_eq] at k; exact k.2
    simp only [Dr,cond_false,Bool.true_and]
    cases A:Gn t d x.Vars with
    | true=>exact ⟨fun _=>rfl,fun h=>by cases h⟩
    | false=>
     simp only [Bool.not_false,cond_true,Ath d 200 t 4000000 f (by omega) (by omega),Ap,Bool.false_or]
     cases mnt d t with
     | true=>exact ⟨(fun h=>by cases h),fun _=>⟨.inl false,rfl,rfl⟩⟩
     | false=>exact ⟨fun _=>rfl,fun h=>by cases h⟩
  .intro h
   exact ⟨.inr (),by simp only [h]; rfl,rfl⟩
 .rw [A4 (by omega:(y.Args.length:Int)>6),A8 l]; rfl
end Go.Ab
namespace Go.Ab
open Go
def bI (s:ByteArray) (i:Nat):Int:=if h:i<s.size then (s[i].toNat:Int) else 0
def loI (c:Int):Bool:=decide (97<=c)&&decide (c<=122)
def upI (c:Int):Bool:=decide (65<=c)&&decide (c<=90)
def diI (c:Int):Bool:=decide (48<=c)&&decide (c<=57)
def wiI (c:Int):Bool:=loI c||upI c||diI c||c==95
def Ep (s:ByteArray):Prop:=1<=s.size/\s.size<=24/\upI (bI s 0)=true/\∀i,i<s.size->wiI (bI s i)=true
theorem Gz {s:ByteArray} {i:Int} {n:Nat} (hi:i=n) (h:n<s.size):∃c:UInt8,E2 s i=some c/\(c.toNat:Int)=bI s n:=by
 subst hi
 refine ⟨s[n],?_,?_⟩
 .unfold E2
  rw [if_pos (by omega),show ((n:Int)).toNat=n from rfl]
  simp [h]
 .unfold bI; simp [h]
theorem Q8 {s:ByteArray} {a b j:Nat} (hb:b<=s.size) (h:a+j<b):bI (s.extract a b) j=bI s (a+j):=by
 unfold bI
 have h1:j<(s.extract a b).size:=by rw [ByteArray.size_extract]; omega
 rw [dif_pos h1,dif_pos (by omega),ByteArray.getElem_extract]
theorem L7 {s:ByteArray} {lo hi:Int} {a b:Nat} (h1:lo=a) (h2:hi=b) (h3:a<=b) (c:b<=s.size):D4 s lo hi=some (s.extract a b):=by
 subst h1; subst h2; unfold D4; rw [if_pos (by omega)]; rfl
theorem Ais {a b:ByteArray} (h:a.toList=b.toList):a=b:=by
 rw [ByteArray.toList_eq,ByteArray.toList_eq] at h
 have:a.data=b.data:=Array.toList_inj.1 h
 cases a; cases b; simp at this; subst this; rfl
theorem Ym (a b:ByteArray):(a.toList==b.toList)=decide (a=b):=by
 by_cases h:a=b
 .subst h; simp
 .rw [A8 h]
  cases hb:(a.toList==b.toList) with
  | false=>rfl
  | true=>exact absurd (Ais (by simpa using hb)) h
theorem Acf (c:Int):Qs c=some (loI c):=by unfold Qs loI; by_cases h:(97:Int)<=c <;> simp [h]
theorem Acg (c:Int):N9 c=some (upI c):=by unfold N9 upI; by_cases h:(65:Int)<=c <;> simp [h]
theorem Vq (c:Int):Mw c=some (diI c):=by unfold Mw diI; by_cases h:(48:Int)<=c <;> simp [h]
theorem Ait (c:Int):Qt c=some (wiI c):=by
 unfold Qt wiI
 rw [Acf,Acg,Vq]
 simp only [Ap]
 cases loI c <;> cases upI c <;> cases diI c <;> rfl
theorem Atl (c:Int):Sz c=some (loI c):=Acf c
theorem Atm (c:Int):Qh c=some (upI c):=Acg c
theorem Atn (c:Int):Qi c=some (diI c):=Vq c
theorem Tq {S E:Type} {step:S->Option (S⊕E)} (s:ByteArray) (p:Int->Bool) (b:Nat->S) (f:Nat->E) (lo:Nat)
  (h1:∀j,lo<=j->j<s.size->p (bI s j)=true->step (b j)=some (.inl (b (j+1)))) (h2:∀j,lo<=j->j<s.size->p (bI s j)=false->step (b j)=some (.inr (f j))) (h3:step (b s.size)=some (.inr (f s.size))) :
  ∀(m i:Nat),lo<=i->i+m=s.size->∃n,i<=n/\n<=s.size/\(∀j,i<=j->j<n->p (bI s j)=true)/\(n<s.size->p (bI s n)=false)/\Bc step (b i)=some (f n):=by
 intro m
 induction m with
 | zero=>
  intro i _ hi
  have:i=s.size:=by omega
  subst this
  exact ⟨s.size,by omega,by omega,fun j _ _=>by omega,fun h=>by omega,E9 h3⟩
 | succ m ih=>
  intro i c hi
  cases hp:p (bI s i) with
  | true=>
   obtain ⟨n,a1,a2,a3,a4,a5⟩:=ih (i+1) (by omega) (by omega)
   refine ⟨n,by omega,a2,fun j b1 b2=>?_,a4,by rw [I2 (h1 i c (by omega) hp)]; exact a5⟩
   rcases Nat.lt_or_ge i j with h | h
   .exact a3 j h b2
   .have:j=i:=by omega
    subst this; exact hp
  | false=>exact ⟨i,by omega,by omega,fun j _ _=>by omega,fun _=>hp,E9 (h2 i c (by omega) hp)⟩
theorem Ato (s:ByteArray) (k:s.size<1099511627776):∃n,n<=s.size/\(∀j,j<n->wiI (bI s j)=true)/\(n<s.size->wiI (bI s n)=false)/\S7 s=some (s.extract 0 n):=by
 have H:=Tq (step:=fun v3:Int=>bif (decide (v3<(s.size:Int))) then ((E2 s v3).bind fun h=>(Qt (h.toNat:Int)).bind fun v5=>bif v5 then some (.inl (Al (v3+1))) else some (.inr v3)) else some (.inr v3))
  s wiI (fun j=>(j:Int)) (fun j=>(j:Int)) 0 (fun j _ hj hp=>by
   obtain ⟨c,g,f⟩:=Gz (s:=s) (i:=(j:Int)) rfl hj
   simp only [A4 (by omega:(j:Int)<(s.size:Int)),cond_true,g,Ap,f,Ait,hp,D3 hj (by omega)]) (fun j _ hj hp=>by
   obtain ⟨c,g,f⟩:=Gz (s:=s) (i:=(j:Int)) rfl hj
   simp only [A4 (by omega:(j:Int)<(s.size:Int)),cond_true,g,Ap,f,Ait,hp,cond_false]) (by simp) s.size 0 (by omega) (by omega)
 obtain ⟨n,_,a2,a3,a4,a5⟩:=H
 refine ⟨n,a2,fun j hj=>a3 j (by omega) hj,a4,?_⟩
 unfold S7
 have a5:Bc _ (0:Int)=some (n:Int):=a5
 rw [a5,Ap,L7 (lo:=0) (a:=0) (b:=n) rfl rfl (by omega) a2]; rfl
theorem Atp (s:ByteArray) (k:s.size<1099511627776):∃n,n<=s.size/\(∀j,j<n->diI (bI s j)=true)/\(n<s.size->diI (bI s n)=false)/\U9 s=some (s.extract 0 n):=by
 have H:=Tq (step:=fun v3:Int=>bif (decide (v3<(s.size:Int))) then ((E2 s v3).bind fun h=>(Mw (h.toNat:Int)).bind fun v5=>bif v5 then some (.inl (Al (v3+1))) else some (.inr v3)) else some (.inr v3))
  s diI (fun j=>(j:Int)) (fun j=>(j:Int)) 0 (fun j _ hj hp=>by
   obtain ⟨c,g,f⟩:=Gz (s:=s) (i:=(j:Int)) rfl hj
   simp only [A4 (by omega:(j:Int)<(s.size:Int)),cond_true,g,Ap,f,Vq,hp,D3 hj (by omega)]) (fun j _ hj hp=>by
   obtain ⟨c,g,f⟩:=Gz (s:=s) (i:=(j:Int)) rfl hj
   simp only [A4 (by omega:(j:Int)<(s.size:Int)),cond_true,g,Ap,f,Vq,hp,cond_false]) (by simp) s.size 0 (by omega) (by omega)
 obtain ⟨n,_,a2,a3,a4,a5⟩:=H
 refine ⟨n,a2,fun j hj=>a3 j (by omega) hj,a4,?_⟩
 unfold U9
 have a5:Bc _ (0:Int)=some (n:Int):=a5
 rw [a5,Ap,L7 (lo:=0) (a:=0) (b:=n) rfl rfl (by omega) a2]; rfl
theorem Ou {R:Type} {c:Bool} {X Y:Option R} {Q:R->Prop} (h1:∃r,X=some r/\Q r) (h2:∃r,Y=some r/\Q r):∃r,(bif c then X else Y)=some r/\Q r:=by cases c <;> assumption
theorem Vr {A R:Type} {X:Option A} {f:A->Option R} {Q:R->Prop} (P:A->Prop) (h1:∃a,X=some a/\P a) (h2:∀a,P a->∃r,f a=some r/\Q r):∃r,X.bind f=some r/\Q r:=by
 obtain ⟨a,e,h⟩:=h1
 rw [e]; exact h2 a h
theorem Atq (s:ByteArray):∃b,S8 s=some b/\True:=by
 unfold S8
 repeat' first | refine Ou ?_ ?_ | exact ⟨_,rfl,trivial⟩
theorem Atr (s:ByteArray) (h1:1<=s.size):∃r,Ta s=some r/\(r.size<=s.size):=by
 have g:D4 s 0 1=some (s.extract 0 1):=L7 rfl rfl (by omega) h1
 have c:(s.extract 0 1).size<=s.size:=by rw [ByteArray.size_extract]; omega
 unfold Ta
 refine Vr (fun z=>∀r,z = .inl r->r.size<=s.size) ?_ ?_
 .by_cases h2:2<=s.size
  .have f:D4 s 0 2=some (s.extract 0 2):=L7 rfl rfl (by omega) h2
   have b:∀r,(Sum.inl (s.extract 0 2):ByteArray⊕Unit) = .inl r->r.size<=s.size:=by rintro r ⟨⟩; rw [ByteArray.size_extract]; omega
   simp only [f,Ap]
   repeat' first | refine Ou ?_ ?_ | with_reducible exact ⟨_,rfl,b⟩ | exact ⟨_,rfl,fun r h=>by cases h⟩
  .rw [A8 (by omega)]
   exact ⟨_,rfl,fun r h=>by cases h⟩
 .rintro (r | u) i
  .exact ⟨_,rfl,i r rfl⟩
  .simp only [g,Ap]
   have j:(ByteArray.mk #[]).size<=s.size:=Nat.zero_le _
   repeat' first | refine Ou ?_ ?_ | with_reducible exact ⟨_,rfl,c⟩ | with_reducible exact ⟨_,rfl,j⟩
theorem Ats (s:ByteArray) (g:s.size<1099511627776):∃b,S9 s=some b/\True:=by
 unfold S9
 refine E3 (fun (_,i)=>∃j:Nat,i=j/\j<=s.size) (fun (_,i)=>s.size-i.toNat) (fun _=>True) ⟨0,rfl,by omega⟩ ?_ ?_
 .rintro ⟨v,i⟩ ⟨j,rfl,hj⟩
  rcases Nat.lt_or_ge j s.size with h | h
  .obtain ⟨c,f,_⟩:=Gz (s:=s) (i:=(j:Int)) rfl h
   simp only [A4 (by omega:(j:Int)<(s.size:Int)),cond_true,f,Ap,D3 h (by omega)]
   cases decide (Al (Al (v*10)+Al (wu8 ((c.toNat:Int)-48)))>1000000) with
   | true=>exact .inr ⟨_,rfl,trivial⟩
   | false=>exact .inl ⟨_,rfl,⟨j+1,rfl,by omega⟩,by simp; omega⟩
  .have:j=s.size:=by omega
   subst this
   exact .inr ⟨.inr (),by simp,trivial⟩
 .rintro (r | u) _ <;> exact ⟨_,rfl,trivial⟩
theorem Att (s:ByteArray) (i:Nat) (hi:i<s.size) (R:s.size<1099511627776) :
  ∃r,S6 s i=some r/\(r.2=0->1<=r.1.Text.size/\i+r.1.Text.size<=s.size/\(r.1.Kind=2->Ep r.1.Text))/\(Ep s->i=0->r=(⟨2,s,0⟩,0)):=by
 obtain ⟨c,N,M⟩:=Gz (s:=s) (i:=(i:Int)) rfl hi
 have y:D4 s (i:Int) (s.size:Int)=some (s.extract i s.size):=L7 rfl rfl (by omega) (by omega)
 have J:(s.extract i s.size).size=s.size-i:=by rw [ByteArray.size_extract]; omega
 have z:bI (s.extract i s.size) 0=bI s i:=Q8 (by omega) (by omega)
 unfold S6
 simp only [N,Ap,M,Acf,Acg,Vq,y]
 have I:(bif loI (bI s i) then some true else some (upI (bI s i)))=some (loI (bI s i)||upI (bI s i)):=by cases loI (bI s i) <;> rfl
 rw [I]
 simp only [Ap]
 cases q:(loI (bI s i)||upI (bI s i)) with
 | true=>
  obtain ⟨n,G,E,A,u⟩:=Ato (s.extract i s.size) (by omega)
  have hn1:1<=n:=by
   rcases Nat.eq_zero_or_pos n with h | h
   .subst h
    have:=A (by omega)
    rw [z] at this
    unfold wiI at this
    rw [q] at this; cases this
   .exact h
  have hx:(s.extract i s.size).extract 0 n=s.extract i (i+n):=by rw [ByteArray.extract_extract]; congr 1; omega
  have x:(s.extract i (i+n)).size=n:=by rw [ByteArray.size_extract]; omega
  rw [hx] at u
  simp only [cond_true,u,Ap,x]
  have k:Ep s->i=0->n=s.size:=by
   intro hu f
   rcases Nat.lt_or_ge n s.size with h | h
   .have:=A (by omega)
    rw [Q8 (by omega) (by omega),hu.2.2.2 _ (by omega)] at this; cases this
   .omega
  by_cases L:n<=24
  .rw [A8 (by omega)]
   cases l:upI (bI s i) with
   | true=>
    refine ⟨_,rfl,fun _=>⟨?_,?_,fun _=>⟨?_,?_,?_,?_⟩⟩,?_⟩
    .show 1<=(s.extract i (i+n)).size; omega
    .show i+(s.extract i (i+n)).size<=s.size; omega
    .show 1<=(s.extract i (i+n)).size; omega
    .show (s.extract i (i+n)).size<=24; omega
    .show upI (bI (s.extract i (i+n)) 0)=true
     rw [Q8 (by omega) (by omega)]; exact l
    .show ∀j,j<(s.extract i (i+n)).size->wiI (bI (s.extract i (i+n)) j)=true
     intro j hj
     rw [Q8 (by omega) (by omega)]
     have:=E j (by omega)
     rw [Q8 (by omega) (by omega)] at this; exact this
    .intro hu f
     have:=k hu f
     subst f; subst this
     rw [Nat.zero_add,ByteArray.extract_zero_size]; rfl
   | false=>
    obtain ⟨b,hb,_⟩:=Atq (s.extract i (i+n))
    simp only [cond_false,hb,Ap]
    have g:Ep s->i=0->False:=by
     intro hu f
     subst f
     rw [hu.2.2.1] at l; cases l
    cases b with
    | true=>exact ⟨_,rfl,fun _=>⟨by show 1<=(s.extract i (i+n)).size; omega,by show i+(s.extract i (i+n)).size<=s.size; omega,fun h=>by cases h⟩,fun hu f=>(g hu f).elim⟩
    | false=>exact ⟨_,rfl,fun _=>⟨by show 1<=(s.extract i (i+n)).size; omega,by show i+(s.extract i (i+n)).size<=s.size; omega,fun h=>by cases h⟩,fun hu f=>(g hu f).elim⟩
  .rw [A4 (by omega)]
   refine ⟨_,rfl,(fun h=>by cases h),fun hu f=>?_⟩
   have:=k hu f
   have:=hu.2.1
   omega
 | false=>
  have g:Ep s->i=0->False:=by
   intro hu f
   subst f
   rw [hu.2.2.1,Bool.or_true] at q; cases q
  simp only [cond_false]
  cases hd:diI (bI s i) with
  | true=>
   obtain ⟨n,G,E,A,u⟩:=Atp (s.extract i s.size) (by omega)
   have hn1:1<=n:=by
    rcases Nat.eq_zero_or_pos n with h | h
    .subst h
     have:=A (by omega)
     rw [z,hd] at this; cases this
    .exact h
   have hx:(s.extract i s.size).extract 0 n=s.extract i (i+n):=by rw [ByteArray.extract_extract]; congr 1; omega
   have x:(s.extract i (i+n)).size=n:=by rw [ByteArray.size_extract]; omega
   rw [hx] at u
   obtain ⟨b,hb,_⟩:=Ats (s.extract i (i+n)) (by omega)
   simp only [cond_true,u,Ap,hb]
   refine Vr (fun _=>True) ?_ ?_
   .exact Ou ⟨_,rfl,trivial⟩ ⟨_,rfl,trivial⟩
   .intro v _
    refine Ou ⟨_,rfl,(fun h=>by cases h),fun hu f=>(g hu f).elim⟩ (Ou ⟨_,rfl,(fun h=>by cases h),fun hu f=>(g hu f).elim⟩ ⟨_,rfl,fun _=>⟨?_,?_,fun h=>by cases h⟩,fun hu f=>(g hu f).elim⟩)
    .show 1<=(s.extract i (i+n)).size; omega
    .show i+(s.extract i (i+n)).size<=s.size; omega
  | false=>
   obtain ⟨r,r1,r2⟩:=Atr (s.extract i s.size) (by omega)
   simp only [cond_false,r1,Ap]
   rw [Ym]
   by_cases B:r=ByteArray.mk #[]
   .rw [A4 B]
    exact ⟨_,rfl,(fun h=>by cases h),fun hu f=>(g hu f).elim⟩
   .rw [A8 B]
    refine ⟨_,rfl,fun _=>⟨?_,?_,fun h=>by cases h⟩,fun hu f=>(g hu f).elim⟩
    .show 1<=r.size
     rcases Nat.eq_zero_or_pos r.size with h | h
     .have D:r.data.toList.length=0:=by simpa using h
      exact absurd (Ais (by rw [ByteArray.toList_eq,List.length_eq_zero_iff.1 D,ByteArray.toList_eq])) B
     .exact h
    .show i+r.size<=s.size; omega
theorem Atu (c:Int):S5 c=some (c==9||c==10||c==13||c==32):=by
 unfold S5
 cases c==9 <;> cases c==10 <;> cases c==13 <;> rfl
theorem Aiu (s:ByteArray) (X:s.size<1099511627776):∃b,N6 s=some b/\(b=true↔Ep s):=by
 unfold N6 U6
 by_cases A:(s.size:Int)>16384
 .rw [A4 A]
  refine ⟨false,rfl,by simp; rintro ⟨_,h,_⟩; omega⟩
 rw [A8 A]
 simp only [cond_false]
 refine Vr (fun r:List Eu×Int×Int=>(r.2.2≠0/\¬Ep s)\/(r.2.2=0/\∃o e,r.1=o++[e]/\(∀t∈o,t.Kind=2->Ep t.Text)/\(Ep s->o = [⟨2,s,0⟩]))) ?_ ?_
 .refine E3 (fun (v26,g)=>∃i:Nat,v26=i/\i<=s.size/\g.length<=i/\(∀t∈g,t.Kind=2->Ep t.Text)/\(Ep s->(i=0/\g = [])\/(i=s.size/\g = [⟨2,s,0⟩])))
   (fun (v26,_)=>s.size-v26.toNat)
   (fun z=>match z with | .inl o=>o.length<=16384/\(∀t∈o,t.Kind=2->Ep t.Text)/\(Ep s->o = [⟨2,s,0⟩]) | .inr (_,_,e)=>e≠0/\¬Ep s)
   ⟨0,rfl,by omega,by simp,by simp,fun _=>.inl ⟨rfl,rfl⟩⟩ ?_ ?_
  .rintro ⟨v,o⟩ ⟨i,rfl,hi,ho,hk,hu⟩
   rcases Nat.lt_or_ge i s.size with h | h
   .obtain ⟨c,I,G⟩:=Gz (s:=s) (i:=(i:Int)) rfl h
    have k:Ep s->i=0/\o = []:=fun u=>by
     rcases hu u with h' | h'
     .exact h'
     .omega
    simp only [A4 (by omega:(i:Int)<(s.size:Int)),cond_true,I,Ap,G,Atu]
    cases L:(bI s i==9||bI s i==10||bI s i==13||bI s i==32) with
    | true=>
     have q:¬Ep s:=by
      intro u
      have M:=(k u).1
      subst M
      have:=u.2.2.1
      simp only [upI,Dl,decide_eq_true_eq] at this
      simp only [Bool.or_eq_true,beq_iff_eq] at L
      omega
     exact .inl ⟨(((i+1:Nat):Int),o),by simp only [cond_true]; rw [D3 h (by omega)],⟨i+1,rfl,by omega,(by show o.length<=i+1; omega),hk,fun u=>(q u).elim⟩,by simp; omega⟩
    | false=>
     simp only [cond_false]
     cases D:(bI s i==35) with
     | true=>
      have q:¬Ep s:=by
       intro u
       have M:=(k u).1
       subst M
       have:=u.2.2.1
       simp only [upI,Dl,decide_eq_true_eq] at this
       simp only [beq_iff_eq] at D
       omega
      simp only [cond_true]
      obtain ⟨n,n1,n2,n3,U,J⟩:=Tq (step:=fun f:Int=>bif (decide (f<(s.size:Int))) then ((E2 s f).bind fun N=>bif ((N.toNat:Int)==(10:Int)) then some (.inr (.inl f)) else some (.inl (Al (f+1)))) else some (.inr (.inr f)))
       s (fun c=>!(c==10)) (fun j=>(j:Int)) (fun j=>if j<s.size then Sum.inl (j:Int) else Sum.inr (j:Int)) 0 (fun j _ hj hp=>by
        obtain ⟨c,I,G⟩:=Gz (s:=s) (i:=(j:Int)) rfl hj
        simp only [Bool.not_eq_true'] at hp
        simp only [A4 (by omega:(j:Int)<(s.size:Int)),cond_true,I,Ap,G,hp,D3 hj (by omega),cond_false]) (fun j _ hj hp=>by
        obtain ⟨c,I,G⟩:=Gz (s:=s) (i:=(j:Int)) rfl hj
        simp only [Bool.not_eq_false'] at hp
        simp only [A4 (by omega:(j:Int)<(s.size:Int)),cond_true,I,Ap,G,hp,if_pos hj]) (by simp) (s.size-i) i (by omega) (by omega)
      have Y:i<n:=by
       rcases Nat.lt_or_ge i n with h' | h'
       .exact h'
       .have:n=i:=by omega
        subst this
        have:=U h
        simp only [beq_iff_eq] at D
        rw [D] at this; cases this
      have J:Bc _ (i:Int)=_:=J
      rw [J,Ap]
      rcases Nat.lt_or_ge n s.size with h' | h'
      .rw [if_pos h']
       exact .inl ⟨((n:Int),o),rfl,⟨n,rfl,by omega,(by show o.length<=n; omega),hk,fun u=>(q u).elim⟩,by simp; omega⟩
      .rw [if_neg (by omega)]
       exact .inr ⟨.inl o,rfl,by omega,hk,fun u=>(q u).elim⟩
     | false=>
      obtain ⟨r,r1,r2,R⟩:=Att s i h X
      simp only [cond_false,r1,Ap]
      by_cases E:r.2=0
      .obtain ⟨a1,a2,a3⟩:=r2 E
       simp only [C0 E,cond_false]
       rw [Dw (by simp; omega),Ap]
       refine .inl ⟨(((i+r.1.Text.size:Nat):Int),o++[r.1]),?_,⟨i+r.1.Text.size,rfl,a2,by simp; omega,?_,?_⟩,by simp; omega⟩
       .rw [show Al ((i:Int)+(r.1.Text.size:Int))=((i+r.1.Text.size:Nat):Int) by rw [Al,Cl] <;> omega]
       .intro t V
        rcases List.mem_append.1 V with h' | h'
        .exact hk t h'
        .simp at h'; subst h'; exact a3
       .intro u
        obtain ⟨b1,b2⟩:=k u
        have:=R u b1
        subst b1; subst b2; subst this
        exact .inr ⟨by simp,rfl⟩
      .simp only [C7 E,cond_true]
       refine .inr ⟨_,rfl,E,fun u=>?_⟩
       rw [R u (k u).1] at E
       exact E rfl
   .have:i=s.size:=by omega
    subst this
    refine .inr ⟨.inl o,by simp,by omega,hk,fun u=>?_⟩
    rcases hu u with ⟨h',_⟩ | ⟨_,h'⟩
    .have:=u.1; omega
    .exact h'
  .rintro (o | ⟨l,p,e⟩) S
   .obtain ⟨z1,z2,z3⟩:=S
    simp only
    rw [Dw (by simp; omega),Ap]
    exact ⟨_,rfl,.inr ⟨rfl,o,_,rfl,z2,z3⟩⟩
   .exact ⟨_,rfl,.inl S⟩
 .rintro ⟨l,p,e⟩ (⟨h1,h2⟩ | ⟨h1,o,t,h2,h3,B⟩)
  .simp only at h1
   simp only [Cg h1,cond_false]
   exact ⟨_,rfl,by simp [h2]⟩
  .simp only at h1 h2
   subst h1; subst h2
   simp only [beq_self_eq_true,cond_true]
   match o,h3,B with
   | [],_,B=>exact ⟨false,by simp,by simp; intro u; cases B u⟩
   | [x],h3,B=>
    have e0:Au ([x]++[t]) 0=some x:=rfl
    simp only [e0,Ap,Ym]
    have e1:((([x]++[t]).length:Int)==2)=true:=rfl
    simp only [e1,cond_true]
    by_cases hx:x.Kind=2
    .simp only [Ct hx,cond_true]
     refine ⟨_,rfl,?_⟩
     rw [decide_eq_true_iff]
     constructor
     .intro h; rw [<-h]; exact h3 x (by simp) hx
     .intro u; have:=B u; simp at this; rw [this]
    .simp only [Cg hx,cond_false]
     refine ⟨_,rfl,?_⟩
     simp only [Bool.false_eq_true,false_iff]
     intro u; have:=B u; simp at this; rw [this] at hx; exact hx rfl
   | x::y::ys,_,B=>
    refine ⟨false,?_,by simp; intro u; have:=B u; simp at this⟩
    rw [Cg]
    .rfl
    .simp; omega
end Go.Ab
namespace Go.Ab
open Go
theorem Atv (s:ByteArray):∃b,U4 s=some b/\True:=by
 have key:∀(L:List ByteArray),L.length<1000->∃b,((Bc (S:=Int) (E:=(Bool⊕Unit)) (fun v2=>bif (decide (v2<(L.length:Int))) then ((Au L v2).bind fun v3=>bif (v3.toList==s.toList) then some (.inr (.inl true)) else some (.inl (Al (v2+1)))) else some (.inr (.inr ()))) 0).bind fun z=>match z with | .inl c=>some c | .inr _=>some false)=some b/\True:=by
  intro L f
  refine ⟨_,Jw L (fun v=>!(v.toList==s.toList)) (fun j=>(j:Int)) rfl (by omega) (rt:=false) (rf:=true) ?_ ?_,trivial⟩
  .intro j x hx h1 h2 h3
   simp only [h1,h2,h3,cond_true,Ap]
   cases (x.toList==s.toList) with
   | true=>exact ⟨(fun h=>by cases h),fun _=>⟨_,rfl,rfl⟩⟩
   | false=>exact ⟨fun _=>rfl,fun h=>by cases h⟩
  .intro h; exact ⟨.inr (),by simp only [h]; rfl,rfl⟩
 exact key _ (by decide)
theorem Atw (s:ByteArray) (h1:1<=s.size) (T:ByteArray) (q:T.size<1000):∃r,((Bc (S:=Int) (E:=(Int⊕Unit)) (fun v7=>bif (decide (v7<(T.size:Int))) then ((E2 s 0).bind fun k=>(E2 T v7).bind fun g=>bif ((k.toNat:Int)==(g.toNat:Int)) then some (.inr (.inl 1)) else some (.inl (Al (v7+1)))) else some (.inr (.inr ()))) 0).bind fun z=>match z with | .inl b=>some b | .inr _=>some 0)=some r/\(r=0\/(1<=r/\r<=s.size)):=by
 refine E3 (fun i=>∃j:Nat,i=j/\j<=T.size) (fun i=>T.size-i.toNat) (fun z=>∀r,z = .inl r->r=1) ⟨0,rfl,by omega⟩ ?_ ?_
 .rintro i ⟨j,rfl,hj⟩
  rcases Nat.lt_or_ge j T.size with h | h
  .obtain ⟨c,l,_⟩:=Gz (s:=T) (i:=(j:Int)) rfl h
   obtain ⟨d,d1,_⟩:=Gz (s:=s) (i:=0) (n:=0) rfl h1
   simp only [A4 (by omega:(j:Int)<(T.size:Int)),cond_true,l,d1,Ap,D3 h (by omega)]
   cases ((d.toNat:Int)==(c.toNat:Int)) with
   | true=>exact .inr ⟨_,rfl,fun r h=>by cases h; rfl⟩
   | false=>exact .inl ⟨_,rfl,⟨j+1,rfl,by omega⟩,by simp; omega⟩
  .have:j=T.size:=by omega
   subst this
   exact .inr ⟨.inr (),by simp,fun r h=>by cases h⟩
 .rintro (r | u) f
  .exact ⟨r,rfl,.inr (by have:=f r rfl; omega)⟩
  .exact ⟨0,rfl,.inl rfl⟩
theorem Atx (s:ByteArray) (h1:1<=s.size):∃r,S1 s=some r/\(r=0\/(1<=r/\r<=s.size)):=by
 unfold S1
 refine Vr (fun b=>b=true->2<=s.size) ?_ ?_
 .by_cases h2:2<=s.size
  .have c:D4 s 0 2=some (s.extract 0 2):=L7 rfl rfl (by omega) h2
   simp only [c,Ap]
   repeat' first | refine Ou ?_ ?_ | exact ⟨_,rfl,fun _=>h2⟩
  .rw [A8 (by omega)]
   exact ⟨_,rfl,fun h=>by cases h⟩
 .rintro b hb
  cases b with
  | true=>exact ⟨2,rfl,.inr ⟨by omega,by have:=hb rfl; omega⟩⟩
  | false=>exact Atw s h1 _ (by decide)
theorem Aty (s:ByteArray) (k:s.size<1099511627776):∃b,S0 s=some b/\True:=by
 unfold S0
 refine E3 (fun (_,i)=>∃j:Nat,i=j/\j<=s.size) (fun (_,i)=>s.size-i.toNat) (fun _=>True) ⟨0,rfl,by omega⟩ ?_ ?_
 .rintro ⟨v,i⟩ ⟨j,rfl,hj⟩
  rcases Nat.lt_or_ge j s.size with h | h
  .obtain ⟨c,f,_⟩:=Gz (s:=s) (i:=(j:Int)) rfl h
   simp only [A4 (by omega:(j:Int)<(s.size:Int)),cond_true,f,Ap,D3 h (by omega)]
   cases decide (Al (Al (v*10)+Al (wu8 ((c.toNat:Int)-48)))>1000000) with
   | true=>exact .inr ⟨_,rfl,trivial⟩
   | false=>exact .inl ⟨_,rfl,⟨j+1,rfl,by omega⟩,by simp; omega⟩
  .have:j=s.size:=by omega
   subst this
   exact .inr ⟨.inr v,by simp,trivial⟩
 .rintro (⟨r,g⟩ | u) _ <;> exact ⟨_,rfl,trivial⟩
theorem Aiv (s:ByteArray) (hs:s.size<1099511627776):∃b,Nw s=some b/\(b=true↔Ep s):=by
 unfold Nw U2
 by_cases R:(s.size:Int)>16384
 .rw [A4 R]
  refine ⟨false,rfl,by simp; rintro ⟨_,h,_⟩; omega⟩
 rw [A8 R]
 simp only [cond_false]
 refine Vr (fun r:List Fa×Int×Int=>(r.2.2≠0/\¬Ep s)\/(r.2.2=0/\∃o e,r.1=o++[e]/\(∀t∈o,t.Kind=2->Ep t.Text)/\(Ep s->o = [⟨2,s,0⟩]))) ?_ ?_
 .refine E3 (fun (v26,N)=>∃i:Nat,v26=i/\i<=s.size/\N.length<=i/\(∀t∈N,t.Kind=2->Ep t.Text)/\(Ep s->(i=0/\N = [])\/(i=s.size/\N = [⟨2,s,0⟩])))
   (fun (v26,_)=>s.size-v26.toNat)
   (fun z=>match z with | .inr o=>o.length<=16384/\(∀t∈o,t.Kind=2->Ep t.Text)/\(Ep s->o = [⟨2,s,0⟩]) | .inl (_,_,e)=>e≠0/\¬Ep s)
   ⟨0,rfl,by omega,by simp,by simp,fun _=>.inl ⟨rfl,rfl⟩⟩ ?_ ?_
  .rintro ⟨v,o⟩ ⟨i,rfl,hi,ho,hk,hu⟩
   rcases Nat.lt_or_ge i s.size with h | h
   .obtain ⟨c,E,D⟩:=Gz (s:=s) (i:=(i:Int)) rfl h
    have B:Ep s->i=0/\o = []:=fun u=>by
     rcases hu u with h' | h'
     .exact h'
     .omega
    have f:∀j:Nat,i<=j->j<=s.size->Al ((i:Int)+((j:Int)-(i:Int)))=(j:Int):=fun j _ _=>by rw [Al,Cl] <;> omega
    have a7:(bif bI s i==9 then some true else bif bI s i==10 then some true else bif bI s i==13 then some true else some (bI s i==32))=some (bI s i==9||bI s i==10||bI s i==13||bI s i==32):=by
     cases bI s i==9 <;> cases bI s i==10 <;> cases bI s i==13 <;> rfl
    have hw:(bif loI (bI s i) then some true else some (upI (bI s i)))=some (loI (bI s i)||upI (bI s i)):=by cases loI (bI s i) <;> rfl
    simp only [A4 (by omega:(i:Int)<(s.size:Int)),cond_true,E,Ap,D,a7,Atl,Atm,Atn,hw]
    cases a7:(bI s i==9||bI s i==10||bI s i==13||bI s i==32) with
    | true=>
     have k:¬Ep s:=by
      intro u
      have M:=(B u).1
      subst M
      have:=u.2.2.1
      simp only [upI,Dl,decide_eq_true_eq] at this
      simp only [Bool.or_eq_true,beq_iff_eq] at a7
      omega
     exact .inl ⟨(((i+1:Nat):Int),o),by simp only [cond_true]; rw [D3 h (by omega)],⟨i+1,rfl,by omega,(by show o.length<=i+1; omega),hk,fun u=>(k u).elim⟩,by simp; omega⟩
    | false=>
     simp only [cond_false]
     cases Y:(bI s i==35) with
     | true=>
      have k:¬Ep s:=by
       intro u
       have M:=(B u).1
       subst M
       have:=u.2.2.1
       simp only [upI,Dl,decide_eq_true_eq] at this
       simp only [beq_iff_eq] at Y
       omega
      simp only [cond_true]
      obtain ⟨n,n1,J,n3,n4,I⟩:=Tq (step:=fun G:Int=>bif (decide (G<(s.size:Int))) then ((E2 s G).bind fun am=>bif ((am.toNat:Int) != (10:Int)) then some (.inl (Al (G+1))) else some (.inr G)) else some (.inr G))
       s (fun c=>c != 10) (fun j=>(j:Int)) (fun j=>(j:Int)) 0 (fun j _ hj hp=>by
        obtain ⟨c,E,D⟩:=Gz (s:=s) (i:=(j:Int)) rfl hj
        simp only [A4 (by omega:(j:Int)<(s.size:Int)),cond_true,E,Ap,D,hp,D3 hj (by omega)]) (fun j _ hj hp=>by
        obtain ⟨c,E,D⟩:=Gz (s:=s) (i:=(j:Int)) rfl hj
        simp only [A4 (by omega:(j:Int)<(s.size:Int)),cond_true,E,Ap,D,hp,cond_false]) (by simp) (s.size-i) i (by omega) (by omega)
      have ao:i<n:=by
       rcases Nat.lt_or_ge i n with h' | h'
       .exact h'
       .have:n=i:=by omega
        subst this
        have:=n4 h
        simp only [beq_iff_eq] at Y
        rw [Y] at this; cases this
      have I:Bc _ (i:Int)=_:=I
      rw [I,Ap]
      exact .inl ⟨((n:Int),o),rfl,⟨n,rfl,by omega,(by show o.length<=n; omega),hk,fun u=>(k u).elim⟩,by simp; omega⟩
     | false=>
      simp only [cond_false]
      cases a6:(loI (bI s i)||upI (bI s i)) with
      | true=>
       simp only [cond_true]
       obtain ⟨n,n1,J,n3,n4,I⟩:=Tq (step:=fun g:Int=>bif (decide ((Al ((i:Int)+g))<(s.size:Int))) then ((E2 s (Al ((i:Int)+g))).bind fun ak=>(some (loI (ak.toNat:Int))).bind fun ad=>
         bif ad then some (.inl (Al (g+1))) else ((E2 s (Al ((i:Int)+g))).bind fun aj=>(some (upI (aj.toNat:Int))).bind fun ac=>bif ac then some (.inl (Al (g+1))) else
         ((E2 s (Al ((i:Int)+g))).bind fun ai=>(some (diI (ai.toNat:Int))).bind fun ab=>bif ab then some (.inl (Al (g+1))) else ((E2 s (Al ((i:Int)+g))).bind fun ah=>bif ((ah.toNat:Int)==(95:Int)) then some (.inl (Al (g+1))) else some (.inr g))))) else some (.inr g))
        s wiI (fun j=>(j:Int)-(i:Int)) (fun j=>(j:Int)-(i:Int)) i (fun j A hj hp=>by
         obtain ⟨c,E,D⟩:=Gz (s:=s) (i:=(j:Int)) rfl hj
         have e1:Al ((j:Int)-(i:Int)+1)=((j+1:Nat):Int)-(i:Int):=by rw [Al,Cl] <;> omega
         simp only [f j A (by omega),A4 (by omega:(j:Int)<(s.size:Int)),cond_true,E,Ap,D,e1]
         unfold wiI at hp
         revert hp
         cases loI (bI s j) <;> cases upI (bI s j) <;> cases diI (bI s j) <;> cases (bI s j==95) <;> simp) (fun j A hj hp=>by
         obtain ⟨c,E,D⟩:=Gz (s:=s) (i:=(j:Int)) rfl hj
         simp only [f j A (by omega),A4 (by omega:(j:Int)<(s.size:Int)),cond_true,E,Ap,D]
         unfold wiI at hp
         revert hp
         cases loI (bI s j) <;> cases upI (bI s j) <;> cases diI (bI s j) <;> cases (bI s j==95) <;> simp) (by
         simp only [f s.size hi (by omega)]; simp) (s.size-(i+1)) (i+1) (by omega) (by omega)
       have e0:((i+1:Nat):Int)-(i:Int)=1:=by omega
       simp only [e0] at I
       simp only [Ap] at I
       rw [I,Ap]
       have q:D4 s (i:Int) (Al ((i:Int)+((n:Int)-(i:Int))))=some (s.extract i n):=by rw [f n (by omega) J]; exact L7 rfl rfl (by omega) J
       have a8:(s.extract i n).size=n-i:=by rw [ByteArray.size_extract]; omega
       have aa:∀j,i<=j->j<n->wiI (bI s j)=true:=fun j a1 a2=>by
        rcases Nat.lt_or_ge i j with h' | h'
        .exact n3 j h' a2
        .have:j=i:=by omega
         subst this; unfold wiI; rw [a6]; rfl
       have L:Ep s->n=s.size:=by
        intro u
        rcases Nat.lt_or_ge n s.size with h' | h'
        .have:=n4 h'
         rw [u.2.2.2 _ h'] at this; cases this
        .omega
       by_cases ap:n-i<=24
       .rw [A8 (by omega)]
        simp only [cond_false]
        cases X:upI (bI s i) with
        | true=>
         simp only [cond_true,Ap,q]
         rw [Dw (by simp; omega),Ap,f n (by omega) J]
         refine .inl ⟨_,rfl,⟨n,rfl,J,by simp; omega,?_,?_⟩,by simp; omega⟩
         .intro t ht
          rcases List.mem_append.1 ht with h' | h'
          .exact hk t h'
          .simp only [List.mem_singleton] at h'
           subst h'
           intro _
           refine ⟨?_,?_,?_,?_⟩
           .show 1<=(s.extract i n).size; omega
           .show (s.extract i n).size<=24; omega
           .show upI (bI (s.extract i n) 0)=true
            rw [Q8 (by omega) (by omega)]; exact X
           .show ∀j,j<(s.extract i n).size->wiI (bI (s.extract i n) j)=true
            intro j hj
            rw [Q8 (by omega) (by omega)]
            exact aa _ (by omega) (by omega)
         .intro u
          obtain ⟨b1,b2⟩:=B u
          have hf:=L u
          subst b1; subst b2; subst hf
          rw [ByteArray.extract_zero_size]
          exact .inr ⟨rfl,rfl⟩
        | false=>
         obtain ⟨b,hb,_⟩:=Atv (s.extract i n)
         have k:¬Ep s:=by
          intro u
          have M:=(B u).1
          subst M
          rw [u.2.2.1] at X; cases X
         have af:∃V:Int,(bif b then some 4 else some 1:Option Int)=some V/\V≠2:=by cases b <;> exact ⟨_,rfl,by decide⟩
         obtain ⟨V,k1,k2⟩:=af
         simp only [cond_false,Ap,q,hb,k1]
         rw [Dw (by simp; omega),Ap,f n (by omega) J]
         refine .inl ⟨_,rfl,⟨n,rfl,J,by simp; omega,?_,fun u=>(k u).elim⟩,by simp; omega⟩
         intro t ht
         rcases List.mem_append.1 ht with h' | h'
         .exact hk t h'
         .simp only [List.mem_singleton] at h'
          subst h'
          intro h'; exact absurd h' k2
       .rw [A4 (by omega)]
        refine .inr ⟨_,rfl,(by show (9:Int)≠0; decide),fun u=>?_⟩
        have:=L u
        have:=u.2.1
        have:=(B u).1
        omega
      | false=>
       have k:¬Ep s:=by
        intro u
        have M:=(B u).1
        subst M
        rw [u.2.2.1,Bool.or_true] at a6; cases a6
       have S:∀(n:Nat) (V:Int),i<n->n<=s.size->V≠2->∃s':Int×List Fa,(Cr 32 o [(Fa.mk V (s.extract i n) i)]).bind (fun ae=>(some (Sum.inl ((n:Int),ae)):Option ((Int×List Fa)⊕((List Fa×Int×Int)⊕List Fa))))=some (.inl s') /\
         (∃j:Nat,s'.1=j/\j<=s.size/\s'.2.length<=j/\(∀t∈s'.2,t.Kind=2->Ep t.Text)/\(Ep s->(j=0/\s'.2 = [])\/(j=s.size/\s'.2 = [⟨2,s,0⟩])))/\s.size-s'.1.toNat<s.size-i:=by
        intro n V a1 a2 a3
        rw [Dw (by simp; omega),Ap]
        refine ⟨_,rfl,⟨n,rfl,a2,by simp; omega,?_,fun u=>(k u).elim⟩,by simp; omega⟩
        intro t ht
        rcases List.mem_append.1 ht with h' | h'
        .exact hk t h'
        .simp only [List.mem_singleton] at h'
         subst h'
         intro h'; exact absurd h' a3
       simp only [cond_false]
       cases hd:diI (bI s i) with
       | true=>
        simp only [cond_true]
        obtain ⟨n,n1,J,n3,n4,I⟩:=Tq (step:=fun v85:Int=>bif (decide ((Al ((i:Int)+v85))<(s.size:Int))) then ((E2 s (Al ((i:Int)+v85))).bind fun ag=>(some (diI (ag.toNat:Int))).bind fun v87=>
          bif v87 then some (.inl (Al (v85+1))) else some (.inr v85)) else some (.inr v85))
         s diI (fun j=>(j:Int)-(i:Int)) (fun j=>(j:Int)-(i:Int)) i (fun j A hj hp=>by
          obtain ⟨c,E,D⟩:=Gz (s:=s) (i:=(j:Int)) rfl hj
          have e1:Al ((j:Int)-(i:Int)+1)=((j+1:Nat):Int)-(i:Int):=by rw [Al,Cl] <;> omega
          simp only [f j A (by omega),A4 (by omega:(j:Int)<(s.size:Int)),cond_true,E,Ap,D,e1,hp]) (fun j A hj hp=>by
          obtain ⟨c,E,D⟩:=Gz (s:=s) (i:=(j:Int)) rfl hj
          simp only [f j A (by omega),A4 (by omega:(j:Int)<(s.size:Int)),cond_true,E,Ap,D,hp,cond_false]) (by
          simp only [f s.size hi (by omega)]; simp) (s.size-(i+1)) (i+1) (by omega) (by omega)
        have e0:((i+1:Nat):Int)-(i:Int)=1:=by omega
        simp only [e0] at I
        simp only [Ap] at I
        rw [I,Ap]
        have q:D4 s (i:Int) (n:Int)=some (s.extract i n):=L7 rfl rfl (by omega) J
        have a8:(s.extract i n).size=n-i:=by rw [ByteArray.size_extract]; omega
        obtain ⟨b,hb,_⟩:=Aty (s.extract i n) (by omega)
        obtain ⟨b',hb'⟩:∃b':Bool,(bif decide ((n:Int)-(i:Int)>1) then some (bI s i==48) else some false)=some b':=by cases decide ((n:Int)-(i:Int)>1) <;> exact ⟨_,rfl⟩
        simp only [hb',Ap,q,hb,f n (by omega) J]
        cases b' with
        | true=>exact .inr ⟨_,rfl,(by show (2:Int)≠0; decide),k⟩
        | false=>
         simp only [cond_false]
         cases b.2 with
         | true=>exact .inl (S n 3 (by omega) J (by decide))
         | false=>exact .inr ⟨_,rfl,(by show (9:Int)≠0; decide),k⟩
       | false=>
        have q:D4 s (i:Int) (s.size:Int)=some (s.extract i s.size):=L7 rfl rfl (by omega) (by omega)
        have a8:(s.extract i s.size).size=s.size-i:=by rw [ByteArray.size_extract]; omega
        obtain ⟨r,r1,r2⟩:=Atx (s.extract i s.size) (by omega)
        simp only [cond_false,q,Ap,r1]
        by_cases M:r=0
        .subst M
         exact .inr ⟨_,rfl,(by show (2:Int)≠0; decide),k⟩
        .simp only [Cg M,cond_false]
         obtain ⟨m,hm⟩:∃m:Nat,r=m:=⟨r.toNat,by omega⟩
         subst hm
         have e1:Al ((i:Int)+(m:Int))=((i+m:Nat):Int):=by rw [Al,Cl] <;> omega
         rw [e1,L7 (s:=s) (lo:=(i:Int)) (hi:=((i+m:Nat):Int)) rfl rfl (by omega) (by omega),Ap]
         exact .inl (S (i+m) 5 (by omega) (by omega) (by decide))
   .have:i=s.size:=by omega
    subst this
    refine .inr ⟨.inr o,by simp,by omega,hk,fun u=>?_⟩
    rcases hu u with ⟨h',_⟩ | ⟨_,h'⟩
    .have:=u.1; omega
    .exact h'
  .rintro (⟨l,p,e⟩ | o) hz
   .exact ⟨_,rfl,.inl hz⟩
   .obtain ⟨z1,z2,z3⟩:=hz
    simp only
    rw [Dw (by simp; omega),Ap]
    exact ⟨_,rfl,.inr ⟨rfl,o,_,rfl,z2,z3⟩⟩
 .rintro ⟨l,p,e⟩ (⟨h1,h2⟩ | ⟨h1,o,t,h2,h3,U⟩)
  .simp only at h1
   simp only [Cg h1,cond_false]
   exact ⟨_,rfl,by simp [h2]⟩
  .simp only at h1 h2
   subst h1; subst h2
   simp only [beq_self_eq_true,cond_true]
   match o,h3,U with
   | [],_,U=>exact ⟨false,by simp,by simp; intro u; cases U u⟩
   | [x],h3,U=>
    have e0:Au ([x]++[t]) 0=some x:=rfl
    simp only [e0,Ap,Ym]
    have e1:((([x]++[t]).length:Int)==2)=true:=rfl
    simp only [e1,cond_true]
    by_cases hx:x.Kind=2
    .simp only [Ct hx,cond_true]
     refine ⟨_,rfl,?_⟩
     rw [decide_eq_true_iff]
     constructor
     .intro h; rw [<-h]; exact h3 x (by simp) hx
     .intro u; have:=U u; simp at this; rw [this]
    .simp only [Cg hx,cond_false]
     refine ⟨_,rfl,?_⟩
     simp only [Bool.false_eq_true,false_iff]
     intro u; have:=U u; simp at this; rw [this] at hx; exact hx rfl
   | x::y::ys,_,U=>
    refine ⟨false,?_,by simp; intro u; have:=U u; simp at this⟩
    rw [Cg]
    .rfl
    .simp; omega
end Go.Ab
namespace Go.Ab
open Go
def Q9 (data:List A5) (d:Nat) (v:Int) (y:Jc):Prop:=Ep y.Name/\y.Args.length<=6/\y.Args.all (Ht data d v)=true
def Ov (data:List A5) (d:Nat) (x:A5):Prop:=0<=x.Vars/\x.Vars<=6/\1<=x.Cons.length/\x.Cons.length<=8/\Ep x.Name/\∀y∈x.Cons,Q9 data d x.Vars y
def Fk (x:A5):List ByteArray:=x.Cons.map (·.Name)
def Gi (data:List A5):Prop:=data.length<=12/\(∀d x,data[d]? = some x->Ov data d x)/\(data.map (·.Name)).Nodup/\(data.flatMap Fk).Nodup
structure DSz (data:List A5):Prop where
 len:data.length<=1048576
 sz:SzD data
 nm:∀x∈data,x.Name.size<=1048576
 cn:∀x∈data,∀y∈x.Cons,y.Name.size<=1048576
theorem Ach (a b:ByteArray):(a==b)=true↔a=b:=by
 constructor
 .intro h
  cases a with | mk a=>cases b with | mk b=>
  have:a=b:=by exact eq_of_beq h
  rw [this]
 .rintro rfl
  cases a with | mk a=>exact beq_self_eq_true a
def It (o:List (ByteArray×Bool)) (L:List ByteArray):Prop:=(∀p∈o,p.2=true)/\∀s,Fq o s=true↔s∈L
theorem It.nil:It [] []:=⟨by simp,by simp [Fq]⟩
theorem It.get {o:List (ByteArray×Bool)} {L:List ByteArray} (h:It o L) {s:ByteArray} (b:Fq o s=true):H5 o s false=true:=by
 unfold H5
 unfold Fq at b
 rw [List.any_eq_true] at b
 obtain ⟨p,g,f⟩:=b
 cases c:o.find? (fun p=>s==p.1) with
 | none=>exact absurd f (by have:=List.find?_eq_none.1 c p g; simpa using this)
 | some q=>exact h.1 q (List.mem_of_find?_eq_some c)
theorem Atz (o:List (ByteArray×Bool)) (s t:ByteArray) (v:Bool):Fq (Fr o s v) t=(Fq o t||t==s):=by
 induction o with
 | nil=>simp [Fr,Fq]
 | cons p o ih=>
  unfold Fr
  cases hp:(s==p.1) with
  | true=>
   have:s=p.1:=(Ach _ _).1 hp
   subst this
   simp only [cond_true,Fq,List.any_cons]
   cases t==p.1 <;> simp
  | false=>
   simp only [Fq,List.any_cons] at ih ⊢
   simp only [cond_false,List.any_cons,ih,Bool.or_assoc]
theorem It.put {o:List (ByteArray×Bool)} {L:List ByteArray} (h:It o L) (s:ByteArray):It (Fr o s true) (L++[s]):=by
 refine ⟨?_,fun t=>?_⟩
 .have:∀o:List (ByteArray×Bool),(∀p∈o,p.2=true)->∀p∈Fr o s true,p.2=true:=by
   intro o
   induction o with
   | nil=>intro _ p hp; simp [Fr] at hp; rw [hp]
   | cons q o ih=>
    intro b p hp
    unfold Fr at hp
    cases c:(s==q.1) with
    | true=>
     rw [c] at hp
     simp only [cond_true,List.mem_cons] at hp
     rcases hp with rfl | hp
     .rfl
     .exact b p (by simp [hp])
    | false=>
     rw [c] at hp
     simp only [cond_false,List.mem_cons] at hp
     rcases hp with rfl | hp
     .exact b _ (by simp)
     .exact ih (fun p hp=>b p (by simp [hp])) p hp
  exact this o h.1
 .rw [Atz,Bool.or_eq_true,h.2 t,Ach]; simp
theorem At0 (x:A5) {c:Nat} {y:Jc} (hy:x.Cons[c]? = some y):Fk x=(x.Cons.take c).map (·.Name)++y.Name::(x.Cons.drop (c+1)).map (·.Name):=by
 have h:=List.take_append_drop c x.Cons
 have hc:=Em hy
 have e:x.Cons.drop c=y::x.Cons.drop (c+1):=by
  rw [List.drop_eq_getElem_cons hc]
  rw [Cv hc] at hy
  rw [Option.some.inj hy]
 unfold Fk
 conv=>lhs; rw [<-h,e]
 simp
theorem Aiw {L m:List ByteArray} {s:ByteArray} (h:(L++s::m).Nodup):s ∉ L:=by
 rw [List.nodup_append] at h
 intro b
 exact h.2.2 s b s (by simp) rfl
theorem Aci {L:List ByteArray} {s:ByteArray} (h:L.Nodup) (c:s ∉ L):(L++[s]).Nodup:=by
 rw [List.nodup_append]
 refine ⟨h,by simp,?_⟩
 intro a ha b hb
 simp at hb; subst hb
 intro e; subst e; exact c ha
theorem At1 {data:List A5} (u:DSz data) {d:Nat} {x:A5} (hx:data[d]? = some x) (N:x.Vars<=6) (o:List (ByteArray×Bool)) (L:List ByteArray) (R:It o L) (V:L.Nodup) :
  ∃z,Bc (S:=(Int×(List (ByteArray×Bool)))) (E:=(Bool⊕(Int×(List (ByteArray×Bool))))) (fun (f,g)=>
    bif (decide (f<(x.Cons.length:Int))) then (
    (Au x.Cons f).bind fun i=>
    (N6 i.Name).bind fun D=>
    bif (!D) then some (.inr (.inl false))
    else (
    bif (Fq g i.Name) then (
    bif (H5 g i.Name (false:Bool)) then some (.inr (.inl false))
    else (
    (Mt data d f).bind fun B=>
    bif (!B) then some (.inr (.inl false))
    else some (.inl ((Al (f+1)),(Fr g i.Name true)))))
    else (
    (Mt data d f).bind fun A=>
    bif (!A) then some (.inr (.inl false))
    else some (.inl ((Al (f+1)),(Fr g i.Name true))))))
    else some (.inr (.inr (f,g)))) (0,o)=some z /\
   match z with
   | .inl r=>r=false/\¬((∀y∈x.Cons,Q9 data d x.Vars y)/\(L++Fk x).Nodup)
   | .inr (_,o')=>(∀y∈x.Cons,Q9 data d x.Vars y)/\(L++Fk x).Nodup/\It o' (L++Fk x):=by
 have hxm:=Cq hx
 have U:=(u.sz x hxm).1
 refine Rt (fun (f,g)=>∃c:Nat,f=c/\c<=x.Cons.length/\(∀y∈x.Cons.take c,Q9 data d x.Vars y)/\(L++(x.Cons.take c).map (·.Name)).Nodup/\It g (L++(x.Cons.take c).map (·.Name)))
  (fun (f,_)=>x.Cons.length-f.toNat) _ ?_ _ ⟨0,rfl,by omega,by simp,by simpa using V,by simpa using R⟩
 rintro ⟨v,g⟩ ⟨c,rfl,hc,h1,h2,h3⟩
 rcases Nat.lt_or_ge c x.Cons.length with h | h
 .have hy:x.Cons[c]? = some x.Cons[c]:=Cv h
  generalize x.Cons[c]=y at hy
  have q:=Cq hy
  obtain ⟨b,b1,b2⟩:=Aiu y.Name (by have:=u.cn x hxm y q; omega)
  have J:=D7 hy
  have I:L++Fk x=(L++(x.Cons.take c).map (·.Name))++y.Name::(x.Cons.drop (c+1)).map (·.Name):=by rw [At0 x hy]; simp
  simp only [A4 (by omega:(c:Int)<(x.Cons.length:Int)),cond_true,Cs rfl hy,Ap,b1,Atk u.sz d c hx hy N u.len,D3 h (by omega)]
  cases b with
  | false=>
   refine .inr ⟨.inl false,rfl,rfl,fun l=>?_⟩
   have:=b2.2 (l.1 y q).1; cases this
  | true=>
   simp only [Dr,cond_false]
   cases k:Fq g y.Name with
   | true=>
    simp only [cond_true,h3.get k]
    refine .inr ⟨.inl false,rfl,rfl,fun l=>?_⟩
    rw [I] at l
    exact Aiw l.2 ((h3.2 _).1 k)
   | false=>
    simp only [cond_false]
    cases j:(decide (y.Args.length<=6)&&y.Args.all (Ht data d x.Vars)) with
    | false=>
     refine .inr ⟨.inl false,rfl,rfl,fun l=>?_⟩
     have:=l.1 y q
     rw [this.2.2,A4 this.2.1] at j; cases j
    | true=>
     simp only [Dl,decide_eq_true_eq] at j
     have G:y.Name ∉ L++(x.Cons.take c).map (·.Name):=fun l=>by rw [(h3.2 _).2 l] at k; cases k
     have e:L++(x.Cons.take (c+1)).map (·.Name)=(L++(x.Cons.take c).map (·.Name))++[y.Name]:=by rw [J]; simp
     refine .inl ⟨_,rfl,⟨c+1,rfl,by omega,?_,?_,?_⟩,by simp; omega⟩
     .intro M s
      rw [J] at s
      rcases List.mem_append.1 s with h' | h'
      .exact h1 M h'
      .simp at h'; subst h'; exact ⟨b2.1 rfl,j.1,j.2⟩
     .rw [e]; exact Aci h2 G
     .rw [e]; exact h3.put _
 .have:c=x.Cons.length:=by omega
  subst this
  rw [List.take_length] at h1 h2 h3
  exact .inr ⟨.inr ((x.Cons.length:Int),g),by simp,h1,h2,h3⟩
theorem At2 {data:List A5} {d:Nat} {x:A5} (hx:data[d]? = some x):data.flatMap Fk=((data.take d).flatMap Fk++Fk x)++(data.drop (d+1)).flatMap Fk/\data.map (·.Name)=(data.take d).map (·.Name)++x.Name::(data.drop (d+1)).map (·.Name):=by
 have h:=List.take_append_drop d data
 have hc:=Em hx
 have e:data.drop d=x::data.drop (d+1):=by
  rw [List.drop_eq_getElem_cons hc]
  rw [Cv hc] at hx
  rw [Option.some.inj hx]
 constructor
 .conv=>lhs; rw [<-h,e]
  simp [List.flatMap_append]
 .conv=>lhs; rw [<-h,e]
  simp
theorem At3 {data:List A5} (j:DSz data):∃b,Sm data=some b/\(b=true↔Gi data):=by
 have I:=j.len
 unfold Sm
 rcases Nat.lt_or_ge 12 data.length with h12 | h12
 .rw [A4 (by omega)]
  exact ⟨false,rfl,by simp; intro h; have:=h.1; omega⟩
 rw [A8 (by omega)]
 simp only [cond_false]
 refine E3 (fun (v31,f,g)=>∃d:Nat,v31=d/\d<=data.length/\(∀k x,k<d->data[k]? = some x->Ov data k x)/\((data.take d).map (·.Name)).Nodup/\((data.take d).flatMap Fk).Nodup/\It f ((data.take d).map (·.Name))/\It g ((data.take d).flatMap Fk))
  (fun (v31,_,_)=>data.length-v31.toNat) (fun z=>match z with | .inl r=>r=false/\¬Gi data | .inr _=>Gi data) ⟨0,rfl,by omega,by intro k x h; omega,by simp,by simp,by simpa using It.nil,by simpa using It.nil⟩ ?_ ?_
 .rintro ⟨v,f,g⟩ ⟨d,rfl,hd,h1,h2,h3,B,Y⟩
  rcases Nat.lt_or_ge d data.length with h | h
  .have hx:data[d]? = some data[d]:=Cv h
   generalize data[d]=x at hx
   have hxm:=Cq hx
   obtain ⟨b,b1,b2⟩:=Aiu x.Name (by have:=j.nm x hxm; omega)
   obtain ⟨f1,f2⟩:=At2 hx
   simp only [A4 (by omega:(d:Int)<(data.length:Int)),cond_true,Cs rfl hx,Ap,b1]
   have bad:∀(y:¬Ov data d x),∃e:Bool⊕((List (ByteArray×Bool))×(List (ByteArray×Bool))),(some (Sum.inr (Sum.inl false)):Option ((Int×(List (ByteArray×Bool))×(List (ByteArray×Bool)))⊕(Bool⊕((List (ByteArray×Bool))×(List (ByteArray×Bool))))))=some (.inr e)/\(match e with | .inl r=>r=false/\¬Gi data | .inr _=>Gi data) :=
    fun y=>⟨.inl false,rfl,rfl,fun c=>y (c.2.1 d x hx)⟩
   cases b with
   | false=>
    exact .inr (bad fun c=>by have:=b2.2 c.2.2.2.2.1; cases this)
   | true=>
    simp only [Dr,cond_false]
    cases i:Fq f x.Name with
    | true=>
     simp only [cond_true,B.get i,Ap]
     refine .inr ⟨.inl false,rfl,rfl,fun c=>?_⟩
     have:=c.2.2.1
     rw [f2] at this
     exact Aiw this ((B.2 _).1 i)
    | false=>
     simp only [cond_false]
     by_cases q:x.Vars<0
     .simp only [A4 q,cond_true,Ap]
      exact .inr (bad fun c=>by have:=c.1; omega)
     by_cases u:x.Vars>6
     .simp only [A8 q,A4 u,cond_true,cond_false,Ap]
      exact .inr (bad fun c=>by have:=c.2.1; omega)
     simp only [A8 q,A8 u,cond_false,Ap]
     by_cases s:(x.Cons.length:Int)<1
     .simp only [A4 s,cond_true,Ap]
      exact .inr (bad fun c=>by have:=c.2.2.1; omega)
     by_cases A:(x.Cons.length:Int)>8
     .simp only [A8 s,A4 A,cond_true,cond_false,Ap]
      exact .inr (bad fun c=>by have:=c.2.2.2.1; omega)
     simp only [A8 s,A8 A,cond_false,Ap]
     obtain ⟨z,M,z2⟩:=At1 j hx (by omega) g _ Y h3
     rw [M,Ap]
     match z,z2 with
     | .inl r,z2=>
      obtain ⟨rfl,z2⟩:=z2
      refine .inr ⟨.inl false,rfl,rfl,fun c=>z2 ⟨(c.2.1 d x hx).2.2.2.2.2,?_⟩⟩
      have:=c.2.2.2
      rw [f1] at this
      exact (List.nodup_append.1 this).1
     | .inr (V,D),z2=>
      obtain ⟨S,R,N⟩:=z2
      have G:=D7 hx
      have E:x.Name ∉ (data.take d).map (·.Name):=fun c=>by rw [(B.2 _).2 c] at i; cases i
      have L:(data.take (d+1)).map (·.Name)=(data.take d).map (·.Name)++[x.Name]:=by rw [G]; simp
      have J:(data.take (d+1)).flatMap Fk=(data.take d).flatMap Fk++Fk x:=by rw [G]; simp [List.flatMap_append]
      refine .inl ⟨(((d+1:Nat):Int),Fr f x.Name true,D),by simp only [D3 h (by omega)],⟨d+1,rfl,by omega,?_,?_,?_,?_,?_⟩,by simp; omega⟩
      .intro k U X l
       rcases Nat.lt_or_ge k d with h' | h'
       .exact h1 k U h' l
       .have:k=d:=by omega
        subst this
        rw [hx] at l; cases l
        exact ⟨by omega,by omega,by omega,by omega,b2.1 rfl,S⟩
      .rw [L]; exact Aci h2 E
      .rw [J]; exact R
      .rw [L]; exact B.put _
      .rw [J]; exact N
  .have:d=data.length:=by omega
   subst this
   rw [List.take_length] at h2 h3
   exact .inr ⟨.inr (f,g),by simp,h12,fun d x hx=>h1 d x (Em hx) hx,h2,h3⟩
 .rintro (r | ⟨o,o'⟩) j
  .obtain ⟨rfl,j⟩:=j
   exact ⟨false,rfl,by simp [j]⟩
  .exact ⟨true,rfl,by simpa using j⟩
theorem Yn {data:List A5} (c:DSz data):∃b,Ns data=some b/\(b=true↔Gi data):=by
 obtain ⟨b,h1,h2⟩:=At3 c
 refine ⟨b,?_,h2⟩
 unfold Ns
 rw [h1,Ap]
 cases b with
 | false=>rfl
 | true=>rfl
end Go.Ab
