/- Plain laws: what the plain functions answer. -/
import Derived.Test.YtidkdnlhdbbbjaaGreatDoorAzPl0
import Derived.Lib.ItoaLen
namespace Go.Ab
open Go Ieee
theorem Arv (n d:Nat):∃c,Toward.even.cut false n d=c/\(n / 2 ^ d<=c)/\c<=n / 2 ^ d+1/\(n % 2 ^ d=0->c=n / 2 ^ d):=by
 refine ⟨_,rfl,?_⟩
 unfold Toward.cut
 simp only [Nat.shiftLeft_eq,Nat.one_mul]
 by_cases hd:d<=n.log2+2
 .rw [Nat.min_eq_left hd]
  generalize h2:2 ^ d=g
  have h:0<g:=by rw [<-h2]; exact Nat.pow_pos (by decide)
  refine ⟨by omega,?_,fun h0=>?_⟩
  .have:=Bool.toNat_le (decide (g<2*(n % g))||(g==2*(n % g)&&n / g % 2==1))
   omega
  .rw [h0]
   have h1:decide (g<2*0)=false:=by simp
   have h3:(g==2*0)=false:=by simp; omega
   rw [h1,h3]; rfl
 .rw [Nat.min_eq_right (by omega)]
  have b:n<2 ^ (n.log2+1):=Nat.lt_log2_self
  have h:2 ^ (n.log2+2)=2*2 ^ (n.log2+1):=by rw [Nat.pow_succ]; omega
  have f:2 ^ (n.log2+2)<=2 ^ d:=Nat.pow_le_pow_right (by decide) (by omega)
  have l:n / 2 ^ (n.log2+2)=0:=Nat.div_eq_of_lt (by omega)
  have k:n % 2 ^ (n.log2+2)=n:=Nat.mod_eq_of_lt (by omega)
  have j:n / 2 ^ d=0:=Nat.div_eq_of_lt (by omega)
  have i:n % 2 ^ d=n:=Nat.mod_eq_of_lt (by omega)
  rw [l,k,j,i]
  have h1:decide (2 ^ (n.log2+2)<2*n)=false:=by simp; omega
  have h3:(2 ^ (n.log2+2)==2*n)=false:=by simp; omega
  rw [h1,h3]
  exact ⟨by simp,by simp,fun _=>rfl⟩
theorem Q4 (f:Nat) (place e:Int) (u:f≠0) (E:place+f.log2=e) (h1 : -1000<=e) (h2:e<=900) :
  ∃(m:Nat) (p:Int),double.read (double.nearest false f place) = .number false m p/\4503599627370496<=m/\m<9007199254740992/\(p=e-52\/(p=e-51/\m=4503599627370496)):=by
 have g:max (place+f.log2-(double.fractionBits:Int)) double.leastPlace=e-52:=by
  have a:(double.fractionBits:Int)=52:=rfl
  have b:double.leastPlace = -1074:=by decide
  rw [a,b,E]; omega
 have hw:double.nearest false f place=min ((e-52+1074).toNat*4503599627370496+Toward.even.cut false (f <<< (place-(e-52)).toNat) ((e-52)-place).toNat) (2047*4503599627370496):=by
  unfold Format.nearest
  rw [if_neg u]
  simp only [g]
  have b:double.leastPlace = -1074:=by decide
  have c:double.binade=4503599627370496:=by decide
  have d:double.infRung=2047*4503599627370496:=by decide
  rw [b,c,d]
  unfold Format.word
  simp only [Bool.false_eq_true,if_false]
  congr 3
 have hk:4503599627370496<=Toward.even.cut false (f <<< (place-(e-52)).toNat) ((e-52)-place).toNat/\Toward.even.cut false (f <<< (place-(e-52)).toNat) ((e-52)-place).toNat<=9007199254740992:=by
  obtain ⟨c,hc,s,q,i⟩:=Arv (f <<< (place-(e-52)).toNat) ((e-52)-place).toNat
  rw [hc]
  have D:2 ^ f.log2<=f:=Nat.log2_self_le u
  have B:f<2 ^ (f.log2+1):=Nat.lt_log2_self
  rw [Nat.shiftLeft_eq] at s q i
  rcases Int.le_total place (e-52) with h | h
  .have z:(place-(e-52)).toNat=0:=by omega
   rw [z,Nat.pow_zero,Nat.mul_one] at s q i
   have hd:f.log2=52+((e-52)-place).toNat:=by omega
   have hp:2 ^ f.log2=4503599627370496*2 ^ ((e-52)-place).toNat:=by rw [hd,Nat.pow_add]
   have l:2 ^ (f.log2+1)=9007199254740992*2 ^ ((e-52)-place).toNat:=by rw [Nat.pow_succ,hp]; omega
   have hpos:0<2 ^ ((e-52)-place).toNat:=Nat.pow_pos (by decide)
   have a1:4503599627370496<=f / 2 ^ ((e-52)-place).toNat:=(Nat.le_div_iff_mul_le hpos).2 (by omega)
   have a2:f / 2 ^ ((e-52)-place).toNat<9007199254740992:=(Nat.div_lt_iff_lt_mul hpos).2 (by omega)
   omega
  .have z:((e-52)-place).toNat=0:=by omega
   rw [z,Nat.pow_zero,Nat.div_one] at s q i
   have I:=i (Nat.mod_one _)
   have hd:52=f.log2+(place-(e-52)).toNat:=by omega
   have hp:2 ^ f.log2*2 ^ (place-(e-52)).toNat=4503599627370496:=by rw [<-Nat.pow_add,<-hd]
   have l:2 ^ (f.log2+1)*2 ^ (place-(e-52)).toNat=9007199254740992:=by rw [Nat.pow_succ,Nat.mul_right_comm,hp]
   have hpos:0<2 ^ (place-(e-52)).toNat:=Nat.pow_pos (by decide)
   have a1:=Nat.mul_le_mul_right (2 ^ (place-(e-52)).toNat) D
   have a2:=Nat.mul_lt_mul_of_pos_right B hpos
   omega
 generalize Toward.even.cut false (f <<< (place-(e-52)).toNat) ((e-52)-place).toNat=c at *
 obtain ⟨t,ht⟩:∃t:Nat,(e-52+1074).toNat=t/\t<=1922/\(t:Int)=e+1022:=⟨_,rfl,by omega,by omega⟩
 rw [ht.1] at hw
 rw [Nat.min_eq_left (by omega)] at hw
 rw [hw]
 have b:double.leastPlace = -1074:=by decide
 have G:double.binade=4503599627370496:=by decide
 have d:double.infRung=2047*4503599627370496:=by decide
 have x:double.signWeight=9223372036854775808:=by decide
 unfold Format.read
 rw [b,G,d,x]
 have A:(t*4503599627370496+c) / 9223372036854775808=0:=Nat.div_eq_of_lt (by omega)
 have y:(t*4503599627370496+c) % 9223372036854775808=t*4503599627370496+c:=Nat.mod_eq_of_lt (by omega)
 simp only [A,y]
 rw [if_neg (by omega),if_pos (by omega)]
 by_cases hc:c<9007199254740992
 .refine ⟨c,e-52,?_,hk.1,hc,.inl rfl⟩
  have k:(t*4503599627370496+c) % 4503599627370496=c-4503599627370496:=by omega
  have j:(t*4503599627370496+c) / 4503599627370496=t+1:=by omega
  rw [k,j,show 4503599627370496+(c-4503599627370496)=c by omega,show (-1074:Int)+((t+1-1:Nat):Int)=e-52 by omega]; rfl
 .have hc:c=9007199254740992:=by omega
  subst hc
  refine ⟨4503599627370496,e-51,?_,by decide,by decide,.inr ⟨rfl,rfl⟩⟩
  have k:(t*4503599627370496+9007199254740992) % 4503599627370496=0:=by omega
  have j:(t*4503599627370496+9007199254740992) / 4503599627370496=t+2:=by omega
  rw [k,j,Nat.add_zero,show (-1074:Int)+((t+2-1:Nat):Int)=e-51 by omega]; rfl
theorem Abz (v:Int) (h:0<=v):floatOfInt .f64 v=double.nearest false v.natAbs 0:=by
 have e:decide (v<0)=false:=Ar (by omega)
 show double.nearest (decide (v<0)) v.natAbs 0=_
 rw [e]
theorem Arw:double.read 4876203697187506176 = .number false 7812500000000000 7:=by decide
theorem X5 {n k:Nat} (h1:2 ^ k<=n) (h2:n<2 ^ (k+1)):n.log2=k:=(Nat.log2_eq_iff (by have:=Nat.pow_pos (n:=k) (show 0<2 by decide); omega)).2 ⟨h1,h2⟩
theorem T1 {n k:Nat} (h:n<2 ^ (k+1)):n.log2<=k:=by
 by_cases h0:n=0
 .subst h0; simp
 .have:=(Nat.log2_lt h0).2 h; omega
theorem Ab0 {n k:Nat} (h:2 ^ k<=n):k<=n.log2:=(Nat.le_log2 (by have:=Nat.pow_pos (n:=k) (show 0<2 by decide); omega)).2 h
theorem Arx (x:Int) (h0:1<=x) (h1:x<1000000000):∃(w:Nat) (m:Nat) (p:Int),floatBits .mul .f64 (floatOfInt .f64 x) 4876203697187506176=some w/\double.read w = .number false m p/\4503599627370496<=m/\m<9007199254740992/\7<=p/\(p<=37\/(p=38/\m=4503599627370496)):=by
 have l:x.natAbs.log2<=29:=T1 (by simp; omega)
 obtain ⟨m1,b,g,a1,a2,a3⟩:=Q4 x.natAbs 0 (x.natAbs.log2) (by omega) (by omega) (by omega) (by omega)
 have c:(m1*7812500000000000).log2=104\/((m1*7812500000000000).log2=105/\m1≠4503599627370496):=by
  have b1:2 ^ 104<=m1*7812500000000000:=by omega
  have b2:m1*7812500000000000<2 ^ 106:=by omega
  rcases Nat.lt_or_ge (m1*7812500000000000) (2 ^ 105) with h | h
  .exact .inl (X5 b1 h)
  .exact .inr ⟨X5 h b2,by rintro rfl; omega⟩
 obtain ⟨m2,i,f,k,j,q⟩:=Q4 (m1*7812500000000000) (b+7) (b+7+(m1*7812500000000000).log2) (by omega) rfl (by omega) (by omega)
 refine ⟨double.nearest false (m1*7812500000000000) (b+7),m2,i,?_,f,k,j,by omega,by omega⟩
 show ((double.read (floatOfInt .f64 x)).product (double.read 4876203697187506176)).map double.write=_
 rw [Abz x (by omega),g,Arw]; rfl
theorem Ary (w:Nat) (m:Nat) (p:Int) (hw:double.read w = .number false m p) (M:4503599627370496<=m) (L:m<9007199254740992) (I:7<=p) (j:p<=37\/(p=38/\m=4503599627370496)) (y:Int) (h0:0<=y) (h1:y<1000000000000000000) :
  ∃(w':Nat) (g:Nat) (f:Int),floatBits .add .f64 w (floatOfInt .f64 y)=some w'/\double.read w' = .number false g f/\4503599627370496<=g/\g<9007199254740992/\7<=f/\f<=39:=by
 obtain ⟨c,b,x,V,U⟩:∃(c:Nat) (b:Int),double.read (floatOfInt .f64 y) = .number false c b/\b<=8/\c<9007199254740992/\-1074<=b:=by
  rw [Abz y h0]
  by_cases hy:y.natAbs=0
  .rw [hy]; exact ⟨0,-1074,by decide,by decide,by decide,by decide⟩
  .have Z:y.natAbs.log2<=59:=T1 (by simp; omega)
   obtain ⟨m1,D,A,a1,a2,a3⟩:=Q4 y.natAbs 0 (y.natAbs.log2) hy (by omega) (by omega) (by omega)
   exact ⟨m1,D,A,by omega,a2,by omega⟩
 generalize hb:min p b=base
 have ht:∃T:Nat,signed false m (p-base).toNat+signed false c (b-base).toNat=(T:Int)/\T=m*2 ^ (p-base).toNat+c*2 ^ (b-base).toNat:=by
  refine ⟨m <<< (p-base).toNat+c <<< (b-base).toNat,rfl,by rw [Nat.shiftLeft_eq,Nat.shiftLeft_eq]⟩
 obtain ⟨T,t1,t2⟩:=ht
 have G:0<2 ^ (p-base).toNat:=Nat.pow_pos (by decide)
 have i:2 ^ (b-base).toNat<=2 ^ (8-base).toNat:=Nat.pow_le_pow_right (by decide) (by omega)
 have J:m*2 ^ (p-base).toNat<=2 ^ (90-base).toNat:=by
  rcases j with h | ⟨rfl,rfl⟩
  .have e:2 ^ (90-base).toNat=2 ^ (p-base).toNat*2 ^ (90-p).toNat:=by rw [<-Nat.pow_add]; congr 1; omega
   have e2:2 ^ 53<=2 ^ (90-p).toNat:=Nat.pow_le_pow_right (by decide) (by omega)
   rw [e,Nat.mul_comm]
   exact Nat.mul_le_mul_left _ (by omega)
  .have e:2 ^ (90-base).toNat=2 ^ (38-base).toNat*2 ^ 52:=by rw [<-Nat.pow_add]; congr 1; omega
   rw [e,Nat.mul_comm]; omega
 have E:c*2 ^ (b-base).toNat<2 ^ (90-base).toNat:=by
  have e:2 ^ (90-base).toNat=2 ^ (8-base).toNat*2 ^ 82:=by rw [<-Nat.pow_add]; congr 1; omega
  have e3:c*2 ^ (b-base).toNat<=c*2 ^ (8-base).toNat:=Nat.mul_le_mul_left _ i
  have N:0<2 ^ (8-base).toNat:=Nat.pow_pos (by decide)
  have e5:c*2 ^ (8-base).toNat<2 ^ 82*2 ^ (8-base).toNat:=Nat.mul_lt_mul_of_pos_right (by omega) N
  rw [e,Nat.mul_comm (2 ^ (8-base).toNat)]; omega
 have s:T<2 ^ ((90-base).toNat+1):=by rw [Nat.pow_succ]; omega
 have q:2 ^ (52+(p-base).toNat)<=T:=by
  have:2 ^ 52*2 ^ (p-base).toNat<=m*2 ^ (p-base).toNat:=Nat.mul_le_mul_right _ (by omega)
  rw [Nat.pow_add]; omega
 have Y:=T1 s
 have X:=Ab0 q
 have u:T≠0:=by
  have:=Nat.pow_pos (n:=52+(p-base).toNat) (show 0<2 by decide); omega
 obtain ⟨m3,B,z,S,R,c3⟩:=Q4 T base (base+T.log2) u rfl (by omega) (by omega)
 refine ⟨double.nearest false T base,m3,B,?_,z,S,R,by omega,by omega⟩
 show ((double.read w).sum (double.read (floatOfInt .f64 y))).map double.write=_
 rw [hw,x]
 have l:¬((T:Int)=0):=by omega
 have k:decide ((T:Int)<0)=false:=Ar (by omega)
 simp only [Datum.sum,hb,t1,if_neg l,k,Option.map_some,Int.natAbs_natCast,Format.write]
theorem Arz {b m N:Nat} {p:Int} (g:double.read b = .number false m p) (i:(Datum.number false m p).toInt .zero=some (N:Int)) (h:N<=9223372036854775808):floatToIntVal .f64 b .u64=some (N:Int):=by
 have hd:FloatKind.f64.decode b = .number false m p:=g
 have f:IntKind.u64.min=0:=by decide
 have c:IntKind.u64.max=18446744073709551615:=by decide
 unfold floatToIntVal
 rw [hd,i]
 simp only [f,c]
 rw [if_pos ⟨by omega,by omega⟩]
theorem Ar0 (w:Nat) (m:Nat) (p:Int) (hw:double.read w = .number false m p) (R:4503599627370496<=m) (M:m<9007199254740992) (L:7<=p) (J:p<=39) (z:Int) (h0:1000000000<=z) (h1:z<1000000000000000000) :
  ∃(w':Nat) (n:Int),floatBits .quo .f64 w (floatOfInt .f64 z)=some w'/\floatToIntVal .f64 w' .u64=some n/\0<=n/\n<=9223372036854775808:=by
 have U:z.natAbs.log2<=59:=T1 (by simp; omega)
 have S:29<=z.natAbs.log2:=Ab0 (by simp; omega)
 obtain ⟨f,c,u,a1,a2,a3⟩:=Q4 z.natAbs 0 (z.natAbs.log2) (by omega) (by omega) (by omega) (by omega)
 have D:m.log2=52:=X5 (by omega) (by omega)
 have y:f.log2=52:=X5 (by omega) (by omega)
 generalize hq:m*2 ^ 54 / f=q
 generalize l:((m*2 ^ 54 % f != 0).toNat)=s
 have E:s<=1:=by rw [<-l]; exact Bool.toNat_le _
 have I:q<2 ^ 55:=by rw [<-hq]; exact (Nat.div_lt_iff_lt_mul (by omega)).2 (by omega)
 have G:2 ^ 53<=q:=by rw [<-hq]; exact (Nat.le_div_iff_mul_le (by omega)).2 (by omega)
 have B:(2*q+s).log2<=55:=T1 (by omega)
 have A:54<=(2*q+s).log2:=Ab0 (by omega)
 obtain ⟨m4,b,x,c1,Y,Z⟩:=Q4 (2*q+s) (p-c-(54:Nat)-1) (p-c-(54:Nat)-1+(2*q+s).log2) (by omega) rfl (by omega) (by omega)
 have j:(Datum.number false m p).quotient (double.fractionBits+2) (Datum.number false f c)=some (.number false (2*q+s) (p-c-(54:Nat)-1)):=by
  have i:¬f=0:=by omega
  have X:double.fractionBits+2=54:=rfl
  simp only [Datum.quotient,if_neg i,X,D,y,Nat.shiftLeft_eq,Nat.add_sub_cancel,hq,l,Bool.xor_self]
 have hb:m4*2 ^ b.toNat<=9223372036854775808:=by
  have k:b<=10\/(b=11/\m4=4503599627370496):=by omega
  rcases k with h | ⟨rfl,rfl⟩
  .have:2 ^ b.toNat<=2 ^ 10:=Nat.pow_le_pow_right (by decide) (by omega)
   have:=Nat.mul_le_mul (Nat.le_of_lt Y) this
   omega
  .decide
 obtain ⟨N,V,g⟩:∃N:Nat,(Datum.number false m4 b).toInt .zero=some (N:Int)/\N<=9223372036854775808:=by
  refine ⟨(m4 <<< b.toNat) / (1 <<< min (-b).toNat ((m4 <<< b.toNat).log2+2)),?_,?_⟩
  .simp only [Datum.toInt,Datum.integral,Toward.cut,signed,Bool.false_eq_true,if_false,Nat.shiftLeft_zero,Bool.toNat_false,Nat.add_zero]
  .rw [Nat.shiftLeft_eq m4]
   exact Nat.le_trans (Nat.div_le_self _ _) hb
 refine ⟨double.nearest false (2*q+s) (p-c-(54:Nat)-1),(N:Int),?_,?_,by omega,by omega⟩
 .have e:floatBits .quo .f64 w (floatOfInt .f64 z)=((double.read w).quotient (double.fractionBits+2) (double.read (floatOfInt .f64 z))).map double.write:=rfl
  rw [e,hw,Abz z (by omega),u,j]
  simp only [Option.map_some,Format.write]
 .exact Arz x V g
theorem Ar1 (r n:Nat) (h2:2<=A6 n) (E:A6 r<=A6 n+1) (G:A6 n<1099511627776):∃d:Nat,Wv (Ad r) (Ad n)=some (d:Int)/\d<1000000000:=by
 unfold Wv
 unfold A6 at h2 E G
 have c:n≠0:=by rintro rfl; rw [Eh] at h2; simp at h2
 by_cases V:(Ad r).length<(Ad n).length
 .exact ⟨0,by rw [Al (by omega)]; rfl,by decide⟩
 .rw [Ar (by omega),cond_false]
  have y:Ac (((Ad n).length:Int)-1)=(((Ad n).length-1:Nat):Int):=by rw [Ac,Bo] <;> omega
  have u:Ac (((Ad n).length:Int)-2)=(((Ad n).length-2:Nat):Int):=by rw [Ac,Bo] <;> omega
  have i1:(Ad n).length-1<(Ad n).length:=by omega
  have i2:(Ad n).length-2<(Ad n).length:=by omega
  have h:(Ad n).length-1<(Ad r).length:=by omega
  have g:(Ad n).length-2<(Ad r).length:=by omega
  have t1:=(Du n).get i1
  have t2:=(Du n).get i2
  have M:=(Du r).get h
  have L:=(Du r).get g
  have i:(Ad n)[(Ad n).length-1]≠0:=by
   have:=(Xr n).2 (Gq c)
   rwa [List.getLast_eq_getElem] at this
  rw [y,u,Dc rfl i1,Ae,Dc rfl i2,Ae,Dc rfl h,Ae,Dc rfl g,Ae]
  generalize (Ad n)[(Ad n).length-1]=a1 at *
  generalize (Ad n)[(Ad n).length-2]=a2 at *
  generalize (Ad r)[(Ad n).length-1]=b1 at *
  generalize (Ad r)[(Ad n).length-2]=b2 at *
  have l:Ap (Ap (Ap b1*1000000000)+Ap b2)=b1*1000000000+b2:=by
   rw [show Ap b1=b1 from Cq (by omega) (by omega),show Ap b2=b2 from Cq (by omega) (by omega),show Ap (b1*1000000000)=b1*1000000000 from Cq (by omega) (by omega)]
   exact Cq (by omega) (by omega)
  have j:Ap (Ap (Ap a1*1000000000)+Ap a2)=a1*1000000000+a2:=by
   rw [show Ap a1=a1 from Cq (by omega) (by omega),show Ap a2=a2 from Cq (by omega) (by omega),show Ap (a1*1000000000)=a1*1000000000 from Cq (by omega) (by omega)]
   exact Cq (by omega) (by omega)
  rw [l,j]
  by_cases X:(Ad r).length=(Ad n).length
  .rw [Ez (by omega),cond_true,I3 (by omega) (by omega) (by omega),Ae]
   have R:0<=(b1*1000000000+b2) / (a1*1000000000+a2):=Int.ediv_nonneg (by omega) (by omega)
   have N:(b1*1000000000+b2) / (a1*1000000000+a2)<1000000000:=Int.ediv_lt_of_lt_mul (by omega) (by omega)
   exact ⟨((b1*1000000000+b2) / (a1*1000000000+a2)).toNat,by congr 1; omega,by omega⟩
  .have hk:(Ad n).length<(Ad r).length:=by omega
   have b:r≠0:=by rintro rfl; rw [Eh] at hk; simp at hk
   have J:=(Du r).get hk
   have f:(Ad r)[(Ad n).length]≠0:=by
    have:=(Xr r).2 (Gq b)
    rw [List.getLast_eq_getElem] at this
    have e:(Ad r).length-1=(Ad n).length:=by omega
    simpa [e] using this
   rw [Cu (by omega),cond_false,Dc rfl hk,Ae]
   generalize (Ad r)[(Ad n).length]=x at *
   obtain ⟨s,m3,A,f1,f2,f3,f4,f5,f6⟩:=Arx x (by omega) (by omega)
   obtain ⟨q,m4,z,g1,g2,g3,g4,g5,g6⟩:=Ary s m3 A f2 f3 f4 f5 f6 (b1*1000000000+b2) (by omega) (by omega)
   obtain ⟨I,k,D,B,U,S⟩:=Ar0 q m4 z g2 g3 g4 g5 g6 (a1*1000000000+a2) (by omega) (by omega)
   rw [f1,Ae,g1,Ae,D,Ae,B,Ae,show Ap (k+2)=k+2 from Cq (by omega) (by omega)]
   by_cases hc:(999999999:Int)<k+2
   .exact ⟨999999999,by rw [if_pos hc]; rfl,by decide⟩
   .exact ⟨(k+2).toNat,by rw [if_neg hc]; congr 1; omega,by omega⟩
end Go.Ab
namespace Go.Ab
open Go
theorem Ar2 (x r:Nat):A6 (x % 1000000000+1000000000*r)<=A6 r+1:=by
 apply Ih
 have:=K2 r
 rw [Nat.pow_succ]
 omega
set_option maxHeartbeats 1000000 in
theorem Ab1 (m n:Nat) (hm:A6 m<137438953472) (hn:A6 n<137438953472) (D:n≠0):P7 (Ad m) (Ad n)=some (Ad (m / n),Ad (m % n)):=by
 unfold P7
 rw [X2,Q2 m n (by omega) (by omega),Ae]
 have af:=hm
 have ae:=hn
 unfold A6 at hm hn
 by_cases l:m<n
 .rw [show D8 m n = -1 by rw [D8,if_pos l],Al (by decide:(-1:Int)<0),cond_true,Ov _ (by omega),Ae,Arc (Xr m),Nat.div_eq_of_lt l,Nat.mod_eq_of_lt l,Eh]
 .rw [Ar (show ¬D8 m n<0 by rw [D8,if_neg l]; split <;> decide),cond_false]
  have a8:(Ad n).length≠0:=fun e=>Gq D (List.length_eq_zero_iff.1 e)
  by_cases h1:(Ad n).length=1
  .rw [Ez (by omega:((Ad n).length:Int)=1),cond_true]
   have B:n<1000000000:=by
    have:=K2 n
    rw [show A6 n=1 from h1] at this
    simpa using this
   have Y:Ad n = [(n:Int)]:=by
    rw [Ke D,Nat.div_eq_of_lt B,Eh,Nat.mod_eq_of_lt B]
   rw [Y,show Ag [(n:Int)] 0=some (n:Int) from rfl,Ae,show Ap (n:Int)=n from Cq (by omega) (by omega),Ars m n (by omega) (by omega) (by omega),Ae]
   have a7:m % n<n:=Nat.mod_lt _ (by omega)
   rw [Ah4,Qz (m % n) (by omega),Ae]
  .rw [Cu (by omega:((Ad n).length:Int)≠1),cond_false]
   have hw:Ac (((Ad m).length:Int)-1)=((Ad m).length:Int)-1:=by rw [Ac,Bo] <;> omega
   rw [Hw rfl rfl (Nat.le_refl _) (by omega) (by omega),hw]
   simp only [Ae]
   have ha:=Du m
   refine Gp (fun (r,i,q)=>∃(k R:Nat),r=Ad R/\i=(k:Int)-1/\k<=(Ad m).length/\R<n/\q.length=(Ad m).length/\Bk q/\Ah (q.drop k)*n+R=Ah ((Ad m).drop k))
    (fun (_,i,_)=>(i+1).toNat) (fun (r,q)=>∃R:Nat,r=Ad R/\R<n/\q.length=(Ad m).length/\Bk q/\Ah q*n+R=m)
    ⟨(Ad m).length,0,by rw [Eh],rfl,Nat.le_refl _,by omega,by simp,Bk.replicate _,by simp [Ah]⟩ ?_ ?_
   .rintro ⟨r,i,q⟩ ⟨k,R,rfl,rfl,hk,J,u,g,A⟩
    cases k with
    | zero=>exact .inr ⟨(Ad R,q),by simp,R,rfl,J,u,g,by simpa [D1] using A⟩
    | succ j=>
     have hj:j<(Ad m).length:=by omega
     have E:j<q.length:=by omega
     have hx:=ha.get hj
     obtain ⟨x,y⟩:∃x:Nat,(Ad m)[j]=(x:Int):=⟨(Ad m)[j].toNat,by omega⟩
     have L:x<1000000000:=by omega
     have e0:((j+1:Nat):Int)-1=(j:Int):=by omega
     have e1:decide ((j:Int)>=0)=true:=Al (by omega)
     have Z:A6 R<=A6 n:=Gr (by omega)
     have ac:A6 (x+1000000000*R)<=A6 R+1:=by
      have:=Ar2 x R
      rwa [Nat.mod_eq_of_lt L] at this
     have ah:(Ad R).length<=(Ad n).length:=Z
     have G:I2 ((x:Int)::Ad R)=some (Ad (x+1000000000*R)):=by
      rw [Ov _ (by simp; omega)]
      congr 1
      refine I4 ?_ ?_
      .intro d hd
       rcases List.mem_cons.1 hd with rfl | hd
       .omega
       .exact Du R d hd
      .simp only [Ah,D1]; omega
     obtain ⟨d0,U,ag⟩:=Ar1 (x+1000000000*R) n (by unfold A6; omega) (by omega) (by omega)
     generalize a6:x+1000000000*R=f at *
     have ab:f<1000000000*n:=by omega
     have s:∀d:Nat,d<18446744073709551616->Qc (d:Int)=some (Ad d)/\Lu (Ad n) (Ad d)=some (Ad (n*d)):=by
      intro d hd
      have:=Qy hd
      exact ⟨by rw [Ah4,Qz d hd],X4 n d (by omega) (by omega)⟩
     have I:∀d:Nat,d<18446744073709551616->N1 (Ad (n*d)) (Ad f)=some (D8 (n*d) f):=by
      intro d hd
      have h3:=Qy hd
      have h4:=G5 n d
      rw [X2,Q2 _ _ (by omega) (by omega)]
     simp only [e0,e1,cond_true,Dc rfl hj,y,Ae,Dm (show ([(x:Int)].length+(Ad R).length)*4<=_ by simp; omega),List.singleton_append,G,U]
     refine .inl (Xn (Ew (fun d=>∃e:Nat,d=e/\e<=d0) (fun d=>d.toNat) (fun d=>∃e:Nat,d=e/\e<=d0/\n*e<=f) ⟨d0,rfl,Nat.le_refl _⟩ ?_ ?_))
     .rintro d ⟨e,rfl,he⟩
      by_cases X:e=0
      .subst X
       exact .inr ⟨0,rfl,0,rfl,by omega,by simp⟩
      .obtain ⟨m1,m2⟩:=s e (by omega)
       simp only [Al (by omega:(e:Int)>0),cond_true,m1,m2,I e (by omega),Ae]
       by_cases hc:f<n*e
       .refine .inl ⟨((e-1:Nat):Int),?_,⟨e-1,rfl,by omega⟩,by simp; omega⟩
        rw [show D8 (n*e) f=1 by rw [D8,if_neg (by omega),if_pos hc],show decide ((1:Int)>0)=true from rfl,cond_true,show Ap ((e:Int)-1)=((e-1:Nat):Int) by rw [Ap,Cq] <;> omega]
       .refine .inr ⟨(e:Int),?_,e,rfl,he,by omega⟩
        rw [Ar (show ¬D8 (n*e) f>0 by rw [D8,if_neg hc]; split <;> decide),cond_false]
     .rintro d ⟨e,rfl,he,N⟩
      obtain ⟨m1,m2⟩:=s e (by omega)
      simp only [m1,m2,Ae,X3 f (n*e) (by omega) N]
      refine Ew (fun (r,d)=>∃(c b:Nat),r=Ad c/\d=b/\n*b+c=f) (fun (r,_)=>(Ah r).toNat) (fun (r,d)=>∃(c b:Nat),r=Ad c/\d=b/\n*b+c=f/\c<n) ⟨f-n*e,e,rfl,rfl,by omega⟩ ?_ ?_
      .rintro ⟨r,d⟩ ⟨c,b,rfl,rfl,M⟩
       have aa:A6 c<=A6 f:=Gr (by omega)
       have V:b<1000000000:=by
        rcases Nat.lt_or_ge b 1000000000 with h | h
        .exact h
        .exfalso
         have:n*1000000000<=n*b:=Nat.mul_le_mul_left n h
         omega
       simp only [X2,Q2 c n (by omega) (by omega),Ae]
       by_cases hc:c<n
       .refine .inr ⟨(Ad c,(b:Int)),?_,c,b,rfl,rfl,M,hc⟩
        rw [Ar (show ¬D8 c n>=0 by rw [D8,if_pos hc]; decide),cond_false]
       .refine .inl ⟨(Ad (c-n),((b+1:Nat):Int)),?_,⟨c-n,b+1,rfl,rfl,?_⟩,?_⟩
        .rw [Al (show D8 c n>=0 by rw [D8,if_neg hc]; split <;> decide),cond_true,X3 c n (by omega) (by omega),Ae,show Ap ((b:Int)+1)=((b+1:Nat):Int) by rw [Ap,Cq] <;> omega]
        .rw [Nat.mul_add]; omega
        .simp only [D1]; omega
      .rintro ⟨r,d⟩ ⟨c,b,rfl,rfl,M,a1⟩
       have V:b<1000000000:=by
        rcases Nat.lt_or_ge b 1000000000 with h | h
        .exact h
        .exfalso
         have:n*1000000000<=n*b:=Nat.mul_le_mul_left n h
         omega
       have w1:Bw (b:Int)=b:=Ef (by omega) (by omega)
       have w8:Ac ((j:Int)-1)=(j:Int)-1:=by rw [Ac,Bo] <;> omega
       refine ⟨_,by simp only [Dc rfl E,Ae,w1,w8,Ey rfl],(Ad c,(j:Int)-1,q.set j (b:Int)),rfl,⟨j,c,rfl,rfl,by omega,a1,by simpa using u,g.set _ (by omega) (by omega),?_⟩,by simp⟩
       have d1:(q.set j (b:Int)).drop j=(b:Int)::q.drop (j+1):=by
        rw [List.drop_eq_getElem_cons (by simpa using E),List.drop_set_of_lt (by omega)]; simp
       rw [d1,List.drop_eq_getElem_cons hj,y]
       simp only [Ah]
       rw [<-A]
       have:((n*b+c:Nat):Int)=((x+1000000000*R:Nat):Int):=by rw [M,a6]
       simp only [Int.natCast_add,Int.natCast_mul] at this
       grind
   .rintro ⟨r,q⟩ ⟨R,rfl,J,u,g,A⟩
    dsimp only
    have ad:=Fh g.u32
    obtain ⟨Q,hQ⟩:∃Q:Nat,Ah q=Q:=⟨(Ah q).toNat,by omega⟩
    rw [hQ] at A
    have z:Q*n+R=m:=by
     have:((Q*n+R:Nat):Int)=(m:Int):=by simp only [Int.natCast_add,Int.natCast_mul]; exact A
     omega
    have hd:m / n=Q:=by rw [<-z,Nat.mul_comm,Nat.mul_add_div (by omega),Nat.div_eq_of_lt J]; rfl
    have S:m % n=R:=by rw [<-z,Nat.mul_comm,Nat.mul_add_mod,Nat.mod_eq_of_lt J]
    rw [Ov q (by omega),Ae,I4 g hQ,hd,S]
theorem Ar3 (m n:Nat) (h:A6 m<137438953472) (g:A6 n<137438953472):Wp (Ad m) (Ad n)=some (Ad (Nat.gcd m n)):=by
 unfold Wp
 refine Gp (fun (a,b)=>∃x y:Nat,a=Ad x/\b=Ad y/\A6 x<137438953472/\A6 y<137438953472/\Nat.gcd x y=Nat.gcd m n) (fun (_,b)=>(Ah b).toNat)
  (fun r=>r=Ad (Nat.gcd m n)) ⟨m,n,rfl,rfl,h,g,rfl⟩ ?_ (by rintro e rfl; rfl)
 rintro ⟨a,b⟩ ⟨x,y,rfl,rfl,hx,hy,f⟩
 by_cases c:y=0
 .subst c
  refine .inr ⟨Ad x,by rw [Eh]; rfl,?_⟩
  rw [<-f,Nat.gcd_zero_right]
 .have i:(Ad y).length≠0:=fun e=>Gq c (List.length_eq_zero_iff.1 e)
  have j:decide (((Ad y).length:Int)>0)=true:=Al (by omega)
  refine .inl ⟨(Ad y,Ad (x % y)),?_,⟨y,x % y,rfl,rfl,hy,by have:=Gr (Nat.mod_le x y); omega,?_⟩,?_⟩
  .simp only [j,cond_true,Ab1 x y hx hy c,Ae]
  .rw [<-f,Nat.gcd_comm y,<-Nat.gcd_rec,Nat.gcd_comm]
  .simp only [D1]
   have:=Nat.mod_lt x (by omega:y>0)
   omega
end Go.Ab
namespace Go.Ab
open Go
def M5 (b:Bool) (n d:Nat):Aq:=if d=0 then ⟨false,[],[1]⟩ else Bi b n d
theorem Ab2 {n:Nat} (h:n≠0):(Ad n).length≠0:=fun e=>Gq h (List.length_eq_zero_iff.1 e)
theorem Ah5 (c:Bool) (a b:List Int) (ha:Kd a) (hb:Kd b) (s:a.length<137438953400) (q:b.length<137438953400):Mo c a b=some (M5 c (Ah a).toNat (Ah b).toNat):=by
 unfold Mo
 have h1:=X1 ha
 have h2:=X1 hb
 rw [Ah3 a ha (by omega),Ae,Ah3 b hb (by omega),Ae]
 generalize (Ah a).toNat=n at *
 generalize (Ah b).toNat=d at *
 by_cases g:n=0
 .subst g
  have:M5 c 0 d=⟨false,[],[1]⟩:=by unfold M5; split <;> simp [Bi]
  rw [this,Eh]; rfl
 .have k:=Ab2 g
  by_cases hd:d=0
  .subst hd
   simp only [Cu (by omega:((Ad n).length:Int)≠0),cond_false,Eh,Ae]
   rfl
  .have l:=Ab2 hd
   have f:Nat.gcd n d≠0:=by have:=Nat.gcd_pos_of_pos_left d (by omega:0<n); omega
   have x:A6 (Nat.gcd n d)<=A6 n:=Gr (Nat.gcd_le_left d (by omega:0<n))
   simp only [Cu (by omega:((Ad n).length:Int)≠0),cond_false,Cu (by omega:((Ad d).length:Int)≠0),Ae,Ar3 n d (by omega) (by omega)]
   rw [M5,if_neg hd,Bi,if_neg g]
   have key:(bif (((Ad (Nat.gcd n d)).length:Int) != (1:Int)) then some true else ((Ag (Ad (Nat.gcd n d)) 0).bind fun j=>some (j != (1:Int))))=some (decide (Nat.gcd n d≠1)):=by
    have h3:=Abt (Nat.gcd n d)
    unfold N9 at h3
    by_cases u:(Ad (Nat.gcd n d)).length=1
    .rw [Ez (by omega:((Ad (Nat.gcd n d)).length:Int)=1),cond_true] at h3
     rw [Ge (by omega:((Ad (Nat.gcd n d)).length:Int)=1),cond_false]
     cases i:Ag (Ad (Nat.gcd n d)) 0 with
     | none=>rw [i] at h3; cases h3
     | some v=>
      rw [i] at h3
      simp only [Ae] at h3 ⊢
      have h3:=Option.some.inj h3
      congr 1
      rw [bne,h3]; simp
    .rw [Cu (by omega:((Ad (Nat.gcd n d)).length:Int)≠1),cond_false] at h3
     rw [E9 (by omega:((Ad (Nat.gcd n d)).length:Int)≠1),cond_true]
     have h3:=Option.some.inj h3
     have:Nat.gcd n d≠1:=by simpa using h3.symm
     rw [Al this]
   rw [key,Ae]
   by_cases h:Nat.gcd n d=1
   .rw [Ar (by simpa using h),cond_false,h]; simp
   .rw [Al h,cond_true,Ab1 n _ (by omega) (by omega) f,Ae,Ab1 d _ (by omega) (by omega) f,Ae]
theorem Ar4 (a:Aq):M5 a.Neg (Ah a.Num).toNat (Ah a.Den).toNat=Bi (sv a) (nv a) (dv a):=by
 unfold M5 sv nv dv
 by_cases b:(Ah a.Num).toNat=0
 .simp [b,Bi]
 .by_cases hd:(Ah a.Den).toNat=0
  .simp [hd,Bi]
  .simp [b,hd]
theorem Ab3 (a:Aq) (k:Nat) (h:RB k a) (hk:k<137438953400):Py a=some (Bi (sv a) (nv a) (dv a)):=by
 unfold Py
 have:=h.nl
 have:=h.dl
 rw [Ah5 _ _ _ h.num h.den (by omega) (by omega),Ae,Ar4]
theorem Ab4 (s:Bool) (n d:Nat) (hd:d≠0):(Bi s n d).Num=Ad (nv (Bi s n d))/\(Bi s n d).Den=Ad (dv (Bi s n d))/\(Bi s n d).Neg=sv (Bi s n d):=by
 obtain ⟨h1,h2,h3,c⟩:=T0 s n d hd
 rw [h1,h2]
 by_cases h0:n=0
 .subst h0
  rw [c rfl,Tz]
  have b:d / Nat.gcd 0 d=1:=by rw [Nat.gcd_zero_left]; exact Nat.div_self (by omega)
  rw [b,Nat.zero_div,Eh,Tx]; exact ⟨rfl,rfl,rfl⟩
 .rw [h3 h0]; simp [Bi,h0]
theorem X6 (a:Aq):∃g:Nat,g≠0/\nv a=g*nv (Bi (sv a) (nv a) (dv a))/\dv a=g*dv (Bi (sv a) (nv a) (dv a))/\sv (Bi (sv a) (nv a) (dv a))=sv a:=by
 obtain ⟨h1,h2,h3,b⟩:=T0 (sv a) (nv a) (dv a) (E2 a)
 have hd:=E2 a
 have c:0<Nat.gcd (nv a) (dv a):=Nat.gcd_pos_of_pos_right _ (by omega)
 refine ⟨Nat.gcd (nv a) (dv a),by omega,?_,?_,?_⟩
 .rw [h1]; exact (Nat.mul_div_cancel' (Nat.gcd_dvd_left _ _)).symm
 .rw [h2]; exact (Nat.mul_div_cancel' (Nat.gcd_dvd_right _ _)).symm
 .by_cases h0:nv a=0
  .rw [b h0]
   unfold nv at h0
   unfold sv
   split at h0
   .rename_i hc; rw [if_pos hc]
   .omega
  .exact h3 h0
theorem Ar5 (s:Bool) (n d:Nat) (h:d≠0):M5 s n d=Bi s n d:=by rw [M5,if_neg h]
theorem Ab5 (b:Bool) (n d:Nat) (f:A6 n<137438953400) (hd:A6 d<137438953400) (c:d≠0):Mo b (Ad n) (Ad d)=some (Bi b n d):=by
 unfold A6 at f hd
 rw [Ah5 b _ _ (Du n).u32 (Du d).u32 f hd,D1,D1,Int.toNat_natCast,Int.toNat_natCast,Ar5 _ _ _ c]
theorem Ah6 {k:Nat} {a:Aq} (h:RB k a):RB (k+1) (Bi (sv a) (nv a) (dv a)):=Lv _ _ _ _ h.nv h.dv (by omega)
theorem Ah7 {k:Nat} {a:Aq} (h:RB k a):A6 (nv (Bi (sv a) (nv a) (dv a)))<=k+1/\A6 (dv (Bi (sv a) (nv a) (dv a)))<=k+1:=by
 obtain ⟨g,b,h1,h2,_⟩:=X6 a
 have a1:=h.nv
 have a2:=h.dv
 refine ⟨Nat.le_trans (Gr ?_) a1,Nat.le_trans (Gr ?_) a2⟩
 .exact Nat.le_trans (Nat.le_mul_of_pos_left _ (by omega)) (Nat.le_of_eq h1.symm)
 .exact Nat.le_trans (Nat.le_mul_of_pos_left _ (by omega)) (Nat.le_of_eq h2.symm)
theorem Ar6 (l:Bool) (c j:Nat) (k:Bool) (b i g h:Nat) (y:g≠0) (x:h≠0):I7 l (g*c) (g*j) k (h*b) (h*i)=g*h*I7 l c j k b i/\Kf l (g*c) (g*j) k (h*b) (h*i)=Kf l c j k b i:=by
 have u:g*c*(h*i)=g*h*(c*i):=by grind
 have s:h*b*(g*j)=g*h*(b*j):=by grind
 have hc:(g*h*(b*j)<=g*h*(c*i))↔(b*j<=c*i):=Nat.mul_le_mul_left_iff (Nat.mul_pos (by omega) (by omega))
 unfold I7 Kf
 rw [u,s]
 by_cases q:l=k
 .simp only [if_pos q]
  exact ⟨by rw [Nat.mul_add],trivial⟩
 .simp only [if_neg q]
  by_cases f:b*j<=c*i
  .simp only [if_pos f,if_pos (hc.2 f)]
   exact ⟨by rw [Nat.mul_sub],trivial⟩
  .simp only [if_neg f,if_neg (fun h=>f (hc.1 h))]
   exact ⟨by rw [Nat.mul_sub],trivial⟩
theorem Ar7 (a b:Aq) (j k:Nat) (ha:RB j a) (hb:RB k b) (hj:j<34359738368) (hk:k<34359738368) :
  Ss a b=some (Bi (Kf (sv a) (nv a) (dv a) (sv b) (nv b) (dv b)) (I7 (sv a) (nv a) (dv a) (sv b) (nv b) (dv b)) (dv a*dv b)):=by
 unfold Ss
 rw [Ab3 a j ha (by omega),Ae,Ab3 b k hb (by omega),Ae]
 obtain ⟨g,q,a1,a2,a3⟩:=X6 a
 obtain ⟨h,l,b1,b2,B⟩:=X6 b
 obtain ⟨f1,f2,f3⟩:=Ab4 (sv a) (nv a) (dv a) (E2 a)
 obtain ⟨A,y,x⟩:=Ab4 (sv b) (nv b) (dv b) (E2 b)
 obtain ⟨I,G⟩:=Ah7 ha
 obtain ⟨E,D⟩:=Ah7 hb
 rw [f1,f2,f3,A,y,x,a3,B]
 generalize hc:Bi (sv a) (nv a) (dv a)=c at *
 generalize hd:Bi (sv b) (nv b) (dv b)=d at *
 have m1:=G5 (nv c) (dv d)
 have m2:=G5 (nv d) (dv c)
 have m3:=G5 (dv c) (dv d)
 have m4:=Xu (nv c*dv d) (nv d*dv c)
 have m5:=Gr (Nat.sub_le (nv c*dv d) (nv d*dv c))
 have m6:=Gr (Nat.sub_le (nv d*dv c) (nv c*dv d))
 have z:dv c*dv d≠0:=Nat.mul_ne_zero (E2 c) (E2 d)
 obtain ⟨u,s⟩:=Ar6 (sv a) (nv c) (dv c) (sv b) (nv d) (dv d) g h q l
 rw [a1,a2,b1,b2,u,s,show g*dv c*(h*dv d)=g*h*(dv c*dv d) by grind,Ou _ _ _ _ (Nat.mul_ne_zero q l)]
 rw [X4 _ _ (by omega) (by omega),Ae,X4 _ _ (by omega) (by omega),Ae,X4 _ _ (by omega) (by omega),Ae]
 unfold Kf I7
 by_cases i:sv a=sv b
 .have e:(sv a==sv b)=true:=by rw [i]; exact beq_self_eq_true _
  rw [e,cond_true,Aru _ _ (by omega) (by omega),Ae,Ab5 _ _ _ (by omega) (by omega) z,Ae,if_pos i,if_pos i]
 .have e:(sv a==sv b)=false:=by simpa using i
  rw [e,cond_false,X2,Q2 _ _ (by omega) (by omega),Ae,if_neg i,if_neg i]
  by_cases f:nv d*dv c<=nv c*dv d
  .rw [Al (show D8 (nv c*dv d) (nv d*dv c)>=0 by rw [D8,if_neg (by omega)]; split <;> decide),cond_true,X3 _ _ (by omega) f,Ae,Ab5 _ _ _ (by omega) (by omega) z,Ae,if_pos f,if_pos f]
  .rw [Ar (show ¬D8 (nv c*dv d) (nv d*dv c)>=0 by rw [D8,if_pos (by omega)]; decide),cond_false,X3 _ _ (by omega) (by omega),Ae,Ab5 _ _ _ (by omega) (by omega) z,Ae,if_neg f,if_neg f]
theorem Ar8 (a:Aq) (k:Nat) (h:RB k a) (hk:k<137438953400):Wh a=some (G6 (sv a) (nv a)):=by
 unfold Wh
 rw [Ab3 a k h hk,Ae]
 obtain ⟨g,b,a1,a2,a3⟩:=X6 a
 obtain ⟨f1,f2,f3⟩:=Ab4 (sv a) (nv a) (dv a) (E2 a)
 rw [f1,f3,a3,G6]
 by_cases h0:nv a=0
 .have:nv (Bi (sv a) (nv a) (dv a))=0:=by
   rw [h0] at a1
   rcases Nat.mul_eq_zero.1 a1.symm with h | h
   .exact (b h).elim
   .rw [h0]; exact h
  rw [this,Eh,if_pos h0]; rfl
 .have:nv (Bi (sv a) (nv a) (dv a))≠0:=by
   intro e; rw [e,Nat.mul_zero] at a1; exact h0 a1
  have:=Ab2 this
  rw [Cu (by omega),cond_false,if_neg h0]
  cases sv a <;> rfl
end Go.Ab
namespace Go.Ab
open Go
theorem X7 (s:Bool) (n d:Nat) (hd:d≠0):∃g:Nat,g≠0/\n=g*nv (Bi s n d)/\d=g*dv (Bi s n d)/\(n≠0->sv (Bi s n d)=s)/\(n=0->sv (Bi s n d)=false):=by
 obtain ⟨h1,h2,h3,b⟩:=T0 s n d hd
 have c:0<Nat.gcd n d:=Nat.gcd_pos_of_pos_right _ (by omega)
 exact ⟨Nat.gcd n d,by omega,by rw [h1]; exact (Nat.mul_div_cancel' (Nat.gcd_dvd_left _ _)).symm,by rw [h2]; exact (Nat.mul_div_cancel' (Nat.gcd_dvd_right _ _)).symm,h3,b⟩
theorem Ar9 (s t:Bool) (n d m e:Nat) (hd:d≠0) (q:e≠0):Bi (sv (Bi s n d) != sv (Bi t m e)) (nv (Bi s n d)*nv (Bi t m e)) (dv (Bi s n d)*dv (Bi t m e))=Bi (s != t) (n*m) (d*e):=by
 obtain ⟨g,l,a1,a2,a3,_⟩:=X7 s n d hd
 obtain ⟨h,k,b1,b2,x,_⟩:=X7 t m e q
 have u:Bi (s != t) (n*m) (d*e)=Bi (sv (Bi s n d) != sv (Bi t m e)) (n*m) (d*e):=by
  apply Ah1
  intro b
  have i:n≠0:=fun e=>b (by rw [e]; simp)
  have j:m≠0:=fun e=>b (by rw [e]; simp)
  rw [a3 i,x j]
 rw [u]
 generalize Bi s n d=c at *
 generalize Bi t m e=f at *
 rw [a1,a2,b1,b2,show g*nv c*(h*nv f)=g*h*(nv c*nv f) by grind,show g*dv c*(h*dv f)=g*h*(dv c*dv f) by grind,Ou _ _ _ _ (Nat.mul_ne_zero l k)]
def Fa (n:Nat):Nat->Nat
 | 0=>1
 | k+1=>Fa n k*(n-k)
def fct:Nat->Nat
 | 0=>1
 | k+1=>fct k*(k+1)
theorem X8:∀k,fct k≠0
 | 0=>by decide
 | k+1=>Nat.mul_ne_zero (X8 k) (by omega)
theorem Asa {n k:Nat} (h:n<k):Fa n k=0:=by
 induction k with
 | zero=>omega
 | succ k ih=>
  simp only [Fa]
  rcases Nat.lt_or_ge n k with h' | h'
  .rw [ih h']; simp
  .have:n-k=0:=by omega
   rw [this]; simp
theorem Asb (n k:Nat) (b:n<1000000000):A6 (Fa n k)<=k+1:=by
 induction k with
 | zero=>simp [Fa,M4]
 | succ k ih=>
  have h1:=G5 (Fa n k) (n-k)
  have h2:A6 (n-k)<=1:=Ih (by simp; omega)
  simp only [Fa]; omega
theorem Asd (k:Nat) (hk:k<1000000000):A6 (fct k)<=k+1:=by
 induction k with
 | zero=>simp [fct,M4]
 | succ k ih=>
  have h1:=G5 (fct k) (k+1)
  have h2:A6 (k+1)<=1:=Ih (by simp; omega)
  simp only [fct]
  have:=ih (by omega)
  omega
theorem Ah8 {n:Nat} (h:n<1000000000):A6 n<=1:=Ih (by simpa using h)
theorem Ase (n k:Nat) (b:n<1000000000) (hk:k<=64):RB (k+1) (Bi false (Fa n k) (fct k)) :=
 Lv _ _ _ _ (Asb n k b) (Asd k (by omega)) (by omega)
theorem Ah9 (a:Aq):Aq.mk a.Neg a.Num a.Den=a:=by cases a; rfl
theorem Aia (n k:Nat) (A:n<1000000000) (hk:k<=64):Ob (n:Int) (k:Int)=some (Bi false (Fa n k) (fct k)):=by
 unfold Ob
 have B:Fq 1=some (Bi false (Fa n 0) (fct 0)):=Ty 1 (by decide) (by decide)
 rw [B,Ae]
 refine Gp (fun (i,s,b,c)=>∃q:Nat,i=q/\q<=k/\q<=n/\Aq.mk s b c=Bi false (Fa n q) (fct q)) (fun (i,_,_,_)=>k-i.toNat)
  (fun e=>match e with | .inl r=>r=Bi false (Fa n k) (fct k) | .inr (s,b,c)=>Aq.mk s b c=Bi false (Fa n k) (fct k)) ⟨0,rfl,by omega,by omega,Ah9 _⟩ ?_ ?_
 .rintro ⟨i,s,b,c⟩ ⟨q,rfl,hq,z,ha⟩
  rcases Nat.lt_or_ge q k with h | h
  .simp only [Al (by omega:(q:Int)<(k:Int)),cond_true]
   by_cases x:n=q
   .subst x
    refine .inr ⟨.inl (Bi false 0 1),?_,?_⟩
    .rw [Ez rfl,cond_true,Ty 0 (by decide) (by decide)]; rfl
    .show Bi false 0 1=_
     rw [Asa h,Tz,Tz]
   .have u:Ac ((n:Int)-(q:Int))=((n-q:Nat):Int):=by rw [Ac,Bo] <;> omega
    have l:Ac ((q:Int)+1)=((q+1:Nat):Int):=I6 h (by omega)
    have y:Nv ((n-q:Nat):Int) ((q+1:Nat):Int)=some (Bi false (n-q) (q+1)):=by
     rw [Arq _ _ (by omega) (by omega) (by omega) (by omega) (by omega),Ar (by omega:¬((n-q:Nat):Int)<0),Ar (by omega:¬((q+1:Nat):Int)<0)]; rfl
    have g:RB 1 (Bi false (n-q) (q+1)):=Lv _ _ _ _ (Ah8 (by omega)) (Ah8 (by omega)) (by omega)
    have j:=Abx _ _ _ _ (Ase n q A (by omega)) g (by omega) (by omega)
    rw [Ar9 false false (Fa n q) (fct q) (n-q) (q+1) (X8 q) (by omega)] at j
    refine .inl ⟨(((q+1:Nat):Int),(Bi false (Fa n (q+1)) (fct (q+1))).Neg,(Bi false (Fa n (q+1)) (fct (q+1))).Num,(Bi false (Fa n (q+1)) (fct (q+1))).Den),?_,⟨q+1,rfl,by omega,by omega,Ah9 _⟩,by simp; omega⟩
    rw [Cu (by omega),cond_false,u,l,y,Ae,ha,j,Ae]; rfl
  .have:q=k:=by omega
   subst this
   refine .inr ⟨.inr (s,b,c),by simp,ha⟩
 .rintro (e | ⟨s,b,c⟩) f
  .simp only at f ⊢; rw [f]
  .simp only at f ⊢; rw [f]
end Go.Ab
namespace Go.Ab
open Go
mutual
def Bv:Ai->Nat
 | ⟨_,_,l⟩=>1+Cp l
def Cp:List Ai->Nat
 | []=>0
 | x::xs=>Bv x+Cp xs
end
theorem Jr (t:Ai):Bv t=1+Cp t.Args:=by cases t; simp only [Bv]
theorem Q5 (t:Ai):1<=Bv t:=by rw [Jr]; omega
theorem Kg {l:List Ai} {a:Ai} (h:a∈l):Bv a<=Cp l:=by
 induction l with
 | nil=>cases h
 | cons x xs ih=>
  simp only [Cp]
  rcases List.mem_cons.1 h with rfl | h
  .omega
  .have:=ih h; omega
theorem K4 (l:List Ai):l.length<=Cp l:=by
 induction l with
 | nil=>simp
 | cons x xs ih=>simp only [Cp,List.length_cons]; have:=Q5 x; omega
theorem X9 (l m:List Ai):Cp (l++m)=Cp l+Cp m:=by
 induction l with
 | nil=>simp [Cp]
 | cons x xs ih=>simp only [List.cons_append,Cp,ih]; omega
def Js (data:List Ay) (vars k n:Int) (len:Nat):Bool :=
 if k=1\/k=2\/k=3 then n==0&&len==0
 else if k=4 then decide (0<=n)&&decide (n<vars)&&len==0
 else if k=5 then decide (0<=n)&&(match data[n.toNat]? with | some d=>(len:Int)==d.Vars | none=>false)
 else if k=6 then n==0&&decide (2<=len)&&decide (len<=6)
 else if k=7\/k=8 then n==0&&len==1
 else if k=9 then n==0&&decide (1<=len)&&decide (len<=7)
 else false
mutual
def Fi (data:List Ay) (vars:Int):Ai->Bool
 | ⟨k,n,l⟩=>Js data vars k n l.length&&Er data vars l
def Er (data:List Ay) (vars:Int):List Ai->Bool
 | []=>true
 | x::xs=>Fi data vars x&&Er data vars xs
end
theorem Ab6 (data:List Ay) (vars:Int) (t:Ai):Fi data vars t=(Js data vars t.Kind t.Num t.Args.length&&Er data vars t.Args):=by cases t; simp only [Fi]
theorem Asf {α:Type} (l:List α) (n:Nat):((l.length:Int)==(n:Int))=(l.length==n):=by
 by_cases h:l.length=n
 .subst h; simp
 .rw [Cu (by omega)]; simp [h]
theorem Asg (k:Nat) (t:Ai) (data:List Ay) (vars left:Int) (h1:1<=left) (h2:left<=1000) :
  J7 (k+1) t ⟨data,vars,left⟩=bif Js data vars t.Kind t.Num t.Args.length then ((Qt k t.Args ⟨data,vars,left-1⟩).bind fun v12=>some ((!v12.1),v12.2)) else some (false,⟨data,vars,left-1⟩):=by
 have hw:Ac (left-1)=left-1:=Bo (by omega) (by omega)
 have b:¬left-1<0:=by omega
 rw [J7]
 simp only [hw,Ar b,cond_false]
 generalize g:(Qt k t.Args ⟨data,vars,left-1⟩).bind (fun v12=>some ((!v12.1),v12.2))=X
 generalize f:(some (false,⟨data,vars,left-1⟩):Option (Bool×E4))=Y
 unfold Js Ag
 generalize t.Args.length=len
 generalize t.Kind=c
 generalize t.Num=n
 cases hd:data[n.toNat]? <;> simp only [Bool.cond_eq_ite,Aq9,Ae,Option.bind_none,hd] <;> grind
theorem Ab7 {l:List Ai} {j:Nat} (h:j<l.length):Cp (l.take (j+1))=Cp (l.take j)+Bv l[j]:=by
 rw [List.take_succ_eq_append_getElem h,X9]; simp [Cp]
theorem Aib (data:List Ay) (vars:Int) (l m:List Ai):Er data vars (l++m)=(Er data vars l&&Er data vars m):=by
 induction l with
 | nil=>simp [Er]
 | cons x xs ih=>simp only [List.cons_append,Er,ih,Bool.and_assoc]
theorem Aic (data:List Ay) (vars:Int) {l:List Ai} {j:Nat} (h:j<l.length):Er data vars (l.take (j+1))=(Er data vars (l.take j)&&Fi data vars l[j]):=by
 rw [List.take_succ_eq_append_getElem h,Aib]; simp [Er]
theorem Ab8 (l:List Ai) (j:Nat):Cp (l.take j)<=Cp l:=by
 have:=X9 (l.take j) (l.drop j)
 rw [List.take_append_drop] at this; omega
theorem Ash (data:List Ay) (vars:Int) (l:List Ai) (j:Nat) (h:Er data vars l=true):Er data vars (l.take j)=true:=by
 have:=Aib data vars (l.take j) (l.drop j)
 rw [List.take_append_drop,h] at this
 have:=this.symm
 simp only [Dq] at this
 exact this.1
theorem Asi (data:List Ay) (vars:Int) (k:Nat) (l:List Ai) (c:Nat) (G:l.length<1099511627776)
  (ih:∀(a:Ai),a∈l->∀f:Nat,f<=c->∃g:Int,J7 k a ⟨data,vars,f⟩=some (Fi data vars a&&decide (Bv a<=f),⟨data,vars,g⟩)/\((Fi data vars a&&decide (Bv a<=f))=true->g=(f:Int)-Bv a)) :
  ∃p:Int×Int,Ts (k+2) l ⟨data,vars,c⟩=some (p.1,⟨data,vars,p.2⟩)/\((Er data vars l&&decide (Cp l<=c))=true->p.1 = -1/\p.2=(c:Int)-Cp l)/\((Er data vars l&&decide (Cp l<=c))=false->0<=p.1):=by
 rw [Ts]
 refine Xo (fun p:Int×Int=>(p.1,E4.mk data vars p.2)) (Ew
  (fun (v3,v4,v5,s)=>∃j:Nat,v3=j/\j<=l.length/\v4=data/\v5=vars/\Er data vars (l.take j)=true/\Cp (l.take j)<=c/\s=(c:Int)-Cp (l.take j))
  (fun (v3,_,_,_)=>l.length-v3.toNat)
  (fun z=>match z with | .inl (i,b)=>0<=i/\(∃g,b=⟨data,vars,g⟩)/\(Er data vars l&&decide (Cp l<=c))=false | .inr (v4,v5,s)=>v4=data/\v5=vars/\(Er data vars l&&decide (Cp l<=c))=true/\s=(c:Int)-Cp l)
  ⟨0,rfl,by omega,rfl,rfl,rfl,by simp [Cp],by simp [Cp]⟩ ?_ ?_)
 .rintro ⟨v3,v4,v5,s⟩ ⟨j,rfl,hj,rfl,rfl,x,A,rfl⟩
  rcases Nat.lt_or_ge j l.length with h | h
  .obtain ⟨u,y⟩:∃u:Nat,(c:Int)-Cp (l.take j)=u/\u<=c:=⟨c-Cp (l.take j),by omega,by omega⟩
   obtain ⟨g,E,D⟩:=ih l[j] (List.getElem_mem h) u y.2
   simp only [Al (by omega:(j:Int)<(l.length:Int)),cond_true,Dc rfl h,Ae,S4,y.1,E]
   cases hb:(Fi v4 v5 l[j]&&decide (Bv l[j]<=u)) with
   | true=>
    have I:=D hb
    simp only [Dq,decide_eq_true_eq] at hb
    refine .inl ⟨(((j+1:Nat):Int),v4,v5,g),?_,⟨j+1,rfl,by omega,rfl,rfl,?_,?_,?_⟩,by simp; omega⟩
    .simp only [bnt,cond_false]
     rw [show Ac ((j:Int)+1)=((j+1:Nat):Int) by rw [Ac,Bo] <;> omega]
    .rw [Aic _ _ h,x,hb.1]; rfl
    .rw [Ab7 h]; omega
    .show g=_
     rw [Ab7 h]; omega
   | false=>
    refine .inr ⟨.inl ((j:Int),⟨v4,v5,g⟩),by simp,by omega,⟨g,rfl⟩,?_⟩
    cases q:(Er v4 v5 l&&decide (Cp l<=c)) with
    | false=>rfl
    | true=>
     exfalso
     simp only [Dq,decide_eq_true_eq] at q
     have a1:=Ash v4 v5 l (j+1) q.1
     rw [Aic _ _ h] at a1
     simp only [Dq] at a1
     have a2:=Ab8 l (j+1)
     rw [Ab7 h] at a2
     rw [a1.2,Bool.true_and,decide_eq_false_iff_not] at hb
     omega
  .have:j=l.length:=by omega
   subst this
   rw [List.take_length] at *
   refine .inr ⟨.inr (v4,v5,(c:Int)-Cp l),by simp,rfl,rfl,by simp [x,A],rfl⟩
 .rintro (⟨i,b⟩ | ⟨v4,v5,s⟩) B
  .obtain ⟨a1,⟨g,rfl⟩,a3⟩:=B
   exact ⟨_,rfl,(i,g),rfl,(fun h=>by rw [a3] at h; cases h),fun _=>a1⟩
  .obtain ⟨rfl,rfl,a3,rfl⟩:=B
   exact ⟨_,rfl,(-1,_),rfl,fun _=>⟨rfl,rfl⟩,fun h=>by rw [a3] at h; cases h⟩
theorem Asj (data:List Ay) (vars:Int):∀(left:Nat) (t:Ai) (k:Nat),left<=200->4*left+4<=k->Bv t<1099511627776 ->
  ∃f:Int,J7 k t ⟨data,vars,left⟩=some (Fi data vars t&&decide (Bv t<=left),⟨data,vars,f⟩)/\((Fi data vars t&&decide (Bv t<=left))=true->f=(left:Int)-Bv t):=by
 intro left
 induction left using Nat.strongRecOn with
 | _ left s=>
  intro t k B hk ht
  have hp:=Q5 t
  obtain ⟨g,rfl⟩:∃g,k=g+1:=⟨k-1,by omega⟩
  cases left with
  | zero=>
   refine ⟨-1,?_,fun h=>by simp at h; omega⟩
   rw [J7]
   have hd:decide (Bv t<=0)=false:=Ar (by omega)
   rw [hd,Bool.and_false]
   rfl
  | succ b=>
   rw [Asg g t data vars ((b+1:Nat):Int) (by omega) (by omega)]
   have z:((b+1:Nat):Int)-1=(b:Int):=by omega
   rw [z,Ab6]
   cases A:Js data vars t.Kind t.Num t.Args.length with
   | false=>exact ⟨b,by simp,fun h=>by simp at h⟩
   | true=>
    obtain ⟨q,rfl⟩:∃q,g=q+3:=⟨g-3,by omega⟩
    have j:=Jr t
    have x:=K4 t.Args
    obtain ⟨⟨i,f⟩,h1,h2,h3⟩:=Asi data vars q t.Args b (by omega) (fun a ha c y=>by
     have:=Kg ha
     exact s c (by omega) a q (by omega) (by omega) (by omega))
    have l:decide (Bv t<=b+1)=decide (Cp t.Args<=b):=by
     rw [j]; congr 1; simp only [eq_iff_iff]; omega
    simp only [cond_true,Qt,h1,Ae,Bool.true_and,l]
    refine ⟨f,?_,fun h=>?_⟩
    .cases hb:(Er data vars t.Args&&decide (Cp t.Args<=b)) with
     | true=>
      have u:i = -1:=(h2 hb).1
      rw [Ar (by omega:¬i>=0)]; rfl
     | false=>
      have u:0<=i:=h3 hb
      rw [Al (by omega:i>=0)]; rfl
    .have u:f=(b:Int)-Cp t.Args:=(h2 h).2
     rw [u,j]; omega
theorem T2 (data:List Ay) (t:Ai) (vars:Int) (ht:Bv t<1099511627776):Mm data t vars=some (Fi data vars t&&decide (Bv t<=200)):=by
 unfold Mm
 obtain ⟨b,h1,_⟩:=Asj data vars 200 t 4000000 (by decide) (by decide) ht
 have h1:J7 4000000 t ⟨data,vars,200⟩=_:=h1
 rw [h1]; rfl
end Go.Ab
namespace Go.Ab
open Go
def Ow (a:Ai) (i:Int):Bool:=a.Kind==4&&a.Num==i&&a.Args.length==0
def Aid (l:List Ai):Bool:=l.zipIdx.all fun q=>Ow q.1 q.2
def Ii (t:Ai) (d vars:Int):Bool:=t.Kind==5&&t.Num==d&&(t.Args.length:Int)==vars&&Aid t.Args
def Hz (data:List Ay) (d c:Int):List Bool :=
 match Ag data d with
 | none=>[]
 | some x=>match Ag x.Cons c with
  | none=>[]
  | some y=>y.Args.map fun t=>Ii t d x.Vars
theorem I8 {α:Type} {l:List α} {i:Int} {x:α} (h:Ag l i=some x):0<=i/\i<l.length/\l[i.toNat]? = some x/\x∈l:=by
 unfold Ag at h
 split at h
 .have h1:i.toNat<l.length:=Ep h
  exact ⟨by assumption,by omega,h,Cx h⟩
 .cases h
theorem T3 {α:Type} {l:List α} {i:Int} (h:Ag l i=none):i<0\/(l.length:Int)<=i:=by
 unfold Ag at h
 split at h
 .rw [List.getElem?_eq_none_iff] at h
  right; omega
 .left; omega
theorem Ask {R:Type} (data:List Ay) (d c:Int) (F:Ay->Ok->Option R) (z:R) (X:Option R)
  (f:X=((bif (decide (d<(0:Int))) then some true else bif (decide (d>=(data.length:Int))) then some true else bif (decide (c<(0:Int))) then some true else
   (Ag data d).bind fun b=>some (decide (c>=(b.Cons.length:Int))):Option Bool).bind fun v2=>bif v2 then some z else (Ag data d).bind fun v3=>(Ag v3.Cons c).bind fun v4=>F v3 v4)) :
  X=match Ag data d with
   | none=>some z
   | some x=>match Ag x.Cons c with
    | none=>some z
    | some y=>F x y:=by
 subst f
 cases hx:Ag data d with
 | none=>
  rcases T3 hx with h | h
  .simp only [Al h,cond_true,Ae]
  .by_cases h':d<0
   .simp only [Al h',cond_true,Ae]
   .simp only [Ar h',Al (show d>=(data.length:Int) from h),cond_true,cond_false,Ae]
 | some x=>
  obtain ⟨a1,a2,_,_⟩:=I8 hx
  simp only [Ar (by omega:¬d<0),Ar (by omega:¬d>=(data.length:Int)),cond_false,Ae]
  cases hy:Ag x.Cons c with
  | none=>
   rcases T3 hy with h | h
   .simp only [Al h,cond_true,Ae]
   .by_cases h':c<0
    .simp only [Al h',cond_true,Ae]
    .simp only [Ar h',Al (show c>=(x.Cons.length:Int) from h),cond_true,cond_false,Ae]
  | some y=>
   obtain ⟨b1,b2,_,_⟩:=I8 hy
   simp only [Ar (by omega:¬c<0),Ar (by omega:¬c>=(x.Cons.length:Int)),cond_false,Ae]
def Asl (l:List Ai):Prop:=l.length<=4194304/\∀a∈l,a.Args.length<=4194304
def T5 (data:List Ay):Prop:=∀x∈data,∀y∈x.Cons,Asl y.Args
theorem Ab9 {α:Type} (l m:List α) (y x:α) (i:Int) (n:Nat) (h:i=n) (b:n=l.length):B9 (l++y::m) i x=l++x::m:=by
 rw [Ey h]; subst b; simp
theorem Aca {α:Type} (l m:List α) (y:α) (i:Int) (n:Nat) (h:i=n) (b:n=l.length):Ag (l++y::m) i=some y:=by
 rw [Cd h]; subst b; simp
theorem Asm (l:List Ai) (k f:List Bool) (i:Int) (n:Nat) (b:Bool) (h:i=n) (s:n=k.length) (A:l.length<1099511627776) {R:Type} {J:Int×List Bool->Option R} {r:R}
  (z:J ((l.length:Int),k++(b&&Aid l)::f)=some r) :
  (Ak (S:=(Int×(List Bool))) (E:=(Int×(List Bool))) (fun (c,g)=>
   bif (decide (c<(l.length:Int))) then (
   (Ag l c).bind fun v44=>
   bif (v44.Kind != (4:Int)) then (
   (Ag g i).bind fun v46=>
   some (.inl ((Ac (c+1)),(B9 g i false)))
   )
   else (
   bif (v44.Num != c) then (
   (Ag g i).bind fun y=>
   some (.inl ((Ac (c+1)),(B9 g i false)))
   )
   else (
   bif (decide ((v44.Args.length:Int)>(0:Int))) then (
   (Ag g i).bind fun u=>
   some (.inl ((Ac (c+1)),(B9 g i false)))
   )
   else (
   some (.inl ((Ac (c+1)),g))
   )
   )
   )
   )
   else (
   some (.inr (c,g))
   )
    ) (0,k++b::f)).bind J=some r:=by
 refine I5 l (fun j=>((j:Int),k++(b&&(l.take j).zipIdx.all (fun q=>Ow q.1 q.2))::f)) (by simp) (by omega) ?_ ?_
 .intro j x hj hx h1 h2 h3
  have e:(l.take (j+1)).zipIdx.all (fun q=>Ow q.1 q.2)=((l.take j).zipIdx.all (fun q=>Ow q.1 q.2)&&Ow x j):=by
   rw [Dr hx,List.zipIdx_append,List.all_append]; simp [Nat.min_eq_left (Nat.le_of_lt hj)]
  simp only [h1,h2,h3,cond_true,Ae,Aca k f _ i n h s,Ab9 k f _ _ i n h s,e]
  unfold Ow
  by_cases g1:x.Kind=4
  .by_cases g2:x.Num=j
   .by_cases g3:x.Args.length=0
    .rw [Ar (by omega)]; simp [g1,g2,g3]
    .rw [Al (by omega)]
     have:(x.Args.length==0)=false:=by simpa using g3
     simp [g1,g2,this]
   .simp [g1,g2,E9 g2]
  .simp [g1,E9 g1]
 .intro h1
  refine ⟨_,by simp only [h1]; rfl,?_⟩
  rw [List.take_length]
  exact z
theorem Aie (data:List Ay) (d c:Int) (hd:T5 data):Qb data d c=some (Hz data d c):=by
 unfold Qb
 rw [Ask data d c (fun v3 v4=>_) [] _ rfl]
 unfold Hz
 cases hx:Ag data d with
 | none=>rfl
 | some x=>
  cases hy:Ag x.Cons c with
  | none=>simp only [hy]
  | some y=>
   simp only [hy]
   have f:=hd x (I8 hx).2.2.2 y (I8 hy).2.2.2
   have g:=f.1
   rw [Hw (n:=y.Args.length) (c:=y.Args.length) rfl rfl (by omega) (by omega) (by omega),Ae]
   refine I5 y.Args (fun j=>((j:Int),((y.Args.take j).map fun t=>Ii t d x.Vars)++List.replicate (y.Args.length-j) false)) rfl (by omega) ?_ ?_
   .intro j t hj ht h1 h2 h3
    obtain ⟨m,h⟩:∃m,y.Args.length-j=m+1:=⟨y.Args.length-j-1,by omega⟩
    have i:y.Args.length-(j+1)=m:=by omega
    have b:j=((y.Args.take j).map fun t=>Ii t d x.Vars).length:=by simp; omega
    simp only [h1,h2,cond_true,Ae,h,i,List.replicate_succ,Dr ht,List.map_append,List.map_cons,List.map_nil,List.append_assoc,List.cons_append,List.nil_append,
     Aca _ _ _ (j:Int) j rfl b,Ab9 _ _ _ _ (j:Int) j rfl b]
    have hb:(bif t.Kind==5 then bif t.Num==d then some (List.map (fun t=>Ii t d x.Vars) (List.take j y.Args)++((t.Args.length:Int)==x.Vars)::List.replicate m false)
       else some (List.map (fun t=>Ii t d x.Vars) (List.take j y.Args)++false::List.replicate m false)
      else some (List.map (fun t=>Ii t d x.Vars) (List.take j y.Args)++false::List.replicate m false))=some (List.map (fun t=>Ii t d x.Vars) (List.take j y.Args)++(t.Kind==5&&t.Num==d&&((t.Args.length:Int)==x.Vars))::List.replicate m false):=by
     cases t.Kind==5 <;> cases t.Num==d <;> simp
    rw [hb,Ae]
    refine Asm t.Args _ _ (j:Int) j _ rfl b (by have:=f.2 t (Cx ht); omega) ?_
    rw [h3]; rfl
   .intro h1
    exact ⟨_,by simp only [h1]; rfl,by simp⟩
mutual
def mnt (d:Int):Ai->Bool
 | ⟨k,n,l⟩=>(k==5&&n==d)||Lw d l
def Lw (d:Int):List Ai->Bool
 | []=>false
 | x::xs=>mnt d x||Lw d xs
end
theorem Asn (d:Int) (t:Ai):mnt d t=((t.Kind==5&&t.Num==d)||Lw d t.Args):=by cases t; simp only [mnt]
theorem Aso (d:Int) (l:List Ai):Lw d l=l.any (mnt d):=by
 induction l with
 | nil=>rfl
 | cons x xs ih=>simp only [Lw,ih,List.any_cons]
theorem Asp (d:Int):∀(n:Nat) (t:Ai) (k:Nat),Bv t<=n->4*n+4<=k->n<1099511627776->Oe k t d=some (mnt d t):=by
 intro n
 induction n with
 | zero=>intro t k h; have:=Q5 t; omega
 | succ n ih=>
  intro t k h hk l
  obtain ⟨k,rfl⟩:∃c,k=c+4:=⟨k-4,by omega⟩
  have f:=Jr t
  have b:=K4 t.Args
  have key:Qs (k+3) t.Args d=some (Lw d t.Args):=by
   rw [Qs,Xb]
   rw [Aso]
   refine Ahr (Ahs t.Args (mnt d) (by omega) ?_ (fun h=>by simp only [h]; rfl) (fun _=>rfl) rfl) (fun i g=>by rw [g])
   intro j x hx h1 h2 h3
   have q:=Kg hx
   simp only [h1,h2,h3,cond_true,Ae,Tk,ih x k (by omega) (by omega) (by omega)]
  rw [Oe,key,Asn]
  cases t.Kind==5 <;> cases t.Num==d <;> simp
end Go.Ab
namespace Go.Ab
open Go
theorem Asq (data:List Ay) (v:Int) (l:List Ai):Er data v l=l.all (Fi data v):=by
 induction l with
 | nil=>rfl
 | cons x xs ih=>simp only [Er,ih,List.all_cons]
theorem Asr (data:List Ay) (d:Nat) (v k n:Int) (len:Nat):(Js (data.take (d+1)) v k n len && !(k==5&&n==(d:Int)))=Js (data.take d) v k n len:=by
 by_cases hk:k=5
 .subst hk
  unfold Js
  simp only [beq_self_eq_true,Bool.true_and,List.getElem?_take]
  by_cases b:n=d
  .subst b; simp
  .by_cases h0:0<=n
   .have e:(n==(d:Int))=false:=Cu b
    rcases Nat.lt_or_ge n.toNat d with h | h
    .simp [h,e,show n.toNat<d+1 by omega]
    .simp [e,show ¬n.toNat<d by omega,show ¬n.toNat<d+1 by omega]
   .simp [h0]
 .have e:(k==(5:Int))=false:=Cu hk
  simp only [e,Bool.false_and,Bool.not_false,Bool.and_true,Js,hk,if_false]
mutual
theorem Aif (data:List Ay) (d:Nat) (v:Int):∀t:Ai,(Fi (data.take (d+1)) v t && !mnt d t)=Fi (data.take d) v t
 | ⟨k,n,l⟩=>by
  have h1:=Aig data d v l
  have h2:=Asr data d v k n l.length
  simp only [Fi,mnt]
  rw [<-h1,<-h2]
  cases Js (data.take (d+1)) v k n l.length <;> cases (k==5&&n==(d:Int)) <;> cases Er (data.take (d+1)) v l <;> simp
theorem Aig (data:List Ay) (d:Nat) (v:Int):∀l:List Ai,(Er (data.take (d+1)) v l && !Lw d l)=Er (data.take d) v l
 | []=>by simp [Er,Lw]
 | x::xs=>by
  have h1:=Aif data d v x
  have h2:=Aig data d v xs
  simp only [Er,Lw]
  rw [<-h1,<-h2]
  cases Fi (data.take (d+1)) v x <;> cases mnt d x <;> cases Er (data.take (d+1)) v xs <;> simp
end
theorem Aih:∀l:List Ai,(∀a∈l,a.Args.length=0)->Cp l=l.length
 | [],_=>rfl
 | x::xs,h=>by
  have h1:=h x (by simp)
  simp only [Cp,List.length_cons]
  rw [Aih xs (fun a ha=>h a (by simp [ha])),Jr,List.length_eq_zero_iff.1 h1]
  simp only [Cp]; omega
theorem Aii {data:List Ay} {d:Nat} {x:Ay} (hx:data[d]? = some x) (g:x.Vars<=6) {t:Ai} (h:Ii t d x.Vars=true):Fi (data.take (d+1)) x.Vars t=true/\Bv t<=200:=by
 unfold Ii at h
 simp only [Dq,beq_iff_eq] at h
 obtain ⟨⟨⟨h1,h2⟩,h3⟩,f⟩:=h
 have ha:∀a∈t.Args,∃i:Nat,i<t.Args.length/\a.Kind=4/\a.Num=i/\a.Args.length=0:=by
  intro a ha
  obtain ⟨i,c⟩:=List.getElem?_of_mem ha
  have:=Jq f c
  simp only [Ow,Dq,beq_iff_eq] at this
  exact ⟨i,Ep c,this.1.1,this.1.2,this.2⟩
 refine ⟨?_,?_⟩
 .rw [Ab6,Asq,Dq]
  constructor
  .rw [h1,h2]
   unfold Js
   simp [hx,h3]
  .rw [List.all_eq_true]
   intro a b
   obtain ⟨i,i1,i2,i3,i4⟩:=ha a b
   rw [Ab6,i2,i3,i4,List.length_eq_zero_iff.1 i4]
   unfold Js
   simp [Er]; omega
 .rw [Jr,Aih _ (fun a h=>(ha a h).choose_spec.2.2.2)]
  omega
def Ox (data:List Ay) (d:Nat) (v:Int) (t:Ai):Bool:=Ii t d v||(Fi (data.take d) v t&&decide (Bv t<=200))
theorem Ass {data:List Ay} {d:Nat} {x:Ay} (hx:data[d]? = some x) (b:x.Vars<=6) (t:Ai):((Fi (data.take (d+1)) x.Vars t&&decide (Bv t<=200))&&(Ii t d x.Vars || !mnt d t))=Ox data d x.Vars t:=by
 unfold Ox
 cases h:Ii t d x.Vars with
 | true=>
  obtain ⟨h1,h2⟩:=Aii hx b h
  rw [h1,Al h2]; rfl
 | false=>
  rw [<-Aif data d x.Vars t]
  cases Fi (data.take (d+1)) x.Vars t <;> cases decide (Bv t<=200) <;> simp
def SzD (data:List Ay):Prop:=∀x∈data,x.Cons.length<=1048576/\∀y∈x.Cons,Cp y.Args<=1048576
theorem SzD.short {data:List Ay} (h:SzD data):T5 data:=fun x hx y hy=>by
 have h1:=(h x hx).2 y hy
 have h2:=K4 y.Args
 refine ⟨by omega,fun a ha=>?_⟩
 have h3:=Kg ha
 have c:=Jr a
 have b:=K4 a.Args
 omega
theorem Ast {data:List Ay} (g:SzD data) (d c:Nat) {x:Ay} {y:Ok} (hx:data[d]? = some x) (hy:x.Cons[c]? = some y) (q:x.Vars<=6) (hd:data.length<=1048576) :
  Mr data d c=some (decide (y.Args.length<=6)&&y.Args.all (Ox data d x.Vars)):=by
 have b:=Ep hx
 have l:=(g x (Cx hx)).2 y (Cx hy)
 unfold Mr
 rw [Cd rfl hx,Ae,Cd rfl hy,Ae,Aie data d c g.short]
 by_cases k:y.Args.length<=6
 .rw [Ar (by omega:¬(y.Args.length:Int)>6),Al k]
  simp only [cond_false,Bool.true_and,Ae]
  refine (Xw y.Args (Ox data d x.Vars) (fun j=>(j:Int)) rfl (by omega) (rt:=true) (rf:=false) ?_ ?_).trans (by rw [Xx])
  .intro j t ht h1 h2 h3
   have s:=Kg (Cx ht)
   have u:Ag (Hz data d c) (j:Int)=some (Ii t d x.Vars):=by
    unfold Hz
    simp only [Cd rfl hx,Cd rfl hy]
    rw [Cd rfl]
    simp [ht]
   simp only [h1,h2,h3,cond_true,Ae,show Ac ((d:Int)+1)=((d+1:Nat):Int) from Dj b (by omega),Xp rfl (show d+1<=data.length from b),Cd rfl hx,
    T2 (data.take (d+1)) t x.Vars (by omega),u]
   rw [<-Ass hx q t]
   cases i:(Fi (data.take (d+1)) x.Vars t&&decide (Bv t<=200)) with
   | false=>exact ⟨(fun h=>by cases h),fun _=>⟨.inl false,rfl,rfl⟩⟩
   | true=>
    have f:Bv t<=200:=by simp only [Dq,decide_eq_true_eq] at i; exact i.2
    simp only [bnt,cond_false,Bool.true_and]
    cases z:Ii t d x.Vars with
    | true=>exact ⟨fun _=>rfl,fun h=>by cases h⟩
    | false=>
     simp only [Bool.not_false,cond_true,Asp d 200 t 4000000 f (by omega) (by omega),Ae,Bool.false_or]
     cases mnt d t with
     | true=>exact ⟨(fun h=>by cases h),fun _=>⟨.inl false,rfl,rfl⟩⟩
     | false=>exact ⟨fun _=>rfl,fun h=>by cases h⟩
  .intro h
   exact ⟨.inr (),by simp only [h]; rfl,rfl⟩
 .rw [Al (by omega:(y.Args.length:Int)>6),Ar k]; rfl
end Go.Ab
namespace Go.Ab
open Go
def bI (s:ByteArray) (i:Nat):Int:=if h:i<s.size then (s[i].toNat:Int) else 0
def loI (c:Int):Bool:=decide (97<=c)&&decide (c<=122)
def upI (c:Int):Bool:=decide (65<=c)&&decide (c<=90)
def diI (c:Int):Bool:=decide (48<=c)&&decide (c<=57)
def wiI (c:Int):Bool:=loI c||upI c||diI c||c==95
def Gf (s:ByteArray):Prop:=1<=s.size/\s.size<=24/\upI (bI s 0)=true/\∀i,i<s.size->wiI (bI s i)=true
theorem Lx {s:ByteArray} {i:Int} {n:Nat} (b:i=n) (h:n<s.size):∃c:UInt8,Gz s i=some c/\(c.toNat:Int)=bI s n:=by
 subst b
 refine ⟨s[n],?_,?_⟩
 .unfold Gz
  rw [if_pos (by omega),show ((n:Int)).toNat=n from rfl]
  simp [h]
 .unfold bI; simp [h]
theorem T6 {s:ByteArray} {a b j:Nat} (hb:b<=s.size) (h:a+j<b):bI (s.extract a b) j=bI s (a+j):=by
 unfold bI
 have h1:j<(s.extract a b).size:=by rw [ByteArray.size_extract]; omega
 rw [dif_pos h1,dif_pos (by omega),ByteArray.getElem_extract]
theorem T7 {s:ByteArray} {lo c:Int} {a b:Nat} (h1:lo=a) (h2:c=b) (h3:a<=b) (f:b<=s.size):Ej s lo c=some (s.extract a b):=by
 subst h1; subst h2; unfold Ej; rw [if_pos (by omega)]; rfl
theorem Aij {a b:ByteArray} (h:a.toList=b.toList):a=b:=by
 rw [ByteArray.toList_eq,ByteArray.toList_eq] at h
 have:a.data=b.data:=Array.toList_inj.1 h
 cases a; cases b; simp at this; subst this; rfl
theorem Aik (a b:ByteArray):(a.toList==b.toList)=decide (a=b):=by
 by_cases h:a=b
 .subst h; simp
 .rw [Ar h]
  cases hb:(a.toList==b.toList) with
  | false=>rfl
  | true=>exact absurd (Aij (by simpa using hb)) h
theorem Ail (c:Int):Qm c=some (loI c):=by unfold Qm loI; by_cases h:(97:Int)<=c <;> simp [h]
theorem Aim (c:Int):Oj c=some (upI c):=by unfold Oj upI; by_cases h:(65:Int)<=c <;> simp [h]
theorem Ya (c:Int):Mv c=some (diI c):=by unfold Mv diI; by_cases h:(48:Int)<=c <;> simp [h]
theorem Ain (c:Int):Qo c=some (wiI c):=by
 unfold Qo wiI
 rw [Ail,Aim,Ya]
 simp only [Ae]
 cases loI c <;> cases upI c <;> cases diI c <;> rfl
theorem Acb {S E:Type} {step:S->Option (S⊕E)} (s:ByteArray) (p:Int->Bool) (b:Nat->S) (f:Nat->E) (lo:Nat)
  (h1:∀j,lo<=j->j<s.size->p (bI s j)=true->step (b j)=some (.inl (b (j+1)))) (h2:∀j,lo<=j->j<s.size->p (bI s j)=false->step (b j)=some (.inr (f j))) (h3:step (b s.size)=some (.inr (f s.size))) :
  ∀(m i:Nat),lo<=i->i+m=s.size->∃n,i<=n/\n<=s.size/\(∀j,i<=j->j<n->p (bI s j)=true)/\(n<s.size->p (bI s n)=false)/\Ak step (b i)=some (f n):=by
 intro m
 induction m with
 | zero=>
  intro i _ g
  have:i=s.size:=by omega
  subst this
  exact ⟨s.size,by omega,by omega,fun j _ _=>by omega,fun h=>by omega,Ea h3⟩
 | succ m ih=>
  intro i c g
  cases hp:p (bI s i) with
  | true=>
   obtain ⟨n,a1,a2,a3,a4,a5⟩:=ih (i+1) (by omega) (by omega)
   refine ⟨n,by omega,a2,fun j b1 b2=>?_,a4,by rw [Hc (h1 i c (by omega) hp)]; exact a5⟩
   rcases Nat.lt_or_ge i j with h | h
   .exact a3 j h b2
   .have:j=i:=by omega
    subst this; exact hp
  | false=>exact ⟨i,by omega,by omega,fun j _ _=>by omega,fun _=>hp,Ea (h2 i c (by omega) hp)⟩
theorem Asu (s:ByteArray) (k:s.size<1099511627776):∃n,n<=s.size/\(∀j,j<n->wiI (bI s j)=true)/\(n<s.size->wiI (bI s n)=false)/\Tm s=some (s.extract 0 n):=by
 have H:=Acb (step:=fun v3:Int=>bif (decide (v3<(s.size:Int))) then ((Gz s v3).bind fun h=>(Qo (h.toNat:Int)).bind fun v5=>bif v5 then some (.inl (Ac (v3+1))) else some (.inr v3)) else some (.inr v3))
  s wiI (fun j=>(j:Int)) (fun j=>(j:Int)) 0 (fun j _ hj hp=>by
   obtain ⟨c,g,f⟩:=Lx (s:=s) (i:=(j:Int)) rfl hj
   simp only [Al (by omega:(j:Int)<(s.size:Int)),cond_true,g,Ae,f,Ain,hp,Dj hj (by omega)]) (fun j _ hj hp=>by
   obtain ⟨c,g,f⟩:=Lx (s:=s) (i:=(j:Int)) rfl hj
   simp only [Al (by omega:(j:Int)<(s.size:Int)),cond_true,g,Ae,f,Ain,hp,cond_false]) (by simp) s.size 0 (by omega) (by omega)
 obtain ⟨n,_,a2,a3,a4,a5⟩:=H
 refine ⟨n,a2,fun j hj=>a3 j (by omega) hj,a4,?_⟩
 unfold Tm
 have a5:Ak _ (0:Int)=some (n:Int):=a5
 rw [a5,Ae,T7 (lo:=0) (a:=0) (b:=n) rfl rfl (by omega) a2]; rfl
theorem Asv (s:ByteArray) (k:s.size<1099511627776):∃n,n<=s.size/\(∀j,j<n->diI (bI s j)=true)/\(n<s.size->diI (bI s n)=false)/\Xa s=some (s.extract 0 n):=by
 have H:=Acb (step:=fun v3:Int=>bif (decide (v3<(s.size:Int))) then ((Gz s v3).bind fun h=>(Mv (h.toNat:Int)).bind fun v5=>bif v5 then some (.inl (Ac (v3+1))) else some (.inr v3)) else some (.inr v3))
  s diI (fun j=>(j:Int)) (fun j=>(j:Int)) 0 (fun j _ hj hp=>by
   obtain ⟨c,g,f⟩:=Lx (s:=s) (i:=(j:Int)) rfl hj
   simp only [Al (by omega:(j:Int)<(s.size:Int)),cond_true,g,Ae,f,Ya,hp,Dj hj (by omega)]) (fun j _ hj hp=>by
   obtain ⟨c,g,f⟩:=Lx (s:=s) (i:=(j:Int)) rfl hj
   simp only [Al (by omega:(j:Int)<(s.size:Int)),cond_true,g,Ae,f,Ya,hp,cond_false]) (by simp) s.size 0 (by omega) (by omega)
 obtain ⟨n,_,a2,a3,a4,a5⟩:=H
 refine ⟨n,a2,fun j hj=>a3 j (by omega) hj,a4,?_⟩
 unfold Xa
 have a5:Ak _ (0:Int)=some (n:Int):=a5
 rw [a5,Ae,T7 (lo:=0) (a:=0) (b:=n) rfl rfl (by omega) a2]; rfl
theorem Q6 {R:Type} {c:Bool} {X Y:Option R} {Q:R->Prop} (h1:∃r,X=some r/\Q r) (h2:∃r,Y=some r/\Q r):∃r,(bif c then X else Y)=some r/\Q r:=by cases c <;> assumption
theorem Acd {A R:Type} {X:Option A} {f:A->Option R} {Q:R->Prop} (P:A->Prop) (h1:∃a,X=some a/\P a) (h2:∀a,P a->∃r,f a=some r/\Q r):∃r,X.bind f=some r/\Q r:=by
 obtain ⟨a,e,h⟩:=h1
 rw [e]; exact h2 a h
theorem Asw (s:ByteArray):∃b,Tn s=some b/\True:=by
 unfold Tn
 repeat' first | refine Q6 ?_ ?_ | exact ⟨_,rfl,trivial⟩
theorem Asx (s:ByteArray) (h1:1<=s.size):∃r,Tp s=some r/\(r.size<=s.size):=by
 have g:Ej s 0 1=some (s.extract 0 1):=T7 rfl rfl (by omega) h1
 have c:(s.extract 0 1).size<=s.size:=by rw [ByteArray.size_extract]; omega
 unfold Tp
 refine Acd (fun z=>∀r,z = .inl r->r.size<=s.size) ?_ ?_
 .by_cases h2:2<=s.size
  .have f:Ej s 0 2=some (s.extract 0 2):=T7 rfl rfl (by omega) h2
   have b:∀r,(Sum.inl (s.extract 0 2):ByteArray⊕Unit) = .inl r->r.size<=s.size:=by rintro r ⟨⟩; rw [ByteArray.size_extract]; omega
   simp only [f,Ae]
   repeat' first | refine Q6 ?_ ?_ | with_reducible exact ⟨_,rfl,b⟩ | exact ⟨_,rfl,fun r h=>by cases h⟩
  .rw [Ar (by omega)]
   exact ⟨_,rfl,fun r h=>by cases h⟩
 .rintro (r | u) i
  .exact ⟨_,rfl,i r rfl⟩
  .simp only [g,Ae]
   have h0:(ByteArray.mk #[]).size<=s.size:=Nat.zero_le _
   repeat' first | refine Q6 ?_ ?_ | with_reducible exact ⟨_,rfl,c⟩ | with_reducible exact ⟨_,rfl,h0⟩
theorem Asy (s:ByteArray) (g:s.size<1099511627776):∃b,To s=some b/\True:=by
 unfold To
 refine Ew (fun (_,i)=>∃j:Nat,i=j/\j<=s.size) (fun (_,i)=>s.size-i.toNat) (fun _=>True) ⟨0,rfl,by omega⟩ ?_ ?_
 .rintro ⟨v,i⟩ ⟨j,rfl,hj⟩
  rcases Nat.lt_or_ge j s.size with h | h
  .obtain ⟨c,f,_⟩:=Lx (s:=s) (i:=(j:Int)) rfl h
   simp only [Al (by omega:(j:Int)<(s.size:Int)),cond_true,f,Ae,Dj h (by omega)]
   cases decide (Ac (Ac (v*10)+Ac (wu8 ((c.toNat:Int)-48)))>1000000) with
   | true=>exact .inr ⟨_,rfl,trivial⟩
   | false=>exact .inl ⟨_,rfl,⟨j+1,rfl,by omega⟩,by simp; omega⟩
  .have:j=s.size:=by omega
   subst this
   exact .inr ⟨.inr (),by simp,trivial⟩
 .rintro (r | u) _ <;> exact ⟨_,rfl,trivial⟩
theorem Asz (s:ByteArray) (i:Nat) (J:i<s.size) (S:s.size<1099511627776) :
  ∃r,Tj s i=some r/\(r.2=0->1<=r.1.Text.size/\i+r.1.Text.size<=s.size/\(r.1.Kind=2->Gf r.1.Text))/\(Gf s->i=0->r=(⟨2,s,0⟩,0)):=by
 obtain ⟨c,N,M⟩:=Lx (s:=s) (i:=(i:Int)) rfl J
 have u:Ej s (i:Int) (s.size:Int)=some (s.extract i s.size):=T7 rfl rfl (by omega) (by omega)
 have I:(s.extract i s.size).size=s.size-i:=by rw [ByteArray.size_extract]; omega
 have x:bI (s.extract i s.size) 0=bI s i:=T6 (by omega) (by omega)
 unfold Tj
 simp only [N,Ae,M,Ail,Aim,Ya,u]
 have hw:(bif loI (bI s i) then some true else some (upI (bI s i)))=some (loI (bI s i)||upI (bI s i)):=by cases loI (bI s i) <;> rfl
 rw [hw]
 simp only [Ae]
 cases l:(loI (bI s i)||upI (bI s i)) with
 | true=>
  obtain ⟨n,G,D,y,n4⟩:=Asu (s.extract i s.size) (by omega)
  have A:1<=n:=by
   rcases Nat.eq_zero_or_pos n with h | h
   .subst h
    have:=y (by omega)
    rw [x] at this
    unfold wiI at this
    rw [l] at this; cases this
   .exact h
  have hx:(s.extract i s.size).extract 0 n=s.extract i (i+n):=by rw [ByteArray.extract_extract]; congr 1; omega
  have q:(s.extract i (i+n)).size=n:=by rw [ByteArray.size_extract]; omega
  rw [hx] at n4
  simp only [cond_true,n4,Ae,q]
  have g:Gf s->i=0->n=s.size:=by
   intro hu h0
   rcases Nat.lt_or_ge n s.size with h | h
   .have:=y (by omega)
    rw [T6 (by omega) (by omega),hu.2.2.2 _ (by omega)] at this; cases this
   .omega
  by_cases L:n<=24
  .rw [Ar (by omega)]
   cases k:upI (bI s i) with
   | true=>
    refine ⟨_,rfl,fun _=>⟨?_,?_,fun _=>⟨?_,?_,?_,?_⟩⟩,?_⟩
    .show 1<=(s.extract i (i+n)).size; omega
    .show i+(s.extract i (i+n)).size<=s.size; omega
    .show 1<=(s.extract i (i+n)).size; omega
    .show (s.extract i (i+n)).size<=24; omega
    .show upI (bI (s.extract i (i+n)) 0)=true
     rw [T6 (by omega) (by omega)]; exact k
    .show ∀j,j<(s.extract i (i+n)).size->wiI (bI (s.extract i (i+n)) j)=true
     intro j hj
     rw [T6 (by omega) (by omega)]
     have:=D j (by omega)
     rw [T6 (by omega) (by omega)] at this; exact this
    .intro hu h0
     have:=g hu h0
     subst h0; subst this
     rw [Nat.zero_add,ByteArray.extract_zero_size]; rfl
   | false=>
    obtain ⟨b,hb,_⟩:=Asw (s.extract i (i+n))
    simp only [cond_false,hb,Ae]
    have f:Gf s->i=0->False:=by
     intro hu h0
     subst h0
     rw [hu.2.2.1] at k; cases k
    cases b with
    | true=>exact ⟨_,rfl,fun _=>⟨by show 1<=(s.extract i (i+n)).size; omega,by show i+(s.extract i (i+n)).size<=s.size; omega,fun h=>by cases h⟩,fun hu h0=>(f hu h0).elim⟩
    | false=>exact ⟨_,rfl,fun _=>⟨by show 1<=(s.extract i (i+n)).size; omega,by show i+(s.extract i (i+n)).size<=s.size; omega,fun h=>by cases h⟩,fun hu h0=>(f hu h0).elim⟩
  .rw [Al (by omega)]
   refine ⟨_,rfl,(fun h=>by cases h),fun hu h0=>?_⟩
   have:=g hu h0
   have:=hu.2.1
   omega
 | false=>
  have f:Gf s->i=0->False:=by
   intro hu h0
   subst h0
   rw [hu.2.2.1,Bool.or_true] at l; cases l
  simp only [cond_false]
  cases hd:diI (bI s i) with
  | true=>
   obtain ⟨n,G,D,y,n4⟩:=Asv (s.extract i s.size) (by omega)
   have A:1<=n:=by
    rcases Nat.eq_zero_or_pos n with h | h
    .subst h
     have:=y (by omega)
     rw [x,hd] at this; cases this
    .exact h
   have hx:(s.extract i s.size).extract 0 n=s.extract i (i+n):=by rw [ByteArray.extract_extract]; congr 1; omega
   have q:(s.extract i (i+n)).size=n:=by rw [ByteArray.size_extract]; omega
   rw [hx] at n4
   obtain ⟨b,hb,_⟩:=Asy (s.extract i (i+n)) (by omega)
   simp only [cond_true,n4,Ae,hb]
   refine Acd (fun _=>True) ?_ ?_
   .exact Q6 ⟨_,rfl,trivial⟩ ⟨_,rfl,trivial⟩
   .intro v _
    refine Q6 ⟨_,rfl,(fun h=>by cases h),fun hu h0=>(f hu h0).elim⟩ (Q6 ⟨_,rfl,(fun h=>by cases h),fun hu h0=>(f hu h0).elim⟩ ⟨_,rfl,fun _=>⟨?_,?_,fun h=>by cases h⟩,fun hu h0=>(f hu h0).elim⟩)
    .show 1<=(s.extract i (i+n)).size; omega
    .show i+(s.extract i (i+n)).size<=s.size; omega
  | false=>
   obtain ⟨r,E,R⟩:=Asx (s.extract i s.size) (by omega)
   simp only [cond_false,E,Ae]
   rw [Aik]
   by_cases z:r=ByteArray.mk #[]
   .rw [Al z]
    exact ⟨_,rfl,(fun h=>by cases h),fun hu h0=>(f hu h0).elim⟩
   .rw [Ar z]
    refine ⟨_,rfl,fun _=>⟨?_,?_,fun h=>by cases h⟩,fun hu h0=>(f hu h0).elim⟩
    .show 1<=r.size
     rcases Nat.eq_zero_or_pos r.size with h | h
     .have B:r.data.toList.length=0:=by simpa using h
      exact absurd (Aij (by rw [ByteArray.toList_eq,List.length_eq_zero_iff.1 B,ByteArray.toList_eq])) z
     .exact h
    .show i+r.size<=s.size; omega
theorem As0 (c:Int):Ti c=some (c==9||c==10||c==13||c==32):=by
 unfold Ti
 cases c==9 <;> cases c==10 <;> cases c==13 <;> rfl
theorem Aio (s:ByteArray) (U:s.size<1099511627776):∃b,N3 s=some b/\(b=true↔Gf s):=by
 unfold N3 Wz
 by_cases q:(s.size:Int)>16384
 .rw [Al q]
  refine ⟨false,rfl,by simp; rintro ⟨_,h,_⟩; omega⟩
 rw [Ar q]
 simp only [cond_false]
 refine Acd (fun r:List G3×Int×Int=>(r.2.2≠0/\¬Gf s)\/(r.2.2=0/\∃o e,r.1=o++[e]/\(∀t∈o,t.Kind=2->Gf t.Text)/\(Gf s->o = [⟨2,s,0⟩]))) ?_ ?_
 .refine Ew (fun (v26,f)=>∃i:Nat,v26=i/\i<=s.size/\f.length<=i/\(∀t∈f,t.Kind=2->Gf t.Text)/\(Gf s->(i=0/\f = [])\/(i=s.size/\f = [⟨2,s,0⟩])))
   (fun (v26,_)=>s.size-v26.toNat)
   (fun z=>match z with | .inl o=>o.length<=16384/\(∀t∈o,t.Kind=2->Gf t.Text)/\(Gf s->o = [⟨2,s,0⟩]) | .inr (_,_,e)=>e≠0/\¬Gf s)
   ⟨0,rfl,by omega,by simp,by simp,fun _=>.inl ⟨rfl,rfl⟩⟩ ?_ ?_
  .rintro ⟨v,o⟩ ⟨i,rfl,hi,ho,hk,hu⟩
   rcases Nat.lt_or_ge i s.size with h | h
   .obtain ⟨c,G,E⟩:=Lx (s:=s) (i:=(i:Int)) rfl h
    have g:Gf s->i=0/\o = []:=fun u=>by
     rcases hu u with h' | h'
     .exact h'
     .omega
    simp only [Al (by omega:(i:Int)<(s.size:Int)),cond_true,G,Ae,E,As0]
    cases J:(bI s i==9||bI s i==10||bI s i==13||bI s i==32) with
    | true=>
     have k:¬Gf s:=by
      intro u
      have h0:=(g u).1
      subst h0
      have:=u.2.2.1
      simp only [upI,Dq,decide_eq_true_eq] at this
      simp only [Bool.or_eq_true,beq_iff_eq] at J
      omega
     exact .inl ⟨(((i+1:Nat):Int),o),by simp only [cond_true]; rw [Dj h (by omega)],⟨i+1,rfl,by omega,(by show o.length<=i+1; omega),hk,fun u=>(k u).elim⟩,by simp; omega⟩
    | false=>
     simp only [cond_false]
     cases B:(bI s i==35) with
     | true=>
      have k:¬Gf s:=by
       intro u
       have h0:=(g u).1
       subst h0
       have:=u.2.2.1
       simp only [upI,Dq,decide_eq_true_eq] at this
       simp only [beq_iff_eq] at B
       omega
      simp only [cond_true]
      obtain ⟨n,n1,n2,n3,n4,I⟩:=Acb (step:=fun v32:Int=>bif (decide (v32<(s.size:Int))) then ((Gz s v32).bind fun L=>bif ((L.toNat:Int)==(10:Int)) then some (.inr (.inl v32)) else some (.inl (Ac (v32+1)))) else some (.inr (.inr v32)))
       s (fun c=>!(c==10)) (fun j=>(j:Int)) (fun j=>if j<s.size then Sum.inl (j:Int) else Sum.inr (j:Int)) 0 (fun j _ hj hp=>by
        obtain ⟨c,G,E⟩:=Lx (s:=s) (i:=(j:Int)) rfl hj
        simp only [Bool.not_eq_true'] at hp
        simp only [Al (by omega:(j:Int)<(s.size:Int)),cond_true,G,Ae,E,hp,Dj hj (by omega),cond_false]) (fun j _ hj hp=>by
        obtain ⟨c,G,E⟩:=Lx (s:=s) (i:=(j:Int)) rfl hj
        simp only [Bool.not_eq_false'] at hp
        simp only [Al (by omega:(j:Int)<(s.size:Int)),cond_true,G,Ae,E,hp,if_pos hj]) (by simp) (s.size-i) i (by omega) (by omega)
      have V:i<n:=by
       rcases Nat.lt_or_ge i n with h' | h'
       .exact h'
       .have:n=i:=by omega
        subst this
        have:=n4 h
        simp only [beq_iff_eq] at B
        rw [B] at this; cases this
      have I:Ak _ (i:Int)=_:=I
      rw [I,Ae]
      rcases Nat.lt_or_ge n s.size with h' | h'
      .rw [if_pos h']
       exact .inl ⟨((n:Int),o),rfl,⟨n,rfl,by omega,(by show o.length<=n; omega),hk,fun u=>(k u).elim⟩,by simp; omega⟩
      .rw [if_neg (by omega)]
       exact .inr ⟨.inl o,rfl,by omega,hk,fun u=>(k u).elim⟩
     | false=>
      obtain ⟨r,S,R,M⟩:=Asz s i h U
      simp only [cond_false,S,Ae]
      by_cases D:r.2=0
      .obtain ⟨a1,a2,a3⟩:=R D
       simp only [Ge D,cond_false]
       rw [Dm (by simp; omega),Ae]
       refine .inl ⟨(((i+r.1.Text.size:Nat):Int),o++[r.1]),?_,⟨i+r.1.Text.size,rfl,a2,by simp; omega,?_,?_⟩,by simp; omega⟩
       .rw [show Ac ((i:Int)+(r.1.Text.size:Int))=((i+r.1.Text.size:Nat):Int) by rw [Ac,Bo] <;> omega]
       .intro t ht
        rcases List.mem_append.1 ht with h' | h'
        .exact hk t h'
        .simp at h'; subst h'; exact a3
       .intro u
        obtain ⟨b1,b2⟩:=g u
        have:=M u b1
        subst b1; subst b2; subst this
        exact .inr ⟨by simp,rfl⟩
      .simp only [E9 D,cond_true]
       refine .inr ⟨_,rfl,D,fun u=>?_⟩
       rw [M u (g u).1] at D
       exact D rfl
   .have:i=s.size:=by omega
    subst this
    refine .inr ⟨.inl o,by simp,by omega,hk,fun u=>?_⟩
    rcases hu u with ⟨h',_⟩ | ⟨_,h'⟩
    .have:=u.1; omega
    .exact h'
  .rintro (o | ⟨l,p,e⟩) N
   .obtain ⟨Z,z2,z3⟩:=N
    simp only
    rw [Dm (by simp; omega),Ae]
    exact ⟨_,rfl,.inr ⟨rfl,o,_,rfl,z2,z3⟩⟩
   .exact ⟨_,rfl,.inl N⟩
 .rintro ⟨l,p,e⟩ (⟨h1,h2⟩ | ⟨h1,o,t,h2,h3,A⟩)
  .simp only at h1
   simp only [Cu h1,cond_false]
   exact ⟨_,rfl,by simp [h2]⟩
  .simp only at h1 h2
   subst h1; subst h2
   simp only [beq_self_eq_true,cond_true]
   match o,h3,A with
   | [],_,A=>exact ⟨false,by simp,by simp; intro u; cases A u⟩
   | [x],h3,A=>
    have Y:Ag ([x]++[t]) 0=some x:=rfl
    simp only [Y,Ae,Aik]
    have X:((([x]++[t]).length:Int)==2)=true:=rfl
    simp only [X,cond_true]
    by_cases hx:x.Kind=2
    .simp only [Ez hx,cond_true]
     refine ⟨_,rfl,?_⟩
     rw [decide_eq_true_iff]
     constructor
     .intro h; rw [<-h]; exact h3 x (by simp) hx
     .intro u; have:=A u; simp at this; rw [this]
    .simp only [Cu hx,cond_false]
     refine ⟨_,rfl,?_⟩
     simp only [Bool.false_eq_true,false_iff]
     intro u; have:=A u; simp at this; rw [this] at hx; exact hx rfl
   | x::y::ys,_,A=>
    refine ⟨false,?_,by simp; intro u; have:=A u; simp at this⟩
    rw [Cu]
    .rfl
    .simp; omega
end Go.Ab
namespace Go.Ab
open Go
end Go.Ab
namespace Go.Ab
open Go
def Yb (data:List Ay) (d:Nat) (v:Int) (y:Ok):Prop:=Gf y.Name/\y.Args.length<=6/\y.Args.all (Ox data d v)=true
def Ace (data:List Ay) (d:Nat) (x:Ay):Prop:=0<=x.Vars/\x.Vars<=6/\1<=x.Cons.length/\x.Cons.length<=8/\Gf x.Name/\∀y∈x.Cons,Yb data d x.Vars y
def Hg (x:Ay):List ByteArray:=x.Cons.map (·.Name)
def K5 (data:List Ay):Prop:=data.length<=12/\(∀d x,data[d]? = some x->Ace data d x)/\(data.map (·.Name)).Nodup/\(data.flatMap Hg).Nodup
structure DSz (data:List Ay):Prop where
 len:data.length<=1048576
 sz:SzD data
 nm:∀x∈data,x.Name.size<=1048576
 cn:∀x∈data,∀y∈x.Cons,y.Name.size<=1048576
theorem Oy (a b:ByteArray):(a==b)=true↔a=b:=by
 constructor
 .intro h
  cases a with | mk a=>cases b with | mk b=>
  have:a=b:=by exact eq_of_beq h
  rw [this]
 .rintro rfl
  cases a with | mk a=>exact beq_self_eq_true a
def Ij (o:List (ByteArray×Bool)) (L:List ByteArray):Prop:=(∀p∈o,p.2=true)/\∀s,Ec o s=true↔s∈L
theorem Ij.nil:Ij [] []:=⟨by simp,by simp [Ec]⟩
theorem Ij.get {o:List (ByteArray×Bool)} {L:List ByteArray} (h:Ij o L) {s:ByteArray} (b:Ec o s=true):G0 o s false=true:=by
 unfold G0
 unfold Ec at b
 rw [List.any_eq_true] at b
 obtain ⟨p,g,f⟩:=b
 cases c:o.find? (fun p=>s==p.1) with
 | none=>exact absurd f (by have:=List.find?_eq_none.1 c p g; simpa using this)
 | some q=>exact h.1 q (List.mem_of_find?_eq_some c)
theorem As1 (o:List (ByteArray×Bool)) (s t:ByteArray) (v:Bool):Ec (Ek o s v) t=(Ec o t||t==s):=by
 induction o with
 | nil=>simp [Ek,Ec]
 | cons p o ih=>
  unfold Ek
  cases hp:(s==p.1) with
  | true=>
   have:s=p.1:=(Oy _ _).1 hp
   subst this
   simp only [cond_true,Ec,List.any_cons]
   cases t==p.1 <;> simp
  | false=>
   simp only [Ec,List.any_cons] at ih ⊢
   simp only [cond_false,List.any_cons,ih,Bool.or_assoc]
theorem Ij.put {o:List (ByteArray×Bool)} {L:List ByteArray} (h:Ij o L) (s:ByteArray):Ij (Ek o s true) (L++[s]):=by
 refine ⟨?_,fun t=>?_⟩
 .have:∀o:List (ByteArray×Bool),(∀p∈o,p.2=true)->∀p∈Ek o s true,p.2=true:=by
   intro o
   induction o with
   | nil=>intro _ p hp; simp [Ek] at hp; rw [hp]
   | cons q o ih=>
    intro b p hp
    unfold Ek at hp
    cases hq:(s==q.1) with
    | true=>
     rw [hq] at hp
     simp only [cond_true,List.mem_cons] at hp
     rcases hp with rfl | hp
     .rfl
     .exact b p (by simp [hp])
    | false=>
     rw [hq] at hp
     simp only [cond_false,List.mem_cons] at hp
     rcases hp with rfl | hp
     .exact b _ (by simp)
     .exact ih (fun p hp=>b p (by simp [hp])) p hp
  exact this o h.1
 .rw [As1,Bool.or_eq_true,h.2 t,Oy]; simp
theorem As2 (x:Ay) {c:Nat} {y:Ok} (hy:x.Cons[c]? = some y):Hg x=(x.Cons.take c).map (·.Name)++y.Name::(x.Cons.drop (c+1)).map (·.Name):=by
 have h:=List.take_append_drop c x.Cons
 have hc:=Ep hy
 have e:x.Cons.drop c=y::x.Cons.drop (c+1):=by
  rw [List.drop_eq_getElem_cons hc]
  rw [Ck hc] at hy
  rw [Option.some.inj hy]
 unfold Hg
 conv=>lhs; rw [<-h,e]
 simp
theorem Aip {L m:List ByteArray} {s:ByteArray} (h:(L++s::m).Nodup):s ∉ L:=by
 rw [List.nodup_append] at h
 intro b
 exact h.2.2 s b s (by simp) rfl
theorem Aiq {L:List ByteArray} {s:ByteArray} (h:L.Nodup) (c:s ∉ L):(L++[s]).Nodup:=by
 rw [List.nodup_append]
 refine ⟨h,by simp,?_⟩
 intro a ha b hb
 simp at hb; subst hb
 intro e; subst e; exact c ha
theorem As3 {data:List Ay} (s:DSz data) {d:Nat} {x:Ay} (hx:data[d]? = some x) (I:x.Vars<=6) (o:List (ByteArray×Bool)) (L:List ByteArray) (J:Ij o L) (N:L.Nodup) :
  ∃z,Ak (S:=(Int×(List (ByteArray×Bool)))) (E:=(Bool⊕(Int×(List (ByteArray×Bool))))) (fun (f,g)=>
    bif (decide (f<(x.Cons.length:Int))) then (
    (Ag x.Cons f).bind fun v54=>
    (N3 v54.Name).bind fun A=>
    bif (!A) then some (.inr (.inl false))
    else (
    bif (Ec g v54.Name) then (
    bif (G0 g v54.Name (false:Bool)) then some (.inr (.inl false))
    else (
    (Mr data d f).bind fun u=>
    bif (!u) then some (.inr (.inl false))
    else some (.inl ((Ac (f+1)),(Ek g v54.Name true)))))
    else (
    (Mr data d f).bind fun v58=>
    bif (!v58) then some (.inr (.inl false))
    else some (.inl ((Ac (f+1)),(Ek g v54.Name true))))))
    else some (.inr (.inr (f,g)))) (0,o)=some z /\
   match z with
   | .inl r=>r=false/\¬((∀y∈x.Cons,Yb data d x.Vars y)/\(L++Hg x).Nodup)
   | .inr (_,o')=>(∀y∈x.Cons,Yb data d x.Vars y)/\(L++Hg x).Nodup/\Ij o' (L++Hg x):=by
 have hxm:=Cx hx
 have M:=(s.sz x hxm).1
 refine Lc (fun (f,g)=>∃c:Nat,f=c/\c<=x.Cons.length/\(∀y∈x.Cons.take c,Yb data d x.Vars y)/\(L++(x.Cons.take c).map (·.Name)).Nodup/\Ij g (L++(x.Cons.take c).map (·.Name)))
  (fun (f,_)=>x.Cons.length-f.toNat) _ ?_ _ ⟨0,rfl,by omega,by simp,by simpa using N,by simpa using J⟩
 rintro ⟨v,g⟩ ⟨c,rfl,hc,h1,h2,h3⟩
 rcases Nat.lt_or_ge c x.Cons.length with h | h
 .have hy:x.Cons[c]? = some x.Cons[c]:=Ck h
  generalize x.Cons[c]=y at hy
  have l:=Cx hy
  obtain ⟨b,b1,b2⟩:=Aio y.Name (by have:=s.cn x hxm y l; omega)
  have ht:=Dr hy
  have D:L++Hg x=(L++(x.Cons.take c).map (·.Name))++y.Name::(x.Cons.drop (c+1)).map (·.Name):=by rw [As2 x hy]; simp
  simp only [Al (by omega:(c:Int)<(x.Cons.length:Int)),cond_true,Cd rfl hy,Ae,b1,Ast s.sz d c hx hy I s.len,Dj h (by omega)]
  cases b with
  | false=>
   refine .inr ⟨.inl false,rfl,rfl,fun k=>?_⟩
   have:=b2.2 (k.1 y l).1; cases this
  | true=>
   simp only [bnt,cond_false]
   cases j:Ec g y.Name with
   | true=>
    simp only [cond_true,h3.get j]
    refine .inr ⟨.inl false,rfl,rfl,fun k=>?_⟩
    rw [D] at k
    exact Aip k.2 ((h3.2 _).1 j)
   | false=>
    simp only [cond_false]
    cases i:(decide (y.Args.length<=6)&&y.Args.all (Ox data d x.Vars)) with
    | false=>
     refine .inr ⟨.inl false,rfl,rfl,fun k=>?_⟩
     have:=k.1 y l
     rw [this.2.2,Al this.2.1] at i; cases i
    | true=>
     simp only [Dq,decide_eq_true_eq] at i
     have B:y.Name ∉ L++(x.Cons.take c).map (·.Name):=fun k=>by rw [(h3.2 _).2 k] at j; cases j
     have e:L++(x.Cons.take (c+1)).map (·.Name)=(L++(x.Cons.take c).map (·.Name))++[y.Name]:=by rw [ht]; simp
     refine .inl ⟨_,rfl,⟨c+1,rfl,by omega,?_,?_,?_⟩,by simp; omega⟩
     .intro G q
      rw [ht] at q
      rcases List.mem_append.1 q with h' | h'
      .exact h1 G h'
      .simp at h'; subst h'; exact ⟨b2.1 rfl,i.1,i.2⟩
     .rw [e]; exact Aiq h2 B
     .rw [e]; exact h3.put _
 .have:c=x.Cons.length:=by omega
  subst this
  rw [List.take_length] at h1 h2 h3
  exact .inr ⟨.inr ((x.Cons.length:Int),g),by simp,h1,h2,h3⟩
theorem As4 {data:List Ay} {d:Nat} {x:Ay} (hx:data[d]? = some x):data.flatMap Hg=((data.take d).flatMap Hg++Hg x)++(data.drop (d+1)).flatMap Hg/\data.map (·.Name)=(data.take d).map (·.Name)++x.Name::(data.drop (d+1)).map (·.Name):=by
 have h:=List.take_append_drop d data
 have hc:=Ep hx
 have e:data.drop d=x::data.drop (d+1):=by
  rw [List.drop_eq_getElem_cons hc]
  rw [Ck hc] at hx
  rw [Option.some.inj hx]
 constructor
 .conv=>lhs; rw [<-h,e]
  simp [List.flatMap_append]
 .conv=>lhs; rw [<-h,e]
  simp
theorem As5 {data:List Ay} (j:DSz data):∃b,Su data=some b/\(b=true↔K5 data):=by
 have G:=j.len
 unfold Su
 rcases Nat.lt_or_ge 12 data.length with h12 | h12
 .rw [Al (by omega)]
  exact ⟨false,rfl,by simp; intro h; have:=h.1; omega⟩
 rw [Ar (by omega)]
 simp only [cond_false]
 refine Ew (fun (v31,f,g)=>∃d:Nat,v31=d/\d<=data.length/\(∀k x,k<d->data[k]? = some x->Ace data k x)/\((data.take d).map (·.Name)).Nodup/\((data.take d).flatMap Hg).Nodup/\Ij f ((data.take d).map (·.Name))/\Ij g ((data.take d).flatMap Hg))
  (fun (v31,_,_)=>data.length-v31.toNat) (fun z=>match z with | .inl r=>r=false/\¬K5 data | .inr _=>K5 data) ⟨0,rfl,by omega,by intro k x h; omega,by simp,by simp,by simpa using Ij.nil,by simpa using Ij.nil⟩ ?_ ?_
 .rintro ⟨v,f,g⟩ ⟨d,rfl,hd,h1,h2,h3,B,V⟩
  rcases Nat.lt_or_ge d data.length with h | h
  .have hx:data[d]? = some data[d]:=Ck h
   generalize data[d]=x at hx
   have hxm:=Cx hx
   obtain ⟨b,b1,b2⟩:=Aio x.Name (by have:=j.nm x hxm; omega)
   obtain ⟨f1,f2⟩:=As4 hx
   simp only [Al (by omega:(d:Int)<(data.length:Int)),cond_true,Cd rfl hx,Ae,b1]
   have bad:∀(y:¬Ace data d x),∃e:Bool⊕((List (ByteArray×Bool))×(List (ByteArray×Bool))),(some (Sum.inr (Sum.inl false)):Option ((Int×(List (ByteArray×Bool))×(List (ByteArray×Bool)))⊕(Bool⊕((List (ByteArray×Bool))×(List (ByteArray×Bool))))))=some (.inr e)/\(match e with | .inl r=>r=false/\¬K5 data | .inr _=>K5 data) :=
    fun y=>⟨.inl false,rfl,rfl,fun c=>y (c.2.1 d x hx)⟩
   cases b with
   | false=>
    exact .inr (bad fun c=>by have:=b2.2 c.2.2.2.2.1; cases this)
   | true=>
    simp only [bnt,cond_false]
    cases i:Ec f x.Name with
    | true=>
     simp only [cond_true,B.get i,Ae]
     refine .inr ⟨.inl false,rfl,rfl,fun c=>?_⟩
     have:=c.2.2.1
     rw [f2] at this
     exact Aip this ((B.2 _).1 i)
    | false=>
     simp only [cond_false]
     by_cases q:x.Vars<0
     .simp only [Al q,cond_true,Ae]
      exact .inr (bad fun c=>by have:=c.1; omega)
     by_cases u:x.Vars>6
     .simp only [Ar q,Al u,cond_true,cond_false,Ae]
      exact .inr (bad fun c=>by have:=c.2.1; omega)
     simp only [Ar q,Ar u,cond_false,Ae]
     by_cases s:(x.Cons.length:Int)<1
     .simp only [Al s,cond_true,Ae]
      exact .inr (bad fun c=>by have:=c.2.2.1; omega)
     by_cases A:(x.Cons.length:Int)>8
     .simp only [Ar s,Al A,cond_true,cond_false,Ae]
      exact .inr (bad fun c=>by have:=c.2.2.2.1; omega)
     simp only [Ar s,Ar A,cond_false,Ae]
     obtain ⟨z,L,z2⟩:=As3 j hx (by omega) g _ V h3
     rw [L,Ae]
     match z,z2 with
     | .inl r,z2=>
      obtain ⟨rfl,z2⟩:=z2
      refine .inr ⟨.inl false,rfl,rfl,fun c=>z2 ⟨(c.2.1 d x hx).2.2.2.2.2,?_⟩⟩
      have:=c.2.2.2
      rw [f1] at this
      exact (List.nodup_append.1 this).1
     | .inr (v60,D),z2=>
      obtain ⟨R,N,M⟩:=z2
      have ht:=Dr hx
      have E:x.Name ∉ (data.take d).map (·.Name):=fun c=>by rw [(B.2 _).2 c] at i; cases i
      have J:(data.take (d+1)).map (·.Name)=(data.take d).map (·.Name)++[x.Name]:=by rw [ht]; simp
      have I:(data.take (d+1)).flatMap Hg=(data.take d).flatMap Hg++Hg x:=by rw [ht]; simp [List.flatMap_append]
      refine .inl ⟨(((d+1:Nat):Int),Ek f x.Name true,D),by simp only [Dj h (by omega)],⟨d+1,rfl,by omega,?_,?_,?_,?_,?_⟩,by simp; omega⟩
      .intro k S U l
       rcases Nat.lt_or_ge k d with h' | h'
       .exact h1 k S h' l
       .have:k=d:=by omega
        subst this
        rw [hx] at l; cases l
        exact ⟨by omega,by omega,by omega,by omega,b2.1 rfl,R⟩
      .rw [J]; exact Aiq h2 E
      .rw [I]; exact N
      .rw [J]; exact B.put _
      .rw [I]; exact M
  .have:d=data.length:=by omega
   subst this
   rw [List.take_length] at h2 h3
   exact .inr ⟨.inr (f,g),by simp,h12,fun d x hx=>h1 d x (Ep hx) hx,h2,h3⟩
 .rintro (r | ⟨o,o'⟩) j
  .obtain ⟨rfl,j⟩:=j
   exact ⟨false,rfl,by simp [j]⟩
  .exact ⟨true,rfl,by simpa using j⟩
theorem Air {data:List Ay} (c:DSz data):∃b,Si data=some b/\(b=true↔K5 data):=by
 obtain ⟨b,h1,h2⟩:=As5 c
 refine ⟨b,?_,h2⟩
 unfold Si
 rw [h1,Ae]
 cases b with
 | false=>rfl
 | true=>rfl
end Go.Ab
namespace Go.Ab
open Go
theorem SzD.args {data:List Ay} (h:SzD data) {x:Ay} (hx:x∈data) {y:Ok} (hy:y∈x.Cons) {t:Ai} (ht:t∈y.Args):Bv t<=1048576/\t.Args.length<=1048576/\y.Args.length<=1048576:=by
 have h1:=(h x hx).2 y hy
 have h3:=Kg ht
 have f:=Jr t
 have c:=K4 t.Args
 have b:=K4 y.Args
 omega
end Go.Ab
namespace Go.Ab
open Go
def isV (σ:List Ai) (k n:Int):Bool:=k==4&&decide (0<=n)&&decide (n<(σ.length:Int))
mutual
def Da (σ:List Ai):Ai->Ai
 | ⟨k,n,l⟩=>match (if isV σ k n then σ[n.toNat]? else none) with
  | some s=>s
  | none=>⟨k,n,Ly σ l⟩
def Ly (σ:List Ai):List Ai->List Ai
 | []=>[]
 | x::xs=>Da σ x::Ly σ xs
end
theorem As6 (σ l:List Ai):Ly σ l=l.map (Da σ):=by
 induction l with
 | nil=>rfl
 | cons x xs ih=>simp only [Ly,ih,List.map_cons]
theorem Acf {σ:List Ai} {k n:Int} (h:isV σ k n=true):∃s,σ[n.toNat]? = some s/\Ag σ n=some s/\s∈σ:=by
 simp only [isV,Dq,decide_eq_true_eq] at h
 have b:n.toNat < σ.length:=by omega
 refine ⟨σ[n.toNat],Ck b,?_,List.getElem_mem b⟩
 unfold Ag
 rw [if_pos (by omega),Ck b]
theorem Acg {σ:List Ai} {t s:Ai} (h:isV σ t.Kind t.Num=true) (b:σ[t.Num.toNat]? = some s):Da σ t=s:=by
 cases t; simp only [Da] at *; simp [h,b]
theorem Ais {σ:List Ai} {t:Ai} (h:isV σ t.Kind t.Num=false):Da σ t=⟨t.Kind,t.Num,t.Args.map (Da σ)⟩:=by
 cases t; simp only [Da] at *; simp [h,As6]
mutual
theorem Ait:∀t:Ai,Da [] t=t
 | ⟨k,n,l⟩=>by
  have hv:isV [] k n=false:=by
   unfold isV
   by_cases h:0<=n
   .rw [Ar (by simp; omega:¬n<(([]:List Ai).length:Int))]; simp
   .rw [Ar h]; simp
  simp only [Da,hv,Aiu l]; rfl
theorem Aiu:∀l:List Ai,Ly [] l=l
 | []=>rfl
 | x::xs=>by simp only [Ly,Ait x,Aiu xs]
end
mutual
theorem Aiv (σ:List Ai) (M:Nat) (hM:1<=M) (hσ:∀s∈σ,Bv s<=M):∀t:Ai,Bv (Da σ t)<=Bv t*M
 | ⟨k,n,l⟩=>by
  cases hv:isV σ k n with
  | true=>
   obtain ⟨s,h1,_,h3⟩:=Acf hv
   rw [Acg (t:=⟨k,n,l⟩) hv h1]
   have:=hσ s h3
   have h2:=Q5 ⟨k,n,l⟩
   calc Bv s<=1*M:=by omega
    _<=_:=Nat.mul_le_mul_right M h2
  | false=>
   have:=Aiw σ M hM hσ l
   simp only [Da,hv,Bv]
   simp only [Bool.false_eq_true,if_false,Bv]
   rw [Nat.add_mul]; omega
theorem Aiw (σ:List Ai) (M:Nat) (hM:1<=M) (hσ:∀s∈σ,Bv s<=M):∀l:List Ai,Cp (Ly σ l)<=Cp l*M
 | []=>by simp [Ly,Cp]
 | x::xs=>by
  have h1:=Aiv σ M hM hσ x
  have h2:=Aiw σ M hM hσ xs
  simp only [Ly,Cp]
  rw [Nat.add_mul]; omega
end
theorem Aix (σ:List Ai) (t:Ai):(bif t.Kind==(4:Int) then bif decide (t.Num>=(0:Int)) then some (decide (t.Num<(σ.length:Int))) else some false else some false)=some (isV σ t.Kind t.Num):=by
 unfold isV
 cases t.Kind==4 <;> simp
 by_cases h:0<=t.Num <;> simp [h]
theorem As7:∀(k:Nat) (t:Ai) (σ:List Ai) (M:Nat),(∀s∈σ,Bv s<=M)->Bv t+M+1<=k->k<1099511627776->Mt k t σ=some (Da σ t):=by
 intro k
 induction k with
 | zero=>intro t σ M _ h; omega
 | succ k ih=>
  intro t σ M c h hk
  have g:=Jr t
  have f:=K4 t.Args
  rw [Mt]
  rw [show (show Option Bool from bif t.Kind==(4:Int) then bif decide (t.Num>=(0:Int)) then some (decide (t.Num<(σ.length:Int))) else some false else some false)=some (isV σ t.Kind t.Num) from Aix σ t,Ae]
  cases b:isV σ t.Kind t.Num with
  | true=>
   obtain ⟨s,h1,h2,h3⟩:=Acf b
   have:=c s h3
   simp only [cond_true,h2,Ae,Acg b h1,ih s [] 0 (by simp) (by omega) (by omega),Ait]
  | false=>
   rw [Ais b]
   simp only [cond_false]
   refine I5 t.Args (fun j=>((j:Int),(t.Args.take j).map (Da σ))) rfl (by omega) ?_ ?_
   .intro j x hj hx h1 h2 h3
    have:=Kg (Cx hx)
    simp only [h1,h2,h3,cond_true,Ae,ih x σ M c (by omega) (by omega)]
    rw [Dm (by simp; omega),Ae,Dr hx]; simp
   .intro h1
    exact ⟨t.Args.map (Da σ),by simp,rfl⟩
theorem As8:∀(k:Nat) (t:Ai),Bv t<=k->Bv t<1099511627776->N7 k t=some (Bv t:Int):=by
 intro k
 induction k with
 | zero=>intro t h; have:=Q5 t; omega
 | succ k ih=>
  intro t h ht
  have b:=Jr t
  have c:=K4 t.Args
  rw [N7]
  refine I5 t.Args (fun j=>(1+(Cp (t.Args.take j):Int),(j:Int))) rfl (by omega) ?_ ?_
  .intro j x hj hx h1 h2 h3
   have g:=Kg (Cx hx)
   have f:=Ab8 t.Args (j+1)
   have e:Cp (t.Args.take (j+1))=Cp (t.Args.take j)+Bv x:=by rw [Dr hx,X9]; simp [Cp]
   simp only [h1,h2,h3,cond_true,Ae,ih x (by omega) (by omega)]
   rw [show Ac (1+(Cp (t.Args.take j):Int)+(Bv x:Int))=1+(Cp (t.Args.take (j+1)):Int) by rw [e,Ac,Bo] <;> omega]
  .intro h1
   exact ⟨1+(Cp t.Args:Int),by simp,by rw [b]; simp⟩
theorem As9 (σ:List Ai) (M:Nat) (G:1<=M) (u:M<=1048576) (A:∀s∈σ,Bv s<=M):∀(k:Nat) (t:Ai),Bv t<=k->Bv t<=1048576 ->
  ∃v:Nat,N8 k t (σ.map fun s=>(Bv s:Int))=some (v:Int)/\v<=Bv (Da σ t)/\((v=Bv (Da σ t))\/200<v):=by
 intro k
 induction k with
 | zero=>intro t h; have:=Q5 t; omega
 | succ k ih=>
  intro t h ht
  have B:=Jr t
  have z:=K4 t.Args
  have l:∀x,Bv x<=1048576->Bv (Da σ x)<=1099511627776:=fun x hx=>by
   have:=Aiv σ M G A x
   have:Bv x*M<=1048576*1048576:=Nat.mul_le_mul hx u
   omega
  rw [N8]
  rw [show (show Option Bool from bif t.Kind==(4:Int) then bif decide (t.Num>=(0:Int)) then some (decide (t.Num<((σ.map fun s=>(Bv s:Int)).length:Int))) else some false else some false)=some (isV σ t.Kind t.Num) by rw [List.length_map]; exact Aix σ t,Ae]
  cases f:isV σ t.Kind t.Num with
  | true=>
   obtain ⟨s,h1,h2,h3⟩:=Acf f
   have E:Ag (σ.map fun s=>(Bv s:Int)) t.Num=some (Bv s:Int):=by
    have:=I8 h2
    rw [Cd (n:=t.Num.toNat) (by omega)]
    simp [h1]
   simp only [cond_true,E,Ae,Acg f h1]
   exact ⟨Bv s,rfl,Nat.le_refl _,.inl rfl⟩
  | false=>
   have y:=l t ht
   rw [Ais f] at y ⊢
   simp only [cond_false]
   have g:Bv ⟨t.Kind,t.Num,t.Args.map (Da σ)⟩=1+Cp (t.Args.map (Da σ)):=by simp only [Bv]
   rw [g] at y ⊢
   refine Xo (fun v:Nat=>(v:Int)) (Ew (fun (n,i)=>∃j:Nat,i=j/\j<=t.Args.length/\n=1+(Cp ((t.Args.map (Da σ)).take j):Int)) (fun (_,i)=>t.Args.length-i.toNat)
    (fun n=>∃v:Nat,n=v/\v<=1+Cp (t.Args.map (Da σ))/\(v=1+Cp (t.Args.map (Da σ))\/200<v)) ⟨0,rfl,by omega,by simp [Cp]⟩ ?_ ?_)
   .rintro ⟨n,i⟩ ⟨j,rfl,hj,q⟩
    have q:n=_:=q
    subst q
    rcases Nat.lt_or_ge j t.Args.length with h' | h'
    .have hx:t.Args[j]? = some t.Args[j]:=Ck h'
     generalize t.Args[j]=x at hx
     have J:=Kg (Cx hx)
     obtain ⟨v,b,v2,v3⟩:=ih x (by omega) (by omega)
     have c:(t.Args.map (Da σ))[j]? = some (Da σ x):=by simp [hx]
     have e:Cp ((t.Args.map (Da σ)).take (j+1))=Cp ((t.Args.map (Da σ)).take j)+Bv (Da σ x):=by rw [Dr c,X9]; simp [Cp]
     have D:=Ab8 (t.Args.map (Da σ)) (j+1)
     have I:Ac (1+(Cp ((t.Args.map (Da σ)).take j):Int)+(v:Int))=((1+Cp ((t.Args.map (Da σ)).take j)+v:Nat):Int):=by rw [Ac,Bo] <;> omega
     simp only [Al (by omega:(j:Int)<(t.Args.length:Int)),cond_true,Cd rfl hx,Ae,b,Dj h' (by omega),I]
     by_cases hb:1+Cp ((t.Args.map (Da σ)).take j)+v>200
     .rw [Al (by omega)]
      exact .inr ⟨_,rfl,_,rfl,by omega,.inr hb⟩
     .rw [Ar (by omega)]
      refine .inl ⟨_,rfl,⟨j+1,rfl,by omega,?_⟩,by simp; omega⟩
      have:v=Bv (Da σ x):=by omega
      subst this
      rw [e]; omega
    .have:j=t.Args.length:=by omega
     subst this
     refine .inr ⟨_,by simp; rfl,1+Cp (t.Args.map (Da σ)),?_,by omega,.inl rfl⟩
     rw [List.take_of_length_le (by simp)]; omega
   .rintro n ⟨v,rfl,b,v2⟩
    exact ⟨_,rfl,v,rfl,b,v2⟩
def M6 (data:List Ay) (t:Ai) (c:Int):Option (List Ai) :=
 if t.Kind=5 then
  match Ag data t.Num with
  | none=>none
  | some x=>if (t.Args.length:Int)=x.Vars then
    match Ag x.Cons c with
    | none=>none
    | some y=>if (y.Args.map (Da t.Args)).all (fun a=>decide (Bv a<=200)) then some (y.Args.map (Da t.Args)) else none
   else none
 else none
def okL (o:Option (List Ai)):List Ai×Bool:=match o with | none=>([],false) | some l=>(l,true)
def Szv (data:List Ay):Prop:=∀x∈data,∀y∈x.Cons,y.Args.length<=6/\∀a∈y.Args,Bv a<=200
theorem K5.szv {data:List Ay} (h:K5 data):Szv data:=by
 intro x hx y hy
 obtain ⟨d,hd⟩:=List.getElem?_of_mem hx
 have h1:=h.2.1 d x hd
 obtain ⟨_,c,b⟩:=h1.2.2.2.2.2 y hy
 refine ⟨c,fun a ha=>?_⟩
 have:=List.all_eq_true.1 b a ha
 unfold Ox at this
 rw [Bool.or_eq_true] at this
 rcases this with h' | h'
 .exact (Aii hd h1.2.1 h').2
 .simp only [Dq,decide_eq_true_eq] at h'; exact h'.2
end Go.Ab
namespace Go.Ab
open Go
theorem Ata {data:List Ay} (B:Szv data) (t:Ai) (ht:Bv t<=200) (c:Int):Xc data t c=some (okL (M6 data t c)):=by
 have D:=Jr t
 have u:=K4 t.Args
 unfold Xc M6
 by_cases hk:t.Kind=5
 .simp only [Ge hk,cond_false,if_pos hk]
  cases hx:Ag data t.Num with
  | none=>
   rcases T3 hx with h | h
   .simp only [Al h,cond_true,Ae,okL]
   .by_cases h':t.Num<0
    .simp only [Al h',cond_true,Ae,okL]
    .simp only [Ar h',Al (show t.Num>=(data.length:Int) from h),cond_true,cond_false,Ae,okL]
  | some x=>
   obtain ⟨a1,a2,_,hxm⟩:=I8 hx
   simp only [Ar (by omega:¬t.Num<0),Ar (by omega:¬t.Num>=(data.length:Int)),cond_false,Ae]
   by_cases g:(t.Args.length:Int)=x.Vars
   .simp only [Ge g,cond_false,if_pos g]
    cases hy:Ag x.Cons c with
    | none=>
     rcases T3 hy with h | h
     .simp only [Al h,cond_true,Ae,okL]
     .by_cases h':c<0
      .simp only [Al h',cond_true,Ae,okL]
      .simp only [Ar h',Al (show c>=(x.Cons.length:Int) from h),cond_true,cond_false,Ae,okL]
    | some y=>
     obtain ⟨b1,b2,_,k⟩:=I8 hy
     obtain ⟨I,b⟩:=B x hxm y k
     simp only [Ar (by omega:¬c<0),Ar (by omega:¬c>=(x.Cons.length:Int)),cond_false,Ae]
     rw [Hw (n:=t.Args.length) (c:=t.Args.length) rfl rfl (by omega) (by omega) (by omega),Ae]
     refine I5 t.Args (fun j=>((j:Int),((t.Args.take j).map fun s=>(Bv s:Int))++List.replicate (t.Args.length-j) 0)) rfl (by omega) ?_ ?_
     .intro j s hj i h1 h2 h3
      have:=Kg (Cx i)
      obtain ⟨m,E⟩:∃m,t.Args.length-j=m+1:=⟨t.Args.length-j-1,by omega⟩
      have G:t.Args.length-(j+1)=m:=by omega
      have l:j=((t.Args.take j).map fun s=>(Bv s:Int)).length:=by simp; omega
      simp only [h1,h2,h3,cond_true,Ae,As8 4000000 s (by omega) (by omega),E,G,List.replicate_succ,Aca _ _ _ (j:Int) j rfl l,Ab9 _ _ _ _ (j:Int) j rfl l,Dr i]
      simp
     .intro h1
      refine ⟨t.Args.map fun s=>(Bv s:Int),by simp,?_⟩
      have q:∀s∈t.Args,Bv s<=200:=fun s i=>by have:=Kg i; omega
      refine (Xw (rt:=(y.Args.map (Da t.Args),true)) (rf:=([],false)) y.Args (fun a=>decide (Bv (Da t.Args a)<=200)) (fun j=>(j:Int)) rfl (by omega) ?_ ?_).trans ?_
      .intro j a ha h1 h2 h3
       have A:=b a (Cx ha)
       obtain ⟨v,z,v2,v3⟩:=As9 t.Args 200 (by omega) (by omega) q 4000000 a (by omega) (by omega)
       simp only [h1,h2,h3,cond_true,Ae,z]
       by_cases hb:Bv (Da t.Args a)<=200
       .rw [Al hb,Ar (by omega)]
        exact ⟨fun _=>rfl,fun h=>by cases h⟩
       .rw [Ar hb,Al (by omega)]
        exact ⟨(fun h=>by cases h),fun _=>⟨_,rfl,rfl⟩⟩
      .intro h1
       refine ⟨.inr (),by simp,?_⟩
       simp only
       refine I5 y.Args (fun j=>((j:Int),(y.Args.take j).map (Da t.Args))) rfl (by omega) ?_ ?_
       .intro j a hj ha h1 h2 h3
        have A:=b a (Cx ha)
        simp only [h1,h2,h3,cond_true,Ae,As7 4000000 a t.Args 200 q (by omega) (by omega)]
        rw [Dm (by simp; omega),Ae,Dr ha]; simp
       .intro h1
        exact ⟨y.Args.map (Da t.Args),by simp,rfl⟩
      .rw [List.all_map]
       cases f:y.Args.all ((fun a=>decide (Bv a<=200)) ∘ Da t.Args) with
       | true=>rw [if_pos rfl]; rw [show (y.Args.all fun a=>decide (Bv (Da t.Args a)<=200))=true from f]; rfl
       | false=>rw [show (y.Args.all fun a=>decide (Bv (Da t.Args a)<=200))=false from f]; rfl
   .simp only [E9 g,cond_true,Ae,if_neg g,okL]
 .simp only [E9 hk,cond_true,Ae,if_neg hk,okL]
theorem Ach {data:List Ay} {t:Ai} {c:Int} {l:List Ai} (h:M6 data t c=some l) :
  ∃x y,t.Kind=5/\Ag data t.Num=some x/\(t.Args.length:Int)=x.Vars/\Ag x.Cons c=some y/\l=y.Args.map (Da t.Args)/\∀a∈l,Bv a<=200:=by
 unfold M6 at h
 by_cases hk:t.Kind=5
 .rw [if_pos hk] at h
  cases hx:Ag data t.Num with
  | none=>rw [hx] at h; cases h
  | some x=>
   rw [hx] at h
   simp only at h
   by_cases f:(t.Args.length:Int)=x.Vars
   .rw [if_pos f] at h
    cases hy:Ag x.Cons c with
    | none=>rw [hy] at h; cases h
    | some y=>
     rw [hy] at h
     simp only at h
     by_cases b:(y.Args.map (Da t.Args)).all (fun a=>decide (Bv a<=200))=true
     .rw [if_pos b] at h
      cases h
      refine ⟨x,y,hk,rfl,f,hy,rfl,fun a ha=>?_⟩
      have:=List.all_eq_true.1 b a ha
      simpa using this
     .rw [if_neg b] at h; cases h
   .rw [if_neg f] at h; cases h
 .rw [if_neg hk] at h; cases h
def Ik (l:List Ai) (r:List Bool):List Ai:=((l.zip r).filter fun p=>!p.2).map (·.1)
def Kh (data:List Ay) (t:Ai) (c:Int):Option (List Ai):=(M6 data t c).map fun l=>Ik l (Hz data t.Num c)
theorem Atb {data:List Ay} {t:Ai} {c:Int} {l:List Ai} (h:M6 data t c=some l):(Hz data t.Num c).length=l.length:=by
 obtain ⟨x,y,_,hx,_,hy,rfl,_⟩:=Ach h
 unfold Hz
 simp only [hx,hy,List.length_map]
theorem Atc {l:List Ai} {r:List Bool} {j:Nat} {a:Ai} {b:Bool} (h1:l[j]? = some a) (h2:r[j]? = some b):Ik (l.take (j+1)) (r.take (j+1))=Ik (l.take j) (r.take j)++bif b then [] else [a]:=by
 unfold Ik
 have f:=Ep h1
 have c:=Ep h2
 rw [Dr h1,Dr h2,List.zip_append (by simp; omega)]
 cases b <;> simp
theorem Atd (l:List Ai) (r:List Bool):(Ik l r).length<=l.length:=by
 unfold Ik
 rw [List.length_map]
 refine Nat.le_trans (List.length_filter_le _ _) ?_
 rw [List.length_zip]; omega
theorem Ate {data:List Ay} {t:Ai} {c:Int} {l:List Ai} (h:Kh data t c=some l):(∀a∈l,Bv a<=200)/\∃x,Ag data t.Num=some x/\0<=c/\c<x.Cons.length:=by
 unfold Kh at h
 cases b:M6 data t c with
 | none=>rw [b] at h; cases h
 | some m=>
  rw [b] at h
  cases h
  obtain ⟨x,y,_,hx,_,hy,_,g⟩:=Ach b
  refine ⟨fun a ha=>?_,x,hx,(I8 hy).1,(I8 hy).2.1⟩
  unfold Ik at ha
  obtain ⟨p,f,rfl⟩:=List.mem_map.1 ha
  exact g _ (List.of_mem_zip (List.mem_filter.1 f).1).1
end Go.Ab
namespace Go.Ab
open Go
mutual
def Dk:Bq->Nat
 | ⟨_,l⟩=>1+Fb l
def Fb:List Bq->Nat
 | []=>0
 | x::xs=>Dk x+Fb xs
end
theorem G7 (t:Bq):Dk t=1+Fb t.Kids:=by cases t; simp only [Dk]
theorem Q7 {l:List Bq} {a:Bq} (h:a∈l):Dk a<=Fb l:=by
 induction l with
 | nil=>cases h
 | cons x xs ih=>
  simp only [Fb]
  rcases List.mem_cons.1 h with rfl | h
  .omega
  .have:=ih h; omega
theorem T8 (l:List Bq):l.length<=Fb l:=by
 induction l with
 | nil=>simp
 | cons x xs ih=>simp only [Fb,List.length_cons]; have:=G7 x; omega
mutual
def H3 (data:List Ay):Bq->Ai->Option Nat
 | ⟨n,kids⟩,t=>
  if t.Kind=6 then (if n=0 then Fj data kids t.Args else none)
  else if t.Kind=7 then (if 0<=n/\n<=6/\kids.length=0 then some n.toNat else none)
  else if t.Kind=5 then (if n=0 then I9 data kids t else none)
  else if n=0/\kids.length=0 then some 0 else none
def Fj (data:List Ay):List Bq->List Ai->Option Nat
 | [],[]=>some 0
 | i::is,t::ts=>(H3 data i t).bind fun a=>(Fj data is ts).map (a + ·)
 | [],_::_=>none
 | _::_,[]=>none
def I9 (data:List Ay):List Bq->Ai->Option Nat
 | [],_=>some 0
 | ⟨n,kids⟩::es,t=>(Kh data t n).bind fun ts=>(Fj data kids ts).bind fun a=>(I9 data es t).map (1+a + ·)
end
theorem Aiy (data:List Ay) (i:Bq) (t:Ai):H3 data i t=if t.Kind=6 then (if i.Num=0 then Fj data i.Kids t.Args else none)
  else if t.Kind=7 then (if 0<=i.Num/\i.Num<=6/\i.Kids.length=0 then some i.Num.toNat else none)
  else if t.Kind=5 then (if i.Num=0 then I9 data i.Kids t else none)
  else if i.Num=0/\i.Kids.length=0 then some 0 else none:=by cases i; simp only [H3]
theorem Aiz (data:List Ay) (e:Bq) (es:List Bq) (t:Ai):I9 data (e::es) t=(Kh data t e.Num).bind fun ts=>(Fj data e.Kids ts).bind fun a=>(I9 data es t).map (1+a + ·):=by cases e; simp only [I9]
theorem Aci (data:List Ay) (i:Bq) (b:List Bq) (t:Ai) (ts:List Ai):Fj data (i::b) (t::ts)=(H3 data i t).bind fun a=>(Fj data b ts).map (a + ·):=by simp only [Fj]
theorem Ai0 (data:List Ay):∀(b:List Bq) (ts:List Ai),ts.length≠b.length->Fj data b ts=none
 | [],[],h=>absurd rfl h
 | i::b,t::ts,h=>by rw [Aci,Ai0 data b ts (by simpa using h)]; cases H3 data i t <;> rfl
 | [],_::_,_=>by simp only [Fj]
 | _::_,[],_=>by simp only [Fj]
def Il (o:Option Nat):Int:=match o with | some d=>if d<=6 then (d:Int) else -1 | none => -1
theorem Ai1 {d:Nat} (h:d<=6):Il (some d)=d:=by simp [Il,h]
theorem Acj {d:Nat} (h:6<d):Il (some d) = -1:=by simp only [Il]; rw [if_neg (by omega)]
theorem Atf (o:Option Nat):(Il o = -1/\∀d,o=some d->6<d)\/∃d,o=some d/\d<=6/\Il o=d:=by
 cases o with
 | none=>exact .inl ⟨rfl,fun d h=>by cases h⟩
 | some d=>
  rcases Nat.lt_or_ge 6 d with h | h
  .exact .inl ⟨Acj h,fun e b=>by cases b; exact h⟩
  .exact .inr ⟨d,rfl,h,Ai1 h⟩
theorem Atg {o:Option Nat} (h:∀d,o=some d->6<d):Il o = -1:=by
 cases o with
 | none=>rfl
 | some d=>exact Acj (h d rfl)
theorem Im {α:Type} {l:List α} {j:Nat} {x:α} (h:l[j]? = some x):l.drop j=x::l.drop (j+1):=by
 have hj:=Ep h
 rw [List.drop_eq_getElem_cons hj]
 rw [Ck hj] at h
 rw [Option.some.inj h]
end Go.Ab
namespace Go.Ab
open Go
end Go.Ab
namespace Go.Ab
open Go
def I64 (n:Int):Prop:= -9223372036854775808<=n/\n<=9223372036854775807
def ti (n:Int):List Int:=(Lib.itoa n).map fun c=>(c.toNat:Int)
def Lz (c:Int):Bool:=c==45||(decide (48<=c)&&decide (c<=57))
theorem Q8 {d:Nat} (h:d<10):(UInt8.ofNat (48+d)).toNat=48+d:=by
 rw [UInt8.toNat_ofNat']; omega
theorem Yc:∀(n u:Nat),u<=n->∀c∈Lib.decDigits u,48<=c.toNat/\c.toNat<=57:=by
 intro n
 induction n with
 | zero=>
  intro u hu c hc
  rw [Lib.decDigits,dif_pos (by omega)] at hc
  simp only [List.mem_singleton] at hc
  subst hc; rw [Q8 (by omega)]; omega
 | succ n ih=>
  intro u hu c hc
  rw [Lib.decDigits] at hc
  split at hc
  .simp only [List.mem_singleton] at hc
   subst hc; rw [Q8 (by omega)]; omega
  .rcases List.mem_append.1 hc with h | h
   .exact ih (u / 10) (by omega) c h
   .simp only [List.mem_singleton] at h
    subst h; rw [Q8 (by omega)]; omega
def Yd (l:List UInt8):Nat:=l.foldl (fun a c=>10*a+(c.toNat-48)) 0
theorem Ai2:∀(n u:Nat),u<=n->Yd (Lib.decDigits u)=u:=by
 intro n
 induction n with
 | zero=>
  intro u hu
  rw [Lib.decDigits,dif_pos (by omega)]
  simp only [Yd,List.foldl_cons,List.foldl_nil]
  rw [Q8 (by omega)]; omega
 | succ n ih=>
  intro u hu
  rw [Lib.decDigits]
  split
  .simp only [Yd,List.foldl_cons,List.foldl_nil]
   rw [Q8 (by omega)]; omega
  .have:=ih (u / 10) (by omega)
   unfold Yd at *
   rw [List.foldl_append,this]
   simp only [List.foldl_cons,List.foldl_nil]
   rw [Q8 (by omega)]; omega
theorem Ai3 {u v:Nat} (h:Lib.decDigits u=Lib.decDigits v):u=v:=by
 rw [<-Ai2 u u (Nat.le_refl _),h,Ai2 v v (Nat.le_refl _)]
theorem Ath (u:Nat):Lib.decDigits u≠[]:=by
 rw [Lib.decDigits]; split <;> simp
theorem Ati {m n:Int} (h:Lib.itoa m=Lib.itoa n):m=n:=by
 have b:∀u v:Nat,45::Lib.decDigits u≠Lib.decDigits v:=by
  intro u v e
  have:=Yc v v (Nat.le_refl _) 45 (by rw [<-e]; simp)
  exact absurd this (by decide)
 unfold Lib.itoa at h
 split at h <;> split at h
 .have:=Ai3 (List.cons.inj h).2; omega
 .exact absurd h (b _ _)
 .exact absurd h.symm (b _ _)
 .have:=Ai3 h; omega
theorem F5 (n:Int):∀c∈ti n,Lz c=true:=by
 intro c hc
 unfold ti at hc
 obtain ⟨b,hb,rfl⟩:=List.mem_map.1 hc
 have key:b=45\/(48<=b.toNat/\b.toNat<=57):=by
  unfold Lib.itoa at hb
  split at hb
  .rcases List.mem_cons.1 hb with h | h
   .exact .inl h
   .exact .inr (Yc _ _ (Nat.le_refl _) b h)
  .exact .inr (Yc _ _ (Nat.le_refl _) b hb)
 unfold Lz
 rcases key with rfl | ⟨h1,h2⟩
 .decide
 .rw [Bool.or_eq_true,Dq,decide_eq_true_eq,decide_eq_true_eq]; right; omega
theorem Ack (n:Int):ti n≠[]:=by
 unfold ti Lib.itoa
 split
 .simp
 .simpa using Ath _
theorem Oz {m n:Int} (h:ti m=ti n):m=n:=by
 unfold ti at h
 have:∀l m:List UInt8,l.map (fun c=>(c.toNat:Int))=m.map (fun c=>(c.toNat:Int))->l=m:=by
  intro l
  induction l with
  | nil=>intro m h; cases m with | nil=>rfl | cons=>simp at h
  | cons x xs ih=>
   intro m h
   cases m with
   | nil=>simp at h
   | cons y ys=>
    simp only [List.map_cons,List.cons.injEq] at h
    rw [ih ys h.2,UInt8.toNat.inj (by omega:x.toNat=y.toNat)]
 exact Ati (this _ _ h)
theorem Ki {n:Int} (h:I64 n):(ti n).length<=21:=by
 unfold ti; rw [List.length_map]; exact Lib.itoa_length_le n h.1 h.2
def M7 (X:List Int):Prop:=∀c m,X=c::m->Lz c=false/\c≠40
def Ja (X:List Int):Prop:=∀c m,X=c::m->Lz c=false
theorem L0:∀(a b X Y:List Int),(∀c∈a,Lz c=true)->(∀c∈b,Lz c=true)->Ja X->Ja Y->a++X=b++Y->a=b/\X=Y
 | [],[],_,_,_,_,_,_,h=>⟨rfl,h⟩
 | [],y::b,X,Y,_,hb,g,_,h=>by
  have:=g y (b++Y) h
  rw [hb y (by simp)] at this; cases this
 | x::a,[],X,Y,ha,_,_,f,h=>by
  have:=f x (a++X) h.symm
  rw [ha x (by simp)] at this; cases this
 | x::a,y::b,X,Y,ha,hb,g,f,h=>by
  simp only [List.cons_append,List.cons.injEq] at h
  obtain ⟨j,i⟩:=L0 a b X Y (fun c hc=>ha c (by simp [hc])) (fun c hc=>hb c (by simp [hc])) g f h.2
  exact ⟨by rw [h.1,j],i⟩
mutual
def wx:Bq->List Int
 | ⟨n,kids⟩=>ti n++(if kids.length=0 then [] else 40::(wxs kids++[41]))
def wxs:List Bq->List Int
 | []=>[]
 | x::xs=>wx x++44::wxs xs
end
theorem Acl (i:Bq):wx i=ti i.Num++(if i.Kids.length=0 then [] else 40::(wxs i.Kids++[41])):=by cases i; simp only [wx]
theorem Ai4 (l m:List Bq):wxs (l++m)=wxs l++wxs m:=by
 induction l with
 | nil=>simp [wxs]
 | cons x xs ih=>simp only [List.cons_append,wxs,ih,List.append_assoc]
theorem Ai5 (b:List Bq) (X:List Int) (f:M7 X):Ja ((if b.length=0 then [] else 40::(wxs b++[41]))++X):=by
 intro c m h
 by_cases hk:b.length=0
 .rw [if_pos hk,List.nil_append] at h
  exact (f c m h).1
 .rw [if_neg hk,List.cons_append] at h
  cases h; decide
theorem Ai6 (X:List Int):M7 (44::X):=by intro c m h; cases h; exact ⟨by decide,by decide⟩
theorem Ai7:M7 []:=by intro c m h; cases h
mutual
theorem Acm:∀(i j:Bq) (X Y:List Int),M7 X->M7 Y->wx i++X=wx j++Y->i=j/\X=Y
 | ⟨n,k⟩,⟨n',k'⟩,X,Y,hX,hY,h=>by
  simp only [wx,List.append_assoc] at h
  obtain ⟨e1,e2⟩:=L0 _ _ _ _ (F5 n) (F5 n') (Ai5 k X hX) (Ai5 k' Y hY) h
  have e1:=Oz e1
  subst e1
  by_cases hk:k.length=0
  .by_cases hk':k'.length=0
   .rw [if_pos hk,if_pos hk'] at e2
    rw [List.length_eq_zero_iff.1 hk,List.length_eq_zero_iff.1 hk']
    exact ⟨rfl,e2⟩
   .rw [if_pos hk,if_neg hk',List.nil_append,List.cons_append] at e2
    exact absurd rfl (hX _ _ e2).2
  .by_cases hk':k'.length=0
   .rw [if_neg hk,if_pos hk',List.nil_append,List.cons_append] at e2
    exact absurd rfl (hY _ _ e2.symm).2
   .rw [if_neg hk,if_neg hk',List.cons_append,List.cons_append,List.append_assoc,List.append_assoc] at e2
    obtain ⟨e3,e4⟩:=Ai8 k k' X Y hX hY (List.cons.inj e2).2
    rw [e3]; exact ⟨rfl,e4⟩
theorem Ai8:∀(l m:List Bq) (X Y:List Int),M7 X->M7 Y->wxs l++([41]++X)=wxs m++([41]++Y)->l=m/\X=Y
 | [],[],X,Y,_,_,h=>by
  simp only [wxs,List.nil_append,List.cons_append,List.cons.injEq,true_and] at h
  exact ⟨rfl,h⟩
 | [],y::ys,X,Y,_,_,h=>by
  exfalso
  cases ht:ti y.Num with
  | nil=>exact Ack _ ht
  | cons c r=>
   have hc:=F5 y.Num c (by rw [ht]; simp)
   simp only [wxs,Acl y,ht,List.nil_append,List.cons_append,List.cons.injEq] at h
   rw [<-h.1] at hc; exact absurd hc (by decide)
 | x::xs,[],X,Y,_,_,h=>by
  exfalso
  cases ht:ti x.Num with
  | nil=>exact Ack _ ht
  | cons c r=>
   have hc:=F5 x.Num c (by rw [ht]; simp)
   simp only [wxs,Acl x,ht,List.nil_append,List.cons_append,List.cons.injEq] at h
   rw [h.1] at hc; exact absurd hc (by decide)
 | x::xs,y::ys,X,Y,hX,hY,h=>by
  simp only [wxs,List.append_assoc,List.cons_append] at h
  obtain ⟨e1,e2⟩:=Acm x y _ _ (Ai6 _) (Ai6 _) h
  obtain ⟨e3,e4⟩:=Ai8 xs ys X Y hX hY (by simpa using e2)
  exact ⟨by rw [e1,e3],e4⟩
end
mutual
def iR:Bq->Prop
 | ⟨n,l⟩=>I64 n/\iRs l
def iRs:List Bq->Prop
 | []=>True
 | x::xs=>iR x/\iRs xs
end
theorem Atj (i:Bq):iR i↔I64 i.Num/\iRs i.Kids:=by cases i; simp only [iR]
theorem Atl {l:List Bq} (h:iRs l) {a:Bq} (ha:a∈l):iR a:=by
 induction l with
 | nil=>cases ha
 | cons x xs ih=>
  simp only [iRs] at h
  rcases List.mem_cons.1 ha with rfl | ha
  .exact h.1
  .exact ih h.2 ha
mutual
theorem Acn:∀i:Bq,iR i->(wx i).length+1<=24*Dk i
 | ⟨n,l⟩,h=>by
  simp only [iR] at h
  have h1:=Ye l h.2
  have h2:=Ki h.1
  simp only [wx,Dk,List.length_append]
  by_cases hl:l.length=0
  .rw [if_pos hl]; simp; omega
  .rw [if_neg hl]; simp; omega
theorem Ye:∀l:List Bq,iRs l->(wxs l).length<=24*Fb l
 | [],_=>by simp [wxs,Fb]
 | x::xs,h=>by
  simp only [iRs] at h
  have h1:=Acn x h.1
  have h2:=Ye xs h.2
  have h3:=G7 x
  simp only [wxs,Fb,List.length_append,List.length_cons]; omega
end
theorem Ai9 (l m:List Bq):Fb (l++m)=Fb l+Fb m:=by
 induction l with
 | nil=>simp [Fb]
 | cons x xs ih=>simp only [List.cons_append,Fb,ih]; omega
theorem Atm (l m:List Bq):iRs (l++m)↔iRs l/\iRs m:=by
 induction l with
 | nil=>simp [iRs]
 | cons x xs ih=>simp only [List.cons_append,iRs,ih,and_assoc]
theorem Aco {n:Int} (h:I64 n):Ld n=some ⟨(Lib.itoa n).toArray⟩:=by unfold Ld; rw [if_pos (show _/\_ from h)]
theorem Atn (n:Int):J3 ⟨(Lib.itoa n).toArray⟩=ti n:=by unfold J3 ti; simp
theorem Ato:∀(k:Nat) (i:Bq) (b:List Int),Dk i<=k->iR i->b.length+24*Dk i<=1099511627776->N4 k i b=some (b++wx i):=by
 intro k
 induction k with
 | zero=>intro i b h; have:=G7 i; omega
 | succ k ih=>
  intro i b h c hb
  have E:=G7 i
  have A:=T8 i.Kids
  have c:=(Atj i).1 c
  have D:=Ki c.1
  rw [N4,Acl]
  simp only [Gc,Aco c.1,Ae,Fg,Qu,Atn]
  rw [Dm (by omega)]
  simp only [Ae]
  by_cases h0:i.Kids.length=0
  .rw [Ar (by omega),if_pos h0]; simp
  .rw [Al (by omega),if_neg h0]
   simp only [cond_true,Qi,Qu,Ae]
   rw [Dm (by simp; omega),Ae]
   have g:=Ye i.Kids c.2
   have l:∀j,(wxs (i.Kids.take j)).length<=24*Fb i.Kids:=fun j=>by
    have:=Ai4 (i.Kids.take j) (i.Kids.drop j)
    rw [List.take_append_drop] at this
    rw [this,List.length_append] at g; omega
   refine I5 i.Kids (fun j=>((j:Int),b++ti i.Num++[40]++wxs (i.Kids.take j))) (by simp [wxs]) (by omega) ?_ ?_
   .intro j x hj hx h1 h2 h3
    have B:=Q7 (Cx hx)
    have f:=Atl c.2 (Cx hx)
    have z:=Acn x f
    have q:=l (j+1)
    have e:wxs (i.Kids.take (j+1))=wxs (i.Kids.take j)++(wx x++[44]):=by rw [Dr hx,Ai4]; simp [wxs]
    rw [e] at q
    simp only [List.length_append,List.length_cons,List.length_nil] at q
    simp only [h1,h2,h3,cond_true,Ae]
    have y:Fb (i.Kids.take j)+Dk x<=Fb i.Kids:=by
     have s:=Ai9 (i.Kids.take (j+1)) (i.Kids.drop (j+1))
     rw [List.take_append_drop,Dr hx,Ai9] at s
     simp only [Fb] at s; omega
    have u:(wxs (i.Kids.take j)).length<=24*Fb (i.Kids.take j):=Ye _ (by
     have:=(Atm (i.Kids.take j) (i.Kids.drop j)).1 (by rw [List.take_append_drop]; exact c.2)
     exact this.1)
    rw [ih x _ (by omega) f (by simp; omega)]
    simp only [Ae]
    rw [Dm (by simp; omega),e]
    simp
   .intro h1
    refine ⟨b++ti i.Num++[40]++wxs i.Kids,by simp,?_⟩
    rw [Dm (by simp; omega)]
    simp
def Hh (v:Int) (i:Bq):List Int:=118::(ti v++58::wx i)
def K6 (v:Int) (i:Bq):ByteArray:=⟨(En (Hh v i)).toArray⟩
mutual
theorem Aja:∀i:Bq,∀c∈wx i,0<=c/\c<256
 | ⟨n,l⟩,c,h=>by
  simp only [wx,List.mem_append] at h
  rcases h with h | h
  .have:=F5 n c h
   simp only [Lz,Bool.or_eq_true,Dq,beq_iff_eq,decide_eq_true_eq] at this
   omega
  .by_cases hl:l.length=0
   .rw [if_pos hl] at h; cases h
   .rw [if_neg hl] at h
    simp only [List.mem_cons,List.mem_append,List.not_mem_nil,or_false] at h
    rcases h with h | h | h
    .omega
    .exact Ajb l c h
    .omega
theorem Ajb:∀l:List Bq,∀c∈wxs l,0<=c/\c<256
 | [],c,h=>by simp [wxs] at h
 | x::xs,c,h=>by
  simp only [wxs,List.mem_append,List.mem_cons] at h
  rcases h with h | h | h
  .exact Aja x c h
  .omega
  .exact Ajb xs c h
end
theorem Yf (v:Int) (i:Bq):∀c∈Hh v i,0<=c/\c<256:=by
 intro c h
 simp only [Hh,List.mem_cons,List.mem_append] at h
 rcases h with h | h | h | h
 .omega
 .have:=F5 v c h
  simp only [Lz,Bool.or_eq_true,Dq,beq_iff_eq,decide_eq_true_eq] at this
  omega
 .omega
 .exact Aja i c h
theorem Acp:∀l m:List Int,(∀c∈l,0<=c/\c<256)->(∀c∈m,0<=c/\c<256)->En l=En m->l=m
 | [],[],_,_,_=>rfl
 | [],_::_,_,_,h=>by simp [En] at h
 | _::_,[],_,_,h=>by simp [En] at h
 | x::xs,y::ys,h1,h2,h=>by
  simp only [En,List.map_cons,List.cons.injEq] at h
  have hx:=h1 x (by simp)
  have hy:=h2 y (by simp)
  have e:x.toNat=y.toNat:=by
   have:=congrArg UInt8.toNat h.1
   rw [UInt8.toNat_ofNat',UInt8.toNat_ofNat'] at this
   omega
  rw [Acp xs ys (fun c hc=>h1 c (by simp [hc])) (fun c hc=>h2 c (by simp [hc])) h.2,show x=y by omega]
theorem Atp {v w:Int} {i j:Bq} (h:K6 v i=K6 w j):v=w/\i=j:=by
 unfold K6 at h
 have h1:(En (Hh v i)).toArray=(En (Hh w j)).toArray:=by injection h
 have h2:En (Hh v i)=En (Hh w j):=by simpa using congrArg Array.toList h1
 have h3:=Acp _ _ (Yf v i) (Yf w j) h2
 simp only [Hh,List.cons.injEq,true_and] at h3
 have b:∀X:List Int,Ja (58::X):=fun X c m e=>by cases e; decide
 obtain ⟨k,g⟩:=L0 _ _ _ _ (F5 v) (F5 w) (b _) (b _) h3
 obtain ⟨f,_⟩:=Acm i j [] [] Ai7 Ai7 (by simpa using (List.cons.inj g).2)
 exact ⟨Oz k,f⟩
theorem Atq (l:List UInt8):J3 ⟨l.toArray⟩=l.map fun b=>(b.toNat:Int):=by unfold J3; simp
theorem Ajc (v:Int) (i:Bq) (c:I64 v) (g:iR i) (q:Dk i<=1048576):Lp v i=some (K6 v i):=by
 have l:=Ki c
 have f:(Lib.itoa v).length=(ti v).length:=by unfold ti; simp
 unfold Lp
 have k:D7 (ByteArray.mk #[118]) ⟨(Lib.itoa v).toArray⟩=some ⟨(118::Lib.itoa v).toArray⟩:=by
  unfold D7
  rw [if_pos]
  .congr 1
  .show 1+(Lib.itoa v).toArray.size<=9223372036854775807
   rw [List.size_toArray]; omega
 have j:D7 ⟨(118::Lib.itoa v).toArray⟩ (ByteArray.mk #[58])=some ⟨(118::(Lib.itoa v++[58])).toArray⟩:=by
  unfold D7
  rw [if_pos]
  .congr 1
  .show (118::Lib.itoa v).toArray.size+1<=9223372036854775807
   rw [List.size_toArray,List.length_cons]; omega
 simp only [Gc,Aco c,Ae,k,j,Hu,S6,Atq]
 rw [Dm (by simp; omega)]
 simp only [Ae]
 rw [Ato 4000000 i _ (by omega) g (by simp; omega)]
 simp only [Ae,Jk]
 have h:([]++(118::(Lib.itoa v++[58])).map fun b=>(b.toNat:Int))++wx i=Hh v i:=by
  unfold Hh ti; simp
 rw [h]
 unfold R9 K6
 rw [if_pos (Yf v i)]; rfl
end Go.Ab
