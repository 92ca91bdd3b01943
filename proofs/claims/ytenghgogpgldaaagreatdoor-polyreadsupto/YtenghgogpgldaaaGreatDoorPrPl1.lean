/- Plain laws: what the plain functions answer. -/
import Derived.Test.YtenghgogpgldaaaGreatDoorPrPl0
import Derived.Lib.ItoaLen
import Derived.KernelRfl
namespace Go.Ab
open Go Ieee
theorem Aih (n d:Nat):∃c,Toward.even.cut false n d=c/\(n / 2 ^ d<=c)/\c<=n / 2 ^ d+1/\(n % 2 ^ d=0->c=n / 2 ^ d):=by
 refine ⟨_,rfl,?_⟩
 unfold Toward.cut
 simp only [Nat.shiftLeft_eq,Nat.one_mul]
 by_cases hd:d<=n.log2+2
 .rw [Nat.min_eq_left hd]
  generalize h2:2 ^ d=g
  have h:0<g:=by rw [<-h2]; exact Nat.pow_pos (by decide)
  refine ⟨by omega,?_,fun h0=>?_⟩
  .have:=Bool.toNat_le (decide (g<2*(n % g))||(g==2*(n % g)&&n / g % 2==1))
   omega
  .rw [h0]
   have h1:decide (g<2*0)=false:=by simp
   have h3:(g==2*0)=false:=by simp; omega
   rw [h1,h3]; rfl
 .rw [Nat.min_eq_right (by omega)]
  have b:n<2 ^ (n.log2+1):=Nat.lt_log2_self
  have h:2 ^ (n.log2+2)=2*2 ^ (n.log2+1):=by rw [Nat.pow_succ]; omega
  have f:2 ^ (n.log2+2)<=2 ^ d:=Nat.pow_le_pow_right (by decide) (by omega)
  have k:n / 2 ^ (n.log2+2)=0:=Nat.div_eq_of_lt (by omega)
  have e2:n % 2 ^ (n.log2+2)=n:=Nat.mod_eq_of_lt (by omega)
  have j:n / 2 ^ d=0:=Nat.div_eq_of_lt (by omega)
  have i:n % 2 ^ d=n:=Nat.mod_eq_of_lt (by omega)
  rw [k,e2,j,i]
  have h1:decide (2 ^ (n.log2+2)<2*n)=false:=by simp; omega
  have h3:(2 ^ (n.log2+2)==2*n)=false:=by simp; omega
  rw [h1,h3]
  exact ⟨by simp,by simp,fun _=>rfl⟩
theorem Mm (f:Nat) (place e:Int) (u:f≠0) (E:place+f.log2=e) (h1 : -1000<=e) (h2:e<=900) :
  ∃(m:Nat) (p:Int),double.read (double.nearest false f place) = .number false m p/\4503599627370496<=m/\m<9007199254740992/\(p=e-52\/(p=e-51/\m=4503599627370496)):=by
 have g:max (place+f.log2-(double.fractionBits:Int)) double.leastPlace=e-52:=by
  have a:(double.fractionBits:Int)=52:=rfl
  have b:double.leastPlace = -1074:=by decide
  rw [a,b,E]; omega
 have hw:double.nearest false f place=min ((e-52+1074).toNat*4503599627370496+Toward.even.cut false (f <<< (place-(e-52)).toNat) ((e-52)-place).toNat) (2047*4503599627370496):=by
  unfold Format.nearest
  rw [if_neg u]
  simp only [g]
  have b:double.leastPlace = -1074:=by decide
  have c:double.binade=4503599627370496:=by decide
  have d:double.infRung=2047*4503599627370496:=by decide
  rw [b,c,d]
  unfold Format.word
  simp only [Bool.false_eq_true,if_false]
  congr 3
 have hk:4503599627370496<=Toward.even.cut false (f <<< (place-(e-52)).toNat) ((e-52)-place).toNat/\Toward.even.cut false (f <<< (place-(e-52)).toNat) ((e-52)-place).toNat<=9007199254740992:=by
  obtain ⟨c,hc,s,q,i⟩:=Aih (f <<< (place-(e-52)).toNat) ((e-52)-place).toNat
  rw [hc]
  have D:2 ^ f.log2<=f:=Nat.log2_self_le u
  have B:f<2 ^ (f.log2+1):=Nat.lt_log2_self
  rw [Nat.shiftLeft_eq] at s q i
  rcases Int.le_total place (e-52) with h | h
  .have z:(place-(e-52)).toNat=0:=by omega
   rw [z,Nat.pow_zero,Nat.mul_one] at s q i
   have hd:f.log2=52+((e-52)-place).toNat:=by omega
   have hp:2 ^ f.log2=4503599627370496*2 ^ ((e-52)-place).toNat:=by rw [hd,Nat.pow_add]
   have l:2 ^ (f.log2+1)=9007199254740992*2 ^ ((e-52)-place).toNat:=by rw [Nat.pow_succ,hp]; omega
   have hpos:0<2 ^ ((e-52)-place).toNat:=Nat.pow_pos (by decide)
   have a1:4503599627370496<=f / 2 ^ ((e-52)-place).toNat:=(Nat.le_div_iff_mul_le hpos).2 (by omega)
   have a2:f / 2 ^ ((e-52)-place).toNat<9007199254740992:=(Nat.div_lt_iff_lt_mul hpos).2 (by omega)
   omega
  .have z:((e-52)-place).toNat=0:=by omega
   rw [z,Nat.pow_zero,Nat.div_one] at s q i
   have I:=i (Nat.mod_one _)
   have hd:52=f.log2+(place-(e-52)).toNat:=by omega
   have hp:2 ^ f.log2*2 ^ (place-(e-52)).toNat=4503599627370496:=by rw [<-Nat.pow_add,<-hd]
   have l:2 ^ (f.log2+1)*2 ^ (place-(e-52)).toNat=9007199254740992:=by rw [Nat.pow_succ,Nat.mul_right_comm,hp]
   have hpos:0<2 ^ (place-(e-52)).toNat:=Nat.pow_pos (by decide)
   have a1:=Nat.mul_le_mul_right (2 ^ (place-(e-52)).toNat) D
   have a2:=Nat.mul_lt_mul_of_pos_right B hpos
   omega
 generalize Toward.even.cut false (f <<< (place-(e-52)).toNat) ((e-52)-place).toNat=c at *
 obtain ⟨t,ht⟩:∃t:Nat,(e-52+1074).toNat=t/\t<=1922/\(t:Int)=e+1022:=⟨_,rfl,by omega,by omega⟩
 rw [ht.1] at hw
 rw [Nat.min_eq_left (by omega)] at hw
 rw [hw]
 have b:double.leastPlace = -1074:=by decide
 have G:double.binade=4503599627370496:=by decide
 have d:double.infRung=2047*4503599627370496:=by decide
 have x:double.signWeight=9223372036854775808:=by decide
 unfold Format.read
 rw [b,G,d,x]
 have A:(t*4503599627370496+c) / 9223372036854775808=0:=Nat.div_eq_of_lt (by omega)
 have y:(t*4503599627370496+c) % 9223372036854775808=t*4503599627370496+c:=Nat.mod_eq_of_lt (by omega)
 simp only [A,y]
 rw [if_neg (by omega),if_pos (by omega)]
 by_cases hc:c<9007199254740992
 .refine ⟨c,e-52,?_,hk.1,hc,.inl rfl⟩
  have k:(t*4503599627370496+c) % 4503599627370496=c-4503599627370496:=by omega
  have j:(t*4503599627370496+c) / 4503599627370496=t+1:=by omega
  rw [k,j,show 4503599627370496+(c-4503599627370496)=c by omega,show (-1074:Int)+((t+1-1:Nat):Int)=e-52 by omega]; rfl
 .have hc:c=9007199254740992:=by omega
  subst hc
  refine ⟨4503599627370496,e-51,?_,by decide,by decide,.inr ⟨rfl,rfl⟩⟩
  have k:(t*4503599627370496+9007199254740992) % 4503599627370496=0:=by omega
  have j:(t*4503599627370496+9007199254740992) / 4503599627370496=t+2:=by omega
  rw [k,j,Nat.add_zero,show (-1074:Int)+((t+2-1:Nat):Int)=e-51 by omega]; rfl
theorem W1 (v:Int) (h:0<=v):floatOfInt .f64 v=double.nearest false v.natAbs 0:=by
 have e:decide (v<0)=false:=Bo (by omega)
 show double.nearest (decide (v<0)) v.natAbs 0=_
 rw [e]
theorem Aii:double.read 4876203697187506176 = .number false 7812500000000000 7:=by decide
theorem R8 {n k:Nat} (h1:2 ^ k<=n) (h2:n<2 ^ (k+1)):n.log2=k:=(Nat.log2_eq_iff (by have:=Nat.pow_pos (n:=k) (show 0<2 by decide); omega)).2 ⟨h1,h2⟩
theorem Ov {n k:Nat} (h:n<2 ^ (k+1)):n.log2<=k:=by
 by_cases h0:n=0
 .subst h0; simp
 .have:=(Nat.log2_lt h0).2 h; omega
theorem W2 {n k:Nat} (h:2 ^ k<=n):k<=n.log2:=(Nat.le_log2 (by have:=Nat.pow_pos (n:=k) (show 0<2 by decide); omega)).2 h
theorem Aij (x:Int) (h0:1<=x) (h1:x<1000000000):∃(w:Nat) (m:Nat) (p:Int),floatBits .mul .f64 (floatOfInt .f64 x) 4876203697187506176=some w/\double.read w = .number false m p/\4503599627370496<=m/\m<9007199254740992/\7<=p/\(p<=37\/(p=38/\m=4503599627370496)):=by
 have l:x.natAbs.log2<=29:=Ov (by simp; omega)
 obtain ⟨m1,b,g,a1,a2,a3⟩:=Mm x.natAbs 0 (x.natAbs.log2) (by omega) (by omega) (by omega) (by omega)
 have c:(m1*7812500000000000).log2=104\/((m1*7812500000000000).log2=105/\m1≠4503599627370496):=by
  have b1:2 ^ 104<=m1*7812500000000000:=by omega
  have b2:m1*7812500000000000<2 ^ 106:=by omega
  rcases Nat.lt_or_ge (m1*7812500000000000) (2 ^ 105) with h | h
  .exact .inl (R8 b1 h)
  .exact .inr ⟨R8 h b2,by rintro rfl; omega⟩
 obtain ⟨m2,i,f,k,j,q⟩:=Mm (m1*7812500000000000) (b+7) (b+7+(m1*7812500000000000).log2) (by omega) rfl (by omega) (by omega)
 refine ⟨double.nearest false (m1*7812500000000000) (b+7),m2,i,?_,f,k,j,by omega,by omega⟩
 show ((double.read (floatOfInt .f64 x)).product (double.read 4876203697187506176)).map double.write=_
 rw [W1 x (by omega),g,Aii]; rfl
theorem Aik (w:Nat) (m:Nat) (p:Int) (hw:double.read w = .number false m p) (M:4503599627370496<=m) (L:m<9007199254740992) (I:7<=p) (j:p<=37\/(p=38/\m=4503599627370496)) (y:Int) (h0:0<=y) (h1:y<1000000000000000000) :
  ∃(w':Nat) (g:Nat) (f:Int),floatBits .add .f64 w (floatOfInt .f64 y)=some w'/\double.read w' = .number false g f/\4503599627370496<=g/\g<9007199254740992/\7<=f/\f<=39:=by
 obtain ⟨c,b,x,V,U⟩:∃(c:Nat) (b:Int),double.read (floatOfInt .f64 y) = .number false c b/\b<=8/\c<9007199254740992/\-1074<=b:=by
  rw [W1 y h0]
  by_cases hy:y.natAbs=0
  .rw [hy]; exact ⟨0,-1074,by decide,by decide,by decide,by decide⟩
  .have Z:y.natAbs.log2<=59:=Ov (by simp; omega)
   obtain ⟨m1,D,A,a1,a2,a3⟩:=Mm y.natAbs 0 (y.natAbs.log2) hy (by omega) (by omega) (by omega)
   exact ⟨m1,D,A,by omega,a2,by omega⟩
 generalize hb:min p b=base
 have ht:∃T:Nat,signed false m (p-base).toNat+signed false c (b-base).toNat=(T:Int)/\T=m*2 ^ (p-base).toNat+c*2 ^ (b-base).toNat:=by
  refine ⟨m <<< (p-base).toNat+c <<< (b-base).toNat,rfl,by rw [Nat.shiftLeft_eq,Nat.shiftLeft_eq]⟩
 obtain ⟨T,t1,t2⟩:=ht
 have G:0<2 ^ (p-base).toNat:=Nat.pow_pos (by decide)
 have i:2 ^ (b-base).toNat<=2 ^ (8-base).toNat:=Nat.pow_le_pow_right (by decide) (by omega)
 have J:m*2 ^ (p-base).toNat<=2 ^ (90-base).toNat:=by
  rcases j with h | ⟨rfl,rfl⟩
  .have e:2 ^ (90-base).toNat=2 ^ (p-base).toNat*2 ^ (90-p).toNat:=by rw [<-Nat.pow_add]; congr 1; omega
   have e2:2 ^ 53<=2 ^ (90-p).toNat:=Nat.pow_le_pow_right (by decide) (by omega)
   rw [e,Nat.mul_comm]
   exact Nat.mul_le_mul_left _ (by omega)
  .have e:2 ^ (90-base).toNat=2 ^ (38-base).toNat*2 ^ 52:=by rw [<-Nat.pow_add]; congr 1; omega
   rw [e,Nat.mul_comm]; omega
 have E:c*2 ^ (b-base).toNat<2 ^ (90-base).toNat:=by
  have e:2 ^ (90-base).toNat=2 ^ (8-base).toNat*2 ^ 82:=by rw [<-Nat.pow_add]; congr 1; omega
  have e3:c*2 ^ (b-base).toNat<=c*2 ^ (8-base).toNat:=Nat.mul_le_mul_left _ i
  have N:0<2 ^ (8-base).toNat:=Nat.pow_pos (by decide)
  have e5:c*2 ^ (8-base).toNat<2 ^ 82*2 ^ (8-base).toNat:=Nat.mul_lt_mul_of_pos_right (by omega) N
  rw [e,Nat.mul_comm (2 ^ (8-base).toNat)]; omega
 have s:T<2 ^ ((90-base).toNat+1):=by rw [Nat.pow_succ]; omega
 have q:2 ^ (52+(p-base).toNat)<=T:=by
  have:2 ^ 52*2 ^ (p-base).toNat<=m*2 ^ (p-base).toNat:=Nat.mul_le_mul_right _ (by omega)
  rw [Nat.pow_add]; omega
 have Y:=Ov s
 have X:=W2 q
 have u:T≠0:=by
  have:=Nat.pow_pos (n:=52+(p-base).toNat) (show 0<2 by decide); omega
 obtain ⟨m3,B,z,S,R,c3⟩:=Mm T base (base+T.log2) u rfl (by omega) (by omega)
 refine ⟨double.nearest false T base,m3,B,?_,z,S,R,by omega,by omega⟩
 show ((double.read w).sum (double.read (floatOfInt .f64 y))).map double.write=_
 rw [hw,x]
 have l:¬((T:Int)=0):=by omega
 have k:decide ((T:Int)<0)=false:=Bo (by omega)
 simp only [Datum.sum,hb,t1,if_neg l,k,Option.map_some,Int.natAbs_natCast,Format.write]
theorem Ail {b m N:Nat} {p:Int} (g:double.read b = .number false m p) (i:(Datum.number false m p).toInt .zero=some (N:Int)) (h:N<=9223372036854775808):floatToIntVal .f64 b .u64=some (N:Int):=by
 have hd:FloatKind.f64.decode b = .number false m p:=g
 have f:IntKind.u64.min=0:=by decide
 have c:IntKind.u64.max=18446744073709551615:=by decide
 unfold floatToIntVal
 rw [hd,i]
 simp only [f,c]
 rw [if_pos ⟨by omega,by omega⟩]
theorem Aim (w:Nat) (m:Nat) (p:Int) (hw:double.read w = .number false m p) (R:4503599627370496<=m) (M:m<9007199254740992) (L:7<=p) (J:p<=39) (z:Int) (h0:1000000000<=z) (h1:z<1000000000000000000) :
  ∃(w':Nat) (n:Int),floatBits .quo .f64 w (floatOfInt .f64 z)=some w'/\floatToIntVal .f64 w' .u64=some n/\0<=n/\n<=9223372036854775808:=by
 have U:z.natAbs.log2<=59:=Ov (by simp; omega)
 have S:29<=z.natAbs.log2:=W2 (by simp; omega)
 obtain ⟨f,c,u,a1,a2,a3⟩:=Mm z.natAbs 0 (z.natAbs.log2) (by omega) (by omega) (by omega) (by omega)
 have D:m.log2=52:=R8 (by omega) (by omega)
 have y:f.log2=52:=R8 (by omega) (by omega)
 generalize hq:m*2 ^ 54 / f=q
 generalize l:((m*2 ^ 54 % f != 0).toNat)=s
 have E:s<=1:=by rw [<-l]; exact Bool.toNat_le _
 have I:q<2 ^ 55:=by rw [<-hq]; exact (Nat.div_lt_iff_lt_mul (by omega)).2 (by omega)
 have G:2 ^ 53<=q:=by rw [<-hq]; exact (Nat.le_div_iff_mul_le (by omega)).2 (by omega)
 have B:(2*q+s).log2<=55:=Ov (by omega)
 have A:54<=(2*q+s).log2:=W2 (by omega)
 obtain ⟨m4,b,x,c1,Y,Z⟩:=Mm (2*q+s) (p-c-(54:Nat)-1) (p-c-(54:Nat)-1+(2*q+s).log2) (by omega) rfl (by omega) (by omega)
 have j:(Datum.number false m p).quotient (double.fractionBits+2) (Datum.number false f c)=some (.number false (2*q+s) (p-c-(54:Nat)-1)):=by
  have i:¬f=0:=by omega
  have X:double.fractionBits+2=54:=rfl
  simp only [Datum.quotient,if_neg i,X,D,y,Nat.shiftLeft_eq,Nat.add_sub_cancel,hq,l,Bool.xor_self]
 have hb:m4*2 ^ b.toNat<=9223372036854775808:=by
  have k:b<=10\/(b=11/\m4=4503599627370496):=by omega
  rcases k with h | ⟨rfl,rfl⟩
  .have:2 ^ b.toNat<=2 ^ 10:=Nat.pow_le_pow_right (by decide) (by omega)
   have:=Nat.mul_le_mul (Nat.le_of_lt Y) this
   omega
  .decide
 obtain ⟨N,V,g⟩:∃N:Nat,(Datum.number false m4 b).toInt .zero=some (N:Int)/\N<=9223372036854775808:=by
  refine ⟨(m4 <<< b.toNat) / (1 <<< min (-b).toNat ((m4 <<< b.toNat).log2+2)),?_,?_⟩
  .simp only [Datum.toInt,Datum.integral,Toward.cut,signed,Bool.false_eq_true,if_false,Nat.shiftLeft_zero,Bool.toNat_false,Nat.add_zero]
  .rw [Nat.shiftLeft_eq m4]
   exact Nat.le_trans (Nat.div_le_self _ _) hb
 refine ⟨double.nearest false (2*q+s) (p-c-(54:Nat)-1),(N:Int),?_,?_,by omega,by omega⟩
 .have e:floatBits .quo .f64 w (floatOfInt .f64 z)=((double.read w).quotient (double.fractionBits+2) (double.read (floatOfInt .f64 z))).map double.write:=rfl
  rw [e,hw,W1 z (by omega),u,j]
  simp only [Option.map_some,Format.write]
 .exact Ail x V g
theorem Ain (r n:Nat) (h2:2<=A2 n) (E:A2 r<=A2 n+1) (G:A2 n<1099511627776):∃d:Nat,Ob (Ad r) (Ad n)=some (d:Int)/\d<1000000000:=by
 unfold Ob
 unfold A2 at h2 E G
 have c:n≠0:=by rintro rfl; rw [Di] at h2; simp at h2
 by_cases S:(Ad r).length<(Ad n).length
 .exact ⟨0,by rw [Be (by omega)]; rfl,by decide⟩
 .rw [Bo (by omega),cond_false]
  have y:Ac (((Ad n).length:Int)-1)=(((Ad n).length-1:Nat):Int):=by rw [Ac,Cd] <;> omega
  have u:Ac (((Ad n).length:Int)-2)=(((Ad n).length-2:Nat):Int):=by rw [Ac,Cd] <;> omega
  have i1:(Ad n).length-1<(Ad n).length:=by omega
  have i2:(Ad n).length-2<(Ad n).length:=by omega
  have h:(Ad n).length-1<(Ad r).length:=by omega
  have g:(Ad n).length-2<(Ad r).length:=by omega
  have t1:=(Cu n).get i1
  have t2:=(Cu n).get i2
  have s1:=(Cu r).get h
  have s2:=(Cu r).get g
  have i:(Ad n)[(Ad n).length-1]≠0:=by
   have:=(Rq n).2 (E3 c)
   rwa [List.getLast_eq_getElem] at this
  rw [y,u,Cj rfl i1,Ah,Cj rfl i2,Ah,Cj rfl h,Ah,Cj rfl g,Ah]
  generalize (Ad n)[(Ad n).length-1]=a1 at *
  generalize (Ad n)[(Ad n).length-2]=a2 at *
  generalize (Ad r)[(Ad n).length-1]=b1 at *
  generalize (Ad r)[(Ad n).length-2]=b2 at *
  have l:Ak (Ak (Ak b1*1000000000)+Ak b2)=b1*1000000000+b2:=by
   rw [show Ak b1=b1 from B2 (by omega) (by omega),show Ak b2=b2 from B2 (by omega) (by omega),show Ak (b1*1000000000)=b1*1000000000 from B2 (by omega) (by omega)]
   exact B2 (by omega) (by omega)
  have j:Ak (Ak (Ak a1*1000000000)+Ak a2)=a1*1000000000+a2:=by
   rw [show Ak a1=a1 from B2 (by omega) (by omega),show Ak a2=a2 from B2 (by omega) (by omega),show Ak (a1*1000000000)=a1*1000000000 from B2 (by omega) (by omega)]
   exact B2 (by omega) (by omega)
  rw [l,j]
  by_cases U:(Ad r).length=(Ad n).length
  .rw [Hk (by omega),cond_true,Gl (by omega) (by omega) (by omega),Ah]
   have M:0<=(b1*1000000000+b2) / (a1*1000000000+a2):=Int.ediv_nonneg (by omega) (by omega)
   have L:(b1*1000000000+b2) / (a1*1000000000+a2)<1000000000:=Int.ediv_lt_of_lt_mul (by omega) (by omega)
   exact ⟨((b1*1000000000+b2) / (a1*1000000000+a2)).toNat,by congr 1; omega,by omega⟩
  .have hk:(Ad n).length<(Ad r).length:=by omega
   have b:r≠0:=by rintro rfl; rw [Di] at hk; simp at hk
   have J:=(Cu r).get hk
   have f:(Ad r)[(Ad n).length]≠0:=by
    have:=(Rq r).2 (E3 b)
    rw [List.getLast_eq_getElem] at this
    have e:(Ad r).length-1=(Ad n).length:=by omega
    simpa [e] using this
   rw [Dw (by omega),cond_false,Cj rfl hk,Ah]
   generalize (Ad r)[(Ad n).length]=x at *
   obtain ⟨s,m3,A,f1,f2,f3,f4,f5,f6⟩:=Aij x (by omega) (by omega)
   obtain ⟨q,m4,z,g1,g2,g3,g4,g5,g6⟩:=Aik s m3 A f2 f3 f4 f5 f6 (b1*1000000000+b2) (by omega) (by omega)
   obtain ⟨I,k,D,B,R,N⟩:=Aim q m4 z g2 g3 g4 g5 g6 (a1*1000000000+a2) (by omega) (by omega)
   rw [f1,Ah,g1,Ah,D,Ah,B,Ah,show Ak (k+2)=k+2 from B2 (by omega) (by omega)]
   by_cases hc:(999999999:Int)<k+2
   .exact ⟨999999999,by rw [if_pos hc]; rfl,by decide⟩
   .exact ⟨(k+2).toNat,by rw [if_neg hc]; congr 1; omega,by omega⟩
end Go.Ab
namespace Go.Ab
open Go
theorem Aio (x r:Nat):A2 (x % 1000000000+1000000000*r)<=A2 r+1:=by
 apply Jm
 have:=H8 r
 rw [Nat.pow_succ]
 omega
set_option maxHeartbeats 1000000 in
theorem W3 (m n:Nat) (hm:A2 m<137438953472) (Z:A2 n<137438953472) (z:n≠0):Km (Ad m) (Ad n)=some (Ad (m / n),Ad (m % n)):=by
 unfold Km
 rw [R5,Mk m n (by omega) (by omega),Ah]
 have ad:=hm
 have ac:=Z
 unfold A2 at hm Z
 by_cases c:m<n
 .rw [show Db m n = -1 by rw [Db,if_pos c],Be (by decide:(-1:Int)<0),cond_true,Kz _ (by omega),Ah,Ahr (Rq m),Nat.div_eq_of_lt c,Nat.mod_eq_of_lt c,Di]
 .rw [Bo (show ¬Db m n<0 by rw [Db,if_neg c]; split <;> decide),cond_false]
  have a6:(Ad n).length≠0:=fun e=>E3 z (List.length_eq_zero_iff.1 e)
  by_cases h1:(Ad n).length=1
  .rw [Hk (by omega:((Ad n).length:Int)=1),cond_true]
   have y:n<1000000000:=by
    have:=H8 n
    rw [show A2 n=1 from h1] at this
    simpa using this
   have U:Ad n = [(n:Int)]:=by
    rw [Hm z,Nat.div_eq_of_lt y,Di,Nat.mod_eq_of_lt y]
   rw [U,show Ag [(n:Int)] 0=some (n:Int) from rfl,Ah,show Ak (n:Int)=n from B2 (by omega) (by omega),Aie m n (by omega) (by omega) (by omega),Ah]
   have a1:m % n<n:=Nat.mod_lt _ (by omega)
   rw [R4,Jo (m % n) (by omega),Ah]
  .rw [Dw (by omega:((Ad n).length:Int)≠1),cond_false]
   have hw:Ac (((Ad m).length:Int)-1)=((Ad m).length:Int)-1:=by rw [Ac,Cd] <;> omega
   rw [Ir rfl rfl (Nat.le_refl _) (by omega) (by omega),hw]
   simp only [Ah]
   have ha:=Cu m
   refine E8 (fun (r,i,q)=>∃(k R:Nat),r=Ad R/\i=(k:Int)-1/\k<=(Ad m).length/\R<n/\q.length=(Ad m).length/\A6 q/\Ae (q.drop k)*n+R=Ae ((Ad m).drop k))
    (fun (_,i,_)=>(i+1).toNat) (fun (r,q)=>∃R:Nat,r=Ad R/\R<n/\q.length=(Ad m).length/\A6 q/\Ae q*n+R=m)
    ⟨(Ad m).length,0,by rw [Di],rfl,Nat.le_refl _,by omega,by simp,A6.replicate _,by simp [Ae]⟩ ?_ ?_
   .rintro ⟨r,i,q⟩ ⟨k,R,rfl,rfl,hk,E,g,b,u⟩
    cases k with
    | zero=>exact .inr ⟨(Ad R,q),by simp,R,rfl,E,g,b,by simpa [C5] using u⟩
    | succ j=>
     have hj:j<(Ad m).length:=by omega
     have A:j<q.length:=by omega
     have hx:=ha.get hj
     obtain ⟨x,l⟩:∃x:Nat,(Ad m)[j]=(x:Int):=⟨(Ad m)[j].toNat,by omega⟩
     have G:x<1000000000:=by omega
     have e0:((j+1:Nat):Int)-1=(j:Int):=by omega
     have e1:decide ((j:Int)>=0)=true:=Be (by omega)
     have V:A2 R<=A2 n:=Fa (by omega)
     have aa:A2 (x+1000000000*R)<=A2 R+1:=by
      have:=Aio x R
      rwa [Nat.mod_eq_of_lt G] at this
     have af:(Ad R).length<=(Ad n).length:=V
     have B:F4 ((x:Int)::Ad R)=some (Ad (x+1000000000*R)):=by
      rw [Kz _ (by simp; omega)]
      congr 1
      refine Gm ?_ ?_
      .intro d hd
       rcases List.mem_cons.1 hd with rfl | hd
       .omega
       .exact Cu R d hd
      .simp only [Ae,C5]; omega
     obtain ⟨d0,M,ae⟩:=Ain (x+1000000000*R) n (by unfold A2; omega) (by omega) (by omega)
     generalize Y:x+1000000000*R=R1 at *
     have a8:R1<1000000000*n:=by omega
     have f:∀d:Nat,d<18446744073709551616->Il (d:Int)=some (Ad d)/\H4 (Ad n) (Ad d)=some (Ad (n*d)):=by
      intro d hd
      have:=Ot hd
      exact ⟨by rw [R4,Jo d hd],R7 n d (by omega) (by omega)⟩
     have D:∀d:Nat,d<18446744073709551616->Jd (Ad (n*d)) (Ad R1)=some (Db (n*d) R1):=by
      intro d hd
      have h3:=Ot hd
      have h4:=H9 n d
      rw [R5,Mk _ _ (by omega) (by omega)]
     simp only [e0,e1,cond_true,Cj rfl hj,l,Ah,Ft (show ([(x:Int)].length+(Ad R).length)*4<=_ by simp; omega),List.singleton_append,B,M]
     refine .inl (Mi (Eh (fun d=>∃e:Nat,d=e/\e<=d0) (fun d=>d.toNat) (fun d=>∃e:Nat,d=e/\e<=d0/\n*e<=R1) ⟨d0,rfl,Nat.le_refl _⟩ ?_ ?_))
     .rintro d ⟨e,rfl,he⟩
      by_cases S:e=0
      .subst S
       exact .inr ⟨0,rfl,0,rfl,by omega,by simp⟩
      .obtain ⟨m1,m2⟩:=f e (by omega)
       simp only [Be (by omega:(e:Int)>0),cond_true,m1,m2,D e (by omega),Ah]
       by_cases hc:R1<n*e
       .refine .inl ⟨((e-1:Nat):Int),?_,⟨e-1,rfl,by omega⟩,by simp; omega⟩
        rw [show Db (n*e) R1=1 by rw [Db,if_neg (by omega),if_pos hc],show decide ((1:Int)>0)=true from rfl,cond_true,show Ak ((e:Int)-1)=((e-1:Nat):Int) by rw [Ak,B2] <;> omega]
       .refine .inr ⟨(e:Int),?_,e,rfl,he,by omega⟩
        rw [Bo (show ¬Db (n*e) R1>0 by rw [Db,if_neg hc]; split <;> decide),cond_false]
     .rintro d ⟨e,rfl,he,J⟩
      obtain ⟨m1,m2⟩:=f e (by omega)
      simp only [m1,m2,Ah,R6 R1 (n*e) (by omega) J]
      refine Eh (fun (r,d)=>∃(R2 e2:Nat),r=Ad R2/\d=e2/\n*e2+R2=R1) (fun (r,_)=>(Ae r).toNat) (fun (r,d)=>∃(R2 e2:Nat),r=Ad R2/\d=e2/\n*e2+R2=R1/\R2<n) ⟨R1-n*e,e,rfl,rfl,by omega⟩ ?_ ?_
      .rintro ⟨r,d⟩ ⟨R2,e2,rfl,rfl,I⟩
       have a7:A2 R2<=A2 R1:=Fa (by omega)
       have N:e2<1000000000:=by
        rcases Nat.lt_or_ge e2 1000000000 with h | h
        .exact h
        .exfalso
         have:n*1000000000<=n*e2:=Nat.mul_le_mul_left n h
         omega
       simp only [R5,Mk R2 n (by omega) (by omega),Ah]
       by_cases hc:R2<n
       .refine .inr ⟨(Ad R2,(e2:Int)),?_,R2,e2,rfl,rfl,I,hc⟩
        rw [Bo (show ¬Db R2 n>=0 by rw [Db,if_pos hc]; decide),cond_false]
       .refine .inl ⟨(Ad (R2-n),((e2+1:Nat):Int)),?_,⟨R2-n,e2+1,rfl,rfl,?_⟩,?_⟩
        .rw [Be (show Db R2 n>=0 by rw [Db,if_neg hc]; split <;> decide),cond_true,R6 R2 n (by omega) (by omega),Ah,show Ak ((e2:Int)+1)=((e2+1:Nat):Int) by rw [Ak,B2] <;> omega]
        .rw [Nat.mul_add]; omega
        .simp only [C5]; omega
      .rintro ⟨r,d⟩ ⟨R2,e2,rfl,rfl,I,X⟩
       have N:e2<1000000000:=by
        rcases Nat.lt_or_ge e2 1000000000 with h | h
        .exact h
        .exfalso
         have:n*1000000000<=n*e2:=Nat.mul_le_mul_left n h
         omega
       have w1:Bg (e2:Int)=e2:=Dg (by omega) (by omega)
       have w8:Ac ((j:Int)-1)=(j:Int)-1:=by rw [Ac,Cd] <;> omega
       refine ⟨_,by simp only [Cj rfl A,Ah,w1,w8,E9 rfl],(Ad R2,(j:Int)-1,q.set j (e2:Int)),rfl,⟨j,R2,rfl,rfl,by omega,X,by simpa using g,b.set _ (by omega) (by omega),?_⟩,by simp⟩
       have d1:(q.set j (e2:Int)).drop j=(e2:Int)::q.drop (j+1):=by
        rw [List.drop_eq_getElem_cons (by simpa using A),List.drop_set_of_lt (by omega)]; simp
       rw [d1,List.drop_eq_getElem_cons hj,l]
       simp only [Ae]
       rw [<-u]
       have:((n*e2+R2:Nat):Int)=((x+1000000000*R:Nat):Int):=by rw [I,Y]
       simp only [Int.natCast_add,Int.natCast_mul] at this
       grind
   .rintro ⟨r,q⟩ ⟨R,rfl,E,g,b,u⟩
    dsimp only
    have ab:=Dy b.u32
    obtain ⟨Q,hQ⟩:∃Q:Nat,Ae q=Q:=⟨(Ae q).toNat,by omega⟩
    rw [hQ] at u
    have s:Q*n+R=m:=by
     have:((Q*n+R:Nat):Int)=(m:Int):=by simp only [Int.natCast_add,Int.natCast_mul]; exact u
     omega
    have hd:m / n=Q:=by rw [<-s,Nat.mul_comm,Nat.mul_add_div (by omega),Nat.div_eq_of_lt E]; rfl
    have L:m % n=R:=by rw [<-s,Nat.mul_comm,Nat.mul_add_mod,Nat.mod_eq_of_lt E]
    rw [Kz q (by omega),Ah,Gm b hQ,hd,L]
theorem Aip (m n:Nat) (h:A2 m<137438953472) (g:A2 n<137438953472):N0 (Ad m) (Ad n)=some (Ad (Nat.gcd m n)):=by
 unfold N0
 refine E8 (fun (a,b)=>∃x y:Nat,a=Ad x/\b=Ad y/\A2 x<137438953472/\A2 y<137438953472/\Nat.gcd x y=Nat.gcd m n) (fun (_,b)=>(Ae b).toNat)
  (fun r=>r=Ad (Nat.gcd m n)) ⟨m,n,rfl,rfl,h,g,rfl⟩ ?_ (by rintro e rfl; rfl)
 rintro ⟨a,b⟩ ⟨x,y,rfl,rfl,hx,hy,f⟩
 by_cases c:y=0
 .subst c
  refine .inr ⟨Ad x,by rw [Di]; rfl,?_⟩
  rw [<-f,Nat.gcd_zero_right]
 .have i:(Ad y).length≠0:=fun e=>E3 c (List.length_eq_zero_iff.1 e)
  have j:decide (((Ad y).length:Int)>0)=true:=Be (by omega)
  refine .inl ⟨(Ad y,Ad (x % y)),?_,⟨y,x % y,rfl,rfl,hy,by have:=Fa (Nat.mod_le x y); omega,?_⟩,?_⟩
  .simp only [j,cond_true,W3 x y hx hy c,Ah]
  .rw [<-f,Nat.gcd_comm y,<-Nat.gcd_rec,Nat.gcd_comm]
  .simp only [C5]
   have:=Nat.mod_lt x (by omega:y>0)
   omega
end Go.Ab
namespace Go.Ab
open Go
def Jr (b:Bool) (n d:Nat):A3:=if d=0 then ⟨false,[],[1]⟩ else Bs b n d
theorem W4 {n:Nat} (h:n≠0):(Ad n).length≠0:=fun e=>E3 h (List.length_eq_zero_iff.1 e)
theorem Aby (c:Bool) (a b:List Int) (ha:Gz a) (hb:Gz b) (s:a.length<137438953400) (q:b.length<137438953400):Hh c a b=some (Jr c (Ae a).toNat (Ae b).toNat):=by
 unfold Hh
 have h1:=R0 ha
 have h2:=R0 hb
 rw [Abx a ha (by omega),Ah,Abx b hb (by omega),Ah]
 generalize (Ae a).toNat=n at *
 generalize (Ae b).toNat=d at *
 by_cases g:n=0
 .subst g
  have:Jr c 0 d=⟨false,[],[1]⟩:=by unfold Jr; split <;> simp [Bs]
  rw [this,Di]; rfl
 .have k:=W4 g
  by_cases hd:d=0
  .subst hd
   simp only [Dw (by omega:((Ad n).length:Int)≠0),cond_false,Di,Ah]
   rfl
  .have l:=W4 hd
   have f:Nat.gcd n d≠0:=by have:=Nat.gcd_pos_of_pos_left d (by omega:0<n); omega
   have x:A2 (Nat.gcd n d)<=A2 n:=Fa (Nat.gcd_le_left d (by omega:0<n))
   simp only [Dw (by omega:((Ad n).length:Int)≠0),cond_false,Dw (by omega:((Ad d).length:Int)≠0),Ah,Aip n d (by omega) (by omega)]
   rw [Jr,if_neg hd,Bs,if_neg g]
   have key:(bif (((Ad (Nat.gcd n d)).length:Int) != (1:Int)) then some true else ((Ag (Ad (Nat.gcd n d)) 0).bind fun j=>some (j != (1:Int))))=some (decide (Nat.gcd n d≠1)):=by
    have h3:=Ww (Nat.gcd n d)
    unfold Kp at h3
    by_cases u:(Ad (Nat.gcd n d)).length=1
    .rw [Hk (by omega:((Ad (Nat.gcd n d)).length:Int)=1),cond_true] at h3
     rw [D8 (by omega:((Ad (Nat.gcd n d)).length:Int)=1),cond_false]
     cases i:Ag (Ad (Nat.gcd n d)) 0 with
     | none=>rw [i] at h3; cases h3
     | some v=>
      rw [i] at h3
      simp only [Ah] at h3 ⊢
      have h3:=Option.some.inj h3
      congr 1
      rw [bne,h3]; simp
    .rw [Dw (by omega:((Ad (Nat.gcd n d)).length:Int)≠1),cond_false] at h3
     rw [Dx (by omega:((Ad (Nat.gcd n d)).length:Int)≠1),cond_true]
     have h3:=Option.some.inj h3
     have:Nat.gcd n d≠1:=by simpa using h3.symm
     rw [Be this]
   rw [key,Ah]
   by_cases h:Nat.gcd n d=1
   .rw [Bo (by simpa using h),cond_false,h]; simp
   .rw [Be h,cond_true,W3 n _ (by omega) (by omega) f,Ah,W3 d _ (by omega) (by omega) f,Ah]
theorem Aiq (a:A3):Jr a.Neg (Ae a.Num).toNat (Ae a.Den).toNat=Bs (sv a) (nv a) (dv a):=by
 unfold Jr sv nv dv
 by_cases b:(Ae a.Num).toNat=0
 .simp [b,Bs]
 .by_cases hd:(Ae a.Den).toNat=0
  .simp [hd,Bs]
  .simp [b,hd]
theorem W5 (a:A3) (k:Nat) (h:RB k a) (hk:k<137438953400):Ki a=some (Bs (sv a) (nv a) (dv a)):=by
 unfold Ki
 have:=h.nl
 have:=h.dl
 rw [Aby _ _ _ h.num h.den (by omega) (by omega),Ah,Aiq]
theorem W6 (s:Bool) (n d:Nat) (hd:d≠0):(Bs s n d).Num=Ad (nv (Bs s n d))/\(Bs s n d).Den=Ad (dv (Bs s n d))/\(Bs s n d).Neg=sv (Bs s n d):=by
 obtain ⟨h1,h2,h3,c⟩:=W0 s n d hd
 rw [h1,h2]
 by_cases h0:n=0
 .subst h0
  rw [c rfl,Wy]
  have b:d / Nat.gcd 0 d=1:=by rw [Nat.gcd_zero_left]; exact Nat.div_self (by omega)
  rw [b,Nat.zero_div,Di,Ml]; exact ⟨rfl,rfl,rfl⟩
 .rw [h3 h0]; simp [Bs,h0]
theorem R9 (a:A3):∃g:Nat,g≠0/\nv a=g*nv (Bs (sv a) (nv a) (dv a))/\dv a=g*dv (Bs (sv a) (nv a) (dv a))/\sv (Bs (sv a) (nv a) (dv a))=sv a:=by
 obtain ⟨h1,h2,h3,b⟩:=W0 (sv a) (nv a) (dv a) (Fb a)
 have hd:=Fb a
 have c:0<Nat.gcd (nv a) (dv a):=Nat.gcd_pos_of_pos_right _ (by omega)
 refine ⟨Nat.gcd (nv a) (dv a),by omega,?_,?_,?_⟩
 .rw [h1]; exact (Nat.mul_div_cancel' (Nat.gcd_dvd_left _ _)).symm
 .rw [h2]; exact (Nat.mul_div_cancel' (Nat.gcd_dvd_right _ _)).symm
 .by_cases h0:nv a=0
  .rw [b h0]
   unfold nv at h0
   unfold sv
   split at h0
   .rename_i hc; rw [if_pos hc]
   .omega
  .exact h3 h0
theorem Air (s:Bool) (n d:Nat) (h:d≠0):Jr s n d=Bs s n d:=by rw [Jr,if_neg h]
theorem Ow (b:Bool) (n d:Nat) (f:A2 n<137438953400) (hd:A2 d<137438953400) (c:d≠0):Hh b (Ad n) (Ad d)=some (Bs b n d):=by
 unfold A2 at f hd
 rw [Aby b _ _ (Cu n).u32 (Cu d).u32 f hd,C5,C5,Int.toNat_natCast,Int.toNat_natCast,Air _ _ _ c]
theorem Ais {k:Nat} {a:A3} (h:RB k a):RB (k+1) (Bs (sv a) (nv a) (dv a)):=Wz _ _ _ _ h.nv h.dv (by omega)
theorem Abz {k:Nat} {a:A3} (h:RB k a):A2 (nv (Bs (sv a) (nv a) (dv a)))<=k+1/\A2 (dv (Bs (sv a) (nv a) (dv a)))<=k+1:=by
 obtain ⟨g,b,h1,h2,_⟩:=R9 a
 have a1:=h.nv
 have a2:=h.dv
 refine ⟨Nat.le_trans (Fa ?_) a1,Nat.le_trans (Fa ?_) a2⟩
 .exact Nat.le_trans (Nat.le_mul_of_pos_left _ (by omega)) (Nat.le_of_eq h1.symm)
 .exact Nat.le_trans (Nat.le_mul_of_pos_left _ (by omega)) (Nat.le_of_eq h2.symm)
theorem Ait (s1:Bool) (c j:Nat) (s2:Bool) (b i g h:Nat) (s:g≠0) (q:h≠0):Ia s1 (g*c) (g*j) s2 (h*b) (h*i)=g*h*Ia s1 c j s2 b i/\Jq s1 (g*c) (g*j) s2 (h*b) (h*i)=Jq s1 c j s2 b i:=by
 have l:g*c*(h*i)=g*h*(c*i):=by grind
 have e2:h*b*(g*j)=g*h*(b*j):=by grind
 have hc:(g*h*(b*j)<=g*h*(c*i))↔(b*j<=c*i):=Nat.mul_le_mul_left_iff (Nat.mul_pos (by omega) (by omega))
 unfold Ia Jq
 rw [l,e2]
 by_cases k:s1=s2
 .simp only [if_pos k]
  exact ⟨by rw [Nat.mul_add],trivial⟩
 .simp only [if_neg k]
  by_cases f:b*j<=c*i
  .simp only [if_pos f,if_pos (hc.2 f)]
   exact ⟨by rw [Nat.mul_sub],trivial⟩
  .simp only [if_neg f,if_neg (fun h=>f (hc.1 h))]
   exact ⟨by rw [Nat.mul_sub],trivial⟩
theorem Aiu (a b:A3) (j k:Nat) (ha:RB j a) (hb:RB k b) (hj:j<34359738368) (hk:k<34359738368) :
  Ja a b=some (Bs (Jq (sv a) (nv a) (dv a) (sv b) (nv b) (dv b)) (Ia (sv a) (nv a) (dv a) (sv b) (nv b) (dv b)) (dv a*dv b)):=by
 unfold Ja
 rw [W5 a j ha (by omega),Ah,W5 b k hb (by omega),Ah]
 obtain ⟨g,q,a1,a2,a3⟩:=R9 a
 obtain ⟨h,l,b1,b2,x⟩:=R9 b
 obtain ⟨f1,f2,f3⟩:=W6 (sv a) (nv a) (dv a) (Fb a)
 obtain ⟨u,e2,s⟩:=W6 (sv b) (nv b) (dv b) (Fb b)
 obtain ⟨D,B⟩:=Abz ha
 obtain ⟨A,y⟩:=Abz hb
 rw [f1,f2,f3,u,e2,s,a3,x]
 generalize hc:Bs (sv a) (nv a) (dv a)=c at *
 generalize hd:Bs (sv b) (nv b) (dv b)=d at *
 have m1:=H9 (nv c) (dv d)
 have m2:=H9 (nv d) (dv c)
 have m3:=H9 (dv c) (dv d)
 have m4:=Wp (nv c*dv d) (nv d*dv c)
 have m5:=Fa (Nat.sub_le (nv c*dv d) (nv d*dv c))
 have m6:=Fa (Nat.sub_le (nv d*dv c) (nv c*dv d))
 have z:dv c*dv d≠0:=Nat.mul_ne_zero (Fb c) (Fb d)
 obtain ⟨s1,s2⟩:=Ait (sv a) (nv c) (dv c) (sv b) (nv d) (dv d) g h q l
 rw [a1,a2,b1,b2,s1,s2,show g*dv c*(h*dv d)=g*h*(dv c*dv d) by grind,R3 _ _ _ _ (Nat.mul_ne_zero q l)]
 rw [R7 _ _ (by omega) (by omega),Ah,R7 _ _ (by omega) (by omega),Ah,R7 _ _ (by omega) (by omega),Ah]
 unfold Jq Ia
 by_cases i:sv a=sv b
 .have e:(sv a==sv b)=true:=by rw [i]; exact beq_self_eq_true _
  rw [e,cond_true,Aig _ _ (by omega) (by omega),Ah,Ow _ _ _ (by omega) (by omega) z,Ah,if_pos i,if_pos i]
 .have e:(sv a==sv b)=false:=by simpa using i
  rw [e,cond_false,R5,Mk _ _ (by omega) (by omega),Ah,if_neg i,if_neg i]
  by_cases f:nv d*dv c<=nv c*dv d
  .rw [Be (show Db (nv c*dv d) (nv d*dv c)>=0 by rw [Db,if_neg (by omega)]; split <;> decide),cond_true,R6 _ _ (by omega) f,Ah,Ow _ _ _ (by omega) (by omega) z,Ah,if_pos f,if_pos f]
  .rw [Bo (show ¬Db (nv c*dv d) (nv d*dv c)>=0 by rw [Db,if_pos (by omega)]; decide),cond_false,R6 _ _ (by omega) (by omega),Ah,Ow _ _ _ (by omega) (by omega) z,Ah,if_neg f,if_neg f]
theorem Aiv (a:A3) (k:Nat) (h:RB k a) (hk:k<137438953400):Nl a=some (Ky (sv a) (nv a)):=by
 unfold Nl
 rw [W5 a k h hk,Ah]
 obtain ⟨g,b,a1,a2,a3⟩:=R9 a
 obtain ⟨f1,f2,f3⟩:=W6 (sv a) (nv a) (dv a) (Fb a)
 rw [f1,f3,a3,Ky]
 by_cases h0:nv a=0
 .have:nv (Bs (sv a) (nv a) (dv a))=0:=by
   rw [h0] at a1
   rcases Nat.mul_eq_zero.1 a1.symm with h | h
   .exact (b h).elim
   .rw [h0]; exact h
  rw [this,Di,if_pos h0]; rfl
 .have:nv (Bs (sv a) (nv a) (dv a))≠0:=by
   intro e; rw [e,Nat.mul_zero] at a1; exact h0 a1
  have:=W4 this
  rw [Dw (by omega),cond_false,if_neg h0]
  cases sv a <;> rfl
theorem Aiw (z:Int) (h1 : -9223372036854775808<=z) (h2:z<=9223372036854775807):Kg z=some (Bs (decide (z<0)) z.natAbs 1):=by
 unfold Kg
 have j:=Ot (n:=z.natAbs) (by omega)
 have c:([1]:List Int)=Ad 1:=Ml.symm
 by_cases h:z<0
 .have i:Ac (z+1)=z+1:=Cd (by omega) (by omega)
  have g:Ac (0-(z+1))=0-(z+1):=Cd (by omega) (by omega)
  have f:Ak (0-(z+1))=0-(z+1):=B2 (by omega) (by omega)
  have b:Ak (0-(z+1)+1)=((z.natAbs:Nat):Int):=by rw [Ak,B2 (by omega) (by omega)]; omega
  rw [Be h,cond_true,i,g,f,b,R4,Jo _ (by omega),Ah,c,Ow _ _ _ (by omega) (by rw [Ou]; decide) (by decide),Ah]
 .have b:Ak z=((z.natAbs:Nat):Int):=by rw [Ak,B2 (by omega) (by omega)]; omega
  rw [Bo h,cond_false,b,R4,Jo _ (by omega),Ah,c,Ow _ _ _ (by omega) (by rw [Ou]; decide) (by decide),Ah]
end Go.Ab
namespace Go.Ab
open Go
theorem Ab0 (s:Bool) (n d:Nat) (hd:d≠0):∃g:Nat,g≠0/\n=g*nv (Bs s n d)/\d=g*dv (Bs s n d)/\(n≠0->sv (Bs s n d)=s)/\(n=0->sv (Bs s n d)=false):=by
 obtain ⟨h1,h2,h3,b⟩:=W0 s n d hd
 have c:0<Nat.gcd n d:=Nat.gcd_pos_of_pos_right _ (by omega)
 exact ⟨Nat.gcd n d,by omega,by rw [h1]; exact (Nat.mul_div_cancel' (Nat.gcd_dvd_left _ _)).symm,by rw [h2]; exact (Nat.mul_div_cancel' (Nat.gcd_dvd_right _ _)).symm,h3,b⟩
end Go.Ab
namespace Go.Ab
open Go
mutual
def tsz:Ar->Nat
 | ⟨_,_,l⟩=>1+Js l
def Js:List Ar->Nat
 | []=>0
 | x::xs=>tsz x+Js xs
end
theorem Ab1 (t:Ar):tsz t=1+Js t.Args:=by cases t; simp only [tsz]
theorem Aix (t:Ar):1<=tsz t:=by rw [Ab1]; omega
theorem Aiy {l:List Ar} {a:Ar} (h:a∈l):tsz a<=Js l:=by
 induction l with
 | nil=>cases h
 | cons x xs ih=>
  simp only [Js]
  rcases List.mem_cons.1 h with rfl | h
  .omega
  .have:=ih h; omega
theorem Ab2 (l:List Ar):l.length<=Js l:=by
 induction l with
 | nil=>simp
 | cons x xs ih=>simp only [Js,List.length_cons]; have:=Aix x; omega
end Go.Ab
namespace Go.Ab
open Go
def Aiz (a:Ar) (i:Int):Bool:=a.Kind==4&&a.Num==i&&a.Args.length==0
def Ai0 (l:List Ar):Bool:=l.zipIdx.all fun q=>Aiz q.1 q.2
def Ai1 (t:Ar) (d vars:Int):Bool:=t.Kind==5&&t.Num==d&&(t.Args.length:Int)==vars&&Ai0 t.Args
def Ai2 (data:List Bk) (d c:Int):List Bool :=
 match Ag data d with
 | none=>[]
 | some x=>match Ag x.Cons c with
  | none=>[]
  | some y=>y.Args.map fun t=>Ai1 t d x.Vars
end Go.Ab
namespace Go.Ab
open Go
def SzD (data:List Bk):Prop:=∀x∈data,x.Cons.length<=1048576/\∀y∈x.Cons,Js y.Args<=1048576
end Go.Ab
namespace Go.Ab
open Go
theorem Ai3 {R:Type} {c:Bool} {X Y:Option R} {Q:R->Prop} (h1:∃r,X=some r/\Q r) (h2:∃r,Y=some r/\Q r):∃r,(bif c then X else Y)=some r/\Q r:=by cases c <;> assumption
end Go.Ab
namespace Go.Ab
open Go
end Go.Ab
namespace Go.Ab
open Go
theorem Ab3 (a b:ByteArray):(a==b)=true↔a=b:=by
 constructor
 .intro h
  cases a with | mk a=>cases b with | mk b=>
  have:a=b:=by exact eq_of_beq h
  rw [this]
 .rintro rfl
  cases a with | mk a=>exact beq_self_eq_true a
def K0 (o:List (ByteArray×Bool)) (L:List ByteArray):Prop:=(∀p∈o,p.2=true)/\∀s,D4 o s=true↔s∈L
theorem K0.nil:K0 [] []:=⟨by simp,by simp [D4]⟩
theorem K0.get {o:List (ByteArray×Bool)} {L:List ByteArray} (h:K0 o L) {s:ByteArray} (b:D4 o s=true):Gu o s false=true:=by
 unfold Gu
 unfold D4 at b
 rw [List.any_eq_true] at b
 obtain ⟨p,g,f⟩:=b
 cases c:o.find? (fun p=>s==p.1) with
 | none=>exact absurd f (by have:=List.find?_eq_none.1 c p g; simpa using this)
 | some q=>exact h.1 q (List.mem_of_find?_eq_some c)
theorem Ai4 (o:List (ByteArray×Bool)) (s t:ByteArray) (v:Bool):D4 (Eg o s v) t=(D4 o t||t==s):=by
 induction o with
 | nil=>simp [Eg,D4]
 | cons p o ih=>
  unfold Eg
  cases hp:(s==p.1) with
  | true=>
   have:s=p.1:=(Ab3 _ _).1 hp
   subst this
   simp only [cond_true,D4,List.any_cons]
   cases t==p.1 <;> simp
  | false=>
   simp only [D4,List.any_cons] at ih ⊢
   simp only [cond_false,List.any_cons,ih,Bool.or_assoc]
theorem K0.put {o:List (ByteArray×Bool)} {L:List ByteArray} (h:K0 o L) (s:ByteArray):K0 (Eg o s true) (L++[s]):=by
 refine ⟨?_,fun t=>?_⟩
 .have:∀o:List (ByteArray×Bool),(∀p∈o,p.2=true)->∀p∈Eg o s true,p.2=true:=by
   intro o
   induction o with
   | nil=>intro _ p hp; simp [Eg] at hp; rw [hp]
   | cons q o ih=>
    intro b p hp
    unfold Eg at hp
    cases hq:(s==q.1) with
    | true=>
     rw [hq] at hp
     simp only [cond_true,List.mem_cons] at hp
     rcases hp with rfl | hp
     .rfl
     .exact b p (by simp [hp])
    | false=>
     rw [hq] at hp
     simp only [cond_false,List.mem_cons] at hp
     rcases hp with rfl | hp
     .exact b _ (by simp)
     .exact ih (fun p hp=>b p (by simp [hp])) p hp
  exact this o h.1
 .rw [Ai4,Bool.or_eq_true,h.2 t,Ab3]; simp
end Go.Ab
namespace Go.Ab
open Go
theorem SzD.args {data:List Bk} (h:SzD data) {x:Bk} (hx:x∈data) {y:Wa} (hy:y∈x.Cons) {t:Ar} (ht:t∈y.Args):tsz t<=1048576/\t.Args.length<=1048576/\y.Args.length<=1048576:=by
 have h1:=(h x hx).2 y hy
 have h3:=Aiy ht
 have f:=Ab1 t
 have c:=Ab2 t.Args
 have b:=Ab2 y.Args
 omega
end Go.Ab
namespace Go.Ab
open Go
def isV (σ:List Ar) (k n:Int):Bool:=k==4&&decide (0<=n)&&decide (n<(σ.length:Int))
mutual
def sub (σ:List Ar):Ar->Ar
 | ⟨k,n,l⟩=>match (if isV σ k n then σ[n.toNat]? else none) with
  | some s=>s
  | none=>⟨k,n,Ab4 σ l⟩
def Ab4 (σ:List Ar):List Ar->List Ar
 | []=>[]
 | x::xs=>sub σ x::Ab4 σ xs
end
def Ai5 (data:List Bk) (t:Ar) (c:Int):Option (List Ar) :=
 if t.Kind=5 then
  match Ag data t.Num with
  | none=>none
  | some x=>if (t.Args.length:Int)=x.Vars then
    match Ag x.Cons c with
    | none=>none
    | some y=>if (y.Args.map (sub t.Args)).all (fun a=>decide (tsz a<=200)) then some (y.Args.map (sub t.Args)) else none
   else none
 else none
end Go.Ab
namespace Go.Ab
open Go
def Ai6 (l:List Ar) (r:List Bool):List Ar:=((l.zip r).filter fun p=>!p.2).map (·.1)
def Ai7 (data:List Bk) (t:Ar) (c:Int):Option (List Ar):=(Ai5 data t c).map fun l=>Ai6 l (Ai2 data t.Num c)
end Go.Ab
namespace Go.Ab
open Go
mutual
def isz:Bl->Nat
 | ⟨_,l⟩=>1+Is l
def Is:List Bl->Nat
 | []=>0
 | x::xs=>isz x+Is xs
end
theorem Hn (t:Bl):isz t=1+Is t.Kids:=by cases t; simp only [isz]
theorem Sa {l:List Bl} {a:Bl} (h:a∈l):isz a<=Is l:=by
 induction l with
 | nil=>cases h
 | cons x xs ih=>
  simp only [Is]
  rcases List.mem_cons.1 h with rfl | h
  .omega
  .have:=ih h; omega
theorem W7 (l:List Bl):l.length<=Is l:=by
 induction l with
 | nil=>simp
 | cons x xs ih=>simp only [Is,List.length_cons]; have:=Hn x; omega
mutual
def Ab5 (data:List Bk):Bl->Ar->Option Nat
 | ⟨n,kids⟩,t=>
  if t.Kind=6 then (if n=0 then W8 data kids t.Args else none)
  else if t.Kind=7 then (if 0<=n/\n<=6/\kids.length=0 then some n.toNat else none)
  else if t.Kind=5 then (if n=0 then Ab6 data kids t else none)
  else if n=0/\kids.length=0 then some 0 else none
def W8 (data:List Bk):List Bl->List Ar->Option Nat
 | [],[]=>some 0
 | i::is,t::ts=>(Ab5 data i t).bind fun a=>(W8 data is ts).map (a + ·)
 | [],_::_=>none
 | _::_,[]=>none
def Ab6 (data:List Bk):List Bl->Ar->Option Nat
 | [],_=>some 0
 | ⟨n,kids⟩::es,t=>(Ai7 data t n).bind fun ts=>(W8 data kids ts).bind fun a=>(Ab6 data es t).map (1+a + ·)
end
def Ai8 (o:Option Nat):Int:=match o with | some d=>if d<=6 then (d:Int) else -1 | none => -1
theorem Ab7 {α:Type} {l:List α} {j:Nat} {x:α} (h:l[j]? = some x):l.drop j=x::l.drop (j+1):=by
 have hj:=Fw h
 rw [List.drop_eq_getElem_cons hj]
 rw [Ci hj] at h
 rw [Option.some.inj h]
end Go.Ab
namespace Go.Ab
open Go
end Go.Ab
namespace Go.Ab
open Go
def I64 (n:Int):Prop:= -9223372036854775808<=n/\n<=9223372036854775807
def ti (n:Int):List Int:=(Lib.itoa n).map fun c=>(c.toNat:Int)
def Ox (c:Int):Bool:=c==45||(decide (48<=c)&&decide (c<=57))
theorem W9 {d:Nat} (h:d<10):(UInt8.ofNat (48+d)).toNat=48+d:=by
 rw [UInt8.toNat_ofNat']; omega
theorem Xa:∀(n u:Nat),u<=n->∀c∈Lib.decDigits u,48<=c.toNat/\c.toNat<=57:=by
 intro n
 induction n with
 | zero=>
  intro u hu c hc
  rw [Lib.decDigits,dif_pos (by omega)] at hc
  simp only [List.mem_singleton] at hc
  subst hc; rw [W9 (by omega)]; omega
 | succ n ih=>
  intro u hu c hc
  rw [Lib.decDigits] at hc
  split at hc
  .simp only [List.mem_singleton] at hc
   subst hc; rw [W9 (by omega)]; omega
  .rcases List.mem_append.1 hc with h | h
   .exact ih (u / 10) (by omega) c h
   .simp only [List.mem_singleton] at h
    subst h; rw [W9 (by omega)]; omega
theorem Ai9 (u:Nat):Lib.decDigits u≠[]:=by
 rw [Lib.decDigits]; split <;> simp
theorem Xb (n:Int):∀c∈ti n,Ox c=true:=by
 intro c hc
 unfold ti at hc
 obtain ⟨b,hb,rfl⟩:=List.mem_map.1 hc
 have key:b=45\/(48<=b.toNat/\b.toNat<=57):=by
  unfold Lib.itoa at hb
  split at hb
  .rcases List.mem_cons.1 hb with h | h
   .exact .inl h
   .exact .inr (Xa _ _ (Nat.le_refl _) b h)
  .exact .inr (Xa _ _ (Nat.le_refl _) b hb)
 unfold Ox
 rcases key with rfl | ⟨h1,h2⟩
 .decide
 .rw [Bool.or_eq_true,bae,decide_eq_true_eq,decide_eq_true_eq]; right; omega
theorem Aja (n:Int):ti n≠[]:=by
 unfold ti Lib.itoa
 split
 .simp
 .simpa using Ai9 _
mutual
def wx:Bl->List Int
 | ⟨n,kids⟩=>ti n++(if kids.length=0 then [] else 40::(wxs kids++[41]))
def wxs:List Bl->List Int
 | []=>[]
 | x::xs=>wx x++44::wxs xs
end
mutual
def iR:Bl->Prop
 | ⟨n,l⟩=>I64 n/\iRs l
def iRs:List Bl->Prop
 | []=>True
 | x::xs=>iR x/\iRs xs
end
def Xc (v:Int) (i:Bl):List Int:=118::(ti v++58::wx i)
mutual
theorem Ab8:∀i:Bl,∀c∈wx i,0<=c/\c<256
 | ⟨n,l⟩,c,h=>by
  simp only [wx,List.mem_append] at h
  rcases h with h | h
  .have:=Xb n c h
   simp only [Ox,Bool.or_eq_true,bae,beq_iff_eq,decide_eq_true_eq] at this
   omega
  .by_cases hl:l.length=0
   .rw [if_pos hl] at h; cases h
   .rw [if_neg hl] at h
    simp only [List.mem_cons,List.mem_append,List.not_mem_nil,or_false] at h
    rcases h with h | h | h
    .omega
    .exact Ab9 l c h
    .omega
theorem Ab9:∀l:List Bl,∀c∈wxs l,0<=c/\c<256
 | [],c,h=>by simp [wxs] at h
 | x::xs,c,h=>by
  simp only [wxs,List.mem_append,List.mem_cons] at h
  rcases h with h | h | h
  .exact Ab8 x c h
  .omega
  .exact Ab9 xs c h
end
theorem Ajb (v:Int) (i:Bl):∀c∈Xc v i,0<=c/\c<256:=by
 intro c h
 simp only [Xc,List.mem_cons,List.mem_append] at h
 rcases h with h | h | h | h
 .omega
 .have:=Xb v c h
  simp only [Ox,Bool.or_eq_true,bae,beq_iff_eq,decide_eq_true_eq] at this
  omega
 .omega
 .exact Ab8 i c h
end Go.Ab
namespace Go.Ab
open Go
def tyX (vars:List Ar) (res:Ar) (v:Int):Option Ar:=if v = -1 then some res else Ag vars v
end Go.Ab
namespace Go.Ab
open Go
def Cp (a b:Int):Int:=if a<b then -1 else if a>b then 1 else 0
def Ck (a b:Int):Int:=if a=0 then b else a
theorem Dn {a b:Int}:Cp a b=0↔a=b:=by unfold Cp; split <;> (try split) <;> omega
theorem It (a b:Int):Gv a b=some (Cp a b):=by
 unfold Gv Jf Cp
 simp only [Ah,bne_self_eq_false,cond_false]
 by_cases h:a<b
 .rw [Be h,if_pos h]; rfl
 .rw [Bo h,if_neg h]
  by_cases h':a>b
  .rw [Be h',if_pos h']; rfl
  .rw [Bo h',if_neg h']; rfl
theorem Aca (a b:Int):N3 a b=some (Cp a b):=It a b
theorem Mn (a b:Int):Hz [a,b]=some (Ck a b):=by
 unfold Hz Ck
 by_cases ha:a=0
 .rw [if_pos ha]
  by_cases hb:b=0
  .refine Mj 2 (fun j=>(j:Int)) rfl ?_ ⟨.inr (),rfl,by rw [hb]⟩
   intro j hj
   match j,hj with
   | 0,_=>subst ha; rfl
   | 1,_=>subst hb; rfl
  .refine Mj 1 (fun j=>(j:Int)) rfl ?_ ⟨.inl b,?_,rfl⟩
   .intro j hj
    match j,hj with
    | 0,_=>subst ha; rfl
   .show (bif (b != 0) then _ else _)=_
    rw [Dx hb]; rfl
 .rw [if_neg ha]
  refine Mj 0 (fun j=>(j:Int)) rfl (fun j hj=>by omega) ⟨.inl a,?_,rfl⟩
  show (bif (a != 0) then _ else _)=_
  rw [Dx ha]; rfl
theorem Sb (a b:Int) (h:a≠b):L8 (decide (a<b))=some (Cp a b):=by
 unfold L8 Cp
 by_cases h':a<b
 .rw [Be h',if_pos h']; rfl
 .rw [Bo h',if_neg h',if_pos (by omega)]; rfl
theorem Sc (a b:Int) (h:a≠b):Ko (decide (a<b))=some (Cp a b):=Sb a b h
theorem Sd (a b:Int) (h:a≠b):Kl (decide (a<b))=some (Cp a b):=Sb a b h
def Cx {α:Type} (g:α->α->Int):List α->List α->Int
 | x::xs,y::ys=>Ck (g x y) (Cx g xs ys)
 | _,_=>0
theorem Oy {α:Type} (g:α->α->Int) (l m:List α) {step:Int->Option (Int⊕(Int⊕Unit))} (k:l.length=m.length) (hb:l.length<4611686018427387904)
  (f:∀(j:Nat) (x y:α),l[j]? = some x->m[j]? = some y->decide ((j:Int)<(l.length:Int))=true->Ag l (j:Int)=some x->Ag m (j:Int)=some y->decide ((j:Int)>=(m.length:Int))=false->Ac ((j:Int)+1)=((j+1:Nat):Int) ->
   step (j:Int)=if g x y=0 then some (.inl ((j+1:Nat):Int)) else some (.inr (.inl (g x y))))
  (i:decide ((l.length:Int)<(l.length:Int))=false->step (l.length:Int)=some (.inr (.inr ()))) :
  ∃z,Aj step 0=some z/\(match z with | .inl r=>r=Cx g l m/\r≠0 | .inr _=>Cx g l m=0):=by
 have key:∀(n j:Nat),j+n=l.length->∃z,Aj step (j:Int)=some z/\(match z with | .inl r=>r=Cx g (l.drop j) (m.drop j)/\r≠0 | .inr _=>Cx g (l.drop j) (m.drop j)=0):=by
  intro n
  induction n with
  | zero=>
   intro j hj
   have:j=l.length:=by omega
   subst this
   refine ⟨.inr (),I7 (i (by simp)),?_⟩
   rw [List.drop_of_length_le (by omega)]; simp [Cx]
  | succ n ih=>
   intro j hj
   have hx:l[j]? = some l[j]:=Ci (by omega)
   have hy:m[j]? = some m[j]:=Ci (by omega)
   generalize l[j]=x at hx
   generalize m[j]=y at hy
   have h:=f j x y hx hy (Be (by omega)) (Fs rfl hx) (Fs rfl hy) (Bo (by omega)) (E4 (show j<l.length by omega) hb)
   rw [Ab7 hx,Ab7 hy]
   by_cases b:g x y=0
   .rw [if_pos b] at h
    obtain ⟨z,c,z2⟩:=ih (j+1) (by omega)
    refine ⟨z,by rw [M3 h]; exact c,?_⟩
    have e:Cx g (x::l.drop (j+1)) (y::m.drop (j+1))=Cx g (l.drop (j+1)) (m.drop (j+1)):=by simp only [Cx,Ck,b,if_true]
    cases z with
    | inl r=>simp only [e]; exact z2
    | inr u=>simp only [e]; exact z2
   .rw [if_neg b] at h
    refine ⟨.inl (g x y),I7 h,?_,b⟩
    simp only [Cx,Ck,b,if_false]
 exact key l.length 0 (by omega)
theorem Se {α:Type} (f:α->α->Option Int) (g:α->α->Int) (l m:List α) (A:l.length=m.length) (hb:l.length<4611686018427387904) (B:∀(j:Nat) (x y:α),l[j]? = some x->m[j]? = some y->f x y=some (g x y)) :
  ((Aj (S:=Int) (E:=(Int⊕Unit)) (fun b=>
   bif (decide (b<(l.length:Int))) then (
   (Ag l b).bind fun s=>
   bif (decide (b>=(m.length:Int))) then some (.inr (.inl 1))
   else (
   (Ag m b).bind fun v9=>
   (f s v9).bind fun c=>
   bif (c != (0:Int)) then some (.inr (.inl c))
   else some (.inl (Ac (b+1)))))
   else some (.inr (.inr ()))) 0).bind fun z=>
   match z with
   | .inl k=>some k
   | .inr _=>bif (decide ((l.length:Int)<(m.length:Int))) then some (-1) else some 0)=some (Cx g l m):=by
 refine Rv (Oy g l m A hb ?_ (fun h=>by simp only [h]; rfl)) ?_
 .intro j x y hx hy h1 h2 h3 G D
  simp only [h1,h2,h3,G,D,cond_true,cond_false,Ah,B j x y hx hy]
  by_cases i:g x y=0
  .rw [D8 i,if_pos i]; rfl
  .rw [Dx i,if_neg i]; rfl
 .rintro (r | u) q
  .rw [q.1]
  .simp only
   rw [Bo (by omega),show Cx g l m=0 from q]; rfl
def G2 (x y:Ct):Int:=Ck (Cp x.Var y.Var) (Cp x.Coef y.Coef)
def Ib (a b:Dc):Int:=if a.Terms.length=b.Terms.length then Ck (Cx G2 a.Terms b.Terms) (Cp a.Const b.Const) else Cp a.Terms.length b.Terms.length
theorem Ajc (a b:Dc) (ha:a.Terms.length<1099511627776):Im a b=some (Ib a b):=by
 unfold Im Ib
 rw [It,Ah]
 by_cases h:a.Terms.length=b.Terms.length
 .rw [D8 (Dn.2 (by omega)),if_pos h]
  simp only [cond_false]
  have:=Se N2 G2 a.Terms b.Terms h (by omega) (fun j x y _ _=>by
   unfold N2 G2
   rw [It,Aca]; simp only [Ah,Mn])
  rw [show Qz a.Terms b.Terms=_ from this,Ah,Aca]
  simp only [Ah,Mn]
 .rw [Dx (fun e=>h (by have:=Dn.1 e; omega)),if_neg h]; rfl
theorem Ajd (a b:Dc) (ha:a.Terms.length<1099511627776):Nt a b=some (Ib a b):=by
 unfold Nt Ib
 by_cases h:a.Terms.length=b.Terms.length
 .rw [D8 (by omega),if_pos h]
  simp only [cond_false]
  refine Rv (Oy G2 a.Terms b.Terms h (by omega) ?_ (fun h=>by simp only [h]; rfl)) ?_
  .intro j x y hx hy h1 h2 h3 i g
   simp only [h1,h2,h3,g,cond_true,Ah]
   by_cases c:x.Var=y.Var
   .rw [D8 c]
    by_cases hc:x.Coef=y.Coef
    .rw [D8 hc]
     rw [if_pos (by unfold G2; rw [Dn.2 c,Dn.2 hc]; rfl)]; rfl
    .rw [Dx hc,Sc _ _ hc]
     have e:G2 x y=Cp x.Coef y.Coef:=by unfold G2; rw [Dn.2 c]; rfl
     rw [e,if_neg (fun e=>hc (Dn.1 e))]; rfl
   .rw [Dx c,Sc _ _ c]
    have e:G2 x y=Cp x.Var y.Var:=by unfold G2 Ck; rw [if_neg (fun e=>c (Dn.1 e))]
    rw [e,if_neg (fun e=>c (Dn.1 e))]; rfl
  .rintro (r | u) f
   .obtain ⟨rfl,h0⟩:=f
    unfold Ck; rw [if_neg h0]
   .have f:Cx G2 a.Terms b.Terms=0:=f
    rw [f]
    simp only [Ck,if_true]
    by_cases hc:a.Const=b.Const
    .rw [D8 hc,Dn.2 hc]; rfl
    .rw [Dx hc,Sc _ _ hc]; rfl
 .rw [Dx (by omega),if_neg h,Sc _ _ (by omega)]; rfl
mutual
def Fc:Bl->Bl->Int
 | ⟨n,k⟩,j=>if n=j.Num then (if k.length=j.Kids.length then K1 k j.Kids else Cp k.length j.Kids.length) else Cp n j.Num
def K1:List Bl->List Bl->Int
 | x::xs,y::ys=>Ck (Fc x y) (K1 xs ys)
 | [],_=>0
 | _::_,[]=>0
end
theorem Xd (i j:Bl):Fc i j=if i.Num=j.Num then (if i.Kids.length=j.Kids.length then K1 i.Kids j.Kids else Cp i.Kids.length j.Kids.length) else Cp i.Num j.Num:=by cases i; simp only [Fc]
theorem Sf:∀l m:List Bl,K1 l m=Cx Fc l m
 | x::xs,y::ys=>by simp only [K1,Cx,Sf xs ys]
 | [],_=>by simp [K1,Cx]
 | _::_,[]=>by simp [K1,Cx]
theorem Aje:∀(n k:Nat) (i j:Bl),isz i<=n->2*n<=k->n<1099511627776->Jb k i j=some (Fc i j):=by
 intro n
 induction n with
 | zero=>intro k i j h; have:=Hn i; omega
 | succ n ih=>
  intro k i j h hk c
  obtain ⟨k,rfl⟩:∃b,k=b+2:=⟨k-2,by omega⟩
  have g:=Hn i
  have f:=W7 i.Kids
  rw [Jb,Xd,It,It]
  simp only [Ah,Mn]
  by_cases h1:i.Num=j.Num
  .rw [if_pos h1]
   by_cases h2:i.Kids.length=j.Kids.length
   .rw [if_pos h2,D8 (by unfold Ck; rw [Dn.2 h1,Dn.2 (by omega)]; rfl),Sf]
    simp only [cond_false]
    have:=Se (Jb k) Fc i.Kids j.Kids h2 (by omega) (fun q x y hx hy=>ih k x y (by have:=Sa (lmo hx); omega) (by omega) (by omega))
    rw [N1]
    refine Eq.trans (congrArg (fun q=>Option.bind q _) this) rfl
   .have e:Ck (Cp i.Num j.Num) (Cp (i.Kids.length:Int) (j.Kids.length:Int))=Cp i.Kids.length j.Kids.length:=by unfold Ck; rw [Dn.2 h1]; rfl
    rw [if_neg h2,e,Dx (fun e=>h2 (by have:=Dn.1 e; omega))]; rfl
  .have e:Ck (Cp i.Num j.Num) (Cp (i.Kids.length:Int) (j.Kids.length:Int))=Cp i.Num j.Num:=by unfold Ck; rw [if_neg (fun e=>h1 (Dn.1 e))]
   rw [if_neg h1,e,Dx (fun e=>h1 (Dn.1 e))]; rfl
theorem Ajf:∀(n k:Nat) (i j:Bl),isz i<=n->2*n<=k->n<1099511627776->Jc k i j=some (Fc i j):=by
 intro n
 induction n with
 | zero=>intro k i j h; have:=Hn i; omega
 | succ n ih=>
  intro k i j h hk A
  obtain ⟨k,rfl⟩:∃l,k=l+2:=⟨k-2,by omega⟩
  have D:=Hn i
  have B:=W7 i.Kids
  rw [Jc,Xd]
  by_cases h1:i.Num=j.Num
  .rw [if_pos h1,D8 h1]
   simp only [cond_false]
   rw [N5]
   by_cases h2:i.Kids.length=j.Kids.length
   .rw [if_pos h2,D8 (by omega),Sf]
    simp only [cond_false]
    have:=Oy Fc i.Kids j.Kids h2 (by omega) (step:=fun v5=>bif (decide (v5<(i.Kids.length:Int))) then ((Ag i.Kids v5).bind fun g=>(Ag j.Kids v5).bind fun f=>(Jc k g f).bind fun v8=>bif (v8 != (0:Int)) then some (.inr (.inl v8)) else some (.inl (Ac (v5+1)))) else some (.inr (.inr ()))) (fun q x y hx hy h1 h2 h3 E s=>by
     simp only [h1,h2,h3,s,cond_true,Ah,ih k x y (by have:=Sa (lmo hx); omega) (by omega) (by omega)]
     by_cases b:Fc x y=0
     .rw [D8 b,if_pos b]; rfl
     .rw [Dx b,if_neg b]; rfl) (fun h=>by simp only [h]; rfl)
    obtain ⟨z,c,z2⟩:=this
    rw [c,Ah]
    cases z with
    | inl r=>rw [z2.1]; rfl
    | inr u=>rw [show Cx Fc i.Kids j.Kids=0 from z2]; rfl
   .rw [if_neg h2,Dx (by omega),Sb _ _ (by omega)]; rfl
  .rw [if_neg h1,Dx h1,Sb _ _ h1]; rfl
def G3 (x y:Cl):Int:=Ck (Cp x.Var y.Var) (Fc x.Index y.Index)
def Ho (x y:B6):Int:=Ck (Ib x.Lin y.Lin) (Cp x.Deg y.Deg)
def C6 (a b:Bh):Int :=
 if a.Factors.length=b.Factors.length then
  Ck (Cx G3 a.Factors b.Factors) (if a.Atoms.length=b.Atoms.length then Cx Ho a.Atoms b.Atoms else Cp a.Atoms.length b.Atoms.length)
 else Cp a.Factors.length b.Factors.length
structure MSz (m:Bh):Prop where
 nf:m.Factors.length<=1048576
 na:m.Atoms.length<=1048576
 fi:∀f∈m.Factors,isz f.Index<=1048576
 fr:∀f∈m.Factors,iR f.Index/\I64 f.Var
 al:∀a∈m.Atoms,a.Lin.Terms.length<=1048576
theorem Ajg (a b:Bh) (ha:MSz a):I9 a b=some (C6 a b):=by
 have h1:=ha.nf
 have h2:=ha.na
 unfold I9 C6
 rw [It,Ah]
 by_cases h:a.Factors.length=b.Factors.length
 .rw [D8 (Dn.2 (by omega)),if_pos h]
  simp only [cond_false]
  have:=Se Nr G3 a.Factors b.Factors h (by omega) (fun j x y hx hy=>by
   unfold Nr G3
   rw [It,Aje 1048576 4000000 x.Index y.Index (ha.fi x (lmo hx)) (by omega) (by omega)]; simp only [Ah,Mn])
  rw [show Qp a.Factors b.Factors=_ from this,Ah,It]
  simp only [Ah,Mn]
  by_cases h0:Cx G3 a.Factors b.Factors=0
  .simp only [h0,Ck,if_true]
   by_cases h':a.Atoms.length=b.Atoms.length
   .rw [D8 (Dn.2 (by omega)),if_pos h']
    simp only [cond_false]
    have:=Se Ns Ho a.Atoms b.Atoms h' (by omega) (fun j x y hx hy=>by
     unfold Ns Ho
     rw [It,Ajc x.Lin y.Lin (by have:=ha.al x (lmo hx); omega)]; simp only [Ah,Mn])
    rw [show Qq a.Atoms b.Atoms=_ from this]; rfl
   .rw [Dx (fun e=>h' (by have:=Dn.1 e; omega)),if_neg h']; rfl
  .simp only [Ck,if_neg h0]
   rw [Dx h0]; rfl
 .rw [Dx (fun e=>h (by have:=Dn.1 e; omega)),if_neg h]; rfl
theorem Ajh (a b:Bh) (ha:MSz a):Lx a b=some (C6 a b):=by
 have h1:=ha.nf
 have h2:=ha.na
 unfold Lx C6
 by_cases h:a.Factors.length=b.Factors.length
 .rw [D8 (by omega),if_pos h]
  simp only [cond_false]
  refine Rv (Oy G3 a.Factors b.Factors h (by omega) ?_ (fun h=>by simp only [h]; rfl)) ?_
  .intro j x y hx hy h1 h2 h3 i g
   simp only [h1,h2,h3,g,cond_true,Ah,Ajf 1048576 4000000 x.Index y.Index (ha.fi x (lmo hx)) (by omega) (by omega)]
   by_cases c:x.Var=y.Var
   .rw [D8 c]
    have e:G3 x y=Fc x.Index y.Index:=by unfold G3 Ck; rw [if_pos (Dn.2 c)]
    rw [e]
    by_cases hc:Fc x.Index y.Index=0
    .rw [D8 hc,if_pos hc]; rfl
    .rw [Dx hc,if_neg hc]; rfl
   .rw [Dx c,Sd _ _ c]
    have e:G3 x y=Cp x.Var y.Var:=by unfold G3 Ck; rw [if_neg (fun e=>c (Dn.1 e))]
    rw [e,if_neg (fun e=>c (Dn.1 e))]; rfl
  .rintro (r | u) f
   .obtain ⟨rfl,h0⟩:=f
    unfold Ck; rw [if_neg h0]
   .have f:Cx G3 a.Factors b.Factors=0:=f
    rw [f]
    simp only [Ck,if_true]
    by_cases h':a.Atoms.length=b.Atoms.length
    .rw [D8 (by omega),if_pos h']
     simp only [cond_false]
     refine Rv (Oy Ho a.Atoms b.Atoms h' (by omega) ?_ (fun h=>by simp only [h]; rfl)) ?_
     .intro j x y hx hy h1 h2 h3 i g
      simp only [h1,h2,h3,g,cond_true,Ah,Ajd x.Lin y.Lin (by have:=ha.al x (lmo hx); omega)]
      by_cases c:Ib x.Lin y.Lin=0
      .rw [D8 c]
       have e:Ho x y=Cp x.Deg y.Deg:=by unfold Ho Ck; rw [if_pos c]
       rw [e]
       by_cases hc:x.Deg=y.Deg
       .rw [D8 hc,if_pos (Dn.2 hc)]; rfl
       .rw [Dx hc,Sd _ _ hc,if_neg (fun e=>hc (Dn.1 e))]; rfl
      .have e:Ho x y=Ib x.Lin y.Lin:=by unfold Ho Ck; rw [if_neg c]
       rw [Dx c,e,if_neg c]; rfl
     .rintro (r | u) f
      .rw [f.1]
      .rw [show Cx Ho a.Atoms b.Atoms=0 from f]
    .rw [Dx (by omega),if_neg h',Sd _ _ (by omega)]; rfl
 .rw [Dx (by omega),if_neg h,Sd _ _ (by omega)]; rfl
def Acb {α:Type} (f:α->Int) (l:List α) (x:α) (j:Nat):Bool:=j==0||(match l[j-1]? with | some y=>decide (f y<f x) | none=>false)
def Aji (l:List Ct) (x:Ct) (j:Nat):Bool:=decide (-1<=x.Var/\x.Var<3000/\x.Coef≠0/\-1048576<=x.Coef/\x.Coef<=1048576)&&Acb (·.Var) l x j
def Ajj (a:Dc):Bool:=decide (-1048576<=a.Const/\a.Const<=1048576/\a.Terms.length<=16)&&a.Terms.zipIdx.all (fun q=>Aji a.Terms q.1 q.2)
end Go.Ab
namespace Go.Ab
open Go
section
variable (b1:List (ByteArray×Int)) (b2:List (ByteArray×List C2)) (data:List Bk) (vars:List Ar) (res:Ar)
def Ajk (t:Ct):Bool:=match tyX vars res t.Var with | some u=>u.Kind==1 | none=>false
def Ajl (l:Dc):Bool:=l.Terms.all (Ajk vars res)
def Acd (f:Cl):Int:=match tyX vars res f.Var with | some t=>Ai8 (Ab5 data f.Index t) | none => -1
def Ajm (l:List Cl):Int:=(l.map (Acd data vars res)).sum
def Ajn (l:List B6):Int:=(l.map (·.Deg)).sum
def Ajo (l:List B6) (x:B6) (j:Nat):Bool:=j==0||(match l[j-1]? with | some y=>decide (Ib y.Lin x.Lin<0) | none=>false)
def Ajp (l:List Cl) (f:Cl) (j:Nat):Bool:=decide (1<=Acd data vars res f)&&Acb (·.Var) l f j
def Ajq (l:List B6) (a:B6) (j:Nat):Bool:=decide (1<=a.Deg)&&Ajj a.Lin && !(a.Lin.Terms.length==0)&&Ajl vars res a.Lin&&Ajo l a j
def Sg (m:Bh):Bool:=m.Factors.zipIdx.all (fun q=>Ajp data vars res m.Factors q.1 q.2)&&m.Atoms.zipIdx.all (fun q=>Ajq vars res m.Atoms q.1 q.2)&&decide (Ajm data vars res m.Factors+Ajn m.Atoms<=6)
variable {b1 data vars res}
end
end Go.Ab
namespace Go.Ab
open Go
section
variable {b1:List (ByteArray×Int)} (b2:List (ByteArray×List C2)) {data:List Bk} {vars:List Ar} {res:Ar}
end
end Go.Ab
namespace Go.Ab
open Go
def Xe (a b:A3):Bool:=a.Neg==b.Neg&&decide (a.Num=b.Num)&&decide (a.Den=b.Den)
theorem Ajr (a b:A3):Xe a b=true↔a=b:=by
 unfold Xe
 simp only [bae,beq_iff_eq,decide_eq_true_eq]
 constructor
 .rintro ⟨⟨h1,h2⟩,h3⟩; cases a; cases b; simp_all
 .rintro rfl; simp
def Sh (c:A3):Bool:=Xe (Bs (sv c) (nv c) (dv c)) c && !(nv c==0)
structure TSz (t:Aw):Prop where
 co:RB 1048576 t.Coef
 mo:MSz t.Mono
def Si (l:List Aw) (x:Aw) (j:Nat):Bool:=j==0||(match l[j-1]? with | some y=>decide (C6 y.Mono x.Mono<0) | none=>false)
def Xf (data:List Bk) (vars:List Ar) (res:Ar) (l:List Aw) (t:Aw) (j:Nat):Bool:=Sh t.Coef&&Sg data vars res t.Mono&&Si l t j
def Xg (data:List Bk) (vars:List Ar) (res:Ar) (p:List Aw):Bool:=decide (p.length<=1000)&&p.zipIdx.all (fun q=>Xf data vars res p q.1 q.2)
end Go.Ab
namespace Go.Ab
open Go
end Go.Ab
namespace Go.Ab
open Go
end Go.Ab
namespace Go.Ab
open Go
end Go.Ab
namespace Go.Ab
open Go
end Go.Ab
namespace Go.Ab
open Go
theorem Ajs {S T E F R1 R2:Type} {s1:S->Option (S⊕E)} {s2:T->Option (T⊕F)} {J1:E->Option R1} {J2:F->Option R2} (g:S->T->Prop) (m:S->Nat) (Q:R1->R2->Prop)
  (h:∀s t,g s t->(∃i j,s1 s=some (.inl i)/\s2 t=some (.inl j)/\g i j/\m i<m s)\/(∃e f c b,s1 s=some (.inr e)/\s2 t=some (.inr f)/\J1 e=some c/\J2 f=some b/\Q c b)) :
  ∀{s:S} {t:T},g s t->∃c b,(Aj s1 s).bind J1=some c/\(Aj s2 t).bind J2=some b/\Q c b:=by
 have key:∀(n:Nat) (s:S) (t:T),m s<=n->g s t->∃c b,(Aj s1 s).bind J1=some c/\(Aj s2 t).bind J2=some b/\Q c b:=by
  intro n
  induction n with
  | zero=>
   intro s t u k
   rcases h s t k with ⟨i,j,_,_,_,l⟩ | ⟨e,f,c,b,h1,h2,h3,l,q⟩
   .omega
   .exact ⟨c,b,by rw [I7 h1]; exact h3,by rw [I7 h2]; exact l,q⟩
  | succ n ih=>
   intro s t u k
   rcases h s t k with ⟨i,j,h1,h2,h3,l⟩ | ⟨e,f,c,b,h1,h2,h3,l,q⟩
   .obtain ⟨c,b,a1,a2,a3⟩:=ih i j (by omega) h3
    exact ⟨c,b,by rw [M3 h1]; exact a1,by rw [M3 h2]; exact a2,a3⟩
   .exact ⟨c,b,by rw [I7 h1]; exact h3,by rw [I7 h2]; exact l,q⟩
 intro s t k
 exact key (m s) s t (Nat.le_refl _) k
theorem Ajt (a b:A3) (j k:Nat) (ha:RB j a) (hb:RB k b) (hj:j<34359738000) (hk:k<34359738000):∃c,Ij a b=some c/\Ja a b=some c/\RB (j+k+3) c:=by
 refine ⟨_,Aib a b j k ha hb (by omega) (by omega),Aiu a b j k ha hb (by omega) (by omega),?_⟩
 have h1:=ha.nv
 have h2:=ha.dv
 have h3:=hb.nv
 have s:=hb.dv
 have q:=H9 (nv a) (dv b)
 have l:=H9 (nv b) (dv a)
 have i:=H9 (dv a) (dv b)
 have f:Ia (sv a) (nv a) (dv a) (sv b) (nv b) (dv b)<=nv a*dv b+nv b*dv a:=by
  unfold Ia
  split
  .omega
  .split <;> omega
 have h:=Fa f
 have g:=Wp (nv a*dv b) (nv b*dv a)
 exact Wz _ _ _ _ (by omega) (by omega) (by omega)
end Go.Ab
namespace Go.Ab
open Go
end Go.Ab
namespace Go.Ab
open Go
end Go.Ab
namespace Go.Ab
open Go
end Go.Ab
namespace Go.Ab
open Go
def sg (s:Bool) (n:Nat):Int:=if s then -(n:Int) else n
def rq (a:A3):Rat:=mkRat (sg (sv a) (nv a)) (dv a)
def Iu (a:A3):Prop:=a=Bs (sv a) (nv a) (dv a)
theorem Ace (s:Bool) (n d:Nat) (hd:d≠0):rq (Bs s n d)=mkRat (sg s n) d:=by
 obtain ⟨g,i,h1,h2,h3,j⟩:=Ab0 s n d hd
 unfold rq
 rw [Rat.mkRat_eq_iff (Fb _) hd]
 generalize nv (Bs s n d)=b at *
 generalize dv (Bs s n d)=k at *
 generalize sv (Bs s n d)=f at *
 by_cases c:n=0
 .have:b=0:=by
   rcases Nat.eq_zero_or_pos b with h | h
   .exact h
   .have:=Nat.mul_pos (Nat.pos_of_ne_zero i) h; omega
  subst this; subst c
  cases s <;> cases f <;> simp [sg]
 .rw [h3 c,h1,h2]
  cases s <;> simp only [sg,if_true,if_false,Bool.false_eq_true,Int.natCast_mul] <;> grind
theorem Aju (s:Bool) (n d:Nat) (hd:d≠0):Iu (Bs s n d):=by
 obtain ⟨g,b,h1,h2,h3,i⟩:=Ab0 s n d hd
 unfold Iu
 generalize hc:Bs s n d=c at h1 h2 h3 i
 have e:=R3 s (nv c) (dv c) g b
 rw [<-h1,<-h2,hc] at e
 by_cases f:n=0
 .have h0:nv c=0:=by
   rcases Nat.eq_zero_or_pos (nv c) with h | h
   .exact h
   .have:=Nat.mul_pos (Nat.pos_of_ne_zero b) h; omega
  rw [h0,Wy] at e ⊢
  exact e
 .rw [h3 f]; exact e
theorem Ajv {a b:A3} (ha:Iu a) (hb:Iu b) (h:rq a=rq b):a=b:=by
 unfold rq at h
 rw [Rat.mkRat_eq_iff (Fb _) (Fb _)] at h
 rw [ha,hb]
 have l:=Fb a
 have k:=Fb b
 generalize nv a=n at *
 generalize dv a=d at *
 generalize sv a=s at *
 generalize nv b=m at *
 generalize dv b=e at *
 generalize sv b=t at *
 have f:n*e=m*d/\(n≠0->s=t):=by
  have c:n≠0->0<n*e:=fun h=>Nat.mul_pos (by omega) (by omega)
  have g:m≠0->0<m*d:=fun h=>Nat.mul_pos (by omega) (by omega)
  have u:((n*e:Nat):Int)=(n:Int)*e:=by simp
  have q:((m*d:Nat):Int)=(m:Int)*d:=by simp
  cases s <;> cases t <;> simp only [sg,if_true,if_false,Bool.false_eq_true,Int.neg_mul] at h
  .exact ⟨by omega,fun _=>rfl⟩
  .have:n*e=0/\m*d=0:=by omega
   refine ⟨by omega,fun i=>?_⟩
   have:=c i; omega
  .have:n*e=0/\m*d=0:=by omega
   refine ⟨by omega,fun i=>?_⟩
   have:=c i; omega
  .exact ⟨by omega,fun _=>rfl⟩
 have j:=R3 s n d e k
 have e2:=R3 t m e d l
 rw [<-j,<-e2,Nat.mul_comm e n,f.1,Nat.mul_comm e d,Nat.mul_comm m d]
 refine Aic fun h0=>f.2 ?_
 rintro rfl
 rw [Nat.zero_mul] at f
 have:=f.1
 rw [Nat.mul_comm d m] at h0
 omega
end Go.Ab
namespace Go.Ab
open Go
structure Cy {α:Type} (S:α->Prop) (g:α->α->Int):Prop where
 zero:∀a b,S a->S b->(g a b=0↔a=b)
 anti:∀a b,S a->S b->g b a = - g a b
 trans:∀a b c,S a->S b->S c->g a b<0->g b c<0->g a c<0
theorem Cy.cmpI:Cy (fun _:Int=>True) Cp:=by
 refine ⟨fun a b _ _=>Dn,fun a b _ _=>?_,fun a b c _ _ _=>?_⟩
 .unfold Go.Ab.Cp; split <;> split <;> (try split) <;> (try split) <;> omega
 .unfold Go.Ab.Cp; intro h1 h2; split at h1 <;> (try split at h1) <;> split at h2 <;> (try split at h2) <;> first | omega | (rw [if_pos (by omega)]; decide)
theorem Acf {x y:Int}:Ck x y<0↔x<0\/(x=0/\y<0):=by unfold Ck; split <;> omega
theorem Acg {x y:Int}:Ck x y=0↔x=0/\y=0:=by unfold Ck; split <;> omega
theorem Cy.or {α β γ:Type} {S:α->Prop} {s:β->Prop} {l:γ->Prop} {j:β->β->Int} {i:γ->γ->Int} (p:α->β) (q:α->γ) (g:∀a b,p a=p b->q a=q b->a=b) (h1:Cy s j) (h2:Cy l i) (f:∀a,S a->s (p a)/\l (q a)) :
  Cy S (fun a b=>Ck (j (p a) (p b)) (i (q a) (q b))):=by
 refine ⟨fun a b ha hb=>?_,fun a b ha hb=>?_,fun a b c ha hb hc=>?_⟩
 .rw [Acg,h1.zero _ _ (f a ha).1 (f b hb).1,h2.zero _ _ (f a ha).2 (f b hb).2]
  exact ⟨fun h=>g a b h.1 h.2,fun h=>by subst h; exact ⟨rfl,rfl⟩⟩
 .show Ck (j (p b) (p a)) (i (q b) (q a)) = - Ck (j (p a) (p b)) (i (q a) (q b))
  have y:=h1.anti _ _ (f a ha).1 (f b hb).1
  have e2:=h2.anti _ _ (f a ha).2 (f b hb).2
  rw [y,e2]; unfold Ck; split <;> split <;> omega
 .show Ck _ _<0->Ck _ _<0->Ck _ _<0
  simp only [Acf]
  have u:=h1.zero _ _ (f a ha).1 (f b hb).1
  have z2:=h1.zero _ _ (f b hb).1 (f c hc).1
  have t1:=h1.trans _ _ _ (f a ha).1 (f b hb).1 (f c hc).1
  have t2:=h2.trans _ _ _ (f a ha).2 (f b hb).2 (f c hc).2
  rintro (h | ⟨h,h'⟩) (k | ⟨k,x⟩)
  .exact .inl (t1 h k)
  .rw [<-z2.1 k]; exact .inl h
  .rw [u.1 h]; exact .inl k
  .rw [<-z2.1 k,h]; exact .inr ⟨rfl,t2 h' x⟩
theorem Cy.mono {α:Type} {S i:α->Prop} {g:α->α->Int} (h:Cy S g) (f:∀a,i a->S a):Cy i g :=
 ⟨fun a b ha hb=>h.zero a b (f a ha) (f b hb),fun a b ha hb=>h.anti a b (f a ha) (f b hb),fun a b c ha hb hc=>h.trans a b c (f a ha) (f b hb) (f c hc)⟩
theorem Cy.congr {α:Type} {S:α->Prop} {g c:α->α->Int} (h:Cy S g) (e:∀a b,c a b=g a b):Cy S c:=by
 have:c=g:=funext fun a=>funext fun b=>e a b
 rw [this]; exact h
def LL {α:Type} (g:α->α->Int) (l m:List α):Int:=if l.length=m.length then Cx g l m else Go.Ab.Cp l.length m.length
theorem Ach {α:Type} {S:α->Prop} {g:α->α->Int} (h:Cy S g):∀l m:List α,l.length=m.length->(∀x∈l,S x)->(∀x∈m,S x)->(Cx g l m=0↔l=m)
 | [],[],_,_,_=>by simp [Cx]
 | x::xs,y::ys,b,h1,h2=>by
  simp only [Cx,Acg,h.zero x y (h1 x (by simp)) (h2 y (by simp)),Ach h xs ys (by simpa using b) (fun z c=>h1 z (by simp [c])) (fun z c=>h2 z (by simp [c])),List.cons.injEq]
 | [],_::_,b,_,_=>by simp at b
 | _::_,[],b,_,_=>by simp at b
theorem Aci {α:Type} {S:α->Prop} {g:α->α->Int} (h:Cy S g):∀l m:List α,l.length=m.length->(∀x∈l,S x)->(∀x∈m,S x)->Cx g m l = - Cx g l m
 | [],[],_,_,_=>by simp [Cx]
 | x::xs,y::ys,b,h1,h2=>by
  simp only [Cx,h.anti x y (h1 x (by simp)) (h2 y (by simp)),Aci h xs ys (by simpa using b) (fun z c=>h1 z (by simp [c])) (fun z c=>h2 z (by simp [c]))]
  unfold Ck; split <;> split <;> omega
 | [],_::_,b,_,_=>by simp at b
 | _::_,[],b,_,_=>by simp at b
theorem Acj {α:Type} {S:α->Prop} {g:α->α->Int} (h:Cy S g):∀l m n:List α,l.length=m.length->m.length=n.length->(∀x∈l,S x)->(∀x∈m,S x)->(∀x∈n,S x)->Cx g l m<0->Cx g m n<0->Cx g l n<0
 | [],[],_,_,_,_,_,_=>by intro h; simp [Cx] at h
 | x::xs,y::ys,z::j,f,i,h1,h2,h3=>by
  simp only [Cx,Acf]
  have k:=h.zero x y (h1 x (by simp)) (h2 y (by simp))
  have z2:=h.zero y z (h2 y (by simp)) (h3 z (by simp))
  have t1:=h.trans x y z (h1 x (by simp)) (h2 y (by simp)) (h3 z (by simp))
  have t2:=Acj h xs ys j (by simpa using f) (by simpa using i) (fun z c=>h1 z (by simp [c])) (fun z c=>h2 z (by simp [c])) (fun z c=>h3 z (by simp [c]))
  rintro (a | ⟨a,s⟩) (b | ⟨b,q⟩)
  .exact .inl (t1 a b)
  .rw [<-z2.1 b]; exact .inl a
  .rw [k.1 a]; exact .inl b
  .rw [<-z2.1 b,a]; exact .inr ⟨rfl,t2 s q⟩
 | _::_,_::_,[],_,i,_,_,_=>by simp at i
 | [],_::_,_,f,_,_,_,_=>by simp at f
 | _::_,[],_,f,_,_,_,_=>by simp at f
theorem Cy.ll {α:Type} {S:α->Prop} {g:α->α->Int} (h:Cy S g):Cy (fun l=>∀x∈l,S x) (LL g):=by
 have c:=Cy.cmpI
 refine ⟨fun a b ha hb=>?_,fun a b ha hb=>?_,fun x y z hx hy k=>?_⟩
 .unfold LL
  split
  .rename_i i; exact Ach h a b i ha hb
  .rename_i i
   rw [Dn]
   exact ⟨fun e=>(i (by omega)).elim,fun e=>(i (by rw [e])).elim⟩
 .unfold LL
  by_cases i:a.length=b.length
  .rw [if_pos i,if_pos i.symm]; exact Aci h a b i ha hb
  .rw [if_neg i,if_neg (fun e=>i e.symm)]; exact c.anti _ _ trivial trivial
 .unfold LL
  intro h1 h2
  have neg:∀a b:Int,Go.Ab.Cp a b<0->a<b:=by intro a b h; unfold Go.Ab.Cp at h; split at h <;> (try split at h) <;> omega
  have f:∀a b:Int,a<b->Go.Ab.Cp a b<0:=by intro a b h; unfold Go.Ab.Cp; rw [if_pos h]; decide
  by_cases j:x.length=y.length
  .rw [if_pos j] at h1
   by_cases e2:y.length=z.length
   .rw [if_pos e2] at h2; rw [if_pos (by omega)]; exact Acj h x y z j e2 hx hy k h1 h2
   .rw [if_neg e2] at h2; rw [if_neg (by omega)]
    have:=neg _ _ h2; exact f _ _ (by omega)
  .rw [if_neg j] at h1
   have:=neg _ _ h1
   by_cases e2:y.length=z.length
   .rw [if_neg (by omega)]; exact f _ _ (by omega)
   .rw [if_neg e2] at h2
    have:=neg _ _ h2
    rw [if_neg (by omega)]; exact f _ _ (by omega)
theorem Ack {α:Type} (g:α->α->Int) (l m:List α) (y:Int):Ck (LL g l m) y=if l.length=m.length then Ck (Cx g l m) y else Go.Ab.Cp l.length m.length:=by
 unfold LL
 by_cases h:l.length=m.length
 .rw [if_pos h,if_pos h]
 .rw [if_neg h,if_neg h]
  unfold Ck
  rw [if_neg (fun e=>h (by have:=Dn.1 e; omega))]
theorem Ajw:Cy (fun _=>True) G2 :=
 (Cy.or (S:=fun _=>True) (fun t:Ct=>t.Var) (fun t=>t.Coef) (fun a b h1 h2=>by cases a; cases b; cases h1; cases h2; rfl) Cy.cmpI Cy.cmpI (fun _ _=>⟨trivial,trivial⟩)).congr fun _ _=>rfl
theorem Ajx:Cy (fun _=>True) Ib :=
 (Cy.or (S:=fun _=>True) (fun t:Dc=>t.Terms) (fun t=>t.Const) (fun a b h1 h2=>by cases a; cases b; cases h1; cases h2; rfl) Ajw.ll Cy.cmpI (fun _ _=>⟨fun _ _=>trivial,trivial⟩)).congr fun a b=>by
  show Ib a b=Ck (LL G2 a.Terms b.Terms) (Go.Ab.Cp a.Const b.Const)
  rw [Ack]; rfl
theorem Ajy (i j:Bl):Fc i j=Ck (Go.Ab.Cp i.Num j.Num) (LL Fc i.Kids j.Kids):=by
 rw [Xd,Sf]
 unfold Ck LL
 by_cases h:i.Num=j.Num
 .rw [if_pos h,if_pos (Dn.2 h)]
 .rw [if_neg h,if_neg (fun e=>h (Dn.1 e))]
theorem Xh:∀n:Nat,Cy (fun i=>isz i<=n) Fc:=by
 intro n
 induction n with
 | zero=>exact ⟨fun a _ ha=>by have:=Hn a; omega,fun a _ ha=>by have:=Hn a; omega,fun a _ _ ha=>by have:=Hn a; omega⟩
 | succ n ih=>
  refine (Cy.or (S:=fun i=>isz i<=n+1) (fun i:Bl=>i.Num) (fun i=>i.Kids) (fun a b h1 h2=>by cases a; cases b; cases h1; cases h2; rfl) Cy.cmpI ih.ll ?_).congr Ajy
  intro i c
  refine ⟨trivial,fun x hx=>?_⟩
  have h1:=Sa hx
  have h2:=Hn i
  show isz x<=n
  omega
theorem Ajz:Cy (fun _=>True) Fc :=
 ⟨fun a b _ _=>(Xh (max (isz a) (isz b))).zero a b (by show isz a<=_; omega) (by show isz b<=_; omega),fun a b _ _=>(Xh (max (isz a) (isz b))).anti a b (by show isz a<=_; omega) (by show isz b<=_; omega),
  fun a b c _ _ _=>(Xh (max (isz a) (max (isz b) (isz c)))).trans a b c (by show isz a<=_; omega) (by show isz b<=_; omega) (by show isz c<=_; omega)⟩
theorem Aj0:Cy (fun _=>True) G3 :=
 (Cy.or (S:=fun _=>True) (fun t:Cl=>t.Var) (fun t=>t.Index) (fun a b h1 h2=>by cases a; cases b; cases h1; cases h2; rfl) Cy.cmpI Ajz (fun _ _=>⟨trivial,trivial⟩)).congr fun _ _=>rfl
theorem Aj1:Cy (fun _=>True) Ho :=
 (Cy.or (S:=fun _=>True) (fun t:B6=>t.Lin) (fun t=>t.Deg) (fun a b h1 h2=>by cases a; cases b; cases h1; cases h2; rfl) Ajx Cy.cmpI (fun _ _=>⟨trivial,trivial⟩)).congr fun _ _=>rfl
theorem Xi:Cy (fun _=>True) C6 :=
 (Cy.or (S:=fun _=>True) (fun t:Bh=>t.Factors) (fun t=>t.Atoms) (fun a b h1 h2=>by cases a; cases b; cases h1; cases h2; rfl) Aj0.ll Aj1.ll (fun _ _=>⟨fun _ _=>trivial,fun _ _=>trivial⟩)).congr fun a b=>by
  show C6 a b=Ck (LL G3 a.Factors b.Factors) (LL Ho a.Atoms b.Atoms)
  rw [Ack]; rfl
theorem Sj {a b:Bh}:C6 a b=0↔a=b:=Xi.zero a b trivial trivial
theorem Acl (a b:Bh):C6 b a = - C6 a b:=Xi.anti a b trivial trivial
theorem Xj {a b c:Bh} (h:C6 a b<0) (h':C6 b c<0):C6 a c<0:=Xi.trans a b c trivial trivial trivial h h'
end Go.Ab
namespace Go.Ab
open Go
theorem Aj2 (m:Bh):C6 m m=0:=Sj.2 rfl
theorem Aj3 {a b:Bh}:0<C6 a b↔C6 b a<0:=by rw [Acl a b]; omega
def cf:List Aw->Bh->Rat
 | [],_=>0
 | t::p,m=>(if C6 t.Mono m=0 then rq t.Coef else 0)+cf p m
def ltT (t u:Aw):Prop:=C6 t.Mono u.Mono<0
structure CP (p:List Aw):Prop where
 srt:p.Pairwise ltT
 coe:∀t∈p,Iu t.Coef/\rq t.Coef≠0
theorem CP.tail {t:Aw} {p:List Aw} (h:CP (t::p)):CP p:=⟨(List.pairwise_cons.1 h.srt).2,fun u hu=>h.coe u (by simp [hu])⟩
theorem CP.head {t:Aw} {p:List Aw} (h:CP (t::p)):∀u∈p,C6 t.Mono u.Mono<0:=(List.pairwise_cons.1 h.srt).1
theorem CP.nil:CP []:=⟨List.Pairwise.nil,fun _ h=>by cases h⟩
theorem CP.cons {t:Aw} {p:List Aw} (h:CP p) (h1:∀u∈p,C6 t.Mono u.Mono<0) (h2:Iu t.Coef) (h3:rq t.Coef≠0):CP (t::p) :=
 ⟨List.pairwise_cons.2 ⟨h1,h.srt⟩,fun u hu=>by
  rcases List.mem_cons.1 hu with rfl | hu
  .exact ⟨h2,h3⟩
  .exact h.coe u hu⟩
theorem Aj4 {p:List Aw} {m:Bh} (h:∀t∈p,C6 t.Mono m≠0):cf p m=0:=by
 induction p with
 | nil=>rfl
 | cons t p ih=>
  simp only [cf]
  rw [if_neg (h t (by simp)),ih (fun u hu=>h u (by simp [hu]))]; grind
theorem K2 {p:List Aw} {m:Bh} (h:∀t∈p,C6 m t.Mono<0):cf p m=0 :=
 Aj4 fun t ht e=>by have:=h t ht; rw [Acl,e] at this; omega
theorem Mo {t:Aw} {p:List Aw} (h:CP (t::p)):cf (t::p) t.Mono=rq t.Coef:=by
 simp only [cf]
 rw [if_pos (Aj2 _),K2 h.head]; grind
theorem Acm {t:Aw} {p:List Aw} {m:Bh} (h:C6 t.Mono m≠0):cf (t::p) m=cf p m:=by
 simp only [cf]; rw [if_neg h]; grind
theorem Aj5 (p q:List Aw) (m:Bh):cf (p++q) m=cf p m+cf q m:=by
 induction p with
 | nil=>simp only [List.nil_append,cf]; grind
 | cons t p ih=>simp only [List.cons_append,cf,ih]; grind
theorem CP.ext:∀{p q:List Aw},CP p->CP q->(∀m,cf p m=cf q m)->p=q
 | [],[],_,_,_=>rfl
 | [],u::q,_,h2,h=>by
  have:=h u.Mono
  rw [Mo h2] at this
  exact ((h2.coe u (by simp)).2 this.symm).elim
 | t::p,[],h1,_,h=>by
  have:=h t.Mono
  rw [Mo h1] at this
  exact ((h1.coe t (by simp)).2 this).elim
 | t::p,u::q,h1,h2,h=>by
  have b:C6 t.Mono u.Mono=0:=by
   rcases Int.lt_trichotomy (C6 t.Mono u.Mono) 0 with k | k | k
   .have e:=h t.Mono
    rw [Mo h1,K2 (p:=u::q)] at e
    .exact ((h1.coe t (by simp)).2 e).elim
    .intro w hw
     rcases List.mem_cons.1 hw with rfl | hw
     .exact k
     .exact Xj k (h2.head w hw)
   .exact k
   .have k:=Aj3.1 k
    have e:=h u.Mono
    rw [Mo h2,K2 (p:=t::p)] at e
    .exact ((h2.coe u (by simp)).2 e.symm).elim
    .intro w hw
     rcases List.mem_cons.1 hw with rfl | hw
     .exact k
     .exact Xj k (h1.head w hw)
  have c:=Sj.1 b
  have hc:t.Coef=u.Coef:=by
   refine Ajv (h1.coe t (by simp)).1 (h2.coe u (by simp)).1 ?_
   have e:=h t.Mono
   rw [Mo h1,c,Mo h2] at e
   exact e
  have ht:t=u:=by cases t; cases u; simp_all
  subst ht
  congr 1
  refine CP.ext h1.tail h2.tail fun m=>?_
  by_cases e:C6 t.Mono m=0
  .rw [<-Sj.1 e,K2 h1.head,K2 h2.head]
  .have:=h m
   rwa [Acm e,Acm e] at this
theorem Acn (c:A3):Sh c=true↔Iu c/\rq c≠0:=by
 unfold Sh Iu
 rw [bae,Ajr]
 have h:(!(nv c==0))=true↔rq c≠0:=by
  have e:rq c=0↔nv c=0:=by
   unfold rq
   rw [Rat.mkRat_eq_zero (Fb c)]
   unfold sg; split <;> omega
  rw [Ne,e]; simp
 rw [h]
 exact ⟨fun ⟨a,b⟩=>⟨a.symm,b⟩,fun ⟨a,b⟩=>⟨a.symm,b⟩⟩
theorem Aj6 {l:List Aw} (h:∀(j:Nat) (x y:Aw),l[j]? = some x->l[j+1]? = some y->C6 x.Mono y.Mono<0):l.Pairwise ltT:=by
 induction l with
 | nil=>exact List.Pairwise.nil
 | cons t l ih=>
  have ih:=ih fun j x y hx hy=>h (j+1) x y (by simpa using hx) (by simpa using hy)
  refine List.pairwise_cons.2 ⟨?_,ih⟩
  cases l with
  | nil=>intro u hu; cases hu
  | cons v l=>
   have h0:=h 0 t v rfl rfl
   intro u hu
   rcases List.mem_cons.1 hu with rfl | hu
   .exact h0
   .exact Xj h0 ((List.pairwise_cons.1 ih).1 u hu)
theorem Aco {data:List Bk} {vars:List Ar} {res:Ar} {p:List Aw}:Xg data vars res p=true↔p.length<=1000/\CP p/\∀t∈p,Sg data vars res t.Mono=true:=by
 unfold Xg
 rw [bae,decide_eq_true_eq]
 constructor
 .rintro ⟨h1,h2⟩
  have g:∀(j:Nat) (t:Aw),p[j]? = some t->Sh t.Coef=true/\Sg data vars res t.Mono=true/\Si p t j=true:=by
   intro j t hj
   have:=Rt h2 hj
   simp only [Xf,bae] at this
   exact ⟨this.1.1,this.1.2,this.2⟩
  refine ⟨h1,⟨Aj6 fun j x y hx hy=>?_,fun t ht=>?_⟩,fun t ht=>?_⟩
  .have:=(g _ _ hy).2.2
   unfold Si at this
   rw [show j+1-1=j by omega,hx] at this
   simpa using this
  .obtain ⟨j,hj⟩:=List.getElem?_of_mem ht
   exact (Acn _).1 (g j t hj).1
  .obtain ⟨j,hj⟩:=List.getElem?_of_mem ht
   exact (g j t hj).2.1
 .rintro ⟨h1,h2,h3⟩
  refine ⟨h1,List.all_eq_true.2 fun q hq=>?_⟩
  have hq:=List.mem_zipIdx' hq
  have hj:p[q.2]? = some q.1:=(Ci hq.1).trans (congrArg some hq.2.symm)
  have c:q.1∈p:=lmo hj
  simp only [Xf,bae]
  refine ⟨⟨(Acn _).2 (h2.coe _ c),h3 _ c⟩,?_⟩
  unfold Si
  by_cases h0:q.2=0
  .rw [h0]; rfl
  .have b:q.2-1<p.length:=by omega
   rw [Ci b]
   have:=List.pairwise_iff_getElem.1 h2.srt (q.2-1) q.2 b hq.1 (by omega)
   rw [<-hq.2] at this
   simp only [Bool.or_eq_true,decide_eq_true_eq]
   exact .inr this
end Go.Ab
namespace Go.Ab
open Go
end Go.Ab
namespace Go.Ab
open Go
structure TB (k:Nat) (t:Aw):Prop where
 co:RB k t.Coef
 mo:MSz t.Mono
theorem TB.mono {j k:Nat} {t:Aw} (h:TB j t) (hk:j<=k):TB k t:=⟨h.co.mono hk,h.mo⟩
def K4 (c:A3) (m:Bh):List Aw:=if nv c=0 then [] else [⟨Bs (sv c) (nv c) (dv c),m⟩]
theorem Acp (c:A3):rq c=0↔nv c=0:=by
 unfold rq
 rw [Rat.mkRat_eq_zero (Fb c)]
 unfold sg; split <;> omega
theorem Aj7 (c:A3) (m n:Bh):cf (K4 c m) n=if C6 m n=0 then rq c else 0:=by
 unfold K4
 split
 .rename_i h
  rw [(Acp c).2 h]; simp [cf]
 .simp only [cf,Ace _ _ _ (Fb c)]
  show (if C6 m n=0 then rq c else 0)+0=_
  grind
structure Mg (F:Rat->Rat->Rat) (k:Nat) (p q R:List Aw):Prop where
 cp:CP R
 val:∀m,cf R m=F (cf p m) (cf q m)
 mon:∀t∈R,(∃u∈p,u.Mono=t.Mono)\/(∃u∈q,u.Mono=t.Mono)
 len:R.length<=p.length+q.length
 rb:∀t∈R,RB (k+1) t.Coef
theorem Aj8 {k:Nat} {c:A3} {m:Bh} (hc:RB k c):(∀t∈K4 c m,t.Mono=m/\Iu t.Coef/\rq t.Coef≠0/\RB (k+1) t.Coef)/\(K4 c m).length<=1:=by
 unfold K4
 split
 .exact ⟨fun _ h=>(by cases h),by simp⟩
 .rename_i h
  refine ⟨fun t ht=>?_,by simp⟩
  simp only [List.mem_singleton] at ht
  subst ht
  exact ⟨rfl,Aju _ _ _ (Fb c),by rw [Ace _ _ _ (Fb c)]; exact fun e=>h ((Acp c).1 e),Ais hc⟩
theorem Mg.step {F:Rat->Rat->Rat} {k:Nat} {p q g f R:List Aw} {c:A3} {m:Bh} (h:Mg F k g f R) (z:F 0 0=0) (hc:RB k c)
  (s:∀n,C6 m n≠0->cf p n=cf g n/\cf q n=cf f n) (h0:rq c=F (cf p m) (cf q m)) (l:∀u∈g,C6 m u.Mono<0) (j:∀u∈f,C6 m u.Mono<0)
  (x:(∃u∈p,u.Mono=m)\/(∃u∈q,u.Mono=m)) (hp:∀u∈g,u∈p) (hq:∀u∈f,u∈q) (B:g.length+f.length+1<=p.length+q.length):Mg F k p q (K4 c m++R):=by
 obtain ⟨i,A⟩:=Aj8 (m:=m) hc
 have y:∀t∈R,C6 m t.Mono<0:=by
  intro t ht
  rcases h.mon t ht with ⟨u,hu,e⟩ | ⟨u,hu,e⟩
  .rw [<-e]; exact l u hu
  .rw [<-e]; exact j u hu
 refine ⟨?_,?_,?_,?_,?_⟩
 .refine ⟨List.pairwise_append.2 ⟨?_,h.cp.srt,?_⟩,?_⟩
  .unfold K4; split
   .exact List.Pairwise.nil
   .exact List.pairwise_singleton _ _
  .intro a ha b hb
   show C6 a.Mono b.Mono<0
   rw [(i a ha).1]; exact y b hb
  .intro t ht
   rcases List.mem_append.1 ht with ht | ht
   .exact ⟨(i t ht).2.1,(i t ht).2.2.1⟩
   .exact h.cp.coe t ht
 .intro n
  rw [Aj5,Aj7,h.val n]
  by_cases e:C6 m n=0
  .rw [if_pos e]
   have e':=Sj.1 e
   subst e'
   rw [K2 l,K2 j,z,h0]; grind
  .rw [if_neg e,(s n e).1,(s n e).2]; grind
 .intro t ht
  rcases List.mem_append.1 ht with ht | ht
  .rw [(i t ht).1]; exact x
  .rcases h.mon t ht with ⟨u,hu,e⟩ | ⟨u,hu,e⟩
   .exact .inl ⟨u,hp u hu,e⟩
   .exact .inr ⟨u,hq u hu,e⟩
 .rw [List.length_append]; have:=h.len; omega
 .intro t ht
  rcases List.mem_append.1 ht with ht | ht
  .exact (i t ht).2.2.2
  .exact h.rb t ht
end Go.Ab
namespace Go.Ab
open Go
def Sk (n:Int) (f:Bool):List Int:=if f then (if n<0 then [45] else []) else (if n<0 then [32,45,32] else [32,43,32])
def Xk (n:Int):List Int:=if n.natAbs=1 then [] else ti n.natAbs++[42]
def Xl (v:Int):List Int:=if v = -1 then [114,101,115] else 118::ti v
def tT (f:Bool) (t:Ct):List Int:=Sk t.Coef f++(Xk t.Coef++Xl t.Var)
def Sl:Bool->List Ct->Int->List Int
 | f,[],c=>if c≠0\/f=true then Sk c f++ti c.natAbs else []
 | f,t::b,c=>tT f t++Sl false b c
def Aj9 (l:Dc):List Int:=Sl true l.Terms l.Const
def Sm (X:List Int):Prop:=∀c m,X=c::m->c=97
theorem Sm.nil:Sm []:=by intro c m h; cases h
theorem Sm.cons (X:List Int):Sm (97::X):=by intro c m h; cases h; rfl
theorem Aka (n:Nat):∃c m,ti n=c::m/\48<=c/\c<=57:=by
 have b:=Aja (n:Int)
 cases h:ti (n:Int) with
 | nil=>exact (b h).elim
 | cons c m=>
  refine ⟨c,m,rfl,?_⟩
  have hc:c∈ti (n:Int):=by rw [h]; simp
  unfold ti at hc
  obtain ⟨x,hx,rfl⟩:=List.mem_map.1 hc
  have e:Lib.itoa (n:Int)=Lib.decDigits n:=by
   unfold Lib.itoa
   first | rfl | (rw [if_neg (by omega)]; simp) | simp
  rw [e] at hx
  have:=Xa n n (Nat.le_refl _) x hx
  omega
def NoM (P:List Int):Prop:=∃c m,P=c::m/\c≠45
theorem NoM.ti (n:Nat) (X:List Int):NoM (Go.Ab.ti n++X):=by
 obtain ⟨c,m,e,h⟩:=Aka n
 exact ⟨c,m++X,by rw [e]; rfl,by omega⟩
def Acq (a:B6):List Int:=97::(ti a.Deg++58::Aj9 a.Lin)
def Acr (f:Cl):List Int:=Xc f.Var f.Index
def Akb (m:Bh):List Int:=m.Factors.flatMap Acr++m.Atoms.flatMap Acq
def By (l:List Int):Prop:=∀c∈l,0<=c/\c<256
theorem By.app {l m:List Int} (h:By l) (h':By m):By (l++m):=by
 intro c hc
 rcases List.mem_append.1 hc with k | k
 .exact h c k
 .exact h' c k
theorem By.ti (n:Int):By (Go.Ab.ti n):=by
 intro c h
 have:=Xb n c h
 simp only [Ox,Bool.or_eq_true,bae,beq_iff_eq,decide_eq_true_eq] at this
 omega
theorem By.cons {c:Int} {l:List Int} (hc:0<=c/\c<256) (h:By l):By (c::l):=by
 intro d hd
 rcases List.mem_cons.1 hd with rfl | k
 .exact hc
 .exact h d k
theorem By.nil:By []:=fun c h=>by cases h
theorem By.sgn (n:Int) (f:Bool):By (Sk n f):=by
 unfold Sk
 split <;> split <;> intro c hc <;> simp at hc <;> omega
theorem By.mag (n:Int):By (Xk n):=by
 unfold Xk
 split
 .exact By.nil
 .exact (By.ti _).app (By.cons (by omega) By.nil)
theorem By.var (n:Int):By (Xl n):=by
 unfold Xl
 split
 .intro c hc; simp at hc; omega
 .exact By.cons (by omega) (By.ti _)
theorem By.tT (f:Bool) (t:Ct):By (tT f t):=(By.sgn _ _).app ((By.mag _).app (By.var _))
theorem By.lins:∀(l:List Ct) (f:Bool) (c:Int),By (Sl f l c)
 | [],f,c=>by
  simp only [Sl]
  split
  .exact (By.sgn _ _).app (By.ti _)
  .exact By.nil
 | t::l,f,c=>(By.tT f t).app (By.lins l false c)
theorem By.at (a:B6):By (Acq a):=By.cons (by omega) ((By.ti _).app (By.cons (by omega) (By.lins _ _ _)))
theorem By.flat {α:Type} {g:α->List Int} (h:∀a,By (g a)) (l:List α):By (l.flatMap g):=by
 intro c hc
 obtain ⟨a,_,k⟩:=List.mem_flatMap.1 hc
 exact h a c k
theorem By.fac (f:Cl):By (Acr f):=Ajb f.Var f.Index
theorem By.mono (m:Bh):By (Akb m):=(By.flat By.fac _).app (By.flat By.at _)
def bs (l:List Int):ByteArray:=⟨(Hf l).toArray⟩
end Go.Ab
namespace Go.Ab
open Go
end Go.Ab
namespace Go.Ab
open Go
def Dst (b:List Aw):Prop:=b.Pairwise fun t u=>t.Mono≠u.Mono
theorem Dst.set {b:List Aw} (h:Dst b) {j:Nat} {t u:Aw} (ht:b[j]? = some t) (c:u.Mono=t.Mono):Dst (b.set j u):=by
 have e:(b.set j u).map (·.Mono)=b.map (·.Mono):=by
  apply List.ext_getElem?
  intro i
  rw [List.getElem?_map,List.getElem?_map,List.getElem?_set]
  by_cases e:j=i
  .subst e; rw [if_pos rfl,if_pos (Fw ht),ht]; simp [c]
  .rw [if_neg e]
 have k:∀l:List Aw,Dst l↔(l.map (·.Mono)).Pairwise (·≠·):=fun l=>by rw [List.pairwise_map]; exact Iff.rfl
 rw [k,e,<-k]; exact h
structure Col (k:Nat) (P:Bh->Prop) (ts:List Aw):Prop where
 dst:Dst ts
 tb:∀t∈ts,RB k t.Coef
 mo:∀t∈ts,P t.Mono
theorem Col.nil (k:Nat) (P:Bh->Prop):Col k P []:=⟨List.Pairwise.nil,fun _ h=>(by cases h),fun _ h=>(by cases h)⟩
end Go.Ab
namespace Go.Ab
open Go
end Go.Ab
namespace Go.Ab
open Go
def Akc (x:Fg) (m:Bh):Prop:=Sg x.Data x.Vars x.Res m=true/\MSz m
structure Sn (x:Fg) (p:List Aw):Prop where
 can:Xg x.Data x.Vars x.Res p=true
 sz:∀t∈p,TSz t
theorem Sn.cp {x:Fg} {p:List Aw} (h:Sn x p):CP p:=(Aco.1 h.can).2.1
theorem Sn.mo {x:Fg} {p:List Aw} (h:Sn x p):∀t∈p,Akc x t.Mono:=fun t ht=>⟨(Aco.1 h.can).2.2 t ht,(h.sz t ht).mo⟩
end Go.Ab
namespace Go.Ab
open Go
end Go.Ab
namespace Go.Ab
open Go
end Go.Ab
namespace Go.Ab
open Go
end Go.Ab
namespace Go.Ab
open Go
end Go.Ab
namespace Go.Ab
open Go
theorem Akd:Np []=some []:=by kernel_rfl
theorem Ake (l:List Int):Np l=some (l.mergeSort fun x y=>decide (x<=y)):=by
 cases l with
 | nil=>rw [Akd]; simp
 | cons a l=>rfl
theorem Akf (l:List Int):(l.mergeSort fun x y=>decide (x<=y)).Pairwise (·<=·):=by
 have:=List.pairwise_mergeSort (le:=fun x y:Int=>decide (x<=y)) (fun a b c h1 h2=>by simp only [decide_eq_true_eq] at *; omega) (fun a b=>by simp only [Bool.or_eq_true,decide_eq_true_eq]; omega) l
 exact this.imp (fun h=>by simpa using h)
structure Asc (b:List Int) (n:Nat) (l:List Int):Prop where
 up:l.Pairwise (· < ·)
 mem:∀y,y∈l↔y∈b.take n
theorem Akg {b:List Int} (f:b.Pairwise (·<=·)) {q:Nat} {p:Int} (hp:b[q]? = some p):∀y∈b.take (q+1),y<=p:=by
 intro y hy
 obtain ⟨i,c⟩:=List.getElem?_of_mem hy
 rw [List.getElem?_take] at c
 split at c
 .rename_i g
  by_cases e:i=q
  .subst e; rw [c] at hp; cases hp; exact Int.le_refl _
  .have h1:=Fw c
   have h2:=Fw hp
   have:=(List.pairwise_iff_getElem.1 f) i q h1 h2 (by omega)
   rw [Ci h1] at c
   rw [Ci h2] at hp
   cases c; cases hp; exact this
 .cases c
theorem Asc.step {b:List Int} (g:b.Pairwise (·<=·)) {q:Nat} {l:List Int} {p x:Int} (h:Asc b (q+1) l) (hp:b[q]? = some p) (hx:b[q+1]? = some x) (j:x≠p):Asc b (q+2) (l++[x]):=by
 have f:=Akg g hp
 have i:p<x:=by
  have h1:=Fw hp
  have h2:=Fw hx
  have:=(List.pairwise_iff_getElem.1 g) q (q+1) h1 h2 (by omega)
  rw [Ci h1] at hp
  rw [Ci h2] at hx
  cases hp; cases hx; omega
 refine ⟨?_,fun y=>?_⟩
 .rw [List.pairwise_append]
  refine ⟨h.up,by simp,fun a ha c hc=>?_⟩
  rw [List.mem_singleton] at hc
  subst hc
  have:=f a ((h.mem a).1 ha)
  omega
 .rw [Fv hx,List.mem_append,List.mem_append,h.mem y]
theorem Asc.same {b:List Int} {q:Nat} {l:List Int} {x:Int} (h:Asc b (q+1) l) (hp:b[q]? = some x) (hx:b[q+1]? = some x):Asc b (q+2) l:=by
 refine ⟨h.up,fun y=>?_⟩
 rw [Fv hx,List.mem_append,h.mem y]
 constructor
 .exact .inl
 .rintro (h1 | h1)
  .exact h1
  .rw [List.mem_singleton] at h1
   subst h1
   rw [Fv hp]; simp
theorem Iv {α:Type} {l:List α} {off n:Nat} {i:Int} {j:Nat} {x:α} (b:i=j) (hj:j<n) (h:l[off+j]? = some x):De l off n i=some x:=by
 subst b
 unfold De
 rw [if_pos (by omega)]; simpa using h
theorem Akh {X:Option (Nat×List Int)} {Q:Nat×List Int->Prop} (h:∃r,X=some r/\Q r):∃(m:Nat) (o:List Int),X=some (m,o)/\Q (m,o):=by
 obtain ⟨⟨m,o⟩,h1,h2⟩:=h
 exact ⟨m,o,h1,h2⟩
theorem Aki {X:Option (Int⊕((Nat×List Int)⊕Unit))} {P:Nat->List Int->Prop} {b:Prop} (h:∃r,X=some r/\∃(m:Nat) (o:List Int),r = .inr (.inl (m,o))/\P m o) :
  ∃e,X=some (.inr e)/\((∃(m:Nat) (o:List Int),e = .inl (m,o)/\P m o)\/(e = .inr ()/\b)):=by
 obtain ⟨_,h1,m,o,rfl,h2⟩:=h
 exact ⟨_,h1,.inl ⟨m,o,rfl,h2⟩⟩
theorem Akj (b:List Int) (R:b.Pairwise (·<=·)) (hl:b.length<=1099511627776):∃(m:Nat) (o:List Int),Lz b.length b=some (m,o)/\m<=o.length/\Asc b b.length (o.take m):=by
 unfold Lz
 by_cases h2:b.length<2
 .rw [Be (by omega),cond_true]
  refine ⟨b.length,b,rfl,Nat.le_refl _,?_,fun y=>Iff.rfl⟩
  rw [List.take_length]
  match b,h2 with
  | [],_=>simp
  | [_],_=>simp
 .rw [Bo (by omega),cond_false]
  refine Akh (Q:=fun r:Nat×List Int=>r.1<=r.2.length/\Asc b b.length (r.2.take r.1)) ?_
  .refine Eh (Q:=fun r:Nat×List Int=>r.1<=r.2.length/\Asc b b.length (r.2.take r.1)) (fun v=>∃j:Nat,v=((j+1:Nat):Int)/\j+1<=b.length/\Asc b (j+1) (b.take (j+1))) (fun v=>b.length-v.toNat) (fun e:((Nat×List Int)⊕Unit)=>(∃(m:Nat) (o:List Int),e = .inl (m,o)/\m<=o.length/\Asc b b.length (o.take m))\/(e = .inr ()/\Asc b b.length (b.take b.length))) ?_ ?_ ?_ (J:=fun z:((Nat×List Int)⊕Unit)=>match z with | .inl (G,E)=>some (G,E) | .inr _=>some (b.length,b))
   .exact ⟨0,rfl,by omega,by
     refine ⟨?_,fun y=>Iff.rfl⟩
     match b,h2 with
     | a::_,_=>simp
     | [],h=>simp at h⟩
   .rintro v ⟨j,rfl,hj,N⟩
    rcases Nat.lt_or_ge (j+1) b.length with h | h
    .have hx:b[j+1]? = some b[j+1]:=Ci h
     have hp:b[j]? = some b[j]:=Ci (by omega)
     generalize b[j+1]=x at hx
     generalize b[j]=p at hp
     have X:Ac (((j+1:Nat):Int)-1)=((j:Nat):Int):=by rw [show (((j+1:Nat):Int)-1)=(j:Int) by omega,Ac,Cd] <;> omega
     simp only [Be (by omega:((j+1:Nat):Int)<(b.length:Int)),cond_true,Iv (l:=b) (off:=0) (n:=b.length) (i:=((j+1:Nat):Int)) rfl h (by rw [Nat.zero_add]; exact hx),X,
      Iv (l:=b) (off:=0) (n:=b.length) (i:=((j:Nat):Int)) rfl (by omega) (by rw [Nat.zero_add]; exact hp),Ah,E4 h (by omega)]
     by_cases e:x=p
     .subst e
      rw [Hk rfl,cond_true]
      have A:F1 b.length ((j+1:Nat):Int) ((b.length:Nat):Int)=some (j+1,b.length):=by
       unfold F1
       rw [if_pos (by omega)]; simp
      rw [A,Ah]
      dsimp only
      refine .inr ?_
      refine Aki (Eh (Q:=fun z:(Int⊕((Nat×List Int)⊕Unit))=>∃(m:Nat) (o:List Int),z = .inr (.inl (m,o))/\m<=o.length/\Asc b b.length (o.take m)) (fun z=>∃(w k:Nat) (o:List Int),z=((w:Int),(k:Int),o)/\o.length=b.length/\w<=j+k/\1<=k/\j+1+k<=b.length/\Asc b (j+1+k) (o.take w)/\∀i,w<=i->o[i]? = b[i]?)
       (fun z=>b.length-(j+1)-z.2.1.toNat) (fun z=>∃(w k:Nat) (o:List Int),z=((w:Int),(k:Int),o)/\o.length=b.length/\w<=b.length/\Asc b b.length (o.take w)) ?_ ?_ ?_)
      .refine ⟨j+1,1,b,rfl,rfl,by omega,by omega,by omega,?_,fun _ _=>rfl⟩
       exact N.same hp hx
      .rintro z ⟨w,k,o,rfl,D,hw,hk,Z,f,c⟩
       rcases Nat.lt_or_ge (j+1+k) b.length with h' | h'
       .have hy:b[j+1+k]? = some b[j+1+k]:=Ci h'
        have hq:b[j+k]? = some b[j+k]:=Ci (by omega)
        generalize b[j+1+k]=y at hy
        generalize b[j+k]=q at hq
        have V:Ac ((k:Int)-1)=((k-1:Nat):Int):=by rw [show ((k:Int)-1)=((k-1:Nat):Int) by omega,Ac,Cd] <;> omega
        have U:Ac ((k:Int)+1)=((k+1:Nat):Int):=E4 (n:=b.length) (by omega) (by omega)
        have S:Ac ((w:Int)+1)=((w+1:Nat):Int):=E4 (n:=b.length) (by omega) (by omega)
        have i1:De o (0+(j+1)) (b.length-(j+1)) (k:Int)=some y:=Iv rfl (by omega) (by rw [Nat.zero_add,c _ (by omega)]; exact hy)
        have i2:De o (0+(j+1)) (b.length-(j+1)) ((k-1:Nat):Int)=some q:=Iv rfl (by omega) (by rw [Nat.zero_add,c _ (by omega),show j+1+(k-1)=j+k by omega]; exact hq)
        have I:o[w]? = some (o[w]'(by omega)):=Ci _
        have i3:De o 0 b.length (w:Int)=some (o[w]'(by omega)):=Iv rfl (by omega) (by rw [Nat.zero_add]; exact I)
        simp only [Be (by omega:(k:Int)<((b.length-(j+1):Nat):Int)),cond_true,i1,i2,i3,V,U,S,Ah]
        by_cases e:y=q
        .subst e
         rw [D8 rfl,cond_false]
         refine .inl ⟨_,rfl,⟨w,k+1,o,rfl,D,by omega,by omega,by omega,?_,c⟩,by simp only [Int.toNat_natCast]; omega⟩
         have:=Asc.same (q:=j+k) (x:=y) (by rw [show j+k+1=j+1+k by omega]; exact f) hq (by rw [show j+k+1=j+1+k by omega]; exact hy)
         rw [show j+1+(k+1)=j+k+2 by omega]; exact this
        .rw [Dx e,cond_true]
         have B:Ch o (((0:Nat):Int)+(w:Int)) y=o.set w y:=E9 (n:=w) (by omega) y
         have s:(o.set w y).take (w+1)=o.take w++[y]:=by
          rw [Fv (x:=y) (by rw [List.getElem?_set,if_pos rfl,if_pos (by omega)]),List.take_set_of_le (Nat.le_refl _)]
         rw [B]
         refine .inl ⟨_,rfl,⟨w+1,k+1,o.set w y,rfl,by simpa using D,by omega,by omega,by omega,?_,?_⟩,by simp only [Int.toNat_natCast]; omega⟩
         .rw [s]
          have:=Asc.step R (q:=j+k) (x:=y) (p:=q) (by rw [show j+k+1=j+1+k by omega]; exact f) hq (by rw [show j+k+1=j+1+k by omega]; exact hy) e
          rw [show j+1+(k+1)=j+k+2 by omega]; exact this
         .intro i hi
          rw [List.getElem?_set,if_neg (by omega)]
          exact c i (by omega)
       .have L:j+1+k=b.length:=by omega
        refine .inr ⟨((w:Int),(k:Int),o),?_,w,k,o,rfl,D,by omega,by rw [<-L]; exact f⟩
        simp only [Bo (by omega:¬(k:Int)<((b.length-(j+1):Nat):Int)),cond_false]
      .rintro z ⟨w,k,o,rfl,D,hw,f⟩
       dsimp only
       have g:Lq b.length (w:Int)=some w:=by
        unfold Lq
        rw [if_pos (by omega)]; simp
       by_cases Y:w=0\/w<b.length
       .have u:Gk b.length (w:Int) ((b.length:Nat):Int)=some (.inl (w,b.length)):=by
         unfold Gk
         rw [if_pos (by omega),if_pos (by omega)]; simp
        have M:I8 o (0+w) (b.length-w) (0:Int)=some (Ca o (0+w) (List.replicate (b.length-w) 0)):=by
         unfold I8
         rw [if_pos (by omega)]
        rw [u,Ah]
        dsimp only
        rw [M,Ah,g,Ah]
        have s:(Ca o (0+w) (List.replicate (b.length-w) (0:Int))).take w=o.take w:=by
         unfold Ca
         rw [Nat.zero_add,List.append_assoc,List.take_append_of_le_length (by simp; omega),List.take_take,Nat.min_self]
        refine ⟨_,rfl,w,_,rfl,?_,?_⟩
        .unfold Ca; simp; omega
        .rw [s]; exact f
       .have u:Gk b.length (w:Int) ((b.length:Nat):Int)=some (.inr ()):=by
         unfold Gk
         rw [if_pos (by omega),if_neg (by omega)]
        rw [u,Ah]
        dsimp only
        rw [g,Ah]
        exact ⟨_,rfl,w,o,rfl,by omega,f⟩
     .rw [Dw e,cond_false]
      refine .inl ⟨_,rfl,⟨j+1,rfl,by omega,?_⟩,by simp only [Int.toNat_natCast]; omega⟩
      have:=Asc.step R N hp hx e
      rw [<-Fv hx] at this
      exact this
    .have:j+1=b.length:=by omega
     refine .inr ⟨.inr (),?_,.inr ⟨rfl,by rw [<-this]; exact N⟩⟩
     rw [Bo (by omega)]; rfl
   .rintro e (⟨m,o,rfl,h1,h2⟩ | ⟨rfl,h1⟩)
    .exact ⟨(m,o),rfl,h1,h2⟩
    .exact ⟨(b.length,b),rfl,Nat.le_refl _,h1⟩
end Go.Ab
namespace Go.Ab
open Go
end Go.Ab
namespace Go.Ab
open Go
end Go.Ab
namespace Go.Ab
open Go
end Go.Ab
namespace Go.Ab
open Go
end Go.Ab
namespace Go.Ab
open Go
theorem Akk:Qg=some true:=by kernel_rfl
end Go.Ab
namespace Go.Ab
open Go
def En (l:List B6):List Int:=l.flatMap fun a=>a.Lin.Terms.map (·.Var)
def Fy (m:Bh):List Int:=m.Factors.map (·.Var)++En m.Atoms
def C7 (p:List Aw):List Int:=p.flatMap fun t=>Fy t.Mono
theorem Acs {α:Type} (F:List α) (g:α->Int) (o:List Int) (h:o.length+F.length<=1000000) {R:Type} {J:Int×List Int->Option R} {r:R} (l:J ((F.length:Int),o++F.map g)=some r) :
  (Aj (S:=(Int×(List Int))) (E:=(Int×(List Int))) (fun (v164,b)=>
   bif (decide (v164<(F.length:Int))) then (
   (Ag F v164).bind fun c=>
   (B1 8 b [g c]).bind fun i=>
   some (.inl ((Ac (v164+1)),i)))
   else some (.inr (v164,b))) (0,o)).bind J=some r:=by
 refine Oq F (fun j=>((j:Int),o++(F.take j).map g)) (by simp) (by omega) ?_ ?_
 .intro j f hj k h1 h2 h3
  simp only [h1,h2,h3,cond_true,Ah]
  rw [Ft (by simp; omega),Fv k]; simp
 .intro h1
  exact ⟨_,by simp only [h1]; rfl,by rw [List.take_length]; exact l⟩
theorem Akl {α:Type} (f:α->List Int) (l:List α) (j:Nat):((l.take j).flatMap f).length<=(l.flatMap f).length:=by
 have:l.flatMap f=(l.take j).flatMap f++(l.drop j).flatMap f:=by rw [<-List.flatMap_append,List.take_append_drop]
 rw [this,List.length_append]; omega
theorem So {α:Type} (f:α->List Int) {l:List α} {j:Nat} {x:α} (h:l[j]? = some x):((l.take j).flatMap f).length+(f x).length<=(l.flatMap f).length:=by
 have:=Akl f l (j+1)
 rw [Fv h,List.flatMap_append] at this
 simpa using this
theorem Akm (p:List Aw) (J:p.length<=1000000) (ha:∀t∈p,t.Mono.Atoms.length<=1000000) (hb:(C7 p).length<=1000000) :
  ∃V,Lv p=some V/\V.Pairwise (· < ·)/\V.length<=1000000/\∀y,y∈V↔y∈C7 p:=by
 obtain ⟨m,o,G,E,k⟩:=Akj ((C7 p).mergeSort fun x y=>decide (x<=y)) (Akf _) (by rw [List.length_mergeSort]; omega)
 refine ⟨o.take m,?_,k.up,?_,?_⟩
 .unfold Lv
  refine Oq p (fun j=>((j:Int),C7 (p.take j))) rfl (by omega) ?_ ?_
  .intro j t hj ht h1 h2 h3
   have s:=lmo ht
   have D:=ha t s
   have c:(C7 (p.take j)).length+(Fy t.Mono).length<=1000000:=Nat.le_trans (So (fun t:Aw=>Fy t.Mono) ht) hb
   unfold Fy at c
   rw [List.length_append,List.length_map] at c
   simp only [h1,h2,h3,cond_true,Ah]
   refine Acs t.Mono.Factors (fun f=>f.Var) (C7 (p.take j)) (by omega) ?_
   dsimp only
   refine Oq t.Mono.Atoms (fun i=>((i:Int),C7 (p.take j)++t.Mono.Factors.map (fun f=>f.Var)++En (t.Mono.Atoms.take i))) (by simp [En]) (by omega) ?_ ?_
   .intro i a L g q A z
    have B:(En (t.Mono.Atoms.take i)).length+(a.Lin.Terms.map (·.Var)).length<=(En t.Mono.Atoms).length:=So (fun a:B6=>a.Lin.Terms.map (fun l:Ct=>l.Var)) g
    rw [List.length_map] at B
    simp only [q,A,z,cond_true,Ah]
    refine Acs a.Lin.Terms (fun l=>l.Var) _ (by simp only [List.length_append,List.length_map]; omega) ?_
    show some (Sum.inl (_,_))=_
    rw [Fv g]
    unfold En
    rw [List.flatMap_append]
    simp
   .intro q
    refine ⟨_,by simp only [q]; rw [List.take_length]; rfl,?_⟩
    show some (Sum.inl (_,_))=_
    rw [Fv ht]
    unfold C7
    rw [List.flatMap_append]
    simp [Fy]
  .intro h1
   refine ⟨C7 p,by simp only [h1]; rw [List.take_length]; rfl,?_⟩
   rw [Ake,Ah]
   unfold Gt
   rw [if_pos (by rw [List.length_mergeSort]),Ah]
   have:Lz (C7 p).length ((C7 p).mergeSort fun x y=>decide (x<=y))=some (m,o):=by
    rw [<-G,List.length_mergeSort]
   rw [this,Ah]
   unfold Ke
   rw [if_pos E]; rfl
 .have I:((o.take m).length:Nat)<=(C7 p).length:=by
   have u:(o.take m).Nodup:=k.up.imp (fun h=>by omega)
   have b:∀y∈o.take m,y∈C7 p:=fun y hy=>by
    have:=(k.mem y).1 hy
    rw [List.take_length] at this
    exact List.mem_mergeSort.1 this
   exact List.Nodup.length_le_of_subset u b
  omega
 .intro y
  rw [k.mem y,List.take_length,List.mem_mergeSort]
theorem Akn (L:List Int) (b:List Int) (n:Nat) (v:Int) (D:n<=b.length) (u:b.take n=L) (hb:n<=1000000) :
  ∃k:Nat,k<=n/\(∀(i:Nat) (y:Int),i<k->L[i]? = some y->y<v)/\(∀y,L[k]? = some y->v<=y) /\
   Aj (S:=Int) (E:=Int) (fun v2=>
    bif (decide (v2<((n:Nat):Int))) then (
    (De b 0 n v2).bind fun v3=>
    bif (decide (v3<v)) then some (.inl (Ac (v2+1)))
    else some (.inr v2))
    else some (.inr v2)) 0=some (k:Int):=by
 have f:∀i,i<n->L[i]? = b[i]?:=fun i j=>by rw [<-u,List.getElem?_take,if_pos j]
 have q:L.length=n:=by rw [<-u,List.length_take]; omega
 obtain ⟨e,h1,k,h2,h3,A,z⟩:=T8 (step:=(fun v2:Int=>
    bif (decide (v2<((n:Nat):Int))) then (
    (De b 0 n v2).bind fun v3=>
    bif (decide (v3<v)) then some (.inl (Ac (v2+1)))
    else some (.inr v2))
    else some (.inr v2):Int->Option (Int⊕Int))) (fun s=>∃k:Nat,s=(k:Int)/\k<=n/\∀(i:Nat) (y:Int),i<k->L[i]? = some y->y<v) (fun s=>n-s.toNat)
  (fun e=>∃k:Nat,e=(k:Int)/\k<=n/\(∀(i:Nat) (y:Int),i<k->L[i]? = some y->y<v)/\(∀y,L[k]? = some y->v<=y)) (by
   rintro s ⟨k,rfl,hk,c⟩
   rcases Nat.lt_or_ge k n with h | h
   .have hx:b[k]? = some (b[k]'(by omega)):=Ci _
    generalize b[k]'_=x at hx
    have g:L[k]? = some x:=by rw [f k h]; exact hx
    simp only [Be (by omega:(k:Int)<(n:Int)),cond_true,Iv (l:=b) (off:=0) (n:=n) (i:=(k:Int)) rfl h (by rw [Nat.zero_add]; exact hx),Ah]
    by_cases e:x<v
    .rw [Be e,cond_true,E4 h (by omega)]
     refine .inl ⟨_,rfl,⟨k+1,rfl,by omega,fun i y j hy=>?_⟩,by simp only [Int.toNat_natCast]; omega⟩
     by_cases B:i=k
     .subst B; rw [g] at hy; cases hy; exact e
     .exact c i y (by omega) hy
    .rw [Bo e,cond_false]
     exact .inr ⟨_,rfl,k,rfl,hk,c,fun y hy=>by rw [g] at hy; cases hy; omega⟩
   .have:k=n:=by omega
    subst this
    exact .inr ⟨(k:Int),by rw [Bo (by omega)]; rfl,k,rfl,hk,c,fun y hy=>by rw [List.getElem?_eq_none (by omega)] at hy; cases hy⟩) 0 ⟨0,rfl,by omega,fun i y j=>by omega⟩
 subst h2
 exact ⟨k,h3,A,z,h1⟩
theorem Ako (L b:List Int) (n:Nat) (v:Int) (R:n<=b.length) (M:b.take n=L) (hb:b.length<=1000000) (I:L.Pairwise (· < ·)) :
  ∃(N:Nat) (o:List Int),Kh n v b=some (N,o)/\N<=o.length/\o.length<=b.length+1/\(o.take N).Pairwise (· < ·)/\∀y,y∈o.take N↔(y=v\/y∈L):=by
 obtain ⟨k,k1,k2,k3,k4⟩:=Akn L b n v R M (by omega)
 have s:∀i,i<n->L[i]? = b[i]?:=fun i g=>by rw [<-M,List.getElem?_take,if_pos g]
 have a7:L.length=n:=by rw [<-M,List.length_take]; omega
 unfold Kh
 rw [k4,Ah]
 by_cases D:k<n/\L[k]? = some v
 .obtain ⟨h1,h2⟩:=D
  rw [Be (by omega:(k:Int)<(n:Int)),cond_true,Iv (l:=b) (off:=0) (n:=n) (i:=(k:Int)) rfl h1 (by rw [Nat.zero_add,<-s k h1]; exact h2),Ah,Hk rfl,Ah,cond_true]
  refine ⟨n,b,rfl,R,by omega,by rw [M]; exact I,fun y=>?_⟩
  rw [M]
  constructor
  .exact .inr
  .rintro (rfl | h)
   .exact lmo h2
   .exact h
 .have hq:(bif decide ((k:Int)<(n:Int)) then (De b 0 n (k:Int)).bind fun v5=>some (v5==v) else some false)=some false:=by
   by_cases h1:k<n
   .have hx:b[k]? = some (b[k]'(by omega)):=Ci _
    generalize b[k]'_=x at hx
    have X:x≠v:=fun e=>D ⟨h1,by rw [s k h1,hx,e]⟩
    rw [Be (by omega:(k:Int)<(n:Int)),cond_true,Iv (l:=b) (off:=0) (n:=n) (i:=(k:Int)) rfl h1 (by rw [Nat.zero_add]; exact hx),Ah,Dw X]
   .rw [Bo (by omega)]; rfl
  have U:∀y,L[k]? = some y->v<y:=fun y hy=>by
   have h1:=k3 y hy
   have h2:=Fw hy
   have:y≠v:=fun e=>D ⟨by omega,by rw [hy,e]⟩
   omega
  erw [hq]
  simp only [Ah,cond_false]
  have a6:M4 8 b n [0]=some (Ca b n [0],n+1):=by
   unfold M4
   rw [if_pos ⟨R,by simp; omega⟩]; rfl
  rw [a6,Ah]
  dsimp only
  have q:(Ca b n [0]).length=max b.length (n+1):=by unfold Ca; simp; omega
  have B:∀i,i<n->(Ca b n [0])[i]? = L[i]?:=fun i g=>by rw [Ms R,if_pos g,s i g]
  have w1:Ac ((k:Int)+1)=((k+1:Nat):Int):=E4 (n:=n+1) (by omega) (by omega)
  have V:F1 (n+1) (k:Int) (((n+1:Nat):Nat):Int)=some (k,n+1):=by
   unfold F1
   rw [if_pos (by omega)]; simp
  have key:∃f:List Int,((Gk (n+1) (Ac ((k:Int)+1)) (((n+1:Nat):Nat):Int)).bind fun v8=>
    match v8 with
    | .inl v9=>
     (F1 (n+1) (k:Int) (((n+1:Nat):Nat):Int)).bind fun z=>
     (Ih (Ca b n [0]) (0+v9.1) (v9.2-v9.1) (0+z.1) (z.2-z.1)).bind fun S=>some S
    | .inr _=>(F1 (n+1) (k:Int) (((n+1:Nat):Nat):Int)).bind fun v12=>some (Ca b n [0]))=some f/\f.length=max b.length (n+1)/\(∀i,i<k->f[i]? = L[i]?)/\∀i,k<=i->i<n->f[i+1]? = L[i]?:=by
   rw [w1,V]
   by_cases aa:k<n
   .have A:Gk (n+1) ((k+1:Nat):Int) (((n+1:Nat):Nat):Int)=some (.inl (k+1,n+1)):=by
     unfold Gk
     rw [if_pos (by omega),if_pos (by omega)]; simp
    rw [A,Ah]
    dsimp only
    have a1:Ih (Ca b n [0]) (0+(k+1)) (n+1-(k+1)) (0+k) (n+1-k)=some (Ca (Ca b n [0]) (0+(k+1)) (((Ca b n [0]).drop (0+k)).take (min (n+1-k) (n+1-(k+1))))):=by
     unfold Ih
     rw [if_pos (by omega)]
    rw [Ah]
    dsimp only
    rw [a1,Ah]
    have hd:(((Ca b n [0]).drop (0+k)).take (min (n+1-k) (n+1-(k+1)))).length=n-k:=by
     rw [List.length_take,List.length_drop,q]; omega
    refine ⟨_,rfl,?_,fun i g=>?_,fun i g u=>?_⟩
    .rw [Jy (by rw [q]; omega),q,hd]; omega
    .rw [Ms (by rw [q]; omega),if_pos (by omega),B i (by omega)]
    .rw [Ms (by rw [q]; omega),if_neg (by omega),if_pos (by rw [hd]; omega),List.getElem?_take,if_pos (by omega),List.getElem?_drop,show 0+k+(i+1-(0+(k+1)))=i by omega,B i u]
   .have a8:k=n:=by omega
    have A:Gk (n+1) ((k+1:Nat):Int) (((n+1:Nat):Nat):Int)=some (.inr ()):=by
     unfold Gk
     rw [if_pos (by omega),if_neg (by omega)]
    rw [A,Ah]
    dsimp only
    rw [Ah]
    exact ⟨_,rfl,q,fun i g=>B i (by omega),fun i g u=>by omega⟩
  obtain ⟨f,g1,g2,g3,g4⟩:=key
  erw [g1]
  rw [Ah]
  have J:f[k]? = some (f[k]'(by omega)):=Ci _
  rw [Iv (l:=f) (off:=0) (n:=n+1) (i:=(k:Int)) rfl (by omega) (by rw [Nat.zero_add]; exact J),Ah]
  have G:Ch f (((0:Nat):Int)+(k:Int)) v=f.set k v:=E9 (n:=k) (by omega) v
  rw [G]
  have E:(f.set k v).take (n+1)=L.take k++v::L.drop k:=by
   apply List.ext_getElem?
   intro i
   rw [List.getElem?_take,List.getElem?_set]
   have Y:(L.take k).length=k:=by rw [List.length_take]; omega
   by_cases h1:i<k
   .rw [if_pos (by omega),if_neg (by omega),g3 i h1,List.getElem?_append_left (by omega),List.getElem?_take,if_pos h1]
   .rw [List.getElem?_append_right (by omega),Y]
    by_cases h2:i=k
    .subst h2
     rw [if_pos (by omega),if_pos rfl,if_pos (by omega),Nat.sub_self]; rfl
    .obtain ⟨j,hj⟩:∃j,i=j+1:=⟨i-1,by omega⟩
     subst hj
     rw [show j+1-k=(j-k)+1 by omega,List.getElem?_cons_succ,List.getElem?_drop,show k+(j-k)=j by omega]
     by_cases h3:j<n
     .rw [if_pos (by omega),if_neg (by omega),g4 j (by omega) h3]
     .rw [if_neg (by omega),List.getElem?_eq_none (by omega)]
  refine ⟨n+1,f.set k v,rfl,by rw [List.length_set]; omega,by rw [List.length_set]; omega,?_,fun y=>?_⟩
  .rw [E,List.pairwise_append]
   refine ⟨I.sublist (List.take_sublist _ _),?_,?_⟩
   .rw [List.pairwise_cons]
    refine ⟨fun y hy=>?_,I.sublist (List.drop_sublist _ _)⟩
    obtain ⟨i,g⟩:=List.getElem?_of_mem hy
    rw [List.getElem?_drop] at g
    have h1:=Fw g
    have hx:L[k]? = some (L[k]'(by omega)):=Ci _
    have h2:=U _ hx
    by_cases h0:i=0
    .subst h0; rw [Nat.add_zero,hx] at g; cases g; exact h2
    .have:=(List.pairwise_iff_getElem.1 I) k (k+i) (by omega) h1 (by omega)
     rw [Ci h1] at g
     cases g; omega
   .intro a ha c hc
    obtain ⟨i,g⟩:=List.getElem?_of_mem ha
    rw [List.getElem?_take] at g
    split at g
    .rename_i Z
     have h1:=k2 i a Z g
     rcases List.mem_cons.1 hc with rfl | hc
     .exact h1
     .obtain ⟨j,hj⟩:=List.getElem?_of_mem hc
      rw [List.getElem?_drop] at hj
      have h2:=Fw hj
      have h3:=Fw g
      have:=(List.pairwise_iff_getElem.1 I) i (k+j) h3 h2 (by omega)
      rw [Ci h3] at g
      rw [Ci h2] at hj
      cases g; cases hj; exact this
    .cases g
  .rw [E,List.mem_append,List.mem_cons]
   constructor
   .rintro (h | h | h)
    .exact .inr (List.mem_of_mem_take h)
    .exact .inl h
    .exact .inr (List.mem_of_mem_drop h)
   .rintro (h | h)
    .exact .inr (.inl h)
    .rw [<-List.take_append_drop k L,List.mem_append] at h
     rcases h with h | h
     .exact .inl h
     .exact .inr (.inr h)
end Go.Ab
namespace Go.Ab
open Go
theorem Akp (l:List Int) (b:l.length<=1099511627776):Nj l l=some true:=by
 unfold Nj
 rw [D8 rfl,cond_false]
 refine Oq l (fun j=>(j:Int)) rfl (by omega) ?_ ?_
 .intro j x hj hx h1 h2 h3
  simp only [h1,h2,h3,cond_true,Ah,bne_self_eq_false,cond_false]
 .intro h
  exact ⟨.inr (),by simp only [h]; rfl,rfl⟩
theorem Acu (l:List Int) (b:l.length<=1099511627776):Lw l l=some true:=by
 unfold Lw
 rw [D8 rfl,cond_false]
 refine Oq l (fun j=>(j:Int)) rfl (by omega) ?_ ?_
 .intro j x hj hx h1 h2 h3
  simp only [h1,h2,h3,cond_true,Ah,bne_self_eq_false,cond_false]
 .intro h
  exact ⟨.inr (),by simp only [h]; rfl,rfl⟩
theorem Akq (a:A3) (h1:a.Num.length<=1099511627776) (h2:a.Den.length<=1099511627776):Lu a a=some true:=by
 unfold Lu
 rw [beq_self_eq_true,cond_true,Acu _ h1,Ah,cond_true,Acu _ h2,Ah]
theorem Akr:∀(k:Nat) (i:Bl) (a:Int),isz i<=k->k<1099511627776->∃r,Kk k i a=some r/\True:=by
 intro k
 induction k with
 | zero=>intro i a h; have:=Hn i; omega
 | succ k ih=>
  intro i a h hk
  have f:=Hn i
  have g:=W7 i.Kids
  rw [Kk]
  refine Ai3 ⟨_,rfl,trivial⟩ ?_
  refine Eh (fun (v,_)=>∃j:Nat,v=j/\j<=i.Kids.length) (fun (v,_)=>i.Kids.length-v.toNat) (fun _=>True) ⟨0,rfl,by omega⟩ ?_ ?_
  .rintro ⟨v,b⟩ ⟨j,rfl,hj⟩
   rcases Nat.lt_or_ge j i.Kids.length with h' | h'
   .have hx:i.Kids[j]? = some i.Kids[j]:=Ci h'
    generalize i.Kids[j]=x at hx
    have l:=Sa (lmo hx)
    obtain ⟨⟨y,z⟩,c,_⟩:=ih x b (by omega) (by omega)
    simp only [Be (by omega:(j:Int)<(i.Kids.length:Int)),cond_true,Fs rfl hx,Ah,c,E4 h' (by omega)]
    cases y with
    | false=>exact .inr ⟨_,rfl,trivial⟩
    | true=>exact .inl ⟨_,rfl,⟨j+1,rfl,by omega⟩,by simp only [Int.toNat_natCast]; omega⟩
   .have:j=i.Kids.length:=by omega
    subst this
    exact .inr ⟨.inr b,by simp,trivial⟩
  .rintro (⟨x,y⟩ | e) _
   .exact ⟨_,rfl,trivial⟩
   .exact ⟨_,rfl,trivial⟩
theorem Aks (i:Bl) (h:isz i<=1048576):∃b,Nn i=some b:=by
 unfold Nn
 obtain ⟨r,h1,_⟩:=Akr 4000000 i 40 (by omega) (by omega)
 exact ⟨_,by rw [h1]; rfl⟩
def Mp (m:Bh):Prop:=m.Factors.length<=8/\m.Atoms.length<=8/\∀a∈m.Atoms,a.Lin.Terms.length<=70
theorem Acv (m:Bh) (i:MSz m):∃b,Lt m=some b/\(b=true->Mp m):=by
 unfold Lt
 by_cases h1:(m.Factors.length:Int)>8
 .rw [Be h1]
  exact ⟨false,rfl,fun h=>by cases h⟩
 .rw [Bo h1]
  by_cases h2:(m.Atoms.length:Int)>8
  .rw [Be h2]
   exact ⟨false,rfl,fun h=>by cases h⟩
  .rw [Bo h2]
   simp only [cond_false,Ah]
   refine Eh (fun v=>∃j:Nat,v=j/\j<=m.Factors.length) (fun v=>m.Factors.length-v.toNat) (fun z=>z = .inl false\/z = .inr ()) ⟨0,rfl,by omega⟩ ?_ ?_
   .rintro v ⟨j,rfl,hj⟩
    rcases Nat.lt_or_ge j m.Factors.length with h' | h'
    .have hx:m.Factors[j]? = some m.Factors[j]:=Ci h'
     generalize m.Factors[j]=x at hx
     obtain ⟨b,hb⟩:=Aks x.Index (i.fi x (lmo hx))
     simp only [Be (by omega:(j:Int)<(m.Factors.length:Int)),cond_true,Fs rfl hx,Ah,hb,E4 h' (by omega)]
     cases b with
     | false=>exact .inr ⟨_,rfl,.inl rfl⟩
     | true=>exact .inl ⟨_,rfl,⟨j+1,rfl,by omega⟩,by simp only [Int.toNat_natCast]; omega⟩
    .have:j=m.Factors.length:=by omega
     subst this
     exact .inr ⟨.inr (),by simp,.inr rfl⟩
   .rintro z (rfl | rfl)
    .exact ⟨false,rfl,fun h=>by cases h⟩
    .dsimp only
     refine Eh (fun v=>∃j:Nat,v=j/\j<=m.Atoms.length/\∀a∈m.Atoms.take j,a.Lin.Terms.length<=70) (fun v=>m.Atoms.length-v.toNat) (fun z=>z = .inl false\/(z = .inr ()/\∀a∈m.Atoms,a.Lin.Terms.length<=70)) ⟨0,rfl,by omega,by simp⟩ ?_ ?_
     .rintro v ⟨j,rfl,hj,c⟩
      rcases Nat.lt_or_ge j m.Atoms.length with h' | h'
      .have hx:m.Atoms[j]? = some m.Atoms[j]:=Ci h'
       generalize m.Atoms[j]=x at hx
       simp only [Be (by omega:(j:Int)<(m.Atoms.length:Int)),cond_true,Fs rfl hx,Ah,Qk,E4 h' (by omega)]
       by_cases f:(x.Lin.Terms.length:Int)<=70
       .rw [Be f]
        refine .inl ⟨_,rfl,⟨j+1,rfl,by omega,fun a ha=>?_⟩,by simp only [Int.toNat_natCast]; omega⟩
        rw [Fv hx] at ha
        rcases List.mem_append.1 ha with ha | ha
        .exact c a ha
        .rw [List.mem_singleton] at ha
         subst ha; omega
       .rw [Bo f]
        exact .inr ⟨_,rfl,.inl rfl⟩
      .have:j=m.Atoms.length:=by omega
       subst this
       rw [List.take_length] at c
       exact .inr ⟨.inr (),by simp,.inr ⟨rfl,c⟩⟩
     .rintro z (rfl | ⟨rfl,g⟩)
      .exact ⟨false,rfl,fun h=>by cases h⟩
      .exact ⟨true,rfl,fun _=>⟨by omega,by omega,g⟩⟩
theorem Akt (p:List Aw) (q:p.length<=1048576) (hp:∀t∈p,TSz t):∃b,Nb p 10=some b/\(b=true->p.length<=10/\∀t∈p,Mp t.Mono):=by
 unfold Nb
 refine Eh (fun v=>∃j:Nat,v=j/\j<=p.length/\j<=11/\∀t∈p.take j,Mp t.Mono) (fun v=>p.length-v.toNat) (fun z=>z = .inl false\/(z = .inr ()/\(p.length<=10->∀t∈p,Mp t.Mono))) ⟨0,rfl,by omega,by omega,by simp⟩ ?_ ?_
 .rintro v ⟨j,rfl,hj,g,f⟩
  rcases Nat.lt_or_ge j p.length with h' | h'
  .by_cases l:j<=10
   .have hx:p[j]? = some p[j]:=Ci h'
    generalize p[j]=x at hx
    obtain ⟨b,hb,k⟩:=Acv x.Mono (hp x (lmo hx)).mo
    simp only [Be (by omega:(j:Int)<(p.length:Int)),Be (by omega:(j:Int)<=10),cond_true,Fs rfl hx,Ah,hb,E4 h' (by omega)]
    cases b with
    | false=>exact .inr ⟨_,rfl,.inl rfl⟩
    | true=>
     simp only [bnt,cond_false]
     have:∃c,Na x.Coef=some c:=by
      unfold Na
      cases decide ((x.Coef.Num.length:Int)<=8) with
      | true=>exact ⟨_,rfl⟩
      | false=>exact ⟨_,rfl⟩
     obtain ⟨c,hc⟩:=this
     rw [hc,Ah]
     cases c with
     | false=>exact .inr ⟨_,rfl,.inl rfl⟩
     | true=>
      refine .inl ⟨_,rfl,⟨j+1,rfl,by omega,by omega,fun t ht=>?_⟩,by simp only [Int.toNat_natCast]; omega⟩
      rw [Fv hx] at ht
      rcases List.mem_append.1 ht with ht | ht
      .exact f t ht
      .rw [List.mem_singleton] at ht
       subst ht; exact k rfl
   .refine .inr ⟨.inr (),?_,.inr ⟨rfl,fun h=>by omega⟩⟩
    simp only [Be (by omega:(j:Int)<(p.length:Int)),Bo (by omega:¬(j:Int)<=10),cond_true,cond_false,Ah]
  .have:j=p.length:=by omega
   subst this
   rw [List.take_length] at f
   exact .inr ⟨.inr (),by simp,.inr ⟨rfl,fun _=>f⟩⟩
 .rintro z (rfl | ⟨rfl,i⟩)
  .exact ⟨false,rfl,fun h=>by cases h⟩
  .refine ⟨decide ((p.length:Int)<=10),rfl,fun h=>?_⟩
   rw [decide_eq_true_eq] at h
   exact ⟨by omega,i (by omega)⟩
end Go.Ab
namespace Go.Ab
open Go
theorem Acw:∀(l m:List Int),l.Pairwise (· < ·)->m.Pairwise (· < ·)->(∀y,y∈l↔y∈m)->l=m
 | [],[],_,_,_=>rfl
 | [],b::m,_,_,h=>by have:=(h b).2 (by simp); cases this
 | a::l,[],_,_,h=>by have:=(h a).1 (by simp); cases this
 | a::l,b::m,h1,h2,h=>by
  rw [List.pairwise_cons] at h1 h2
  have e:a=b:=by
   rcases List.mem_cons.1 ((h a).1 (by simp)) with e | e
   .exact e
   .rcases List.mem_cons.1 ((h b).2 (by simp)) with e2 | e2
    .exact e2.symm
    .have:=h2.1 a e
     have:=h1.1 b e2
     omega
  subst e
  rw [Acw l m h1.2 h2.2 (fun y=>?_)]
  have:=h y
  simp only [List.mem_cons] at this
  constructor
  .intro hy
   rcases this.1 (.inr hy) with e | e
   .subst e; have:=h1.1 y hy; omega
   .exact e
  .intro hy
   rcases this.2 (.inr hy) with e | e
   .subst e; have:=h2.1 y hy; omega
   .exact e
structure Ic (n:Nat) (b X:List Int):Prop where
 le:n<=b.length
 len:b.length<=X.length
 up:(b.take n).Pairwise (· < ·)
 mem:∀y,y∈b.take n↔y∈X
theorem Acx {α:Type} (F:List α) (g:α->Int) (X:List Int) (n:Nat) (b:List Int) (h0:Ic n b X) (hb:X.length+F.length<=900000) {R:Type} {J:Nat×Int×List Int->Option R} {Q:R->Prop}
  (B:∀(c:Nat) (f:List Int),Ic c f (X++F.map g)->∃r,J (c,(F.length:Int),f)=some r/\Q r) :
  ∃r,(Aj (S:=(Nat×Int×(List Int))) (E:=(Nat×Int×(List Int))) (fun (k,v198,l)=>
   bif (decide (v198<(F.length:Int))) then (
   (Ag F v198).bind fun u=>
   (Kh k (g u) l).bind fun i=>
   some (.inl (i.1,(Ac (v198+1)),i.2)))
   else some (.inr (k,v198,l))) (n,0,b)).bind J=some r/\Q r:=by
 refine Eh (fun s=>∃(c j:Nat) (f:List Int),s=(c,(j:Int),f)/\j<=F.length/\Ic c f (X++(F.take j).map g)) (fun s=>F.length-s.2.1.toNat) (fun e=>∃(c:Nat) (f:List Int),e=(c,(F.length:Int),f)/\Ic c f (X++F.map g)) ⟨n,0,b,rfl,by omega,by simpa using h0⟩ ?_ ?_
 .rintro s ⟨c,j,f,rfl,hj,q⟩
  rcases Nat.lt_or_ge j F.length with h | h
  .have hx:F[j]? = some F[j]:=Ci h
   generalize F[j]=x at hx
   have z:=q.len
   rw [List.length_append,List.length_map,List.length_take] at z
   obtain ⟨A,o,i1,i2,i3,i4,i5⟩:=Ako (f.take c) f c (g x) q.le rfl (by omega) q.up
   simp only [Be (by omega:(j:Int)<(F.length:Int)),cond_true,Fs rfl hx,Ah,i1,E4 h (by omega)]
   refine .inl ⟨_,rfl,⟨A,j+1,o,rfl,by omega,i2,?_,i4,fun y=>?_⟩,by simp only [Int.toNat_natCast]; omega⟩
   .rw [List.length_append,List.length_map,List.length_take]; omega
   .rw [i5 y,q.mem y,Fv hx]
    simp only [List.map_append,List.map_cons,List.map_nil,List.mem_append,List.mem_singleton]
    constructor
    .rintro (h | h | h)
     .exact .inr (.inr h)
     .exact .inl h
     .exact .inr (.inl h)
    .rintro (h | h | h)
     .exact .inr (.inl h)
     .exact .inr (.inr h)
     .exact .inl h
  .have:j=F.length:=by omega
   subst this
   rw [List.take_length] at q
   exact .inr ⟨(c,(F.length:Int),f),by simp only [Bo (by omega:¬(F.length:Int)<(F.length:Int)),cond_false],c,f,rfl,q⟩
 .rintro e ⟨c,f,rfl,q⟩
  exact B c f q
theorem Aku (p:List Aw) (L:p.length<=100000) (ha:∀t∈p,t.Mono.Atoms.length<=100000) (hb:(C7 p).length<=400000) :
  ∃V,Nk p=some V/\(V.Pairwise (· < ·)/\∀y,y∈V↔y∈C7 p):=by
 unfold Nk
 refine Eh (fun s=>∃(n j:Nat) (b:List Int),s=(n,(j:Int),b)/\j<=p.length/\Ic n b (C7 (p.take j))) (fun s=>p.length-s.2.1.toNat) (fun e=>∃(n:Nat) (b:List Int),e=(n,b)/\Ic n b (C7 p)) ⟨0,0,[],rfl,by omega,by simp [C7]; exact ⟨by simp,by simp,by simp,by simp⟩⟩ ?_ ?_
 .rintro s ⟨n,j,b,rfl,hj,x⟩
  rcases Nat.lt_or_ge j p.length with h | h
  .have hx:p[j]? = some p[j]:=Ci h
   generalize p[j]=t at hx
   have I:=ha t (lmo hx)
   have A:(C7 (p.take j)).length+(Fy t.Mono).length<=400000:=Nat.le_trans (So (fun t:Aw=>Fy t.Mono) hx) hb
   have u:C7 (p.take (j+1))=C7 (p.take j)++Fy t.Mono:=by
    rw [Fv hx]; unfold C7; rw [List.flatMap_append]; simp
   unfold Fy at A
   rw [List.length_append,List.length_map] at A
   refine .inl (Mi (Q:=fun z=>(∃(n j:Nat) (b:List Int),z=(n,(j:Int),b)/\j<=p.length/\Ic n b (C7 (p.take j)))/\p.length-z.2.1.toNat<p.length-(j:Int).toNat) ?_)
   simp only [Be (by omega:(j:Int)<(p.length:Int)),cond_true,Fs rfl hx,Ah,E4 h (by omega)]
   refine Acx t.Mono.Factors (fun f=>f.Var) (C7 (p.take j)) n b x (by omega) (fun E b1 h1=>?_)
   dsimp only
   refine Eh (fun s=>∃(c i:Nat) (b2:List Int),s=(c,(i:Int),b2)/\i<=t.Mono.Atoms.length/\Ic c b2 (C7 (p.take j)++t.Mono.Factors.map (fun f=>f.Var)++En (t.Mono.Atoms.take i))) (fun s=>t.Mono.Atoms.length-s.2.1.toNat)
    (fun e=>∃(c:Nat) (b2:List Int),e=(c,(t.Mono.Atoms.length:Int),b2)/\Ic c b2 (C7 (p.take j)++t.Mono.Factors.map (fun f=>f.Var)++En t.Mono.Atoms)) ⟨E,0,b1,rfl,by omega,by simpa [En] using h1⟩ ?_ ?_
   .rintro s ⟨c,i,b2,rfl,M,k⟩
    rcases Nat.lt_or_ge i t.Mono.Atoms.length with g | g
    .have q:t.Mono.Atoms[i]? = some t.Mono.Atoms[i]:=Ci g
     generalize t.Mono.Atoms[i]=a at q
     have G:(En (t.Mono.Atoms.take i)).length+(a.Lin.Terms.map (fun l:Ct=>l.Var)).length<=(En t.Mono.Atoms).length:=So (fun a:B6=>a.Lin.Terms.map (fun l:Ct=>l.Var)) q
     rw [List.length_map] at G
     have B:En (t.Mono.Atoms.take (i+1))=En (t.Mono.Atoms.take i)++a.Lin.Terms.map (fun l=>l.Var):=by
      rw [Fv q]; unfold En; rw [List.flatMap_append]; simp
     refine .inl (Mi (Q:=fun z=>(∃(c i:Nat) (b2:List Int),z=(c,(i:Int),b2)/\i<=t.Mono.Atoms.length/\Ic c b2 (C7 (p.take j)++t.Mono.Factors.map (fun f=>f.Var)++En (t.Mono.Atoms.take i)))/\t.Mono.Atoms.length-z.2.1.toNat<t.Mono.Atoms.length-(i:Int).toNat) ?_)
     simp only [Be (by omega:(i:Int)<(t.Mono.Atoms.length:Int)),cond_true,Fs rfl q,Ah,E4 g (by omega)]
     refine Acx a.Lin.Terms (fun l=>l.Var) _ c b2 k (by simp only [List.length_append,List.length_map]; omega) (fun D J h3=>?_)
     refine ⟨_,rfl,_,rfl,⟨D,i+1,J,rfl,by omega,?_⟩,by simp only [Int.toNat_natCast]; omega⟩
     rw [B,<-List.append_assoc]; exact h3
    .have:i=t.Mono.Atoms.length:=by omega
     subst this
     rw [List.take_length] at k
     exact .inr ⟨(c,(t.Mono.Atoms.length:Int),b2),by simp only [Bo (by omega:¬(t.Mono.Atoms.length:Int)<(t.Mono.Atoms.length:Int)),cond_false],c,b2,rfl,k⟩
   .rintro e ⟨c,b2,rfl,k⟩
    refine ⟨_,rfl,_,rfl,⟨c,j+1,b2,rfl,by omega,?_⟩,by simp only [Int.toNat_natCast]; omega⟩
    rw [u]
    unfold Fy
    rw [<-List.append_assoc]; exact k
  .have:j=p.length:=by omega
   subst this
   rw [List.take_length] at x
   exact .inr ⟨(n,b),by simp only [Bo (by omega:¬(p.length:Int)<(p.length:Int)),cond_false],n,b,rfl,x⟩
 .rintro e ⟨n,b,rfl,x⟩
  refine ⟨b.take n,?_,x.up,x.mem⟩
  show (Ke b n).bind _=_
  unfold Ke
  rw [if_pos x.le]; rfl
end Go.Ab
