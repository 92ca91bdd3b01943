/- Plain laws. -/
import Derived.Test.YtgfjdimemmhmeaaGreatDoorMuPl2
import Derived.KernelRfl
open List
namespace Go.Ab
open Go Ieee
variable{k n:Nat}
theorem A8r(n d:Nat):∃c,Toward.even.cut false n d=c/\(n/2^d<=c)/\c<=n/2^d+1/\(n%2^d=0->c=n/2^d):=by refine⟨_,rfl,?_⟩;unfold Toward.cut;simp only[Nat.shiftLeft_eq,Nat.one_mul];by_cases q:d<=n.log2+2;rw[Nat.min_eq_left q];generalize r:2^d=g;have s:0<g:=(by rw[<-r];exact Nat.pow_pos δ);refine⟨ω,?_,λA=>?_⟩;have:=Bool.toNat_le (decide (g<2*(n%g))||(g==2*(n%g)&&n/g%2==1));omega;rw[A];have e:decide (g<2*0)=false:=ψ;have o:(g==2*0)=false:=ζ;rw[e,o];rfl;rw[Nat.min_eq_right ω];have b:n<2^(n.log2+1):=Nat.lt_log2_self;have s:2^(n.log2+2)=2*2^(n.log2+1):=(by rw[Nat.pow_succ];omega);have f:2^(n.log2+2)<=2^d:=Nat.pow_le_pow_right δ ω;have k:n/2^(n.log2+2)=0:=Nat.div_eq_of_lt ω;have j:n%2^(n.log2+2)=n:=Nat.mod_eq_of_lt ω;have i:n/2^d=0:=Nat.div_eq_of_lt ω;have h:n%2^d=n:=Nat.mod_eq_of_lt ω;rw[k,j,i,h];have e:decide (2^(n.log2+2)<2*n)=false:=ζ;have o:(2^(n.log2+2)==2*n)=false:=ζ;rw[e,o];exact⟨ψ,ψ,λ_=>rfl⟩
theorem Zy(f:Nat)(place e:Int)(l:f≠0)(H:place+f.log2=e)(M : -1000<=e)(N:e<=900):∃(m:Nat)(p:Int),double.read (double.nearest false f place)=.number false m p/\4503599627370496<=m/\m<9007199254740992/\(p=e-52\/(p=e-51/\m=4503599627370496)):=by(have g:max (place+f.log2-(double.fractionBits:Int)) double.leastPlace=e-52:=by have a:(double.fractionBits:Int)=52:=rfl;have b:double.leastPlace = -1074:=δ;rw[a,b,H];omega);(have C:double.nearest false f place=min ((e-52+1074).toNat*4503599627370496+Toward.even.cut false (f <<< (place-(e-52)).toNat) ((e-52)-place).toNat) (2047*4503599627370496):=by unfold Format.nearest;rw[As l];simp only[g];have b:double.leastPlace = -1074:=δ;have c:double.binade=4503599627370496:=δ;have d:double.infRung=2047*4503599627370496:=δ;rw[b,c,d];unfold Format.word;simp only[Bool.false_eq_true,if_false];congr 3);(have I:4503599627370496<=Toward.even.cut false (f <<< (place-(e-52)).toNat) ((e-52)-place).toNat/\Toward.even.cut false (f <<< (place-(e-52)).toNat) ((e-52)-place).toNat<=9007199254740992:=by obtain⟨c,r,D,F,B⟩:=A8r (f <<< (place-(e-52)).toNat) ((e-52)-place).toNat;rw[r];have y:2^f.log2<=f:=Nat.log2_self_le l;have x:f<2^(f.log2+1):=Nat.lt_log2_self;rw[Nat.shiftLeft_eq]at D F B;rcases Int.le_total place (e-52)with h|h;have z:(place-(e-52)).toNat=0:=ω;rw[z,Nat.pow_zero,Nat.mul_one]at D F B;have G:f.log2=52+((e-52)-place).toNat:=ω;have hp:2^f.log2=4503599627370496*2^((e-52)-place).toNat:=(by rw[G,Nat.pow_add]);have k:2^(f.log2+1)=9007199254740992*2^((e-52)-place).toNat:=(by rw[Nat.pow_succ,hp];omega);have o:0<2^((e-52)-place).toNat:=Nat.pow_pos δ;have J:4503599627370496<=f/2^((e-52)-place).toNat:=(Nat.le_div_iff_mul_le o).2 ω;have K:f/2^((e-52)-place).toNat<9007199254740992:=(Nat.div_lt_iff_lt_mul o).2 ω;omega;have z:((e-52)-place).toNat=0:=ω;rw[z,Nat.pow_zero,Nat.div_one]at D F B;have Q:=B (Nat.mod_one _);have G:52=f.log2+(place-(e-52)).toNat:=ω;have hp:2^f.log2*2^(place-(e-52)).toNat=4503599627370496:=(by rw[<-Nat.pow_add,<-G]);have k:2^(f.log2+1)*2^(place-(e-52)).toNat=9007199254740992:=(by rw[Nat.pow_succ,Nat.mul_right_comm,hp]);have o:0<2^(place-(e-52)).toNat:=Nat.pow_pos δ;have J:=Nat.mul_le_mul_right (2^(place-(e-52)).toNat) y;have K:=Nat.mul_lt_mul_of_pos_right x o;omega);generalize Toward.even.cut false (f <<< (place-(e-52)).toNat) ((e-52)-place).toNat=c at *;obtain⟨t,L⟩:∃t:Nat,(e-52+1074).toNat=t/\t<=1922/\(t:Int)=e+1022:=⟨_,rfl,ω,ω⟩;rw[L.1]at C;rw[Nat.min_eq_left ω]at C;rw[C];have b:double.leastPlace = -1074:=δ;have A:double.binade=4503599627370496:=δ;have d:double.infRung=2047*4503599627370496:=δ;have q:double.signWeight=9223372036854775808:=δ;unfold Format.read;rw[b,A,d,q];have u:(t*4503599627370496+c)/9223372036854775808=0:=Nat.div_eq_of_lt ω;have s:(t*4503599627370496+c)%9223372036854775808=t*4503599627370496+c:=Nat.mod_eq_of_lt ω;simp only[u,s];rw[As ω,Av ω];by_cases r:c<9007199254740992;refine⟨c,e-52,?_,I.1,r,.inl rfl⟩;have j:(t*4503599627370496+c)%4503599627370496=c-4503599627370496:=ω;have i:(t*4503599627370496+c)/4503599627370496=t+1:=ω;rw[j,i,show 4503599627370496+(c-4503599627370496)=c by omega,show(-1074:Int)+((t+1-1:Nat):Int)=e-52 by omega];rfl;have r:c=9007199254740992:=ω;subst r;refine⟨4503599627370496,e-51,?_,δ,δ,.inr ⟨rfl,rfl⟩⟩;have j:(t*4503599627370496+9007199254740992)%4503599627370496=0:=ω;have i:(t*4503599627370496+9007199254740992)/4503599627370496=t+2:=ω;rw[j,i,Nat.add_zero,show(-1074:Int)+((t+2-1:Nat):Int)=e-51 by omega];rfl
theorem An5(v:Int)(h:0<=v):floatOfInt .f64 v=double.nearest false v.natAbs 0:=by have e:decide (v<0)=false:=Au ω;show double.nearest (decide (v<0)) v.natAbs 0=_;rw[e]
theorem A8s:double.read 4876203697187506176=.number false 7812500000000000 7:=by decide
theorem Ai0(d:2^k<=n)(e:n<2^(k+1)):n.log2=k:=(Nat.log2_eq_iff (by have:=Nat.pow_pos (n:=k) (show 0<2 by decide);omega)).2 ⟨d,e⟩
theorem Adv(h:n<2^(k+1)):n.log2<=k:=by by_cases d:n=0;subst d;simp;have:=(Nat.log2_lt d).2 h;omega
theorem An6(h:2^k<=n):k<=n.log2:=(Nat.le_log2 (by have:=Nat.pow_pos (n:=k) (show 0<2 by decide);omega)).2 h
theorem A8t(x:Int)(h0:1<=x)(A:x<1000000000):∃(w:Nat)(m:Nat)(p:Int),floatBits .mul .f64 (floatOfInt .f64 x) 4876203697187506176=some w/\double.read w=.number false m p/\4503599627370496<=m/\m<9007199254740992/\7<=p/\(p<=37\/(p=38/\m=4503599627370496)):=by have j:x.natAbs.log2<=29:=Adv ζ;obtain⟨d,b,g,B,C,D⟩:=Zy x.natAbs 0 (x.natAbs.log2) ω ω ω ω;(have c:(d*7812500000000000).log2=104\/((d*7812500000000000).log2=105/\d≠4503599627370496):=by have e:2^104<=d*7812500000000000:=ω;have o:d*7812500000000000<2^106:=ω;rcases Cj (d*7812500000000000) (2^105)with h|h;exact .inl (Ai0 e h);exact .inr ⟨Ai0 h o,by rintro rfl;omega⟩);obtain⟨q,i,f,r,s,F⟩:=Zy (d*7812500000000000) (b+7) (b+7+(d*7812500000000000).log2) ω rfl ω ω;refine⟨double.nearest false (d*7812500000000000) (b+7),q,i,?_,f,r,s,ω,ω⟩;show((double.read (floatOfInt .f64 x)).product (double.read 4876203697187506176)).map double.write=_;rw[An5 x ω,g,A8s];rfl
theorem A8u(w:Nat)(m:Nat)(p:Int)(r:double.read w=.number false m p)(M:4503599627370496<=m)(L:m<9007199254740992)(I:7<=p)(j:p<=37\/(p=38/\m=4503599627370496))(y:Int)(h0:0<=y)(h1:y<1000000000000000000):∃(w':Nat)(g:Nat)(f:Int),floatBits .add .f64 w (floatOfInt .f64 y)=some w'/\double.read w'=.number false g f/\4503599627370496<=g/\g<9007199254740992/\7<=f/\f<=39:=by(obtain⟨c,b,x,S,R⟩:∃(c:Nat)(b:Int),double.read (floatOfInt .f64 y)=.number false c b/\b<=8/\c<9007199254740992/\-1074<=b:=by rw[An5 y h0];by_cases o:y.natAbs=0;rw[o];exact⟨0,-1074,δ,δ,δ,δ⟩;have X:y.natAbs.log2<=59:=Adv ζ;obtain⟨C,D,A,a1,F,a3⟩:=Zy y.natAbs 0 (y.natAbs.log2) o ω ω ω;exact⟨C,D,A,ω,F,ω⟩);generalize H:min p b=d;(have K:∃T:Nat,signed false m (p-d).toNat+signed false c (b-d).toNat=(T:Int)/\T=m*2^(p-d).toNat+c*2^(b-d).toNat:=by refine⟨m <<< (p-d).toNat+c <<< (b-d).toNat,rfl,by rw[Nat.shiftLeft_eq,Nat.shiftLeft_eq]⟩);obtain⟨T,t1,t2⟩:=K;have G:0<2^(p-d).toNat:=Nat.pow_pos δ;have i:2^(b-d).toNat<=2^(8-d).toNat:=Nat.pow_le_pow_right δ ω;(have J:m*2^(p-d).toNat<=2^(90-d).toNat:=by rcases j with h|⟨rfl,rfl⟩;have e:2^(90-d).toNat=2^(p-d).toNat*2^(90-p).toNat:=(by rw[<-Nat.pow_add];congr 1;omega);have e2:2^53<=2^(90-p).toNat:=Nat.pow_le_pow_right δ ω;rw[e,Nat.mul_comm];exact Nat.mul_le_mul_left _ ω;have e:2^(90-d).toNat=2^(38-d).toNat*2^52:=(by rw[<-Nat.pow_add];congr 1;omega);rw[e,Nat.mul_comm];omega);(have E:c*2^(b-d).toNat<2^(90-d).toNat:=by have e:2^(90-d).toNat=2^(8-d).toNat*2^82:=(by rw[<-Nat.pow_add];congr 1;omega);have Z:c*2^(b-d).toNat<=c*2^(8-d).toNat:=Nat.mul_le_mul_left _ i;have N:0<2^(8-d).toNat:=Nat.pow_pos δ;have Y:c*2^(8-d).toNat<2^82*2^(8-d).toNat:=Nat.mul_lt_mul_of_pos_right ω N;rw[e,Nat.mul_comm (2^(8-d).toNat)];omega);(have s:T<2^((90-d).toNat+1):=by rw[Nat.pow_succ];omega);(have q:2^(52+(p-d).toNat)<=T:=by have:2^52*2^(p-d).toNat<=m*2^(p-d).toNat:=Nat.mul_le_mul_right _ ω;rw[Nat.pow_add];omega);have V:=Adv s;have U:=An6 q;(have u:T≠0:=by have:=Nat.pow_pos (n:=52+(p-d).toNat) (show 0<2 by decide);omega);obtain⟨Q,B,z,W,c2,c3⟩:=Zy T d (d+T.log2) u rfl ω ω;refine⟨double.nearest false T d,Q,B,?_,z,W,c2,ω,ω⟩;show((double.read w).sum (double.read (floatOfInt .f64 y))).map double.write=_;rw[r,x];have l:¬((T:Int)=0):=ω;have k:decide ((T:Int)<0)=false:=Au ω;simp only[Datum.sum,H,t1,As l,k,Option.map_some,Int.natAbs_natCast,Format.write]
theorem A8v{b m N:Nat}{p:Int}(d:double.read b=.number false m p)(g:(Datum.number false m p).toInt .zero=some (N:Int))(h:N<=9223372036854775808):floatToIntVal .f64 b .u64=some (N:Int):=by have e:FloatKind.f64.decode b=.number false m p:=d;have f:IntKind.u64.min=0:=δ;have c:IntKind.u64.max=18446744073709551615:=δ;unfold floatToIntVal;rw[e,g];simp only[f,c];rw[Av ⟨ω,ω⟩]
theorem A8w(w:Nat)(m:Nat)(p:Int)(r:double.read w=.number false m p)(R:4503599627370496<=m)(M:m<9007199254740992)(L:7<=p)(J:p<=39)(z:Int)(h0:1000000000<=z)(H:z<1000000000000000000):∃(w':Nat)(n:Int),floatBits .quo .f64 w (floatOfInt .f64 z)=some w'/\floatToIntVal .f64 w' .u64=some n/\0<=n/\n<=9223372036854775808:=by have U:z.natAbs.log2<=59:=Adv ζ;have S:29<=z.natAbs.log2:=An6 ζ;obtain⟨f,c,u,K,Q,T⟩:=Zy z.natAbs 0 (z.natAbs.log2) ω ω ω ω;have D:m.log2=52:=Ai0 ω ω;have y:f.log2=52:=Ai0 ω ω;generalize o:m*2^54/f=q;generalize l:((m*2^54%f != 0).toNat)=s;(have E:s<=1:=by rw[<-l];exact Bool.toNat_le _);(have I:q<2^55:=by rw[<-o];exact(Nat.div_lt_iff_lt_mul ω).2 ω);(have G:2^53<=q:=by rw[<-o];exact(Nat.le_div_iff_mul_le ω).2 ω);have B:(2*q+s).log2<=55:=Adv ω;have A:54<=(2*q+s).log2:=An6 ω;obtain⟨d,b,x,W,C,c3⟩:=Zy (2*q+s) (p-c-(54:Nat)-1) (p-c-(54:Nat)-1+(2*q+s).log2) ω rfl ω ω;(have j:(Datum.number false m p).quotient (double.fractionBits+2) (Datum.number false f c)=some (.number false (2*q+s) (p-c-(54:Nat)-1)):=by have i:¬f=0:=ω;have fb:double.fractionBits+2=54:=rfl;simp only[Datum.quotient,As i,fb,D,y,Nat.shiftLeft_eq,Nat.add_sub_cancel,o,l,Bool.xor_self]);(have F:d*2^b.toNat<=9223372036854775808:=by have k:b<=10\/(b=11/\d=4503599627370496):=ω;rcases k with h|⟨rfl,rfl⟩;have:2^b.toNat<=2^10:=Nat.pow_le_pow_right δ ω;have:=Nat.mul_le_mul (Nat.le_of_lt C) this;omega;decide);(obtain⟨N,V,g⟩:∃N:Nat,(Datum.number false d b).toInt .zero=some (N:Int)/\N<=9223372036854775808:=by refine⟨(d <<< b.toNat)/(1 <<< min (-b).toNat ((d <<< b.toNat).log2+2)),?_,?_⟩;simp only[Datum.toInt,Datum.integral,Toward.cut,signed,Bool.false_eq_true,if_false,Nat.shiftLeft_zero,Bool.toNat_false,Nat.add_zero];rw[Nat.shiftLeft_eq d];exact Nat.le_trans (Nat.div_le_self _ _) F);refine⟨double.nearest false (2*q+s) (p-c-(54:Nat)-1),(N:Int),?_,?_,ω,ω⟩;have e:floatBits .quo .f64 w (floatOfInt .f64 z)=((double.read w).quotient (double.fractionBits+2) (double.read (floatOfInt .f64 z))).map double.write:=rfl;rw[e,r,An5 z ω,u,j];simp only[Option.map_some,Format.write];exact A8v x V g
theorem A8x(r n:Nat)(Q:2<=Bw n)(W:Bw r<=Bw n+1)(hn:Bw n<1099511627776):∃d:Nat,Ack (Ai r) (Ai n)=some (d:Int)/\d<1000000000:=by unfold Ack;unfold Bw at Q W hn;(have c:n≠0:=by rintro rfl;rw[Hz]at Q;simp at Q);by_cases S:(Ai r).length<(Ai n).length;exact⟨0,by rw[An ω];rfl,δ⟩;rw[Au ω,Al];have y:Aa (((Ai n).length:Int)-1)=(((Ai n).length-1:Nat):Int):=ξ;have u:Aa (((Ai n).length:Int)-2)=(((Ai n).length-2:Nat):Int):=ξ;have T:(Ai n).length-1<(Ai n).length:=ω;have U:(Ai n).length-2<(Ai n).length:=ω;have h:(Ai n).length-1<(Ai r).length:=ω;have g:(Ai n).length-2<(Ai r).length:=ω;have t1:=(Gj n).get T;have t2:=(Gj n).get U;have J:=(Gj r).get h;have I:=(Gj r).get g;have i:(Ai n)[(Ai n).length-1]≠0:=(by have:=(Ahq n).2 (Kw c);rwa [getLast_eq_getElem]at this);rw[y,u,E7 rfl T,Ac,E7 rfl U,Ac,E7 rfl h,Ac,E7 rfl g,Ac];generalize(Ai n)[(Ai n).length-1]=o at *;generalize(Ai n)[(Ai n).length-2]=F at *;generalize(Ai r)[(Ai n).length-1]=C at *;generalize(Ai r)[(Ai n).length-2]=H at *;have l:Bc (Bc (Bc C*1000000000)+Bc H)=C*1000000000+H:=(by rw[show Bc C=C from D7 ω ω,show Bc H=H from D7 ω ω,show Bc (C*1000000000)=C*1000000000 from D7 ω ω];exact D7 ω ω);have j:Bc (Bc (Bc o*1000000000)+Bc F)=o*1000000000+F:=(by rw[show Bc o=o from D7 ω ω,show Bc F=F from D7 ω ω,show Bc (o*1000000000)=o*1000000000 from D7 ω ω];exact D7 ω ω);rw[l,j];by_cases he:(Ai r).length=(Ai n).length;rw[Ew ω,Ak,Nr ω ω ω,Ac];have M:0<=(C*1000000000+H)/(o*1000000000+F):=Int.ediv_nonneg ω ω;have L:(C*1000000000+H)/(o*1000000000+F)<1000000000:=Int.ediv_lt_of_lt_mul ω ω;exact⟨((C*1000000000+H)/(o*1000000000+F)).toNat,by congr 1;omega,ω⟩;have K:(Ai n).length<(Ai r).length:=ω;have b:r≠0:=(by rintro rfl;rw[Hz]at K;simp at K);have G:=(Gj r).get K;have f:(Ai r)[(Ai n).length]≠0:=(by have:=(Ahq r).2 (Kw b);rw[getLast_eq_getElem]at this;have e:(Ai r).length-1=(Ai n).length:=ω;simpa[e]using this);rw[Cx ω,Al,E7 rfl K,Ac];generalize(Ai r)[(Ai n).length]=x at *;obtain⟨s,m3,A,f1,f2,f3,f4,f5,f6⟩:=A8t x ω ω;obtain⟨q,m4,z,g1,g2,g3,g4,g5,g6⟩:=A8u s m3 A f2 f3 f4 f5 f6 (C*1000000000+H) ω ω;obtain⟨E,k,D,B,R,N⟩:=A8w q m4 z g2 g3 g4 g5 g6 (o*1000000000+F) ω ω;rw[f1,Ac,g1,Ac,D,Ac,B,Ac,show Bc (k+2)=k+2 from D7 ω ω];by_cases V:(999999999:Int)<k+2;exact⟨999999999,by rw[Av V];rfl,δ⟩;exact⟨(k+2).toNat,by rw[As V];congr 1;omega,ω⟩
end Go.Ab
namespace Go.Ab
open Go
variable{m:A4}{Θ:Ah}{t u:Aj}{a:Ay}{v w x y:Int}{Ξ:A1}{p:Ap}{Δ:Ad}{P S X b l:Ae}{j k n:Nat}{E R α β:Type}{g:α->Ae}
theorem A8y(x r:Nat):Bw (x%1000000000+1000000000*r)<=Bw r+1:=by apply Ip;have:=Pp r;rw[Nat.pow_succ];omega
set_option maxHeartbeats 1000000 in
theorem An7(m n:Nat)(T:Bw m<137438953472)(W:Bw n<137438953472)(D:n≠0):Vv (Ai m) (Ai n)=some (Ai (m/n),Ai (m%n)):=by unfold Vv;rw[Aiy,Zt m n ω ω,Ac];have af:=T;have ae:=W;unfold Bw at T W;by_cases l:m<n;rw[show Hc m n = -1 by rw[Hc,Av l],An (by decide:(-1:Int)<0),Ak,W6 _ ω,Ac,A6d (Ahq m),Nat.div_eq_of_lt l,Nat.mod_eq_of_lt l,Hz];rw[Au (show ¬Hc m n<0 by rw[Hc,As l];split<;>decide),Al];have a8:(Ai n).length≠0:=λe=>Kw D (F5.1 e);by_cases h1:(Ai n).length=1;rw[Ew (ω:((Ai n).length:Int)=1),Ak];have B:n<1000000000:=(by have:=Pp n;rw[show Bw n=1 from h1]at this;simpa using this);have Y:Ai n=[(n:Int)]:=(by rw[Po D,Nat.div_eq_of_lt B,Hz,Nat.mod_eq_of_lt B]);rw[Y,show Ag [(n:Int)] 0=some (n:Int)from rfl,Ac,show Bc (n:Int)=n from D7 ω ω,A8o m n ω ω ω,Ac];have a7:m%n<n:=Nat.mod_lt _ ω;rw[Aix,Uk (m%n) ω,Ac];rw[Cx (ω:((Ai n).length:Int)≠1),Al];have hw:Aa (((Ai m).length:Int)-1)=((Ai m).length:Int)-1:=ξ;rw[Mj rfl rfl (Nat.le_refl _) ω ω,hw];simp only[Ac];have ha:=Gj m;refine Ka (λ(r,i,q)=>∃(k R:Nat),r=Ai R/\i=(k:Int)-1/\k<=(Ai m).length/\R<n/\q.length=(Ai m).length/\Cm q/\Ar (q.drop k)*n+R=Ar ((Ai m).drop k)) (λ(_,i,_)=>(i+1).toNat) (λ(r,q)=>∃R:Nat,r=Ai R/\R<n/\q.length=(Ai m).length/\Cm q/\Ar q*n+R=m) ⟨(Ai m).length,0,by rw[Hz],rfl,Nat.le_refl _,ω,ψ,Cm.replicate _,by simp[Ar]⟩ ?_ ?_;rintro⟨r,i,q⟩ ⟨k,R,rfl,rfl,hk,J,u,g,A⟩;(cases k with|zero=>exact .inr ⟨(Ai R,q),ψ,R,rfl,J,u,g,by simpa[Gx]using A⟩|succ j=>have F:j<(Ai m).length:=ω;have E:j<q.length:=ω;have hx:=ha.get F;obtain⟨x,y⟩:∃x:Nat,(Ai m)[j]=(x:Int):=⟨(Ai m)[j].toNat,ω⟩;have L:x<1000000000:=ω;have e0:((j+1:Nat):Int)-1=(j:Int):=ω;have e1:decide ((j:Int)>=0)=true:=An ω;have Z:Bw R<=Bw n:=Kx ω;have ac:Bw (x+1000000000*R)<=Bw R+1:=(by have:=A8y x R;rwa [Nat.mod_eq_of_lt L]at this);have ah:(Ai R).length<=(Ai n).length:=Z;(have G:M2 ((x:Int)::Ai R)=some (Ai (x+1000000000*R)):=by rw[W6 _ ζ];congr 1;refine Ns ?_ ?_;intro d o;rcases En.1 o with rfl|o;omega;exact Gj R d o;simp only[Ar,Gx];omega);obtain⟨d0,U,ag⟩:=A8x (x+1000000000*R) n (by unfold Bw;omega) ω ω;generalize a6:x+1000000000*R=f at *;have ab:f<1000000000*n:=ω;have s:∀d:Nat,d<18446744073709551616->Pg (d:Int)=some (Ai d)/\Mz (Ai n) (Ai d)=some (Ai (n*d)):=(by intro d o;have:=W4 o;exact⟨by rw[Aix,Uk d o],Zx n d ω ω⟩);have I:∀d:Nat,d<18446744073709551616->Tj (Ai (n*d)) (Ai f)=some (Hc (n*d) f):=(by intro d o;have h3:=W4 o;have h4:=Jr n d;rw[Aiy,Zt _ _ ω ω]);simp only[e0,e1,Ak,E7 rfl F,y,Ac,Dj (show([(x:Int)].length+(Ai R).length)*4<=_ by simp;omega),singleton_append,G,U];refine .inl (Aho (Ft (λd=>∃e:Nat,d=e/\e<=d0) (λd=>d.toNat) (λd=>∃e:Nat,d=e/\e<=d0/\n*e<=f) ⟨d0,rfl,Nat.le_refl _⟩ ?_ ?_));rintro d ⟨e,rfl,he⟩;by_cases X:e=0;subst X;exact .inr ⟨0,rfl,0,rfl,ω,ψ⟩;obtain⟨H,K⟩:=s e ω;simp only[An (ω:(e:Int)>0),Ak,H,K,I e ω,Ac];by_cases C:f<n*e;refine .inl ⟨((e-1:Nat):Int),?_,⟨e-1,rfl,ω⟩,ζ⟩;rw[show Hc (n*e) f=1 by rw[Hc,As ω,Av C],show decide ((1:Int)>0)=true from rfl,Ak,show Bc ((e:Int)-1)=((e-1:Nat):Int)by rw[Bc,D7]<;>omega];refine .inr ⟨(e:Int),?_,e,rfl,he,ω⟩;rw[Au (show ¬Hc (n*e) f>0 by rw[Hc,As C];split<;>decide),Al];rintro d ⟨e,rfl,he,N⟩;obtain⟨H,K⟩:=s e ω;simp only[H,K,Ac,Aiz f (n*e) ω N];refine Ft (λ(r,d)=>∃(c b:Nat),r=Ai c/\d=b/\n*b+c=f) (λ(r,_)=>(Ar r).toNat) (λ(r,d)=>∃(c b:Nat),r=Ai c/\d=b/\n*b+c=f/\c<n) ⟨f-n*e,e,rfl,rfl,ω⟩ ?_ ?_;rintro⟨r,d⟩ ⟨c,b,rfl,rfl,M⟩;have aa:Bw c<=Bw f:=Kx ω;(have V:b<1000000000:=by rcases Cj b 1000000000 with h|h;exact h;exfalso;have:n*1000000000<=n*b:=Nat.mul_le_mul_left n h;omega);simp only[Aiy,Zt c n ω ω,Ac];by_cases C:c<n;refine .inr ⟨(Ai c,(b:Int)),?_,c,b,rfl,rfl,M,C⟩;rw[Au (show ¬Hc c n>=0 by rw[Hc,Av C];decide),Al];refine .inl ⟨(Ai (c-n),((b+1:Nat):Int)),?_,⟨c-n,b+1,rfl,rfl,?_⟩,?_⟩;rw[An (show Hc c n>=0 by rw[Hc,As C];split<;>decide),Ak,Aiz c n ω ω,Ac,show Bc ((b:Int)+1)=((b+1:Nat):Int)by rw[Bc,D7]<;>omega];rw[Nat.mul_add];omega;simp only[Gx];omega;rintro⟨r,d⟩ ⟨c,b,rfl,rfl,M,a1⟩;(have V:b<1000000000:=by rcases Cj b 1000000000 with h|h;exact h;exfalso;have:n*1000000000<=n*b:=Nat.mul_le_mul_left n h;omega);have w1:C9 (b:Int)=b:=Ht ω ω;have w8:Aa ((j:Int)-1)=(j:Int)-1:=ξ;refine⟨_,by simp only[E7 rfl E,Ac,w1,w8,Gw rfl],(Ai c,(j:Int)-1,q.set j (b:Int)),rfl,⟨j,c,rfl,rfl,ω,a1,by simpa using u,g.set _ ω ω,?_⟩,ψ⟩;have d1:(q.set j (b:Int)).drop j=(b:Int)::q.drop (j+1):=(by rw[drop_eq_getElem_cons (by simpa using E),drop_set_of_lt ω];simp);rw[d1,drop_eq_getElem_cons F,y];simp only[Ar];rw[<-A];have:((n*b+c:Nat):Int)=((x+1000000000*R:Nat):Int):=(by rw[M,a6]);simp only[Int.natCast_add,Int.natCast_mul]at this;grind);rintro⟨r,q⟩ ⟨R,rfl,J,u,g,A⟩;dsimp only;have ad:=Iz g.u32;obtain⟨Q,hQ⟩:∃Q:Nat,Ar q=Q:=⟨(Ar q).toNat,ω⟩;rw[hQ]at A;have z:Q*n+R=m:=(by have:((Q*n+R:Nat):Int)=(m:Int):=(by simp only[Int.natCast_add,Int.natCast_mul];exact A);omega);have o:m/n=Q:=(by rw[<-z,Nat.mul_comm,Nat.mul_add_div ω,Nat.div_eq_of_lt J];rfl);have S:m%n=R:=(by rw[<-z,Nat.mul_comm,Nat.mul_add_mod,Nat.mod_eq_of_lt J]);rw[W6 q ω,Ac,Ns g hQ,o,S]
theorem A8z(m n:Nat)(f:Bw m<137438953472)(o:Bw n<137438953472):Ab6 (Ai m) (Ai n)=some (Ai (Nat.gcd m n)):=by unfold Ab6;refine Ka (λ(a,b)=>∃x y:Nat,a=Ai x/\b=Ai y/\Bw x<137438953472/\Bw y<137438953472/\Nat.gcd x y=Nat.gcd m n) (λ(_,b)=>(Ar b).toNat) (λr=>r=Ai (Nat.gcd m n)) ⟨m,n,rfl,rfl,f,o,rfl⟩ ?_ (by rintro e rfl;rfl);rintro⟨a,b⟩ ⟨x,y,rfl,rfl,q,d,i⟩;by_cases c:y=0;subst c;refine .inr ⟨Ai x,by rw[Hz];rfl,?_⟩;rw[<-i,Nat.gcd_zero_right];have g:(Ai y).length≠0:=λe=>Kw c (F5.1 e);have h:decide (((Ai y).length:Int)>0)=true:=An ω;refine .inl ⟨(Ai y,Ai (x%y)),?_,⟨y,x%y,rfl,rfl,d,by have:=Kx (Nat.mod_le x y);omega,?_⟩,?_⟩;simp only[h,Ak,An7 x y q d c,Ac];rw[<-i,Nat.gcd_comm y,<-Nat.gcd_rec,Nat.gcd_comm];simp only[Gx];have:=Nat.mod_lt x (ω:y>0);omega
def Uo(b:Bool)(n d:Nat):Ay:=if d=0 then⟨false,[],[1]⟩else Cd b n d
theorem An8(h:n≠0):(Ai n).length≠0:=λe=>Kw h (F5.1 e)
theorem Awg(c:Bool)(a b:Ae)(B:Od a)(hb:Od b)(k:a.length<137438953400)(j:b.length<137438953400):Lv c a b=some (Uo c (Ar a).toNat (Ar b).toNat):=by unfold Lv;have D:=Ais B;have F:=Ais hb;rw[Awf a B ω,Ac,Awf b hb ω,Ac];generalize(Ar a).toNat=n at *;generalize(Ar b).toNat=d at *;by_cases o:n=0;subst o;have:Uo c 0 d=⟨false,[],[1]⟩:=(by unfold Uo;split<;>simp[Cd]);rw[this,Hz];rfl;have h:=An8 o;by_cases r:d=0;subst r;simp only[Cx (ω:((Ai n).length:Int)≠0),Al,Hz,Ac];rfl;have i:=An8 r;have f:Nat.gcd n d≠0:=(by have:=Nat.gcd_pos_of_pos_left d (ω:0<n);omega);have q:Bw (Nat.gcd n d)<=Bw n:=Kx (Nat.gcd_le_left d (ω:0<n));simp only[Cx (ω:((Ai n).length:Int)≠0),Al,Cx (ω:((Ai d).length:Int)≠0),Ac,A8z n d ω ω];rw[Uo,As r,Cd,As o];(have s:(bif(((Ai (Nat.gcd n d)).length:Int) != (1:Int))then some true else((Ag (Ai (Nat.gcd n d)) 0).bind λg=>some (g != (1:Int))))=some (decide (Nat.gcd n d≠1)):=by have e:=An2 (Nat.gcd n d);unfold V6 at e;by_cases l:(Ai (Nat.gcd n d)).length=1;rw[Ew (ω:((Ai (Nat.gcd n d)).length:Int)=1),Ak]at e;rw[Et (ω:((Ai (Nat.gcd n d)).length:Int)=1),Al];(cases C:Ag (Ai (Nat.gcd n d)) 0 with|none=>rw[C]at e;cases e|some v=>rw[C]at e;simp only[Ac]at e⊢;have e:=E6 e;congr 1;rw[bne,e];simp);rw[Cx (ω:((Ai (Nat.gcd n d)).length:Int)≠1),Al]at e;rw[Ep (ω:((Ai (Nat.gcd n d)).length:Int)≠1),Ak];have e:=E6 e;have:Nat.gcd n d≠1:=(by simpa using e.symm);rw[An this]);rw[s,Ac];by_cases A:Nat.gcd n d=1;rw[Au (by simpa using A),Al,A];simp;rw[An A,Ak,An7 n _ ω ω f,Ac,An7 d _ ω ω f,Ac]
theorem A80(a:Ay):Uo a.N (Ar a.U).toNat (Ar a.B).toNat=Cd (sv a) (nv a) (dv a):=by unfold Uo sv nv dv;by_cases d:(Ar a.U).toNat=0;simp[d,Cd];by_cases e:(Ar a.B).toNat=0;simp[e,Cd];simp[d,e]
theorem W7(a:Ay)(k:Nat)(h:RB k a)(d:k<137438953400):Lu a=some (Cd (sv a) (nv a) (dv a)):=by unfold Lu;have:=h.nl;have:=h.dl;rw[Awg _ _ _ h.num h.den ω ω,Ac,A80]
theorem Adw(s:Bool)(n d:Nat)(h:d≠0):(Cd s n d).U=Ai (nv (Cd s n d))/\(Cd s n d).B=Ai (dv (Cd s n d))/\(Cd s n d).N=sv (Cd s n d):=by obtain⟨i,o,q,c⟩:=Aiw s n d h;rw[i,o];by_cases e:n=0;subst e;rw[c rfl,Adu];have b:d/Nat.gcd 0 d=1:=(by rw[Nat.gcd_zero_left];exact Nat.div_self ω);rw[b,Nat.zero_div,Hz,Zu];exact⟨rfl,rfl,rfl⟩;rw[q e];simp[Cd,e]
theorem Zz(a:Ay):∃g:Nat,g≠0/\nv a=g*nv (Cd (sv a) (nv a) (dv a))/\dv a=g*dv (Cd (sv a) (nv a) (dv a))/\sv (Cd (sv a) (nv a) (dv a))=sv a:=by obtain⟨e,h,i,b⟩:=Aiw (sv a) (nv a) (dv a) (G1 a);have q:=G1 a;have r:0<Nat.gcd (nv a) (dv a):=Nat.gcd_pos_of_pos_right _ ω;refine⟨Nat.gcd (nv a) (dv a),ω,?_,?_,?_⟩;rw[e];exact(Nat.mul_div_cancel' (Nat.gcd_dvd_left _ _)).symm;rw[h];exact(Nat.mul_div_cancel' (Nat.gcd_dvd_right _ _)).symm;by_cases d:nv a=0;rw[b d];unfold nv at d;unfold sv;split at d;rename_i o;rw[Av o];omega;exact i d
theorem A81(s:Bool)(n d:Nat)(h:d≠0):Uo s n d=Cd s n d:=by rw[Uo,As h]
theorem Z0(b:Bool)(n d:Nat)(e:Bw n<137438953400)(h:Bw d<137438953400)(c:d≠0):Lv b (Ai n) (Ai d)=some (Cd b n d):=by unfold Bw at e h;rw[Awg b _ _ (Gj n).u32 (Gj d).u32 e h,Gx,Gx,Int.toNat_natCast,Int.toNat_natCast,A81 _ _ _ c]
theorem Awh(h:RB k a):RB (k+1) (Cd (sv a) (nv a) (dv a)):=Sf _ _ _ _ h.nv h.dv ω
theorem Ai1(h:RB k a):Bw (nv (Cd (sv a) (nv a) (dv a)))<=k+1/\Bw (dv (Cd (sv a) (nv a) (dv a)))<=k+1:=by obtain⟨g,q,d,e,_⟩:=Zz a;have i:=h.nv;have o:=h.dv;refine⟨Nat.le_trans (Kx ?_) i,Nat.le_trans (Kx ?_) o⟩;exact Nat.le_trans (Nat.le_mul_of_pos_left _ ω) (Nat.le_of_eq d.symm);exact Nat.le_trans (Nat.le_mul_of_pos_left _ ω) (Nat.le_of_eq e.symm)
theorem A82(a b:Ay)(j k:Nat)(e:RB j a)(hb:RB k b)(G:j<34359738368)(H:k<34359738368):Ik a b=some (Cd (sv a != sv b) (nv a*nv b) (dv a*dv b)):=by unfold Ik;rw[W7 a j e ω,Ac,W7 b k hb ω,Ac];obtain⟨g,o,r,B,C⟩:=Zz a;obtain⟨h,f,D,F,s⟩:=Zz b;obtain⟨f1,f2,f3⟩:=Adw (sv a) (nv a) (dv a) (G1 a);obtain⟨q,l,i⟩:=Adw (sv b) (nv b) (dv b) (G1 b);obtain⟨A,y⟩:=Ai1 e;obtain⟨x,u⟩:=Ai1 hb;rw[f1,f2,f3,q,l,i,C,s];generalize I:Cd (sv a) (nv a) (dv a)=c at *;generalize J:Cd (sv b) (nv b) (dv b)=d at *;have K:=Jr (nv c) (nv d);have L:=Jr (dv c) (dv d);have z:dv c*dv d≠0:=Nat.mul_ne_zero (G1 c) (G1 d);rw[Zx _ _ ω ω,Ac,Zx _ _ ω ω,Ac,Z0 _ _ _ ω ω z,Ac];rw[r,B,D,F,show g*nv c*(h*nv d)=g*h*(nv c*nv d)by grind,show g*dv c*(h*dv d)=g*h*(dv c*dv d)by grind,Un _ _ _ _ (Nat.mul_ne_zero o f)]
theorem A83(l:Bool)(c j:Nat)(k:Bool)(b i g h:Nat)(hg:g≠0)(x:h≠0):Na l (g*c) (g*j) k (h*b) (h*i)=g*h*Na l c j k b i/\Ol l (g*c) (g*j) k (h*b) (h*i)=Ol l c j k b i:=by(have u:g*c*(h*i)=g*h*(c*i):=by grind);(have s:h*b*(g*j)=g*h*(b*j):=by grind);have d:(g*h*(b*j)<=g*h*(c*i))↔(b*j<=c*i):=Nat.mul_le_mul_left_iff (Nat.mul_pos ω ω);unfold Na Ol;rw[u,s];by_cases q:l=k;simp only[Av q];exact⟨by rw[Nat.mul_add],trivial⟩;simp only[As q];by_cases f:b*j<=c*i;simp only[Av f,Av (d.2 f)];exact⟨by rw[Nat.mul_sub],trivial⟩;simp only[As f,As λh=>f (d.1 h)];exact⟨by rw[Nat.mul_sub],trivial⟩
theorem A84(a b:Ay)(j k:Nat)(o:RB j a)(hb:RB k b)(K:j<34359738368)(L:k<34359738368):Pf a b=some (Cd (Ol (sv a) (nv a) (dv a) (sv b) (nv b) (dv b)) (Na (sv a) (nv a) (dv a) (sv b) (nv b) (dv b)) (dv a*dv b)):=by unfold Pf;rw[W7 a j o ω,Ac,W7 b k hb ω,Ac];obtain⟨g,r,C,F,H⟩:=Zz a;obtain⟨h,l,I,J,A⟩:=Zz b;obtain⟨f1,f2,f3⟩:=Adw (sv a) (nv a) (dv a) (G1 a);obtain⟨y,x,u⟩:=Adw (sv b) (nv b) (dv b) (G1 b);obtain⟨G,E⟩:=Ai1 o;obtain⟨D,B⟩:=Ai1 hb;rw[f1,f2,f3,y,x,u,H,A];generalize M:Cd (sv a) (nv a) (dv a)=c at *;generalize N:Cd (sv b) (nv b) (dv b)=d at *;have Q:=Jr (nv c) (dv d);have T:=Jr (nv d) (dv c);have U:=Jr (dv c) (dv d);have V:=Am6 (nv c*dv d) (nv d*dv c);have W:=Kx (Nat.sub_le (nv c*dv d) (nv d*dv c));have m6:=Kx (Nat.sub_le (nv d*dv c) (nv c*dv d));have z:dv c*dv d≠0:=Nat.mul_ne_zero (G1 c) (G1 d);obtain⟨s,q⟩:=A83 (sv a) (nv c) (dv c) (sv b) (nv d) (dv d) g h r l;rw[C,F,I,J,s,q,show g*dv c*(h*dv d)=g*h*(dv c*dv d)by grind,Un _ _ _ _ (Nat.mul_ne_zero r l)];rw[Zx _ _ ω ω,Ac,Zx _ _ ω ω,Ac,Zx _ _ ω ω,Ac];unfold Ol Na;by_cases i:sv a=sv b;have e:(sv a==sv b)=true:=(by rw[i];exact beq_self_eq_true _);rw[e,Ak,A8q _ _ ω ω,Ac,Z0 _ _ _ ω ω z,Ac,Av i,Av i];have e:(sv a==sv b)=false:=(by simpa using i);rw[e,Al,Aiy,Zt _ _ ω ω,Ac,As i,As i];by_cases f:nv d*dv c<=nv c*dv d;rw[An (show Hc (nv c*dv d) (nv d*dv c)>=0 by rw[Hc,As ω];split<;>decide),Ak,Aiz _ _ ω f,Ac,Z0 _ _ _ ω ω z,Ac,Av f,Av f];rw[Au (show ¬Hc (nv c*dv d) (nv d*dv c)>=0 by rw[Hc,Av ω];decide),Al,Aiz _ _ ω ω,Ac,Z0 _ _ _ ω ω z,Ac,As f,As f]
theorem Awi(a:Ay)(k:Nat)(h:RB k a)(o:k<137438953400):My a=some (Li (sv a) (nv a)):=by unfold My;rw[W7 a k h o,Ac];obtain⟨g,q,i,s,r⟩:=Zz a;obtain⟨f1,f2,f3⟩:=Adw (sv a) (nv a) (dv a) (G1 a);rw[f1,f3,r,Li];by_cases d:nv a=0;(have:nv (Cd (sv a) (nv a) (dv a))=0:=by rw[d]at i;rcases Nat.mul_eq_zero.1 i.symm with h|h;exact(q h).elim;rw[d];exact h);rw[this,Hz,Av d];rfl;have:nv (Cd (sv a) (nv a) (dv a))≠0:=(by intro e;rw[e,Nat.mul_zero]at i;exact d i);have:=An8 this;rw[Cx ω,Al,As d];cases sv a<;>rfl
theorem A85(z:Int)(d : -9223372036854775808<=z)(e:z<=9223372036854775807):La z=some (Cd (decide (z<0)) z.natAbs 1):=by unfold La;have j:=W4 (n:=z.natAbs) ω;have c:([1]:Ae)=Ai 1:=Zu.symm;by_cases h:z<0;have i:Aa (z+1)=z+1:=Bz ω ω;have g:Aa (0-(z+1))=0-(z+1):=Bz ω ω;have f:Bc (0-(z+1))=0-(z+1):=D7 ω ω;have b:Bc (0-(z+1)+1)=((z.natAbs:Nat):Int):=(by rw[Bc,D7 ω ω];omega);rw[An h,Ak,i,g,f,b,Aix,Uk _ ω,Ac,c,Z0 _ _ _ ω (by rw[Um];decide) δ,Ac];have b:Bc z=((z.natAbs:Nat):Int):=(by rw[Bc,D7 ω ω];omega);rw[Au h,Al,b,Aix,Uk _ ω,Ac,c,Z0 _ _ _ ω (by rw[Um];decide) δ,Ac]
theorem Ai2(s:Bool)(n d:Nat)(e:d≠0):∃g:Nat,g≠0/\n=g*nv (Cd s n d)/\d=g*dv (Cd s n d)/\(n≠0->sv (Cd s n d)=s)/\(n=0->sv (Cd s n d)=false):=by obtain⟨h,i,o,b⟩:=Aiw s n d e;have q:0<Nat.gcd n d:=Nat.gcd_pos_of_pos_right _ ω;exact⟨Nat.gcd n d,ω,by rw[h];exact(Nat.mul_div_cancel' (Nat.gcd_dvd_left _ _)).symm,by rw[i];exact(Nat.mul_div_cancel' (Nat.gcd_dvd_right _ _)).symm,o,b⟩
theorem A86(s t:Bool)(n d m e:Nat)(o:d≠0)(q:e≠0):Cd (sv (Cd s n d) != sv (Cd t m e)) (nv (Cd s n d)*nv (Cd t m e)) (dv (Cd s n d)*dv (Cd t m e))=Cd (s != t) (n*m) (d*e):=by obtain⟨g,r,A,B,C,_⟩:=Ai2 s n d o;obtain⟨h,j,D,F,l,_⟩:=Ai2 t m e q;(have k:Cd (s != t) (n*m) (d*e)=Cd (sv (Cd s n d) != sv (Cd t m e)) (n*m) (d*e):=by apply Awd;intro b;have G:n≠0:=λe=>b (by rw[e];simp);have i:m≠0:=λe=>b (by rw[e];simp);rw[C G,l i]);rw[k];generalize Cd s n d=c at *;generalize Cd t m e=f at *;rw[A,B,D,F,show g*nv c*(h*nv f)=g*h*(nv c*nv f)by grind,show g*dv c*(h*dv f)=g*h*(dv c*dv f)by grind,Un _ _ _ _ (Nat.mul_ne_zero r j)]
def Iq(n:Nat):Nat->Nat
 |0=>1
 |k+1=>Iq n k*(n-k)
def fct:Nat->Nat
 |0=>1
 |k+1=>fct k*(k+1)
theorem Ai3:∀k,fct k≠0
 |0=>δ
 |k+1=>Nat.mul_ne_zero (Ai3 k) ω
theorem A87(h:n<k):Iq n k=0:=by induction k with|zero=>omega|succ k ih=>simp only[Iq];rcases Cj n k with d|d;rw[ih d];simp;have:n-k=0:=ω;rw[this];simp
theorem A88(n k:Nat)(d:n<1000000000):Bw (Iq n k)<=k+1:=by induction k with|zero=>simp[Iq,Um]|succ k ih=>have e:=Jr (Iq n k) (n-k);have h:Bw (n-k)<=1:=Ip ζ;simp only[Iq];omega
theorem A89(k:Nat)(d:k<1000000000):Bw (fct k)<=k+1:=by induction k with|zero=>simp[fct,Um]|succ k ih=>have e:=Jr (fct k) (k+1);have h:Bw (k+1)<=1:=Ip ζ;simp only[fct];have:=ih ω;omega
theorem Awj(h:n<1000000000):Bw n<=1:=Ip (by simpa using h)
theorem A9a(n k:Nat)(d:n<1000000000)(e:k<=64):RB (k+1) (Cd false (Iq n k) (fct k)):=Sf _ _ _ _ (A88 n k d) (A89 k ω) ω
theorem Awk(a:Ay):Ay.mk a.N a.U a.B=a:=by cases a;rfl
theorem Awl(n k:Nat)(A:n<1000000000)(B:k<=64):Y2 (n:Int) (k:Int)=some (Cd false (Iq n k) (fct k)):=by unfold Y2;have z:Hy 1=some (Cd false (Iq n 0) (fct 0)):=Aiu 1 δ δ;rw[z,Ac];refine Ka (λ(i,s,b,c)=>∃q:Nat,i=q/\q<=k/\q<=n/\Ay.mk s b c=Cd false (Iq n q) (fct q)) (λ(i,_,_,_)=>k-i.toNat) (λe=>match e with|.inl r=>r=Cd false (Iq n k) (fct k)|.inr (s,b,c)=>Ay.mk s b c=Cd false (Iq n k) (fct k)) ⟨0,rfl,ω,ω,Awk _⟩ ?_ ?_;rintro⟨i,s,b,c⟩ ⟨q,rfl,C,y,o⟩;rcases Cj q k with h|h;simp only[An (ω:(q:Int)<(k:Int)),Ak];by_cases u:n=q;subst u;refine .inr ⟨.inl (Cd false 0 1),?_,?_⟩;rw[Ew rfl,Ak,Aiu 0 δ δ];rfl;show Cd false 0 1=_;rw[A87 h,Adu,Adu];have l:Aa ((n:Int)-(q:Int))=((n-q:Nat):Int):=ξ;have j:Aa ((q:Int)+1)=((q+1:Nat):Int):=Nw h ω;have x:Wg ((n-q:Nat):Int) ((q+1:Nat):Int)=some (Cd false (n-q) (q+1)):=(by rw[A8m _ _ ω ω ω ω ω,Au (ω:¬((n-q:Nat):Int)<0),Au (ω:¬((q+1:Nat):Int)<0)];rfl);have f:RB 1 (Cd false (n-q) (q+1)):=Sf _ _ _ _ (Awj ω) (Awj ω) ω;have g:=Zw _ _ _ _ (A9a n q A ω) f ω ω;rw[A86 false false (Iq n q) (fct q) (n-q) (q+1) (Ai3 q) ω]at g;refine .inl ⟨(((q+1:Nat):Int),(Cd false (Iq n (q+1)) (fct (q+1))).N,(Cd false (Iq n (q+1)) (fct (q+1))).U,(Cd false (Iq n (q+1)) (fct (q+1))).B),?_,⟨q+1,rfl,ω,ω,Awk _⟩,ζ⟩;rw[Cx ω,Al,l,j,x,Ac,o,g,Ac];rfl;have:q=k:=ω;subst this;refine .inr ⟨.inr (s,b,c),ψ,o⟩;rintro(e|⟨s,b,c⟩) d;simp only at d⊢;rw[d];simp only at d⊢;rw[d]
theorem A9b[DecidableEq α](l m:Λ α)(b:l.length=m.length):(decide (l=m))=l.zipIdx.all (λq=>decide (m[q.2]?=some q.1)):=by rw[Bool.eq_iff_iff,Es];constructor;rintro rfl;(exact Ahs λj x d=>by simpa using d);intro h;apply ext_getElem?;intro j;cases d:l[j]? with|none=>rw[List.getElem?_eq_none_iff]at d;rw[Wv ω]|some x=>have:=Kj h d;rw[Es]at this;rw[this]
theorem An9(l m:Ae)(b:l.length<1099511627776)(h:l.length=m.length){J:Bool⊕Unit->Ο R}{rt rf:R}(o:J (.inl false)=some rf)(r:J (.inr ())=some rt):(Am (S:=Int) (E:=(Bool⊕Unit)) (λd=>bif d<(l.length:Int)then((Ag l d).bind λs=>(Ag m d).bind λA=>bif(s != A)then some (.inr (.inl false))else some (.inl (Aa (d+1))))else some (.inr (.inr ()))) 0).bind J=some (bif decide (l=m)then rt else rf):=by rw[A9b l m h];refine Wx l (λq=>decide (m[q.2]?=some q.1)) (λj=>(j:Int)) rfl ω (rt:=rt) (rf:=rf) ?_ ?_;intro j x B _ C D F;have G:j<m.length:=(by have:=Dq B;omega);have i:m[j]?=some m[j]:=Bi G;generalize m[j]=y at i;simp only[C,D,F,Ak,Ac,Bq rfl i,i,Option.some.injEq];by_cases e:x=y;rw[Et e,An e.symm];exact⟨λ_=>rfl,λh=>by cases h⟩;rw[Ep e,Au λh=>e h.symm];exact⟨nofun,λ_=>⟨.inl false,rfl,o⟩⟩;intro h _;exact⟨.inr (),by simp only[h];rfl,r⟩
theorem Awm(l m:Ae)(b:l.length<1099511627776):Qh l m=some (decide (l=m)):=by unfold Qh;by_cases h:l.length=m.length;rw[Et ω];simp only[Al];refine(An9 l m b h (rt:=true) (rf:=false) ?_ ?_).trans (by rw[R5])<;>rfl;rw[Ep ω,Au λe=>h (by rw[e])];rfl
def Qy(a b:Ay):Bool:=a.N==b.N&&decide (a.U=b.U)&&decide (a.B=b.B)
theorem Ai4(a b:Ay):Qy a b=true↔a=b:=by unfold Qy;simp only[Ec,beq_iff_eq,Es];constructor;rintro⟨⟨d,e⟩,h⟩;cases a;cases b;simp_all;rintro rfl;simp
theorem A9c(a b:Ay)(h:a.U.length<1099511627776)(i:a.B.length<1099511627776):Ab4 a b=some (Qy a b):=by unfold Ab4 Qy;cases d:(a.N==b.N)with|false=>rw[show(a.N != b.N)=true by simp[bne,d]];rfl|true=>rw[show(a.N != b.N)=false by simp[bne,d]];simp only[Al];by_cases f:a.U.length=b.U.length;rw[Et ω];by_cases c:a.B.length=b.B.length;rw[Et ω];simp only[Al,Ac,Bool.true_and];refine(An9 a.U b.U h f (rt:=decide (a.B=b.B)) (rf:=false) rfl ?_).trans (by cases decide (a.U=b.U)<;>rfl);refine(An9 a.B b.B i c (rt:=true) (rf:=false) ?_ ?_).trans (by rw[R5])<;>rfl;rw[Ep ω,Au λe:a.B=b.B=>c (by rw[e])];simp;rw[Ep ω,Au λe:a.U=b.U=>f (by rw[e])];simp
def W8(c:Ay):Bool:=Qy (Cd (sv c) (nv c) (dv c)) c && !(nv c==0)
theorem A9d(c:Ay):W8 c=(Qy c (Cd (sv c) (nv c) (dv c)) && !(nv c==0)):=by unfold W8;congr 1;rw[Bool.eq_iff_iff,Ai4,Ai4];exact eq_comm
structure TSz(t:Aj):Prop where
 co:RB 1048576 t.C
 mo:MSz t.M
def Up(l:Ap)(x:Aj)(j:Nat):Bool:=j==0||(match l[j-1]? with|some y=>decide (D5 y.M x.M<0)|none=>false)
def Uq(Δ:Ad)(Ξ:A1)(Θ:Ah)(l:Ap)(t:Aj)(j:Nat):Bool:=W8 t.C&&Ji Δ Ξ Θ t.M&&Up l t j
def K1(Δ:Ad)(Ξ:A1)(Θ:Ah)(p:Ap):Bool:=decide (p.length<=1000)&&p.zipIdx.all (λq=>Uq Δ Ξ Θ p q.1 q.2)
theorem Awn{S:Type}(F:A4->A4->A9)(l:Ap)(g:∀y∈l,∀x,F y.M x=some (D5 y.M x)){x:Aj}(r:l[j]?=some x)(i:l.length<4611686018427387904)(c b:Ο (S⊕E)):(bif decide ((j:Int)>0)then((Ag l (Aa ((j:Int)-1))).bind λf=>(F f.M x.M).bind λd=>bif decide (d>=0)then c else b)else b)=bif Up l x j then b else c:=by have A:=Dq r;unfold Up;by_cases h:j=0;subst h;rfl;rw[An ω];have e:Aa ((j:Int)-1)=((j-1:Nat):Int):=ξ;have o:l[j-1]?=some l[j-1]:=Bi ω;rw[e,Bq rfl o,o];have s:(j==0)=false:=(by simpa using h);simp only[Ak,Ac,s,Bool.false_or,g _ (getElem_mem (ω:j-1<l.length))];by_cases q:D5 l[j-1].M x.M<0;rw[Au ω,An q];rfl;rw[An ω,Au q];rfl
theorem Awo(s:Bool)(n:Nat):(Li s n==0)=(n==0):=by unfold Li;by_cases h:n=0;rw[Av h];subst h;rfl;rw[As h];have:(n==0)=false:=(by simpa using h);rw[this];cases s<;>rfl
theorem A9e(hc:Kz Δ Ξ Θ){b1:At}(b2:Aw)(V:Ed Δ Ξ Θ b1)(p:Ap)(U:∀t∈p,TSz t) :
  ∃B,Abj p b1 b2 Δ Ξ Θ.G Θ.U Θ.R=some (K1 Δ Ξ Θ p,B)/\Ed Δ Ξ Θ B:=by
 unfold Abj K1
 by_cases A:p.length<=1000
 .rw[Au ω,An A,Bool.true_and]
  simp only[Al]
  obtain⟨r,X,S⟩:=Add (M:=List (Β×Int)) (R:=Bool×List (Β×Int)) p (λq=>Uq Δ Ξ Θ p q.1 q.2) (λj o=>((j:Int),o)) (Ed Δ Ξ Θ)
   (λr=>Ed Δ Ξ Θ r.2/\r.1=true) (λr=>Ed Δ Ξ Θ r.2/\r.1=false) b1
   (s0:=((0:Int),b1))
   (step:=(λ(b,g)=>
    bif b<(p.length:Int)then(
    (Ag p b).bind λd=>
    (Kt d.C).bind λf=>
    (show OB from
    bif(f.N==d.C.N)then(
    (Qh f.U d.C.U).bind λi=>
    bif i then(
    (Qh f.B d.C.B).bind λH=>
    some H)
    else some false)
    else some false).bind λE=>
    bif(!E)then some (.inr (.inl (false,g)))
    else(
    (Kh f).bind λD=>
    bif(D==(0:Int))then some (.inr (.inl (false,g)))
    else(
    (Yr d.M g b2 Δ Ξ Θ.G Θ.U Θ.R).bind λC=>
    bif(!C.1)then some (.inr (.inl (false,C.2)))
    else(
    bif b>(0:Int)then(
    (Ag p (Aa (b-1))).bind λT=>
    (Td T.M d.M).bind λW=>
    bif W>=(0:Int)then some (.inr (.inl (false,C.2)))
    else some (.inl (Aa (b+1),C.2)))
    else some (.inl (Aa (b+1),C.2))))))
    else some (.inr (.inr g)):Int×List (Β×Int)->B1))
   (J:=(λz=>match z with
    |.inl (I,G)=>some (I,G)
    |.inr L=>some (true,L)))
   rfl V ω (by
    intro j t o u hx _ F Q K
    have c:=U t (Bm hx)
    obtain⟨B,d1,d2⟩:=A78 b2 hc u t.M c.mo
    have s:∀l:Ae,l=(Cd (sv t.C) (nv t.C) (dv t.C)).U\/l=(Cd (sv t.C) (nv t.C) (dv t.C)).B->l.length<1099511627776:=by
     intro l A
     have q:=Sf (sv t.C) (nv t.C) (dv t.C) 1048577 c.co.nv c.co.dv ω
     have:=q.nl
     have:=q.dl
     rcases A with rfl|rfl<;>omega
    have k:(bif((Cd (sv t.C) (nv t.C) (dv t.C)).N==t.C.N)then((Qh (Cd (sv t.C) (nv t.C) (dv t.C)).U t.C.U).bind λi=>bif i then((Qh (Cd (sv t.C) (nv t.C) (dv t.C)).B t.C.B).bind λH=>some H)else some false)else some false)=some (Qy (Cd (sv t.C) (nv t.C) (dv t.C)) t.C):=by
     unfold Qy
     rw[Awm _ _ (s _ (.inl rfl)),Awm _ _ (s _ (.inr rfl))]
     cases((Cd (sv t.C) (nv t.C) (dv t.C)).N==t.C.N)<;>cases decide ((Cd (sv t.C) (nv t.C) (dv t.C)).U=t.C.U)<;>rfl
    simp only[F,Q,K,Ak,Ac,Ait t.C 1048576 c.co ω,k,Awn Td p (λy hy x=>Avu y.M x (U y hy).mo) hx ω,Uq,W8]
    cases N:Qy (Cd (sv t.C) (nv t.C) (dv t.C)) t.C with
    |false=>exact⟨nofun,λ_=>⟨_,rfl,_,rfl,u,rfl⟩⟩
    |true=>
     have e:=(Ai4 _ _).1 N
     simp only[Fc,Al,Bool.true_and]
     rw[e,An3 t.C 1048576 c.co ω,Ac,Awo]
     cases(nv t.C==0)with
     |true=>exact⟨nofun,λ_=>⟨_,rfl,_,rfl,u,rfl⟩⟩
     |false=>
      simp only[Al,d1,Ac,Bool.not_false,Bool.true_and]
      cases Ji Δ Ξ Θ t.M with
      |false=>exact⟨nofun,λ_=>⟨_,rfl,_,rfl,d2,rfl⟩⟩
      |true=>
       cases Up p t j with
       |true=>exact⟨λ_=>⟨B,rfl,d2⟩,λh=>by cases h⟩
       |false=>exact⟨nofun,λ_=>⟨_,rfl,_,rfl,d2,rfl⟩⟩) (by
    intro o u F _
    exact⟨.inr o,by simp only[F];rfl,_,rfl,u,rfl⟩)
  refine⟨r.2,?_,?_⟩
  .have e:some r=some (p.zipIdx.all λq=>Uq Δ Ξ Θ p q.1 q.2,r.2):=by
    rcases S with⟨F,Q,K⟩|⟨F,Q,K⟩
    .rw[F,<-K]
    .rw[F,<-K]
   rw[<-e]
   exact X
  .rcases S with⟨F,Q,K⟩|⟨F,Q,K⟩<;>exact Q
 .rw[An ω,Au A]
  exact⟨b1,rfl,V⟩
theorem A9f{x:Bh}(e:Kz x.D x.V x.E)(p:Ap)(c:∀t∈p,TSz t):Abq x p=some (K1 x.D x.V x.E p):=by
 unfold Abq K1;by_cases f:p.length<=1000
 .rw[Au ω,An f,Bool.true_and];simp only[Al];refine(Wx p (λq=>Uq x.D x.V x.E p q.1 q.2) (λj=>(j:Int)) rfl ω (rt:=true) (rf:=false) ?_ ?_).trans (by rw[R5])
  .intro j t d _ i o r;have b:=c t (Bm d);obtain⟨v,g,s⟩:=A79 e t.M b.mo;simp only[i,o,r,Ak,Ac,g,s,Awi t.C 1048576 b.co ω,Awo,W7 t.C 1048576 b.co ω,A9c t.C _ (by have:=b.co.nl;omega) (by have:=b.co.dl;omega),
    Awn Pe p (λy A x=>Aim y.M x (c y A).mo) d ω,Uq,A9d];cases Ji x.D x.V x.E t.M with
   |false=>exact⟨(λh=>by simp at h),λ_=>⟨.inl false,rfl,rfl⟩⟩
   |true=>
    cases(nv t.C==0)with
    |true=>exact⟨(λh=>by simp at h),λ_=>⟨.inl false,rfl,rfl⟩⟩
    |false=>
     cases Qy t.C (Cd (sv t.C) (nv t.C) (dv t.C))with
     |false=>exact⟨(λh=>by simp at h),λ_=>⟨.inl false,rfl,rfl⟩⟩
     |true=>cases Up p t j with|true=>exact⟨λ_=>rfl,λh=>by cases h⟩|false=>exact⟨nofun,λ_=>⟨.inl false,rfl,rfl⟩⟩
  intro h _;exact⟨.inr (),by simp only[h];rfl,rfl⟩
 rw[An ω,Au f];rfl
structure CSz(x:Bh):Prop where
 ds:DSz x.D
 nv:x.V.length<=1048576
 vs:∀t∈x.V,Bu t<=1048576
 rs:Bu x.E<=1048576
def Hm(Δ:Ad)(t:Ah):Bool:=H3 Δ 0 t&&decide (Bu t<=200)
def I1(x:Bh):Prop:=x.V.length<=3000/\Ih x.D/\Hm x.D x.E=true/\x.V.all (Hm x.D)=true
theorem I1.ctx{x:Bh}(h:I1 x)(c:CSz x):Kz x.D x.V x.E:=by refine⟨h.2.1,c.ds.sz.short,λv t d=>?_,h.1⟩;(have good:∀t,Hm x.D t=true->Bu t<=200:=λt h=>by simp only[Hm,Ec,Es]at h;exact h.2);unfold E5 at d;by_cases b:v = -1;rw[Av b]at d;cases d;exact good _ h.2.2.1;rw[As b]at d;exact good t (Jq.1 h.2.2.2 t (Hb d).2.2.2)
theorem A9g(x:Bh)(c:CSz x):∃b,Abp x=some b/\(b=true↔I1 x):=by obtain⟨b,o,d⟩:=A7g c.ds;have k:=c.nv;have i:=c.rs;unfold Abp I1;rw[o,Am8 x.D x.E 0 ω];simp only[Ac];cases b with|false=>exact⟨false,rfl,by simp;intro _ h;have:=d.2 h;cases this⟩|true=>have g:=d.1 rfl;simp only[Fc,Al];by_cases f:x.V.length<=3000;rw[Au ω];simp only[Al,Ac];(cases e:(H3 x.D 0 x.E&&decide (Bu x.E<=200))with|false=>exact⟨false,rfl,by simp[Hm,e]⟩|true=>refine⟨x.V.all (Hm x.D),?_,by rw[show Hm x.D x.E=true from e];simp[f,g]⟩;simp only[Fc,Al];refine(Uc x.V (Hm x.D) (λj=>(j:Int)) rfl ω (rt:=true) (rf:=false) ?_ ?_).trans (by rw[R5]);intro j t q r s A;have:=c.vs t (Bm q);simp only[r,s,A,Ak,Ac,Am8 x.D t 0 ω];rw[show(H3 x.D 0 t&&decide (Bu t<=200))=Hm x.D t from rfl];(cases Hm x.D t with|true=>exact⟨λ_=>rfl,λh=>by cases h⟩|false=>exact⟨nofun,λ_=>⟨.inl false,rfl,rfl⟩⟩);intro h;exact⟨.inr (),by simp only[h];rfl,rfl⟩);rw[An ω];exact⟨false,rfl,by simp[f]⟩
theorem Awp(x:Bh)(c:CSz x)(p:Ap)(hp:∀t∈p,TSz t):∃b,Ta x p=some b/\(b=true↔I1 x/\K1 x.D x.V x.E p=true):=by obtain⟨b,i,d⟩:=A9g x c;unfold Ta;rw[i,Ac];cases b with|false=>exact⟨false,rfl,by simp;intro h;have:=d.2 h;cases this⟩|true=>have e:=d.1 rfl;rw[A9f (e.ctx c) p hp];exact⟨_,rfl,by simp[e]⟩
theorem A9h:∀(k:Nat)(t:Ah),Bu t<=k->k<1099511627776->∃i,Wk k t=some i/\True:=by intro k;induction k with|zero=>intro t h;have:=Pq t;omega|succ k ih=>intro t h r;have g:=I0 t;have c:=Kb t.R;rw[Wk];refine Qv ?_ ⟨_,rfl,trivial⟩;refine Ft (λ(i,o)=>∃j:Nat,i=j/\j<=t.R.length/\o.length=j) (λ(i,_)=>t.R.length-i.toNat) (λ_=>True) ⟨0,rfl,ω,rfl⟩ ?_ λe _=>⟨_,rfl,trivial⟩;rintro⟨i,o⟩ ⟨j,rfl,s,b⟩;rcases Cj j t.R.length with d|d;have q:t.R[j]?=some t.R[j]:=Bi d;generalize t.R[j]=x at q;have l:=I9 (Bm q);obtain⟨y,f,_⟩:=ih x ω ω;simp only[An (ω:(j:Int)<(t.R.length:Int)),Ak,Bq rfl q,Ac,f,Dl d ω];have b:o.length=j:=b;rw[Dj ζ,Ac];exact .inl ⟨_,rfl,⟨j+1,rfl,ω,by simp[b]⟩,ζ⟩;have:j=t.R.length:=ω;subst this;exact .inr ⟨o,ψ,trivial⟩
theorem Aoa(c:DSz Δ)(f:Ih Δ)(t:Ah)(hg:Hm Δ t=true)(i:Af)(hi:Br i<=1048576):Nq Δ t i=some (G0 (C7 Δ i t)):=by have b:=hg;simp only[Hm,Ec,Es]at b;obtain⟨q,h,g⟩:=Anf c;have r:q=true:=g.2 f;subst r;unfold Nq Wf;rw[h,Adg Δ t 0 ω];simp only[Ac,Ak];rw[show(H3 Δ 0 t&&decide (Bu t<=200))=Hm Δ t from rfl,hg];obtain⟨p,k,j⟩:=(A7s f.szv c.sz.short 4000000).1 i t ω hi b.2;simp only[Fc,Al,k,Ac];(rcases j with⟨e,d,o,s,A⟩|⟨e,o⟩);rw[e,o,Sb s,A];rfl;rw[e,W1 o];rfl
theorem A9i(h:Ji Δ Ξ Θ m=true):(∀f∈m.F,∃t,E5 Ξ Θ f.v=some t)/\m.F.length<=6:=by unfold Ji at h;simp only[Ec,Es]at h;obtain⟨⟨o,q⟩,B⟩:=h;(have d:∀f∈m.F,1<=Dt Δ Ξ Θ f:=by intro f d;obtain⟨j,e⟩:=Gl d;have:=Kj o e;simp only[M9,Ec,Es]at this;exact this.1);have r:0<=Co m.A:=(Ads m.A (λa r=>by obtain⟨j,e⟩:=Gl r;have:=Kj q e;simp only[Lh,Ec,Es]at this;omega)).1;refine⟨λf b=>?_,?_⟩;have:=d f b;unfold Dt at this;(cases s:E5 Ξ Θ f.v with|none=>rw[s]at this;have:(1:Int)<=-1:=this;omega|some t=>exact⟨t,rfl⟩);have i:∀l:Ba,(∀f∈l,1<=Dt Δ Ξ Θ f)->(l.length:Int)<=Bo Δ Ξ Θ l:=(by intro l;induction l with|nil=>intro _;simp[Bo]|cons f C ih=>intro c;have o:=c f ψ;have q:=ih λg A=>c g (by simp[A]);unfold Bo at *;simp only[map_cons,sum_cons,Eo];omega);have:=i m.F d;omega
theorem A9j(a b:Ay)(j k:Nat)(d:RB j a)(hb:RB k b)(e:j<34359738000)(i:k<34359738000):∃c,H5 a b=some c/\Ik a b=some c/\RB (j+k+2) c:=by refine⟨_,Zw a b j k d hb ω ω,A82 a b j k d hb ω ω,?_⟩;have o:=d.nv;have q:=d.dv;have r:=hb.nv;have h:=hb.dv;have g:=Jr (nv a) (nv b);have f:=Jr (dv a) (dv b);exact Sf _ _ _ _ ω ω ω
theorem A9k(a b:Ay)(j k:Nat)(d:RB j a)(hb:RB k b)(e:j<34359738000)(o:k<34359738000):∃c,N7 a b=some c/\Pf a b=some c/\RB (j+k+3) c:=by refine⟨_,Aiv a b j k d hb ω ω,A84 a b j k d hb ω ω,?_⟩;have r:=d.nv;have A:=d.dv;have B:=hb.nv;have s:=hb.dv;have q:=Jr (nv a) (dv b);have l:=Jr (nv b) (dv a);have i:=Jr (dv a) (dv b);(have f:Na (sv a) (nv a) (dv a) (sv b) (nv b) (dv b)<=nv a*dv b+nv b*dv a:=by unfold Na;split;omega;split<;>omega);have h:=Kx f;have g:=Am6 (nv a*dv b) (nv b*dv a);exact Sf _ _ _ _ ω ω ω
theorem A9l(k:Nat):RB k ⟨false,[],[]⟩:=⟨nofun,nofun,ψ,ψ⟩
def sg(s:Bool)(n:Nat):Int:=if s then -(n:Int)else n
def rq(a:Ay):Rat:=mkRat (sg (sv a) (nv a)) (dv a)
def J3(a:Ay):Prop:=a=Cd (sv a) (nv a) (dv a)
theorem Ur(s:Bool)(n d:Nat)(e:d≠0):rq (Cd s n d)=mkRat (sg s n) d:=by obtain⟨g,o,q,r,A,c⟩:=Ai2 s n d e;unfold rq;rw[Rat.mkRat_eq_iff (G1 _) e];generalize nv (Cd s n d)=b at *;generalize dv (Cd s n d)=f at *;generalize sv (Cd s n d)=B at *;by_cases i:n=0;(have:b=0:=by rcases Nat.eq_zero_or_pos b with h|h;exact h;have:=Nat.mul_pos (Nat.pos_of_ne_zero o) h;omega);subst this;subst i;cases s<;>cases B<;>simp[sg];rw[A i,q,r];cases s<;>simp only[sg,if_true,if_false,Bool.false_eq_true,Int.natCast_mul]<;>grind
theorem Us(s:Bool)(n d:Nat)(A:d≠0):J3 (Cd s n d):=by obtain⟨g,i,o,q,r,b⟩:=Ai2 s n d A;unfold J3;generalize B:Cd s n d=c at o q r b;have e:=Un s (nv c) (dv c) g i;rw[<-o,<-q,B]at e;by_cases C:n=0;(have D:nv c=0:=by rcases Nat.eq_zero_or_pos (nv c)with h|h;exact h;have:=Nat.mul_pos (Nat.pos_of_ne_zero i) h;omega);rw[D,Adu]at e⊢;exact e;rw[r C];exact e
theorem Awq(n m:Int){d e:Nat}(o:d≠0)(q:e≠0):mkRat n d<mkRat m e↔n*e<m*d:=by have c:(0:Rat)<(d:Rat):=Rat.natCast_pos.2 ω;have b:(0:Rat)<(e:Rat):=Rat.natCast_pos.2 ω;rw[Rat.mkRat_eq_div,Rat.mkRat_eq_div,Rat.div_lt_iff c];rw[<-Rat.mul_lt_mul_right b];(have f:(m:Rat)/(e:Rat)*(d:Rat)*(e:Rat)=(m:Rat)*(d:Rat):=by grind);rw[f];(have h:(n:Rat)*(e:Rat)=((n*(e:Int):Int):Rat):=by rw[Rat.intCast_mul];rfl);(have i:(m:Rat)*(d:Rat)=((m*(d:Int):Int):Rat):=by rw[Rat.intCast_mul];rfl);rw[h,i,Rat.intCast_lt_intCast]
theorem Adx{b:Ay}(q:J3 a)(hb:J3 b)(h:rq a=rq b):a=b:=by unfold rq at h;rw[Rat.mkRat_eq_iff (G1 _) (G1 _)]at h;rw[q,hb];have l:=G1 a;have k:=G1 b;generalize nv a=n at *;generalize dv a=d at *;generalize sv a=s at *;generalize nv b=m at *;generalize dv b=e at *;generalize sv b=t at *;(have f:n*e=m*d/\(n≠0->s=t):=by have c:n≠0->0<n*e:=λh=>Nat.mul_pos ω ω;have g:m≠0->0<m*d:=λh=>Nat.mul_pos ω ω;have A:((n*e:Nat):Int)=(n:Int)*e:=ψ;have B:((m*d:Nat):Int)=(m:Int)*d:=ψ;cases s<;>cases t<;>simp only[sg,if_true,if_false,Bool.false_eq_true,Int.neg_mul]at h;exact⟨ω,λ_=>rfl⟩;have:n*e=0/\m*d=0:=ω;refine⟨ω,λo=>?_⟩;have:=c o;omega;have:n*e=0/\m*d=0:=ω;refine⟨ω,λo=>?_⟩;have:=c o;omega;exact⟨ω,λ_=>rfl⟩);have j:=Un s n d e k;have i:=Un t m e d l;rw[<-j,<-i,Nat.mul_comm e n,f.1,Nat.mul_comm e d,Nat.mul_comm m d];refine Awd λr=>f.2 ?_;rintro rfl;rw[Nat.zero_mul]at f;have:=f.1;rw[Nat.mul_comm d m]at r;omega
theorem A9m(j:Bool)(c g:Nat)(i:Bool)(b f:Nat):sg (Ol j c g i b f) (Na j c g i b f)=sg j c*f+sg i b*g:=by unfold Ol Na sg;have d:((c*f:Nat):Int)=(c:Int)*f:=ψ;have e:((b*g:Nat):Int)=(b:Int)*g:=ψ;cases j<;>cases i<;>simp only[if_true,if_false,Bool.false_eq_true,Bool.true_eq_false,Int.neg_mul];omega;by_cases h:b*g<=c*f;simp only[Av h];simp only[if_false,Bool.false_eq_true];omega;simp only[As h];simp only[if_true];omega;by_cases h:b*g<=c*f;simp only[Av h];simp only[if_true];omega;simp only[As h];simp only[if_false,Bool.false_eq_true];omega;omega
theorem Ady{b:Ay}(d:RB j a)(hb:RB k b)(o:j<34359738000)(q:k<34359738000):∃c,N7 a b=some c/\Pf a b=some c/\RB (j+k+3) c/\J3 c/\rq c=rq a+rq b:=by obtain⟨c,h,r,s⟩:=A9k a b j k d hb o q;have e:=Aiv a b j k d hb ω ω;rw[h]at e;have e:=E6 e;have i:dv a*dv b≠0:=Nat.mul_ne_zero (G1 a) (G1 b);refine⟨c,h,r,s,?_,?_⟩;rw[e];exact Us _ _ _ i;rw[e,Ur _ _ _ i,A9m,rq,rq,Rat.mkRat_add_mkRat _ _ (G1 a) (G1 b)]
theorem Awr(s t:Bool)(n m:Nat):sg (s != t) (n*m)=sg s n*sg t m:=by unfold sg;cases s<;>cases t<;>simp[Int.neg_mul,Int.mul_neg]
theorem Ai5{b:Ay}(d:RB j a)(hb:RB k b)(i:j<34359738000)(o:k<34359738000):∃c,H5 a b=some c/\RB (j+k+2) c/\J3 c/\rq c=rq a*rq b:=by have e:dv a*dv b≠0:=Nat.mul_ne_zero (G1 a) (G1 b);have q:=d.nv;have r:=d.dv;have s:=hb.nv;have h:=hb.dv;have g:=Jr (nv a) (nv b);have f:=Jr (dv a) (dv b);refine⟨_,Zw a b j k d hb ω ω,Sf _ _ _ _ ω ω ω,Us _ _ _ e,?_⟩;rw[Ur _ _ _ e,Awr,rq,rq,Rat.mkRat_mul_mkRat]
theorem Adz{b:Ay}(d:RB j a)(hb:RB k b)(o:j<34359738000)(q:k<34359738000):∃c,H5 a b=some c/\Ik a b=some c/\RB (j+k+2) c/\J3 c/\rq c=rq a*rq b:=by obtain⟨c,h,r,s⟩:=A9j a b j k d hb o q;have e:=Zw a b j k d hb ω ω;rw[h]at e;have e:=E6 e;have i:dv a*dv b≠0:=Nat.mul_ne_zero (G1 a) (G1 b);refine⟨c,h,r,s,?_,?_⟩;rw[e];exact Us _ _ _ i;rw[e,Ur _ _ _ i,Awr,rq,rq,Rat.mkRat_mul_mkRat]
def Qz(x:Rat):Int:=if x<0 then -1 else if 0<x then 1 else 0
theorem A9n(a:Ay):rq a<0↔Li (sv a) (nv a) = -1:=by have e:(0:Rat)=mkRat 0 1:=ψ;rw[rq,e,Awq _ _ (G1 a) δ];unfold sg Li;split<;>split<;>simp<;>omega
theorem A9o(a:Ay):0<rq a↔Li (sv a) (nv a)=1:=by have e:(0:Rat)=mkRat 0 1:=ψ;rw[rq,e,Awq _ _ δ (G1 a)];unfold sg Li;split<;>split<;>simp<;>omega
theorem A9p(a:Ay):Li (sv a) (nv a)=Qz (rq a):=by have i:=A9n a;have o:=A9o a;(have d:Li (sv a) (nv a) = -1\/Li (sv a) (nv a)=0\/Li (sv a) (nv a)=1:=by unfold Li;split<;>(try split)<;>simp);unfold Qz;split;rename_i h;exact i.1 h;rename_i h;split;rename_i e;exact o.1 e;rename_i e;rcases d with d|d|d;exact(h (i.2 d)).elim;exact d;exact(e (o.2 d)).elim
theorem W9(h:RB k a)(d:k<34359738000):Kh a=some (Qz (rq a))/\My a=some (Qz (rq a)):=by rw[<-A9p];exact⟨An3 a k h ω,Awi a k h ω⟩
theorem Aws(h:RB k a)(d:k<34359738000):∃c,Kt a=some c/\Lu a=some c/\J3 c/\rq c=rq a/\RB (k+1) c:=⟨_,Ait a k h ω,W7 a k h ω,Us _ _ _ (G1 a),Ur _ _ _ (G1 a),Awh h⟩
structure Gq{α:Type}(S:α->Prop)(g:α->α->Int):Prop where
 zero:∀a b,S a->S b->(g a b=0↔a=b)
 anti:∀a b,S a->S b->g b a = - g a b
 trans:∀a b c,S a->S b->S c->g a b<0->g b c<0->g a c<0
theorem Gq.cmpI:Gq (λ_:Int=>True) F6:=by
 refine⟨λa b _ _=>H9,λa b _ _=>?_,λa b c _ _ _=>?_⟩
 .unfold Go.Ab.F6;split<;>split<;>(try split)<;>(try split)<;>omega
 .unfold Go.Ab.F6;intro h1 h2;split at h1<;>(try split at h1)<;>split at h2<;>(try split at h2)<;>first|omega|(rw[Av ω];decide)
theorem Awt:Fk x y<0↔x<0\/(x=0/\y<0):=by unfold Fk;split<;>omega
theorem Awu:Fk x y=0↔x=0/\y=0:=by unfold Fk;split<;>omega
theorem Gq.or{γ:Type}{S:α->Prop}{s:β->Prop}{l:γ->Prop}{j:β->β->Int}{i:γ->γ->Int}(p:α->β)(q:α->γ)(g:∀a b,p a=p b->q a=q b->a=b)(h1:Gq s j)(h2:Gq l i)(f:∀a,S a->s (p a)/\l (q a)):Gq S (λa b=>Fk (j (p a) (p b)) (i (q a) (q b))):=by refine⟨λa b ha hb=>?_,λa b ha hb=>?_,λa b c ha hb hc=>?_⟩;rw[Awu,h1.zero _ _ (f a ha).1 (f b hb).1,h2.zero _ _ (f a ha).2 (f b hb).2];exact⟨λh=>g a b h.1 h.2,λh=>by subst h;exact⟨rfl,rfl⟩⟩;show Fk (j (p b) (p a)) (i (q b) (q a)) = - Fk (j (p a) (p b)) (i (q a) (q b));have z:=h1.anti _ _ (f a ha).1 (f b hb).1;have y:=h2.anti _ _ (f a ha).2 (f b hb).2;rw[z,y];unfold Fk;split<;>split<;>omega;show Fk _ _<0->Fk _ _<0->Fk _ _<0;simp only[Awt];have u:=h1.zero _ _ (f a ha).1 (f b hb).1;have d:=h1.zero _ _ (f b hb).1 (f c hc).1;have t1:=h1.trans _ _ _ (f a ha).1 (f b hb).1 (f c hc).1;have t2:=h2.trans _ _ _ (f a ha).2 (f b hb).2 (f c hc).2;rintro(h|⟨h,h'⟩) (k|⟨k,x⟩);exact .inl (t1 h k);rw[<-d.1 k];exact .inl h;rw[u.1 h];exact .inl k;rw[<-d.1 k,h];exact .inr ⟨rfl,t2 h' x⟩
theorem Gq.mono{S S':α->Prop}{g:α->α->Int}(h:Gq S g)(f:∀a,S' a->S a):Gq S' g:=⟨λa b ha hb=>h.zero a b (f a ha) (f b hb),λa b ha hb=>h.anti a b (f a ha) (f b hb),λa b c ha hb hc=>h.trans a b c (f a ha) (f b hb) (f c hc)⟩
theorem Gq.congr{S:α->Prop}{g c:α->α->Int}(h:Gq S g)(e:∀a b,c a b=g a b):Gq S c:=by have:c=g:=funext λa=>funext λb=>e a b;rw[this];exact h
def LL(g:α->α->Int)(l m:Λ α):Int:=if l.length=m.length then Gn g l m else Go.Ab.F6 l.length m.length
theorem Awv{α:Type}{S:α->Prop}{g:α->α->Int}(h:Gq S g):∀l m:Λ α,l.length=m.length->(∀x∈l,S x)->(∀x∈m,S x)->(Gn g l m=0↔l=m)
 |[],[],_,_,_=>by simp[Gn]
 |x::xs,y::i,b,d,e=>by simp only[Gn,Awu,h.zero x y (d x ψ) (e y ψ),Awv h xs i (by simpa using b) (λz c=>d z (by simp[c])) λz c=>e z (by simp[c]),List.cons.injEq]
 |[],_::_,b,_,_=>by simp at b
 |_::_,[],b,_,_=>by simp at b
theorem Aww{α:Type}{S:α->Prop}{g:α->α->Int}(h:Gq S g):∀l m:Λ α,l.length=m.length->(∀x∈l,S x)->(∀x∈m,S x)->Gn g m l = - Gn g l m
 |[],[],_,_,_=>by simp[Gn]
 |x::xs,y::i,b,d,e=>by simp only[Gn,h.anti x y (d x ψ) (e y ψ),Aww h xs i (by simpa using b) (λz c=>d z (by simp[c])) λz c=>e z (by simp[c])];unfold Fk;split<;>split<;>omega
 |[],_::_,b,_,_=>by simp at b
 |_::_,[],b,_,_=>by simp at b
theorem Awx{α:Type}{S:α->Prop}{g:α->α->Int}(h:Gq S g):∀l m n:Λ α,l.length=m.length->m.length=n.length->(∀x∈l,S x)->(∀x∈m,S x)->(∀x∈n,S x)->Gn g l m<0->Gn g m n<0->Gn g l n<0
 |[],[],_,_,_,_,_,_=>by intro h;simp[Gn]at h
 |x::xs,y::A,z::j,f,i,e,d,o=>by simp only[Gn,Awt];have k:=h.zero x y (e x ψ) (d y ψ);have r:=h.zero y z (d y ψ) (o z ψ);have t1:=h.trans x y z (e x ψ) (d y ψ) (o z ψ);have t2:=Awx h xs A j (by simpa using f) (by simpa using i) (λz c=>e z (by simp[c])) (λz c=>d z (by simp[c])) λz c=>o z (by simp[c]);rintro(a|⟨a,s⟩) (b|⟨b,q⟩);exact .inl (t1 a b);rw[<-r.1 b];exact .inl a;rw[k.1 a];exact .inl b;rw[<-r.1 b,a];exact .inr ⟨rfl,t2 s q⟩
 |_::_,_::_,[],_,i,_,_,_=>by simp at i
 |[],_::_,_,f,_,_,_,_=>by simp at f
 |_::_,[],_,f,_,_,_,_=>by simp at f
theorem Gq.ll{S:α->Prop}{g:α->α->Int}(h:Gq S g):Gq (λl=>∀x∈l,S x) (LL g):=by
 have c:=Gq.cmpI;refine⟨λa b ha hb=>?_,λa b ha hb=>?_,λx y z hx hy q=>?_⟩;unfold LL;split;rename_i i;exact Awv h a b i ha hb;rename_i i;rw[H9];exact⟨λe=>(i ω).elim,λe=>(i (by rw[e])).elim⟩;unfold LL;by_cases i:a.length=b.length;rw[Av i,Av i.symm];exact Aww h a b i ha hb;rw[As i,As λe=>i e.symm];exact c.anti _ _ trivial trivial
 .unfold LL;intro h1 h2;have neg:∀a b:Int,Go.Ab.F6 a b<0->a<b:=(by intro a b h;unfold Go.Ab.F6 at h;split at h<;>(try split at h)<;>omega);have f:∀a b:Int,a<b->Go.Ab.F6 a b<0:=(by intro a b h;unfold Go.Ab.F6;rw[Av h];decide);by_cases k:x.length=y.length;rw[Av k]at h1;by_cases j:y.length=z.length;rw[Av j]at h2;rw[Av ω];exact Awx h x y z k j hx hy q h1 h2;rw[As j]at h2;rw[As ω];have:=neg _ _ h2;exact f _ _ ω;rw[As k]at h1;have:=neg _ _ h1;by_cases j:y.length=z.length;rw[As ω];exact f _ _ ω;rw[As j]at h2;have:=neg _ _ h2;rw[As ω];exact f _ _ ω
theorem Awy(g:α->α->Int)(l m:Λ α)(y:Int):Fk (LL g l m) y=if l.length=m.length then Fk (Gn g l m) y else Go.Ab.F6 l.length m.length:=by unfold LL;by_cases h:l.length=m.length;rw[Av h,Av h];rw[As h,As h];unfold Fk;rw[As λe=>h (by have:=H9.1 e;omega)]
theorem A9q:Gq (λ_=>True) Oi:=(Gq.or (S:=λ_=>True) (λt:F3=>t.v) (λt=>t.C) (λa b d e=>by cases a;cases b;cases d;cases e;rfl) Gq.cmpI Gq.cmpI λ_ _=>⟨trivial,trivial⟩).congr λ_ _=>rfl
theorem Ja:Gq (λ_=>True) Eh:=(Gq.or (S:=λ_=>True) (λt:Bp=>t.T) (λt=>t.Q) (λa b d e=>by cases a;cases b;cases d;cases e;rfl) A9q.ll Gq.cmpI λ_ _=>⟨λ_ _=>trivial,trivial⟩).congr λa b=>by show Eh a b=Fk (LL Oi a.T b.T) (Go.Ab.F6 a.Q b.Q);rw[Awy];rfl
theorem A9r(i j:Af):Fp i j=Fk (Go.Ab.F6 i.U j.U) (LL Fp i.K j.K):=by rw[Ant,Ail];unfold Fk LL;by_cases h:i.U=j.U;rw[Av h,Av (H9.2 h)];rw[As h,As λe=>h (H9.1 e)]
theorem Aob:∀n:Nat,Gq (λi=>Br i<=n) Fp:=by intro n;induction n with|zero=>exact⟨λa _ d=>by have:=Dy a;omega,λa _ d=>by have:=Dy a;omega,λa _ _ d=>by have:=Dy a;omega⟩|succ n ih=>refine(Gq.or (S:=λi=>Br i<=n+1) (λi:Af=>i.U) (λi=>i.K) (λa b e h=>by cases a;cases b;cases e;cases h;rfl) Gq.cmpI ih.ll ?_).congr A9r;intro i q;refine⟨trivial,λx o=>?_⟩;have e:=Jh o;have h:=Dy i;show Br x<=n;omega
theorem Ai6:Gq (λ_=>True) Fp:=⟨λa b _ _=>(Aob (max (Br a) (Br b))).zero a b (by show Br a<=_;omega) (by show Br b<=_;omega),λa b _ _=>(Aob (max (Br a) (Br b))).anti a b (by show Br a<=_;omega) (by show Br b<=_;omega), λa b c _ _ _=>(Aob (max (Br a) (max (Br b) (Br c)))).trans a b c (by show Br a<=_;omega) (by show Br b<=_;omega) (by show Br c<=_;omega)⟩
theorem A9s:Gq (λ_=>True) Oj:=(Gq.or (S:=λ_=>True) (λt:Bd=>t.v) (λt=>t.I) (λa b d e=>by cases a;cases b;cases d;cases e;rfl) Gq.cmpI Ai6 λ_ _=>⟨trivial,trivial⟩).congr λ_ _=>rfl
theorem A9t:Gq (λ_=>True) Pt:=(Gq.or (S:=λ_=>True) (λt:Bf=>t.L) (λt=>t.P) (λa b d e=>by cases a;cases b;cases d;cases e;rfl) Ja Gq.cmpI λ_ _=>⟨trivial,trivial⟩).congr λ_ _=>rfl
theorem Aoc:Gq (λ_=>True) D5:=(Gq.or (S:=λ_=>True) (λt:A4=>t.F) (λt=>t.A) (λa b d e=>by cases a;cases b;cases d;cases e;rfl) A9s.ll A9t.ll λ_ _=>⟨λ_ _=>trivial,λ_ _=>trivial⟩).congr λa b=>by show D5 a b=Fk (LL Oj a.F b.F) (LL Pt a.A b.A);rw[Awy];rfl
theorem Lj{a b:A4}:D5 a b=0↔a=b:=Aoc.zero a b trivial trivial
theorem Xa(a b:A4):D5 b a = - D5 a b:=Aoc.anti a b trivial trivial
theorem Ut{a b c:A4}(h:D5 a b<0)(d:D5 b c<0):D5 a c<0:=Aoc.trans a b c trivial trivial trivial h d
theorem Awz(m:A4):D5 m m=0:=Lj.2 rfl
theorem Aod{a b:A4}:0<D5 a b↔D5 b a<0:=by rw[Xa a b];omega
def cf:Ap->A4->Rat
 |[],_=>0
 |t::p,m=>(if D5 t.M m=0 then rq t.C else 0)+cf p m
def ltT(t u:Aj):Prop:=D5 t.M u.M<0
structure CP(p:List Aj):Prop where
 srt:p.Pairwise ltT
 coe:∀t∈p,J3 t.C/\rq t.C≠0
theorem CP.tail(h:CP (t::p)):CP p:=⟨(pairwise_cons.1 h.srt).2,λu d=>h.coe u (by simp[d])⟩
theorem CP.head(h:CP (t::p)):∀u∈p,D5 t.M u.M<0:=(pairwise_cons.1 h.srt).1
theorem CP.nil:CP []:=⟨Pairwise.nil,λ_ h=>by cases h⟩
theorem CP.cons{t:Aj}{p:Ap}(h:CP p)(h1:∀u∈p,D5 t.M u.M<0)(h2:J3 t.C)(h3:rq t.C≠0):CP (t::p):=⟨pairwise_cons.2 ⟨h1,h.srt⟩,λu d=>by rcases En.1 d with rfl|d;exact⟨h2,h3⟩;exact h.coe u d⟩
theorem Aw0(h:∀t∈p,D5 t.M m≠0):cf p m=0:=by induction p with|nil=>rfl|cons t p ih=>simp only[cf];rw[As (h t ψ),ih λu d=>h u (by simp[d])];grind
theorem Ad0(h:∀t∈p,D5 m t.M<0):cf p m=0:=Aw0 λt d e=>by have:=h t d;rw[Xa,e]at this;omega
theorem Xb(h:CP (t::p)):cf (t::p) t.M=rq t.C:=by simp only[cf];rw[Av (Awz _),Ad0 h.head];grind
theorem Aoe(h:D5 t.M m≠0):cf (t::p) m=cf p m:=by simp only[cf];rw[As h];grind
theorem Sg(p q:Ap)(m:A4):cf (p++q) m=cf p m+cf q m:=by induction p with|nil=>simp only[nil_append,cf];grind|cons t p ih=>simp only[Fd,cf,ih];grind
theorem Z1(h:CP p)(d:t∈p):cf p t.M=rq t.C:=by induction p with|nil=>cases d|cons u p ih=>rcases En.1 d with rfl|d;exact Xb h;have:=h.head t d;rw[Aoe ω];exact ih h.tail d
theorem CP.ext:∀{p q:Ap},CP p->CP q->(∀m,cf p m=cf q m)->p=q
 |[],[],_,_,_=>rfl
 |[],u::q,_,h2,h=>by have:=h u.M;rw[Xb h2]at this;exact((h2.coe u ψ).2 this.symm).elim
 |t::p,[],h1,_,h=>by have:=h t.M;rw[Xb h1]at this;exact((h1.coe t ψ).2 this).elim
 |t::p,u::q,h1,h2,h=>by(have b:D5 t.M u.M=0:=by rcases Int.lt_trichotomy (D5 t.M u.M) 0 with k|k|k;have e:=h t.M;rw[Xb h1,Ad0 (p:=u::q)]at e;exact((h1.coe t ψ).2 e).elim;intro w d;rcases En.1 d with rfl|d;exact k;exact Ut k (h2.head w d);exact k;have k:=Aod.1 k;have e:=h u.M;rw[Xb h2,Ad0 (p:=t::p)]at e;exact((h2.coe u ψ).2 e.symm).elim;intro w d;rcases En.1 d with rfl|d;exact k;exact Ut k (h1.head w d));have c:=Lj.1 b;have hc:t.C=u.C:=(by refine Adx (h1.coe t ψ).1 (h2.coe u ψ).1 ?_;have e:=h t.M;rw[Xb h1,c,Xb h2]at e;exact e);have i:t=u:=(by cases t;cases u;simp_all);subst i;congr 1;refine CP.ext h1.tail h2.tail λm=>?_;by_cases e:D5 t.M m=0;rw[<-Lj.1 e,Ad0 h1.head,Ad0 h2.head];have:=h m;rwa [Aoe e,Aoe e]at this
theorem Aw1(c:Ay):W8 c=true↔J3 c/\rq c≠0:=by unfold W8 J3;rw[Ec,Ai4];(have h:(!(nv c==0))=true↔rq c≠0:=by have e:rq c=0↔nv c=0:=(by unfold rq;rw[Rat.mkRat_eq_zero (G1 c)];unfold sg;split<;>omega);rw[Ne,e];simp);rw[h];exact⟨λ⟨a,b⟩=>⟨a.symm,b⟩,λ⟨a,b⟩=>⟨a.symm,b⟩⟩
theorem A9u{l:Ap}(h:∀(j:Nat)(x y:Aj),l[j]?=some x->l[j+1]?=some y->D5 x.M y.M<0):l.Pairwise ltT:=by induction l with|nil=>exact Pairwise.nil|cons t l ih=>have ih:=ih λj x y i o=>h (j+1) x y (by simpa using i) (by simpa using o);refine pairwise_cons.2 ⟨?_,ih⟩;cases l with|nil=>intro u d;cases d|cons v l=>have e:=h 0 t v rfl rfl;intro u d;rcases En.1 d with rfl|d;exact e;exact Ut e ((pairwise_cons.1 ih).1 u d)
theorem Ai7:K1 Δ Ξ Θ p=true↔p.length<=1000/\CP p/\∀t∈p,Ji Δ Ξ Θ t.M=true:=by unfold K1;rw[Ec,Es];constructor;rintro⟨i,h⟩;have g:∀(j:Nat)(t:Aj),p[j]?=some t->W8 t.C=true/\Ji Δ Ξ Θ t.M=true/\Up p t j=true:=(by intro j t d;have:=Kj h d;simp only[Uq,Ec]at this;exact⟨this.1.1,this.1.2,this.2⟩);refine⟨i,⟨A9u λj x y r s=>?_,λt o=>?_⟩,λt o=>?_⟩;have:=(g _ _ s).2.2;unfold Up at this;rw[show j+1-1=j by omega,r]at this;simpa using this;obtain⟨j,d⟩:=Gl o;exact(Aw1 _).1 (g j t d).1;obtain⟨j,d⟩:=Gl o;exact(g j t d).2.1;rintro⟨i,h,A⟩;refine⟨i,Jq.2 λq e=>?_⟩;have e:=mem_zipIdx' e;have d:p[q.2]?=some q.1:=(Bi e.1).trans (congrArg some e.2.symm);have c:q.1∈p:=Bm d;simp only[Uq,Ec];refine⟨⟨(Aw1 _).2 (h.coe _ c),A _ c⟩,?_⟩;unfold Up;by_cases B:q.2=0;rw[B];rfl;have b:q.2-1<p.length:=ω;rw[Bi b];have:=pairwise_iff_getElem.1 h.srt (q.2-1) q.2 b e.1 ω;rw[<-e.2]at this;simp only[Bool.or_eq_true,Es];exact .inr this
theorem Aw2:∀(k:Nat)(t:Af),Br t<=k->k<1099511627776->Rz k t=some t:=by intro k;induction k with|zero=>intro t h;have:=Dy t;omega|succ k ih=>intro t h q;have c:=Dy t;have b:=Ly t.K;rw[Rz];refine Fi t.K (λj=>((j:Int),t.K.take j)) rfl ω ?_ ?_;intro j x r d e i o;have:=Jh (Bm d);simp only[e,i,o,Ak,Ac,ih x ω ω];rw[Dj ζ,Ac,Cs d];intro e;exact⟨t.K,ψ,by cases t;rfl⟩
theorem A9v(m:A4)(b:MSz m):Ab2 m=some m:=by have g:=b.nf;have f:=b.na;unfold Ab2;refine Fi m.F (λj=>((j:Int),m.F.take j)) rfl ω ?_ ?_;intro j x o d e h i;have c:=Bm d;have:=b.fi x c;simp only[e,h,i,Ak,Ac,Aw2 4000000 x.I ω ω];rw[Dj ζ,Ac,Cs d];intro e;refine⟨m.F,ψ,?_⟩;dsimp only;refine Fi m.A (λj=>((j:Int),m.A.take j)) rfl ω ?_ ?_;intro j x o d e h i;have c:=Bm d;have:=b.al x c;simp only[e,h,i,Ak,Ac,Agw];rw[Dj ζ,Ac,Dj ζ,Ac,Cs d];rfl;intro e;exact⟨m.A,ψ,by cases m;rfl⟩
structure TB(k:Nat)(t:Aj):Prop where
 co:RB k t.C
 mo:MSz t.M
theorem TSz.tb(h:TSz t):TB 1048576 t:=⟨h.co,h.mo⟩
theorem TB.mono(h:TB j t)(hk:j<=k):TB k t:=⟨h.co.mono hk,h.mo⟩
theorem A9w(c:Ay):rq c=0↔nv c=0:=by unfold rq;rw[Rat.mkRat_eq_zero (G1 c)];unfold sg;split<;>omega
def Km(n:Int)(f:Bool):Ae:=if f then(if n<0 then[45]else[])else(if n<0 then[32,45,32]else[32,43,32])
def L2(n:Int):Ae:=if n.natAbs=1 then[]else ti n.natAbs++[42]
def K2(v:Int):Ae:=if v = -1 then[114,101,115]else 118::ti v
def tT(f:Bool)(t:F3):Ae:=Km t.C f++(L2 t.C++K2 t.v)
def Js:Bool->Cr->Int->Ae
 |f,[],c=>if c≠0\/f=true then Km c f++ti c.natAbs else[]
 |f,t::ts,c=>tT f t++Js false ts c
def Ad1(l:Bp):Ae:=Js true l.T l.Q
def Kc(X:Ae):Prop:=∀c m,X=c::m->c=97
theorem Kc.nil:Kc []:=by intro c m h;cases h
theorem Kc.cons(X:Ae):Kc (97::X):=by intro c m h;cases h;rfl
theorem Kc.nonum(h:Kc X):Nu X:=by intro c m e;rw[h c m e];decide
theorem Aof(n:Nat):∃c m,ti n=c::m/\48<=c/\c<=57:=by have b:=Ah7 (n:Int);cases h:ti (n:Int)with|nil=>exact(b h).elim|cons c m=>refine⟨c,m,rfl,?_⟩;have d:c∈ti (n:Int):=(by rw[h];simp);unfold ti at d;obtain⟨x,i,rfl⟩:=mem_map.1 d;have e:Lib.itoa (n:Int)=Lib.decDigits n:=(by unfold Lib.itoa;first|rfl|(rw[As ω];simp)|simp);rw[e]at i;have:=Ah5 n n (Nat.le_refl _) x i;omega
theorem Aw3(ts:Cr)(c:Int)(b:Kc X):Nu (Js false ts c++X):=by(have k:∀(n:Int)(Y:Ae),Nu (Km n false++Y):=by intro n Y c m e;unfold Km at e;simp only[Bool.false_eq_true,if_false]at e;split at e<;>(cases e;decide));cases ts with|nil=>simp only[Js];split;rw[append_assoc];exact k _ _;exact b.nonum|cons t ts=>simp only[Js,tT,append_assoc];exact k _ _
theorem Aw4{R:Ae}(c:Nu R)(b:Nu S)(h:K2 v++R=K2 w++S):v=w/\R=S:=by unfold K2 at h;split at h<;>split at h;simp only[Fd,nil_append,List.cons.injEq,true_and]at h;exact⟨ω,h⟩;simp at h;simp at h;simp only[Fd,List.cons.injEq,true_and]at h;obtain⟨g,f⟩:=Sd _ _ _ _ (J1 v) (J1 w) c b h;exact⟨W2 g,f⟩
theorem Aog(v:Int):∃c m,K2 v=c::m/\(c=114\/c=118):=by unfold K2;split;exact⟨_,_,rfl,.inl rfl⟩;exact⟨_,_,rfl,.inr rfl⟩
theorem Aoh(X:Ae):Nu (42::X):=by intro c m e;cases e;decide
theorem A9x{a b:Int}{R:Ae}(i:Nu R)(g:Nu S)(h:L2 a++(K2 v++R)=L2 b++(K2 w++S)):a.natAbs=b.natAbs/\v=w/\R=S:=by unfold L2 at h;(have o:∀(n:Nat)(u:Int)(X Y:Ae),K2 u++X=ti n++[42]++Y->False:=by intro n u X Y e;obtain⟨c,m,f,q⟩:=Aog u;obtain⟨d,k,l,j⟩:=Aof n;rw[f,l]at e;simp only[Fd,List.cons.injEq]at e;omega);split at h<;>split at h;rename_i r A;simp only[nil_append]at h;exact⟨r.trans A.symm,Aw4 i g h⟩;exact(o _ _ _ _ h).elim;exact(o _ _ _ _ h.symm).elim;simp only[append_assoc,Fd,nil_append]at h;obtain⟨f,q⟩:=Sd _ _ _ _ (J1 _) (J1 _) (Aoh _) (Aoh _) h;have l:=W2 f;obtain⟨j,s⟩:=Aw4 i g (List.cons.inj q).2;exact⟨ω,j,s⟩
def NoM(P:Ae):Prop:=∃c m,P=c::m/\c≠45
theorem NoM.ti(n:Nat)(X:Ae):NoM (Go.Ab.ti n++X):=by obtain⟨c,m,e,h⟩:=Aof n;exact⟨c,m++X,by rw[e];rfl,ω⟩
theorem NoM.pT(a v:Int)(X:Ae):NoM (L2 a++(K2 v++X)):=by unfold L2;split;obtain⟨c,m,e,h⟩:=Aog v;exact⟨c,m++X,by rw[e];rfl,ω⟩;rw[append_assoc];exact NoM.ti _ _
theorem Aoi{a b:Int}{f:Bool}{Q:Ae}(i:NoM P)(g:NoM Q)(h:Km a f++P=Km b f++Q):(a<0↔b<0)/\P=Q:=by obtain⟨c,m,rfl,q⟩:=i;obtain⟨d,k,rfl,r⟩:=g;unfold Km at h;cases f with|true=>simp only[if_true]at h;split at h<;>split at h;rename_i e o;exact⟨by simp[e,o],by simpa using h⟩;simp at h;exact(r h.1.symm).elim;simp at h;exact(q h.1).elim;rename_i e o;exact⟨by simp[e,o],by simpa using h⟩|false=>simp only[Bool.false_eq_true,if_false]at h;split at h<;>split at h;rename_i e o;exact⟨by simp[e,o],by simpa using h⟩;simp at h;simp at h;rename_i e o;exact⟨by simp[e,o],by simpa using h⟩
theorem Aoj{n:Int}(b:Kc X)(h:Km n false++P=X):False:=by unfold Km at h;simp only[Bool.false_eq_true,if_false]at h;split at h;have:=b _ _ h.symm;omega;have:=b _ _ h.symm;omega
theorem Aw5{c d:Int}{f:Bool}{u:F3}{m:Cr}{Y:Ae}(b:Kc X)(j:Kc Y)(h:Js f [] c++X=Js f (u::m) d++Y):False:=by simp only[Js,tT]at h;split at h;simp only[append_assoc]at h;obtain⟨_,e⟩:=Aoi (NoM.ti _ _) (NoM.pT _ _ _) h;unfold L2 at e;split at e;obtain⟨r,s,i,A⟩:=Aog u.v;obtain⟨B,C,g,D⟩:=Aof c.natAbs;rw[i,g]at e;simp only[nil_append,Fd,List.cons.injEq]at e;omega;simp only[append_assoc,Fd,nil_append]at e;obtain⟨_,g⟩:=Sd _ _ _ _ (J1 _) (J1 _) b.nonum (Aoh _) e;have:=b _ _ g;omega;rename_i o;have q:f=false:=(by cases f with|true=>simp at o|false=>rfl);subst q;simp only[nil_append,append_assoc]at h;exact Aoj b h.symm
theorem Aw6:∀(l m:Cr)(f:Bool)(c d:Int)(X Y:Ae),Kc X->Kc Y->Js f l c++X=Js f m d++Y->l=m/\c=d/\X=Y
 |[],[],f,c,d,X,Y,g,b,h=>by simp only[Js]at h;split at h<;>split at h;simp only[append_assoc]at h;obtain⟨x,q⟩:=Aoi (NoM.ti _ _) (NoM.ti _ _) h;obtain⟨j,i⟩:=Sd _ _ _ _ (J1 _) (J1 _) g.nonum b.nonum q;have s:=W2 j;exact⟨rfl,ω,i⟩;rename_i e o;have r:f=false:=(by cases f with|true=>simp at o|false=>rfl);subst r;simp only[append_assoc,nil_append]at h;exact(Aoj b h).elim;rename_i e o;have r:f=false:=(by cases f with|true=>simp at e|false=>rfl);subst r;simp only[append_assoc,nil_append]at h;exact(Aoj g h.symm).elim;rename_i e o;refine⟨rfl,?_,by simpa using h⟩;have B:c=0:=(by by_cases k:c=0;exact k;exact(e (.inl k)).elim);have C:d=0:=(by by_cases k:d=0;exact k;exact(o (.inl k)).elim);omega
 |[],u::m,f,c,d,X,Y,g,b,h=>(Aw5 g b h).elim
 |t::l,[],f,c,d,X,Y,g,b,h=>(Aw5 b g h.symm).elim
 |t::l,u::m,f,c,d,X,Y,g,b,h=>by simp only[Js,tT,append_assoc]at h;obtain⟨x,q⟩:=Aoi (NoM.pT _ _ _) (NoM.pT _ _ _) h;obtain⟨j,i,s⟩:=A9x (Aw3 _ _ g) (Aw3 _ _ b) q;obtain⟨A,z,y⟩:=Aw6 l m false c d X Y g b s;have:t=u:=(by cases t;cases u;simp only at x j i;subst i;congr 1;omega);exact⟨by rw[this,A],z,y⟩
def Jj(a:Bf):Ae:=97::(ti a.P++58::Ad1 a.L)
def Ek(f:Bd):Ae:=Lz f.v f.I
def Ad2(m:A4):Ae:=m.F.flatMap Ek++m.A.flatMap Jj
theorem Ai8(l:A7):Kc (l.flatMap Jj):=by cases l with|nil=>exact Kc.nil|cons a l=>simp only[flatMap_cons,Jj,Fd];exact Kc.cons _
theorem Ai9(X:Ae):Nu (58::X):=by intro c m e;cases e;decide
theorem Aw7:∀(l m:A7),l.flatMap Jj=m.flatMap Jj->l=m
 |[],[],_=>rfl
 |[],b::m,h=>by simp[Jj]at h
 |a::l,[],h=>by simp[Jj]at h
 |a::l,b::m,h=>by simp only[flatMap_cons,Jj,Fd,append_assoc,List.cons.injEq,true_and]at h;obtain⟨s,q⟩:=Sd _ _ _ _ (J1 _) (J1 _) (Ai9 _) (Ai9 _) h;have k:=(List.cons.inj q).2;obtain⟨g,f,j⟩:=Aw6 _ _ true _ _ _ _ (Ai8 l) (Ai8 m) k;have i:=Aw7 l m j;have c:=W2 s;obtain⟨⟨d,t1⟩,d1⟩:=a;obtain⟨⟨e,t2⟩,d2⟩:=b;simp only at g f c;rw[g,f,c,i]
theorem Aw8(l:Ba)(b:Kc X):Ug (l.flatMap Ek++X):=by cases l with|nil=>intro c m e;rw[b c m e];exact⟨δ,δ⟩|cons a l=>intro c m e;simp only[flatMap_cons,Ek,Lz,Fd]at e;cases e;exact⟨δ,δ⟩
theorem Aok:∀(l m:Ba)(X Y:Ae),Kc X->Kc Y->l.flatMap Ek++X=m.flatMap Ek++Y->l=m/\X=Y
 |[],[],X,Y,_,_,h=>⟨rfl,by simpa using h⟩
 |[],b::m,X,Y,f,_,h=>by simp only[flatMap_cons,flatMap_nil,Ek,Lz,Fd,nil_append]at h;have:=f _ _ h;omega
 |a::l,[],X,Y,_,c,h=>by simp only[flatMap_cons,flatMap_nil,Ek,Lz,Fd,nil_append]at h;have:=c _ _ h.symm;omega
 |a::l,b::m,X,Y,f,c,h=>by simp only[flatMap_cons,Ek,Lz,Fd,append_assoc,List.cons.injEq,true_and]at h;obtain⟨x,u⟩:=Sd _ _ _ _ (J1 _) (J1 _) (Ai9 _) (Ai9 _) h;have s:=(List.cons.inj u).2;obtain⟨i,q⟩:=Aia _ _ _ _ (Aw8 l f) (Aw8 m c) s;obtain⟨k,j⟩:=Aok l m X Y f c q;have g:=W2 x;obtain⟨y,d⟩:=a;obtain⟨e,o⟩:=b;simp only at i g;exact⟨by rw[i,g,k],j⟩
theorem A9y{n:A4}(h:Ad2 m=Ad2 n):m=n:=by obtain⟨c,f⟩:=Aok _ _ _ _ (Ai8 _) (Ai8 _) h;have b:=Aw7 _ _ f;cases m;cases n;simp only at c b;rw[c,b]
def By(l:Ae):Prop:=∀c∈l,0<=c/\c<256
theorem By.app{m:Ae}(h:By l)(h':By m):By (l++m):=by intro c hc;rcases Ea.1 hc with k|k;exact h c k;exact h' c k
theorem By.ti(n:Int):By (Go.Ab.ti n):=by intro c h;have:=J1 n c h;simp only[Sc,Bool.or_eq_true,Ec,beq_iff_eq,Es]at this;omega
theorem By.cons{c:Int}{l:Ae}(hc:0<=c/\c<256)(h:By l):By (c::l):=by intro d hd;rcases En.1 hd with rfl|k;exact hc;exact h d k
theorem By.nil:By []:=λc h=>by cases h
theorem By.sgn(n:Int)(f:Bool):By (Km n f):=by unfold Km;split<;>split<;>intro c hc<;>simp at hc<;>omega
theorem By.mag(n:Int):By (L2 n):=by unfold L2;split;exact By.nil;exact(By.ti _).app (By.cons ω By.nil)
theorem By.var(n:Int):By (K2 n):=by unfold K2;split;intro c hc;simp at hc;omega;exact By.cons ω (By.ti _)
theorem By.tT(f:Bool)(t:F3):By (tT f t):=(By.sgn _ _).app ((By.mag _).app (By.var _))
theorem By.lins:∀(l:Cr)(f:Bool)(c:Int),By (Js f l c)
 |[],f,c=>by simp only[Js];split;exact(By.sgn _ _).app (By.ti _);exact By.nil
 |t::l,f,c=>(By.tT f t).app (By.lins l false c)
theorem By.at(a:Bf):By (Jj a):=By.cons ω ((By.ti _).app (By.cons ω (By.lins _ _ _)))
theorem By.flat(h:∀a,By (g a))(l:Λ α):By (l.flatMap g):=by intro c hc;obtain⟨a,_,k⟩:=mem_flatMap.1 hc;exact h a c k
theorem By.fac(f:Bd):By (Ek f):=Aic f.v f.I
theorem By.mono(m:A4):By (Ad2 m):=(By.flat By.fac _).app (By.flat By.at _)
def bs(l:Ae):Β:=⟨(F8 l).toArray⟩
theorem Aol{m:Ae}(c:By l)(b:By m)(h:bs l=bs m):l=m:=by unfold bs at h;(have d:(F8 l).toArray=(F8 m).toArray:=by injection h);(have e:F8 l=F8 m:=by simpa using congrArg Array.toList d);exact Anr _ _ c b e
def Nb(m:A4):Β:=bs (Ad2 m)
theorem Aw9{n:A4}(h:Nb m=Nb n):m=n:=A9y (Aol (By.mono m) (By.mono n) h)
theorem Z2(l:Ae):(bs l).size=l.length:=by unfold bs F8;simp[ByteArray.size]
theorem Axa(h:By l):O9 (bs l)=l:=by
 unfold O9 bs F8
 simp only[map_map]
 conv=>rhs;rw[<-map_id l]
 refine map_congr_left λc d=>?_
 have:=h c d
 simp only[Function.comp,UInt8.toNat_ofNat',id]
 omega
theorem A9z(l m:Ae):bs l++bs m=bs (l++m):=by apply ByteArray.ext;rw[ByteArray.data_append];unfold bs F8;simp
theorem Xc{m:Ae}(h:l.length+m.length<=9223372036854775807):G6 (bs l) (bs m)=some (bs (l++m)):=by unfold G6;rw[Av (by rw[Z2,Z2];exact h),A9z]
theorem Aja{n:Int}(h:Fj n):Rg n=some (bs (ti n)):=by
 rw[Anp h]
 congr 2
 congr 1
 unfold F8 ti
 rw[map_map]
 conv=>lhs;rw[<-map_id (Lib.itoa n)]
 refine map_congr_left λc _=>?_
 simp[Function.comp]
theorem Ad3{S:Type}{step:S->Ο (S⊕E)}{s0:S}{J:E->Ο R}{r:R}(x0:α)(xs:Λ α)(b:Nat->S)(h0:s0=b 0)(f:xs.length<2305843009213693952)(c:∀(j:Nat)(x:α),xs[j]?=some x->decide (((j+1:Nat):Int)<((x0::xs).length:Int))=true->Ag (x0::xs) ((j+1:Nat):Int)=some x->Aa (((j+1:Nat):Int)+1)=((j+1+1:Nat):Int)->step (b j)=some (.inl (b (j+1))))(d:decide (((xs.length+1:Nat):Int)<((x0::xs).length:Int))=false->∃e,step (b xs.length)=some (.inr e)/\J e=some r):(Am step s0).bind J=some r:=by refine Ml xs.length b h0 (λj h=>?_) (d ψ);have i:xs[j]?=some xs[j]:=Bi h;exact c j _ i (An (by simp only[Eo];omega)) (Bq rfl ψ) (Dl (n:=xs.length+1) ω ω)
theorem Ff{X:Ο α}{a:α}{K:α->Ο β}{r:Ο β}(h:X=some a)(k:K a=r):X.bind K=r:=by rw[h];exact k
theorem Om(c:By l)(h:b.length+l.length<=140737488355328):H8 (bs l) b=some ((l.length:Int),b++l):=by simp only[H8,Zi,Ac,Axa c,Z2];rw[Dj ω];rfl
theorem Xd(c:By l)(h:b.length+l.length<=140737488355328):Ku (bs l) b=some ((l.length:Int),b++l):=by simp only[Ku,Aca,Ac,Axa c,Z2];rw[Dj ω];rfl
theorem Q2(hb:By b):M0 b=some (bs b):=by exact Av hb
theorem A90(hb:By b):Ac8 b=some (bs b):=Q2 hb
theorem Aom(n:Int)(h : -1048576<=n/\n<=1048576):(L2 n).length<=22:=by unfold L2;split;simp;have:=Ps (n:=(n.natAbs:Int)) (by unfold Fj;omega);simp;omega
theorem Ajb(n:Int)(f:Bool):(Km n f).length<=3:=by unfold Km;split<;>split<;>simp
theorem A91(h : -1<=v/\v<3000):(K2 v).length<=22:=by unfold K2;split;simp;have:=Ps (n:=v) (by unfold Fj;omega);simp;omega
structure Axb(a:Bp):Prop where
 c : -1048576<=a.Q/\a.Q<=1048576
 n:a.T.length<=16
 t:∀t∈a.T,(-1<=t.v/\t.v<3000)/\(-1048576<=t.C/\t.C<=1048576)
theorem Aon{a:Bp}(h:Ii a=true):Axb a:=by unfold Ii at h;simp only[Ec,Es]at h;refine⟨⟨h.1.1,h.1.2.1⟩,h.1.2.2,λt d=>?_⟩;obtain⟨j,e⟩:=Gl d;have:=Kj h.2 e;simp only[Zr,Ec,Es]at this;omega
theorem Aoo{t:F3}(f:Bool)(h:(-1<=t.v/\t.v<3000)/\(-1048576<=t.C/\t.C<=1048576)):(tT f t).length<=47:=by have:=Ajb t.C f;have:=Aom t.C h.2;have:=A91 h.1;unfold tT;simp only[Fe];omega
theorem Axc{n:Int}(h : -1048576<=n/\n<=1048576):(if Aa (0-n)>n then Aa (0-n)else n)=(n.natAbs:Int):=by rw[Aa,Bz ω ω];split<;>omega
theorem c45:ByteArray.mk #[45]=bs [45]:=rfl
theorem A92:ByteArray.mk #[32,45,32]=bs [32,45,32]:=rfl
theorem A93:ByteArray.mk #[32,43,32]=bs [32,43,32]:=rfl
theorem c42:ByteArray.mk #[42]=bs [42]:=rfl
theorem Axd:ByteArray.mk #[118]=bs [118]:=rfl
theorem c97:ByteArray.mk #[97]=bs [97]:=rfl
theorem c58:ByteArray.mk #[58]=bs [58]:=rfl
theorem Axe:ByteArray.mk #[114,101,115]=bs [114,101,115]:=rfl
theorem Axf:By [45]:=By.cons ω By.nil
theorem by3(a b c:Int)(d:0<=a/\a<256)(hb:0<=b/\b<256)(e:0<=c/\c<256):By [a,b,c]:=By.cons d (By.cons hb (By.cons e By.nil))
theorem Axg{n:Int}(f:Bool)(d : -1048576<=n/\n<=1048576)(hb:b.length<=1099511627776):Ac9 n f b=some ((n.natAbs:Int),b++Km n f):=by unfold Ac9 Km;rw[Axc d,c45,A92,A93];rw[Om Axf ζ,Om (by3 _ _ _ ω ω ω) ζ,Om (by3 _ _ _ ω ω ω) ζ];by_cases h:n<0;rw[An h,Av h,Av h];cases f<;>rfl;rw[Au h,As h,As h];cases f<;>simp
theorem A94{n:Int}(d : -1048576<=n/\n<=1048576)(hb:b.length<=1099511627776):V8 n true b=some (if n<0 then .inl ((n.natAbs:Int),b++[45])else .inr ((n.natAbs:Int),b)):=by unfold V8;rw[Axc d,c45,Xd Axf ζ];by_cases h:n<0;rw[An h,Av h];rfl;rw[Au h,As h];rfl
theorem Aop(h:n<=1048576):Pk (n:Int) 10=some (bs (ti n)):=by unfold Pk Af8;exact Aja (by unfold Fj;omega)
theorem Ajc(h:n<=1048576):(ti (n:Int)).length<=21:=Ps (by unfold Fj;omega)
theorem Axh{n:Int}(d : -1048576<=n/\n<=1048576)(hb:b.length<=1099511627776):(bif((n.natAbs:Int) != (1:Int))then(Pk (n.natAbs:Int) 10).bind λv=>(G6 v (ByteArray.mk #[42])).bind λu=>(H8 u b).bind λw=>some w.2 else some b)=some (b++L2 n):=by have e:=Ajc (n:=n.natAbs) ω;unfold L2;by_cases h:n.natAbs=1;rw[Et ω,Av h];simp;rw[Ep ω,As h,Aop ω,c42];simp only[Ak,Ac];rw[Xc ζ,Ac,Om ((By.ti _).app (By.cons ω By.nil)) ζ];rfl
theorem Aoq(K:Ae->Ο R)(c : -1<=v/\v<3000)(hb:b.length<=1099511627776):(bif(v==(-1))then(H8 (ByteArray.mk #[114,101,115]) b).bind λw=>K w.2 else(Jz v).bind λx=>(G6 (ByteArray.mk #[118]) x).bind λy=>(H8 y b).bind λw=>K w.2)=K (b++K2 v):=by have d:=Ps (n:=v) (by unfold Fj;omega);unfold K2;by_cases h:v = -1;rw[Ew h,Av h,Axe,Om (by3 _ _ _ ω ω ω) ζ];rfl;rw[Cx h,As h,Axd];simp only[Al,Jz];rw[Aja (by unfold Fj;omega),Ac,Xc ζ,Ac];rw[show[118]++ti v=118::ti v from rfl,Om (By.cons ω (By.ti _)) ζ];rfl
theorem Ajd{l:Λ α}{x:α}(h:l[j]?=some x):(l.take (j+1)).flatMap g=(l.take j).flatMap g++g x:=by rw[Cs h];simp
theorem Aor{α:Type}{g:α->Ae}{n:Nat}:∀(l:Λ α),(∀a∈l,(g a).length<=n)->(l.flatMap g).length<=l.length*n
 |[],_=>ψ
 |a::l,h=>by have e:=h a ψ;have i:=Aor l λb d=>h b (by simp[d]);simp only[flatMap_cons,Fe,Eo,Nat.add_mul];omega
theorem Aos(l:Λ α)(j:Nat)(h:∀a∈l,(g a).length<=n):((l.take j).flatMap g).length<=l.length*n:=by refine Nat.le_trans (Aor _ λa d=>h a (mem_of_mem_take d)) (Nat.mul_le_mul_right _ ?_);rw[length_take];omega
theorem Axi:∀(ts:Cr)(c:Int),Js false ts c=ts.flatMap (tT false)++Js false [] c
 |[],c=>ψ
 |t::ts,c=>by have:=Axi ts c;simp only[flatMap_cons,append_assoc,<-this];rfl
theorem A95{a:Bp}(h:Ii a=true)(B:a.T≠[]):Rt a=some (bs (Ad1 a)):=by have z:=Aon h;unfold Rt;rw[Avw,h];obtain⟨c,l⟩:=a;cases l with|nil=>exact(B rfl).elim|cons t ts=>have F : -1048576<=c/\c<=1048576:=z.c;have K:ts.length<=15:=(by have:=z.n;simp at this;omega);have o:(-1<=t.v/\t.v<3000)/\(-1048576<=t.C/\t.C<=1048576):=z.t t ψ;have s:∀u∈ts,(-1<=u.v/\u.v<3000)/\(-1048576<=u.C/\u.C<=1048576):=λu r=>z.t u (by simp[r]);have x:=λj=>Aos (g:=tT false) (n:=47) ts j λu r=>Aoo false (s u r);have J:=Aoo true o;simp only[Ac,Fc,Al];rw[An (by simp only[Eo];omega),Ak];refine Ff (a:=((t.C.natAbs:Int),tT true t)) ?_ ?_;rw[show Ag (t::ts) 0=some t from rfl,Ac,A94 o.2 ψ,Ac];have G:=Ps (n:=t.v) (by unfold Fj;omega);have I:=Ajc (n:=t.C.natAbs) ω;have D:=Aom t.C o.2;by_cases q:t.C<0;rw[Av q];simp only;rw[Axh o.2 ψ,Ac];refine(Aoq (λb=>some ((t.C.natAbs:Int),b)) o.1 ζ).trans ?_;simp[tT,Km,q];rw[As q];simp only;by_cases d:t.C.natAbs=1;rw[Et ω];simp only[Al];by_cases y:t.v = -1;rw[Ew y,Axe,Ak,Xd (by3 _ _ _ ω ω ω) ψ];simp[tT,Km,q,L2,d,K2,y];rw[Cx y,Al,Axd,Jz,Aja (by unfold Fj;omega),Ac,Xc ζ,Ac,show[118]++ti t.v=118::ti t.v from rfl, Xd (By.cons ω (By.ti _)) ζ];simp[tT,Km,q,L2,d,K2,y];rw[Ep ω];simp only[Ak];rw[Aop ω,Ac,c42,Xc ζ,Ac,Xd ((By.ti _).app (By.cons ω By.nil)) ζ,Ac];refine(Aoq (λb=>some ((t.C.natAbs:Int),b)) o.1 ζ).trans ?_;simp[tT,Km,q,L2,d];simp only;refine Ad3 t ts (λj=>(((j+1:Nat):Int),tT true t++(ts.take j).flatMap (tT false))) (by simp[Aa,Bz]) ω ?_ ?_;intro j u r d C H;have f:=s u (Bm r);have:=x j;have D:=Aom u.C f.2;have A:=Ajb u.C false;simp only[d,C,H,Ak,Ac];rw[Cx ω,Axg false f.2 (by simp only[Fe];omega),Ac,Axh f.2 (by simp only[Fe];omega),Ac];refine(Aoq (R:=(Int×List Int)⊕List Int) (λb=>some (.inl (((j+1+1:Nat):Int),b))) f.1 (by simp only[Fe];omega)).trans ?_;rw[Ajd r];simp[tT];intro d;have C:=x ts.length;rw[Dh]at C;refine⟨tT true t++ts.flatMap (tT false),by simp only[d,Al,Dh],?_⟩;have E:By (tT true t++ts.flatMap (tT false)):=(By.tT _ _).app (By.flat (By.tT _) _);have e:Ad1 ⟨c,t::ts⟩=tT true t++ts.flatMap (tT false)++Js false [] c:=(by have:=Axi ts c;rw[append_assoc,<-this];rfl);rw[e];have k:((((t::ts).length:Nat):Int)==(0:Int))=false:=Cx (by simp only[Eo];omega);by_cases i:c=0;simp only[Et i,Al,k,Ac];rw[Q2 E];simp[Js,i];have L:=Ajc (n:=c.natAbs) ω;have A:=Ajb c false;simp only[Ep i,Ak,Ac,k];rw[Axg false F (by simp only[Fe];omega),Ac,Aop ω,Ac,Om (By.ti _) (by simp only[Fe];omega),Ac, Q2 ((E.app (By.sgn _ _)).app (By.ti _))];simp[Js,i]
theorem Axj{a:Bp}(h:Axb a):(Ad1 a).length<=1024:=by(have d:∀(l:Cr)(f:Bool),(∀t∈l,(-1<=t.v/\t.v<3000)/\(-1048576<=t.C/\t.C<=1048576))->(Js f l a.Q).length<=47*l.length+24:=by intro l;induction l with|nil=>intro f _;have e:=Ajc (n:=a.Q.natAbs) (by have:=h.c;omega);have i:=Ajb a.Q f;simp only[Js];split<;>simp<;>omega|cons t l ih=>intro f b;have e:=Aoo f (b t ψ);have i:=ih false λu o=>b u (by simp[o]);simp only[Js,Fe,Eo];omega);have:=d a.T true h.t;have:=h.n;unfold Ad1;omega
structure CMo(m:A4):Prop where
 sz:MSz m
 nf:m.F.length<=6
 na:m.A.length<=6
 al:∀a∈m.A,Ii a.L=true/\a.L.T≠[]/\1<=a.P/\a.P<=6
theorem Aje{a:Bf}(K:Β->Ο R)(h:Ii a.L=true/\a.L.T≠[]/\1<=a.P/\a.P<=6):((Jz a.P).bind λu=>(G6 (ByteArray.mk #[97]) u).bind λv=>(G6 v (ByteArray.mk #[58])).bind λw=>(Rt a.L).bind λx=>(G6 w x).bind λy=>K y)=K (bs (Jj a)):=by have d:=Ps (n:=a.P) (by unfold Fj;omega);have e:=Axj (Aon h.1);rw[Jz,Aja (by unfold Fj;omega),Ac,c97,Xc ζ,Ac,c58,Xc ζ,Ac,A95 h.1 h.2.1,Ac,Xc ζ,Ac];simp[Jj]
theorem Ad4{a:Bf}(h:Ii a.L=true/\a.L.T≠[]/\1<=a.P/\a.P<=6):(Jj a).length<=1100:=by have d:=Ps (n:=a.P) (by unfold Fj;omega);have e:=Axj (Aon h.1);simp[Jj];omega
theorem Ajf{f:Bd}(h:Br f.I<=1048576)(d:iR f.I/\Fj f.v):(Ek f).length<=33554432:=by have e:=Ps d.2;have i:=Ano f.I d.1;simp[Ek,Lz];omega
theorem A96(h:CMo m):Abo m=some (Nb m):=by obtain⟨d,c⟩:=m;have k:∀f∈d,Br f.I<=1048576/\iR f.I/\Fj f.v:=λf o=>⟨h.sz.fi f o,h.sz.fr f o⟩;have s:∀a∈c,Ii a.L=true/\a.L.T≠[]/\1<=a.P/\a.P<=6:=h.al;have M:d.length<=6:=h.nf;have L:c.length<=6:=h.na;have z:=λ(l:Ba) (u:∀f∈l,f∈d) (j:Nat)=>Aos (g:=Ek) (n:=33554432) l j λf o=>Ajf (k f (u f o)).1 (k f (u f o)).2;have A:=λ(l:A7) (u:∀a∈l,a∈c) (j:Nat)=>Aos (g:=Jj) (n:=1100) l j λa C=>Ad4 (s a (u a C));have J:∀l:Ba,By (l.flatMap Ek):=λl=>By.flat By.fac l;have D:∀l:A7,By (l.flatMap Jj):=λl=>By.flat By.at l;have F:∀f:Bd,f∈d->Nn f.v f.I=some (bs (Ek f)):=λf o=>Aid f.v f.I (k f o).2.2 (k f o).2.1 (k f o).1;unfold Abo Nb Ad2;cases d with|nil=>(rw[Au ψ,Al];cases c with|nil=>rw[Au ψ,Al];rw[A90 By.nil];rfl|cons a c=>have C:=s a ψ;have x:=Ad4 C;rw[An (by simp only[Eo];omega),Ak,show Ag (a::c) 0=some a from rfl,Ac];refine(Aje _ C).trans ?_;rw[Xd (By.at a) ζ,Ac];refine Ad3 a c (λj=>(((j+1:Nat):Int),[]++Jj a++(c.take j).flatMap Jj)) (by simp[Aa,Bz]) (by simp at L;omega) ?_ ?_;intro j b e r H K;have i:=s b (by simp[Bm e]);have:=Ad4 i;have:=A c (λb e=>by simp[e]) j;simp at L;simp only[r,H,K,Ak,Ac];refine(Aje _ i).trans ?_;rw[Om (By.at b) (by simp only[Fe,length_nil];omega),Ac,Ajd e];simp;intro r;refine⟨[]++Jj a++c.flatMap Jj,by simp only[r,Al,Dh],?_⟩;dsimp only;rw[Q2 ((By.nil.app (By.at a)).app (D c))];simp)|cons f d=>have o:=k f ψ;have I:=Ajf o.1 o.2;rw[An (by simp only[Eo];omega),Ak,show Ag (f::d) 0=some f from rfl,Ac,F f ψ,Ac,Xd (By.fac f) ζ,Ac];refine Ad3 f d (λj=>(((j+1:Nat):Int),[]++Ek f++(d.take j).flatMap Ek)) (by simp[Aa,Bz]) (by simp at M;omega) ?_ ?_;intro j g N r H K;have q:g∈f::d:=(by simp[Bm N]);have:=Ajf (k g q).1 (k g q).2;have:=z d (λb e=>by simp[e]) j;simp at M;simp only[r,H,K,Ak,Ac];rw[F g q,Ac,Om (By.fac g) (by simp only[Fe,length_nil];omega),Ac,Ajd N];simp;intro r;have E:=z d (λb e=>by simp[e]) d.length;rw[Dh]at E;simp at M;refine⟨[]++Ek f++d.flatMap Ek,by simp only[r,Al,Dh],?_⟩;have y:By ([]++Ek f++d.flatMap Ek):=(By.nil.app (By.fac f)).app (J d);have G:([]++Ek f++d.flatMap Ek).length<=234881024:=(by simp only[Fe,length_nil];omega);have eB:(f::d).flatMap Ek=[]++Ek f++d.flatMap Ek:=ψ;rw[eB];generalize[]++Ek f++d.flatMap Ek=B at y G;cases c with|nil=>rw[Au ψ,Al,Q2 y];simp|cons a c=>have C:=s a ψ;have x:=Ad4 C;rw[An (by simp only[Eo];omega),Ak,show Ag (a::c) 0=some a from rfl,Ac];refine(Aje _ C).trans ?_;rw[Om (By.at a) ω,Ac];refine Ad3 a c (λj=>(((j+1:Nat):Int),B++Jj a++(c.take j).flatMap Jj)) (by simp[Aa,Bz]) (by simp at L;omega) ?_ ?_;intro j b e r H K;have i:=s b (by simp[Bm e]);have:=Ad4 i;have:=A c (λb e=>by simp[e]) j;simp at L;simp only[r,H,K,Ak,Ac];refine(Aje _ i).trans ?_;rw[Om (By.at b) (by simp only[Fe];omega),Ac,Ajd e];simp;intro r;refine⟨B++Jj a++c.flatMap Jj,by simp only[r,Al,Dh],?_⟩;dsimp only;rw[Q2 ((y.app (By.at a)).app (D c))];simp
def plc(ts:Ap):At:=ts.zipIdx.map λq=>(Nb q.1.M,(q.2:Int))
def Dst(ts:Ap):Prop:=ts.Pairwise λt u=>t.M≠u.M
theorem A97(ts:Ap)(t:Aj):plc (ts++[t])=plc ts++[(Nb t.M,(ts.length:Int))]:=by unfold plc;simp[zipIdx_append]
theorem Ad5(ts:Ap)(j:Nat):(plc ts)[j]?=(ts[j]?).map λt=>(Nb t.M,(j:Int)):=by unfold plc;simp[getElem?_map,getElem?_zipIdx];cases ts[j]?<;>rfl
theorem A98{ts:Ap}(h:ts[j]?=some t)(b:u.M=t.M):plc (ts.set j u)=plc ts:=by apply ext_getElem?;intro i;rw[Ad5,Ad5,getElem?_set];by_cases e:j=i;subst e;rw[Av rfl,Av (Dq h),h];simp[b];rw[As e]
theorem Aot{α:Type}:∀(o:Λ (Β×α))(s:Β)(v:α),Fz o s=false->G7 o s v=o++[(s,v)]
 |[],_,_,_=>rfl
 |p::o,s,v,h=>by simp only[Fz,any_cons,Bool.or_eq_false_iff]at h;simp only[G7,h.1,Al,Fd,List.cons.injEq,true_and];exact Aot o s v h.2
theorem A99{ts:Ap}(h:∀t∈ts,t.M≠m):Fz (plc ts) (Nb m)=false:=by unfold Fz;rw[any_eq_false];intro p hp;obtain⟨j,d⟩:=Gl hp;rw[Ad5]at d;cases i:ts[j]? with|none=>rw[i]at d;cases d|some t=>rw[i]at d;simp only[Option.map_some,Option.some.injEq]at d;subst d;intro e;have e:=(Of _ _).1 e;exact h t (Bm i) (Aw9 e).symm
theorem Baa{ts:Ap}(s:Dst ts)(h:ts[j]?=some t):Fz (plc ts) (Nb t.M)=true/\I5 (plc ts) (Nb t.M) 0=(j:Int):=by(have hp:(plc ts)[j]?=some (Nb t.M,(j:Int)):=by rw[Ad5,h];rfl);refine⟨any_eq_true.2 ⟨_,Bm hp,(Of _ _).2 rfl⟩,?_⟩;unfold I5;(have r:(plc ts).find? (λp=>Nb t.M==p.1)=some (Nb t.M,(j:Int)):=by cases r:(plc ts).find? (λp=>Nb t.M==p.1)with|none=>have:=find?_eq_none.1 r _ (Bm hp);exact(this ((Of _ _).2 rfl)).elim|some q=>have A:=find?_some r;obtain⟨i,d⟩:=Gl (mem_of_find?_eq_some r);rw[Ad5]at d;cases o:ts[i]? with|none=>rw[o]at d;cases d|some u=>rw[o]at d;simp only[Option.map_some,Option.some.injEq]at d;subst d;have e:=Aw9 ((Of _ _).1 A);(have f:i=j:=by have c:=Dq o;have b:=Dq h;rw[Bi c]at o;rw[Bi b]at h;rcases Nat.lt_trichotomy i j with k|k|k;have:=pairwise_iff_getElem.1 s i j c b k;rw[E6 o,E6 h]at this;exact(this e.symm).elim;exact k;have:=pairwise_iff_getElem.1 s j i b c k;rw[E6 o,E6 h]at this;exact(this e).elim);subst f;rw[e]);rw[r];rfl
open Classical in
theorem Pu(t:Aj)(p:Ap)(m:A4):cf (t::p) m=(if t.M=m then rq t.C else 0)+cf p m:=by simp only[cf];by_cases e:t.M=m;rw[Av (Lj.2 e),Av e];rw[As λh=>e (Lj.1 h),As e]
open Classical in
theorem Aou:∀{ts:Ap}{j:Nat}{t u:Aj},ts[j]?=some t->u.M=t.M->∀m,cf (ts.set j u) m=cf ts m+(if t.M=m then rq u.C-rq t.C else 0)
 |[],j,t,u,h,_,m=>by simp at h
 |s::ts,0,t,u,h,d,m=>by simp only[getElem?_cons_zero,Option.some.injEq]at h;subst h;rw[set_cons_zero,Pu,Pu,d];split<;>grind
 |s::ts,j+1,t,u,h,d,m=>by simp only[getElem?_cons_succ]at h;rw[set_cons_succ,Pu,Pu,Aou h d m];grind
theorem Dst.set{ts:Ap}(h:Dst ts)(d:ts[j]?=some t)(b:u.M=t.M):Dst (ts.set j u):=by(have e:(ts.set j u).map (·.M)=ts.map (·.M):=by apply ext_getElem?;intro i;rw[getElem?_map,getElem?_map,getElem?_set];by_cases e:j=i;subst e;rw[Av rfl,Av (Dq d),d];simp[b];rw[As e]);(have k:∀l:Ap,Dst l↔(l.map (·.M)).Pairwise (·≠·):=λl=>by rw[pairwise_map];exact Iff.rfl);rw[k,e,<-k];exact h
structure Col(k:Nat)(P:A4->Prop)(ts:List Aj):Prop where
 dst:Dst ts
 tb:∀t∈ts,RB k t.C
 mo:∀t∈ts,P t.M
theorem Col.nil(k:Nat)(P:A4->Prop):Col k P []:=⟨Pairwise.nil,λ_ h=>(by cases h),λ_ h=>(by cases h)⟩
theorem Aov(t u:Aj)(h:MSz t.M):Rq t u=some (D5 t.M u.M):=by unfold Rq;rw[Avu _ _ h];rfl
theorem Bab(A R:Λ α)(x y:α):((A++y::x::R).set (A.length+1) y).set A.length x=A++x::y::R:=by induction A with|nil=>rfl|cons a A ih=>simp only[Fd,Eo,set_cons_succ,ih]
theorem Axk(A R:Λ α)(x:α):(A++x::R)[A.length]?=some x:=by simp
theorem Bac(A R:Λ α)(x y:α):(A++y::x::R)[A.length+1]?=some x:=by induction A with|nil=>rfl|cons a A ih=>simp
theorem Bad{step:Int×List Aj->Cv}(N:Nat)(G:N<4611686018427387904)(b:∀(x:Aj)(R:Ap),step (0,x::R)=some (.inr (0,x::R)))(l:∀(A R:Ap)(x y:Aj),(∀t∈A++y::x::R,MSz t.M)->(A++y::x::R).length<=N->step (((A.length+1:Nat):Int),A++y::x::R)=if D5 x.M y.M<0 then some (.inl ((A.length:Int),A++x::y::R))else some (.inr (((A.length+1:Nat):Int),A++y::x::R))):∀(n:Nat)(A R:Ap)(x:Aj),A.length=n->(∀t∈A++x::R,MSz t.M)->(A++x::R).length<=N->∃f i,Am step ((A.length:Int),A++x::R)=some ((f.length:Int),f++x::(i++R))/\A=f++i/\(∀a∈i,ltT x a)/\∀q y,f=q++[y]->¬ltT x y:=by intro n;induction n with|zero=>intro A R x g _ _;have:A=[]:=F5.1 g;subst this;exact⟨[],[],Ej (b x R),rfl,nofun,(λq y h=>by simp at h)⟩|succ n ih=>intro A R x g k c;(obtain⟨B,y,rfl⟩:∃B y,A=B++[y]:=by rcases eq_nil_or_concat A with h|⟨B,y,h⟩;rw[h]at g;cases g;exact⟨B,y,by simpa using h⟩);have u:B.length=n:=(by simpa using g);have E:(B++[y])++x::R=B++y::x::R:=ψ;have el:(((B++[y]).length:Nat):Int)=((B.length+1:Nat):Int):=ψ;rw[E]at k c⊢;rw[el];have j:=l B R x y k c;by_cases o:D5 x.M y.M<0;rw[Av o]at j;obtain⟨f,i,C,F,H,D⟩:=ih B (y::R) x u (by intro t r;refine k t ?_;simp only[Ea,En]at r⊢;rcases r with h|h|h|h<;>simp[h]) (by simpa using c);refine⟨f,i++[y],?_,by rw[F];simp,?_,D⟩;rw[Ks j,C];simp;intro a d;rcases Ea.1 d with d|d;exact H a d;simp only[Fh]at d;subst d;exact o;rw[As o]at j;refine⟨B++[y],[],?_,ψ,nofun,?_⟩;rw[Ej j];simp;intro q z s;have:=append_inj' s rfl;have e:y=z:=(by simpa using this.2);subst e;exact o
theorem Bae{a b c:Aj}(h:ltT a b)(d:ltT b c):ltT a c:=Ut h d
theorem Baf{c j:Ap}{x:Aj}(u:(c++j).Pairwise ltT)(o:∀a∈j,ltT x a)(r:∀g y,c=g++[y]->¬ltT x y)(A:∀a∈c,a.M≠x.M):(c++x::j).Pairwise ltT:=by obtain⟨i,s,l⟩:=pairwise_append.1 u;(have B:∀a∈c,ltT a x:=by intro a d;rcases eq_nil_or_concat c with h|⟨g,y,h⟩;rw[h]at d;cases d;have h:c=g++[y]:=(by simpa using h);(have f:ltT y x:=by have q:=r g y h;have C:=A y (by rw[h];simp);unfold ltT at *;rcases Int.lt_trichotomy (D5 x.M y.M) 0 with k|k|k;exact(q k).elim;exact(C (Lj.1 k).symm).elim;exact Aod.1 k);rw[h]at d i;rcases Ea.1 d with d|d;exact Bae ((pairwise_append.1 i).2.2 a d y ψ) f;simp only[Fh]at d;subst d;exact f);refine pairwise_append.2 ⟨i,pairwise_cons.2 ⟨o,s⟩,λa d b e=>?_⟩;rcases En.1 e with rfl|e;exact B a d;exact l a d b e
noncomputable def Ad6:Int×List Aj->Cv:=λ(d,b)=>(show OB from bif d>(0:Int)then((Ag b d).bind λh=>(Ag b (Aa (d-1))).bind λg=>(Rq h g).bind λi=>some (decide (i<(0:Int))))else some false).bind λf=>bif f then((Ag b (Aa (d-1))).bind λe=>(Ag b d).bind λc=>(Ag b d).bind λo=>(Ag (Cl b d e) (Aa (d-1))).bind λq=>some (.inl (Aa (d-1),Cl (Cl b d e) (Aa (d-1)) c)))else some (.inr (d,b))
theorem Bag(y:Aj)(R:Ap):Ad6 (0,y::R)=some (.inr (0,y::R)):=by unfold Ad6;simp only[Au (ω:¬(0:Int)>0),Al,Ac]
theorem Bah{N:Nat}(h:N<=1099511627776)(A R:Ap)(u y:Aj)(b:∀t∈A++y::u::R,MSz t.M)(c:(A++y::u::R).length<=N):Ad6 (((A.length+1:Nat):Int),A++y::u::R)=if D5 u.M y.M<0 then some (.inl ((A.length:Int),A++u::y::R))else some (.inr (((A.length+1:Nat):Int),A++y::u::R)):=by(have g:A.length+1<N:=by simp at c;omega);(have f:Aa (((A.length+1:Nat):Int)-1)=(A.length:Int):=by rw[Aa,Bz]<;>omega);unfold Ad6;simp only[An (ω:((A.length+1:Nat):Int)>0),Ak,f,Bq (n:=A.length+1) rfl (Bac A R u y),Bq (n:=A.length) rfl (Axk A (u::R) y),Ac,Aov u y (b u ψ)];by_cases d:D5 u.M y.M<0;rw[An d,Av d];simp only[Ak];rw[Gw (n:=A.length+1) rfl,Gw (n:=A.length) rfl,Bab];have:Ag ((A++y::u::R).set (A.length+1) y) (A.length:Int)=some y:=(by refine Bq rfl ?_;rw[getElem?_set_ne ω];exact Axk A (u::R) y);rw[this];rfl;rw[Au d,As d];rfl
theorem Bai(b:Ap)(H:Dst b)(I:∀t∈b,MSz t.M)(N:b.length<=1099511627776):∃R,Acg 0 (b.length:Int) b=some R/\R.Perm b/\R.Pairwise ltT:=by
 unfold Acg;cases b with
 |nil=>refine⟨[],?_,Perm.refl _,Pairwise.nil⟩;refine Ml 0 (λ_=>((1:Int),([]:Ap))) (by simp[Aa,Bz]) (λj Q=>ω) ⟨[],?_,rfl⟩;simp
 |cons F A=>
 generalize f:F::A=b at *;have e:1<=b.length:=by rw[<-f];simp
 refine Ft (λs=>∃(i:Nat)(S:Ap),s=((i:Int),S++b.drop i)/\1<=i/\i<=b.length/\S.length=i/\S.Perm (b.take i)/\S.Pairwise ltT) (λs=>b.length-s.1.toNat) (λR=>R.Perm b/\R.Pairwise ltT) ⟨1,[F],by rw[<-f];simp[Aa,Bz],ω,e,rfl,by rw[<-f];simp,pairwise_singleton _ _⟩ ?_ ?_
 .rintro _ ⟨i,S,rfl,J,T,G,c,k⟩;rcases Cj i b.length with h|h
  .have C:b[i]?=some b[i]:=Bi h;generalize b[i]=x at C;have g:b.drop i=x::b.drop (i+1):=Mo C;have z:(S++x::b.drop (i+1)).length=b.length:=ζ;have y:∀t∈S++x::b.drop (i+1),t∈b:=by
    intro t d;rcases Ea.1 d with d|d
    .exact mem_of_mem_take (c.mem_iff.1 d)
    .rw[<-g]at d;exact mem_of_mem_drop d
   simp only[An (ω:(i:Int)<(b.length:Int)),Ak,Dl h ω];rw[g];left;obtain⟨q,l,r,o,K,L⟩:=Bad (step:=Ad6) b.length ω Bag (Bah ω) S.length S (b.drop (i+1)) x rfl (λt d=>I t (y t d)) (by rw[z];exact Nat.le_refl _);rw[G]at r;have hp:(q++x::l).Perm (b.take (i+1)):=(by rw[Cs C];have:(q++x::l).Perm ((q++l)++[x]):=(by rw[append_assoc];exact Perm.append_left q (perm_append_singleton x l).symm);exact this.trans (by rw[<-o];exact c.append_right [x]));refine⟨(((i+1:Nat):Int),(q++x::l)++b.drop (i+1)),Ff r ψ,⟨i+1,q++x::l,rfl,ω,ω,?_,hp,?_⟩,ζ⟩
   .rw[hp.length_eq,length_take];omega
   .rw[o]at k;refine Baf k K L λa M=>?_;have E:a∈b.take i:=c.mem_iff.1 (by rw[o];simp[M]);have B:x∈b.drop i:=(by rw[g];simp);have D:(b.take i++b.drop i).Pairwise λt u=>t.M≠u.M:=(by rw[take_append_drop];exact H);exact(pairwise_append.1 D).2.2 a E x B
  .have:i=b.length:=ω;subst this;rw[Dh]at c;simp only[Au (ω:¬(b.length:Int)<(b.length:Int)),Al,drop_length,append_nil];exact .inr ⟨S,rfl,c,k⟩
 .rintro R ⟨r,o⟩;exact⟨R,rfl,r,o⟩
theorem On{l:Λ α}(h:n=l.length):Hx n l=some ():=by unfold Hx;rw[Av h]
theorem Baj{s:Β}{i:Int}(h0:0<=i)(h:i.toNat<s.size):∃c,G3 s i=some c:=by unfold G3;rw[Av h0];exact⟨_,getElem?_pos s i.toNat h⟩
set_option maxRecDepth 20000 in
theorem Axl{n:Nat}(h:n<256):∃v,Yt (Bc (n:Int))=some v:=by unfold Yt Agv;rw[Bc,D7 ω ω,Au ω];simp only[Al,Ac];rw[Au ω];simp only[Al,Ac];rw[Au ω];simp only[Al,Ac];(have b:wu8 (n:Int)=(n:Int):=by rw[wu8];unfold IntKind.wrap;simp[IntKind.bits,IntKind.signed];omega);rw[b];generalize g:ByteArray.mk _=T;(have f:T.size=256:=by rw[<-g];rfl);obtain⟨c,d⟩:=Baj (s:=T) (i:=(n:Int)) ω (by rw[f];simpa using h);rw[d];exact⟨_,rfl⟩
theorem Bak(b:Ap)(e:Dst b)(f:∀t∈b,MSz t.M)(h:b.length<=12):∃R,Ro b=some R/\R.Perm b/\R.Pairwise ltT:=by obtain⟨R,i,d,o⟩:=Bai b e f ω;obtain⟨v,c⟩:=Axl (n:=b.length) ω;refine⟨R,?_,d,o⟩;unfold Ro;rw[Nat.ble_eq_true_of_le h,Ak];unfold Amu;rw[c,Ac];(have hp:Abz 0 (b.length:Int) v b=some R:=by unfold Abz;refine Ff (a:=R) (Ej ?_) rfl;have w:Aa ((b.length:Int)-0)=(b.length:Int):=ξ;simp only[w,An (ω:(b.length:Int)<=12),Ak,i,Ac,On d.length_eq.symm]);rw[hp,Ac,On d.length_eq.symm];rfl
def clT(t:Aj):Aj:=⟨Cd (sv t.C) (nv t.C) (dv t.C),t.M⟩
theorem Bal(p:Ap)(r:k<34359738000)(hp:∀t∈p,RB k t.C/\MSz t.M)(s:p.length<=1048576):Yn p=some (p.map clT):=by unfold Yn;refine Fi p (λj=>((j:Int),(p.take j).map clT)) rfl ω ?_ ?_;intro j x A d e h i;obtain⟨o,q⟩:=hp x (Bm d);simp only[e,h,i,Ak,Ac,Ait x.C k o ω,A9v x.M q];rw[Dj ζ,Ac,Cs d];simp[clT];intro e;exact⟨p.map clT,ψ,rfl⟩
theorem Bam(p:Ap)(m:A4):cf (p.map clT) m=cf p m:=by induction p with|nil=>rfl|cons t p ih=>simp only[map_cons,cf,ih,clT];rw[Ur _ _ _ (G1 _)];rfl
theorem Ban{q:Ap}(h:p.Perm q)(m:A4):cf p m=cf q m:=by induction h with|nil=>rfl|cons x _ ih=>simp only[cf,ih]|swap x y l=>simp only[cf];grind|trans _ _ d e=>rw[d,e]
def nzT(t:Aj):Bool:=decide (rq t.C≠0)
theorem Bao(p:Ap)(m:A4):cf (p.filter nzT) m=cf p m:=by induction p with|nil=>rfl|cons t p ih=>by_cases h:rq t.C=0;rw[filter_cons_of_neg (by simp[nzT,h]),ih];simp only[cf,h];grind;rw[filter_cons_of_pos (by simp[nzT,h])];simp only[cf,ih]
theorem Bap(x:Rat):(Qz x != (0:Int))=decide (x≠0):=by unfold Qz;by_cases d:x<0;rw[Av d];have:x≠0:=(by intro e;subst e;exact absurd d δ);simp[this];rw[As d];by_cases h:0<x;rw[Av h];have:x≠0:=(by intro e;subst e;exact absurd h δ);simp[this];rw[As h];have:x=0:=Rat.le_antisymm (Rat.not_lt.1 h) (Rat.not_lt.1 d);simp[this]
theorem Axm{f:α->Bool}{l:Λ α}{x:α}(h:l[j]?=some x):(l.take (j+1)).filter f=(l.take j).filter f++(if f x then[x]else[]):=by rw[Cs h,filter_append];congr 1;cases k:f x<;>simp[filter,k]
end Go.Ab
