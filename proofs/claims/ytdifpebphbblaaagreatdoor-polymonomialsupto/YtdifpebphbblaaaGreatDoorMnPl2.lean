/- Plain laws. -/
import Derived.Test.YtdifpebphbblaaaGreatDoorMnPl1
import Derived.KernelRfl
open List
namespace Go.Ab
open Go
variable {a:Bj} {A K N P U V W X b c d f g h hb i j o q r s t tb u x y:Int} {l:List Int} {k n off:Nat}
theorem O9 {α:Type} {l:List α} (hi:i=k) (e:k<n) (h:off+k<l.length):Jf l off n i=some l[off+k]:=by subst hi;have v:(0:Int)<=(k:Int):=ω;have w:(k:Int)<(n:Int):=ω;simp[Jf,e,h]
theorem Axn {k B:Int} (i:0<P) (x:V=j+P*tb) (s:0<=j) (y:U=k+P*hb) (u:k<P) (v:q*V<=U) (c:0<=g) (h:hb<g*tb) (b:0<=tb):q<g:=by
 rcases Int.lt_or_le q g with e|e
 .exact e
 .exfalso;have f:0<=V:=(by have:=Int.mul_nonneg (Int.le_of_lt i) b;omega);have w:g*V<=q*V:=Int.mul_le_mul_of_nonneg_right e f;have C:g*(P*tb)<=g*V:=Int.mul_le_mul_of_nonneg_left ω c;have E:P*(hb+1)<=P*(g*tb):=Int.mul_le_mul_of_nonneg_left ω (Int.le_of_lt i);have A:g*(P*tb)=P*(g*tb):=(by grind);have z:P*(hb+1)=P*hb+P:=(by grind);omega
theorem Anb {k:Int} (i:0<P) (z:V=j+P*tb) (u:j<P) (A:U=k+P*hb) (x:0<=k) (E:U<(q+1)*V) (s:0<=g) (w:g<=tb+1) (h:g*tb<=hb) (b:0<V):g<=q+1:=by
 rcases Int.lt_or_le (q+1) g with e|e
 .exfalso;have f:0<=g-1:=by
   rcases Int.lt_or_le g 1 with v|v
   .have:g=0:=ω;subst this;have c:q+1<0:=e;have:(q+1)*V<0:=Int.mul_neg_of_neg_of_pos c b;have C:0<=hb:=(by simpa using h);have:=Int.mul_nonneg (Int.le_of_lt i) C;omega
   .omega
  have F:(q+1)*V<=(g-1)*V:=Int.mul_le_mul_of_nonneg_right ω (Int.le_of_lt b);have y:P*(tb+1)=P*tb+P:=(by grind);have v:(g-1)*V<=(g-1)*(P*(tb+1)):=Int.mul_le_mul_of_nonneg_left ω f;have G:(g-1)*(P*(tb+1))=P*(g*tb+(g-tb-1)):=(by grind);have B:P*(g*tb+(g-tb-1))<=P*hb:=Int.mul_le_mul_of_nonneg_left ω (Int.le_of_lt i);omega
 .exact e
theorem Axo {A C:Type} {X:Option (A×C)} {Q:A->C->Prop} (h:∃r,X=some r/\Q r.1 r.2):∃q o,X=some (q,o)/\Q q o:=by obtain⟨⟨a,c⟩,e,v⟩:=h;exact⟨a,c,e,v⟩
theorem al1 (k:g*t+r=h):(g-1)*t+(r+t)=h:=by grind
theorem al2 {p:Int} (e:s-1000000000*d=x-b-p):o+P*(s-x)-P*1000000000*d=(o-P*b)-P*p:=by grind
theorem al3 (b X K g A y:Int):b-X*(g*A)-X*K*(g*y)=b-X*(g*(A+K*y)):=by grind
theorem al4 (h:u+X*(W+N*c-U)-X*N*b=u-X*(g*V)):X*(U-g*V)=X*(W+N*(c-b)):=by grind
theorem al5 (u X q:Int):u-X*q-u=X*(-q):=by grind
theorem al6 (h:o-P*b=r):o+P*(x-b-x)=r:=by grind
theorem al7 (i:x+y+c=s) (f:1000000000*(s / 1000000000)+s % 1000000000=s) (h:b+X*K*c=o+X*A):b+X*K*(s % 1000000000-x)+X*K*1000000000*(s / 1000000000)=o+X*(A+K*y):=by grind
theorem al8 (e:o-X*N*b=u-X*((q+1)*V)) (v:u+X*(W+N*f-U)+X*N*c=o+X*V):X*(U-q*V)=X*(W+N*(f-b+c)):=by grind
theorem al9 (e:i+P*c=o+X*V) (v:o-P*b=u-X*((q+1)*V)) (w:f=b-c):i+P*(0-f)=u-X*(q*V):=by grind
theorem gtb (k:g*t+r=h):g*(t*1000000000+x)=(h-r)*1000000000+g*x:=by subst k;grind
theorem Afj (h:(1000000000:Int) ^ k*x=1000000000 ^ k*y):x=y:=Int.eq_of_mul_eq_mul_left (by have:=Kc k;omega) h
theorem Anc {o u:List Int} (b:off<=o.length) (e:off<=u.length) (h:o.take off=u.take off):As o-As u=1000000000 ^ off*(As (o.drop off)-As (u.drop off)):=by rw[Mp o off b,Mp u off e,h];grind
theorem Aaa (h:Cf l) (k:Nat):0<=As (l.drop k):=Hr (h.drop k).u32
theorem Axp {D:List Int} (b:Cf D) (B:2<=n) (j:n<D.length) (i:As D<1000000000 ^ (n+1)) : As D=As (D.take (n-2))+1000000000 ^ (n-2)*((D[n]*1000000000+D[n-1])*1000000000+D[n-2]):=by
 have e:=Mp D (n+1) j;have v:As (D.drop (n+1))=0:=by
  have x:=Aaa b (n+1);have C:=Hr ((b.take (n+1)).u32);rcases Int.lt_or_le 0 (As (D.drop (n+1))) with h|h
  .have:(1000000000:Int) ^ (n+1)*1<=1000000000 ^ (n+1)*As (D.drop (n+1)):=Int.mul_le_mul_of_nonneg_left h (Int.le_of_lt (Kc _));omega
  .omega
 rw[v,Int.mul_zero,Int.add_zero]at e;obtain⟨t,rfl⟩:∃t,n=t+2:=⟨n-2,ω⟩;have u:=Hq D (k:=t) ω;have s:=Hq D (k:=t+1) ω;have q:=Hq D (k:=t+2) ω;have f:(1000000000:Int) ^ (t+1)=1000000000 ^ t*1000000000:=Int.pow_succ ..;have c:(1000000000:Int) ^ (t+2)=1000000000 ^ (t+1)*1000000000:=Int.pow_succ ..;have w:t+2-2=t:=rfl;have z:t+2-1=t+1:=rfl;simp only[w,z];rw[e,q,s,u,c,f];grind
theorem Axq {v:List Int} (B:2<=n) (i:v.length=n) : As v=As (v.take (n-2))+1000000000 ^ (n-2)*(v[n-1]*1000000000+v[n-2]):=by obtain⟨t,rfl⟩:∃t,n=t+2:=⟨n-2,ω⟩;have f:=Hq v (k:=t) ω;have b:=Hq v (k:=t+1) ω;have e:v.take (t+1+1)=v:=Iy ω;rw[e]at b;have c:(1000000000:Int) ^ (t+1)=1000000000 ^ t*1000000000:=Int.pow_succ ..;have w:t+2-2=t:=rfl;have z:t+2-1=t+1:=rfl;simp only[w,z];rw[b,f,c];grind
set_option maxHeartbeats 1000000 in
theorem Axr (v u:List Int) (off n:Nat) (T:Cf v) (hu:Cf u) (hn:v.length=n) (h2:2<=n) (bx:n<1099511627776) (bn:500000000<=v[n-1]) (X:off+n<u.length) (hT:As (u.drop off)<As v*1000000000) : ∃q o,Vu off (n+1) v u=some (q,o)/\o.length=u.length/\Cf o/\0<=q/\q<1000000000/\As o=As u-1000000000 ^ off*(q*As v)/\0<=As (o.drop off)/\As (o.drop off)<As v:=by
 have b7:=Ju T;rw[hn]at b7;have c9:(u.drop off).length=u.length-off:=length_drop;have D:=hu.drop off;have bm:=Hr D.u32;have b9:As (u.drop off)<1000000000 ^ (n+1):=by rw[Int.pow_succ];omega
 have ab:=Axp D h2 ω b9;have ao:=Axq h2 hn;have gd:∀i (h:i<(u.drop off).length),(u.drop off)[i]=u[off+i]' ω:=λi h=>getElem_drop;rw[gd,gd,gd]at ab;have bq:=hu.get (i:=off+n) ω;have bt:=hu.get (i:=off+(n-1)) ω;have br:=hu.get (i:=off+(n-2)) ω;have bu:=T.get (i:=n-1) ω;have ad:=T.get (i:=n-2) ω;have hP:=Kc (n-2);have b8:=Hr ((T.take (n-2)).u32);have aa:=Ju (T.take (n-2));rw[length_take,Nat.min_eq_left ω]at aa;have bb:=Hr ((D.take (n-2)).u32);have ba:=Ju (D.take (n-2));rw[length_take,Nat.min_eq_left ω]at ba;have z:0<As v:=by have:(1000000000:Int) ^ (n-2)*1<=1000000000 ^ (n-2)*(v[n-1]*1000000000+v[n-2]):=Int.mul_le_mul_of_nonneg_left ω (Int.le_of_lt hP);omega
 generalize hq:As (u.drop off) / As v=q;have bh:q*As v<=As (u.drop off):=by rw[<-hq];exact Int.ediv_mul_le _ ω
 have ar:As (u.drop off)<(q+1)*As v:=by rw[<-hq];have:=Int.lt_ediv_add_one_mul_self (As (u.drop off)) z;exact this
 have ag:0<=q:=by rw[<-hq];exact Int.ediv_nonneg bm ω
 have bf:q<1000000000:=by rw[<-hq];exact Int.ediv_lt_of_lt_mul z (by rw[Int.mul_comm];exact hT)
 have y:(0:Int)<v[n-1]:=ω;generalize ak:u[off+n]*1000000000+u[off+(n-1)]=head at ab;have am:0<=head:=ω;have c7:head<=v[n-1]*1000000000+v[n-2]:=by
  rcases Int.lt_or_le (v[n-1]*1000000000+v[n-2]) head with h|h
  .exfalso;have a1:(1000000000:Int) ^ (n-2)*((v[n-1]*1000000000+v[n-2]+1)*1000000000)<=1000000000 ^ (n-2)*(head*1000000000+u[off+(n-2)]):=Int.mul_le_mul_of_nonneg_left ω (Int.le_of_lt hP);have a2:As v*1000000000<(1000000000 ^ (n-2)*(v[n-1]*1000000000+v[n-2]+1))*1000000000:=(by have:(1000000000:Int) ^ (n-2)*(v[n-1]*1000000000+v[n-2]+1)=1000000000 ^ (n-2)*(v[n-1]*1000000000+v[n-2])+1000000000 ^ (n-2):=(by grind);omega);have a3:((1000000000:Int) ^ (n-2)*(v[n-1]*1000000000+v[n-2]+1))*1000000000=1000000000 ^ (n-2)*((v[n-1]*1000000000+v[n-2]+1)*1000000000):=(by grind);omega
  .exact h
 have c8:0<=head / v[n-1]:=Int.ediv_nonneg am ω;have bk:head / v[n-1]<=1000000001:=by have:head / v[n-1]<1000000002:=Int.ediv_lt_of_lt_mul y ω;omega
 have be:=Int.emod_nonneg head (ω:v[n-1]≠0);have bv:=Int.emod_lt_of_pos head y;have bl:=Int.mul_ediv_add_emod head v[n-1];unfold Vu;have w1:Ac ((v.length:Int)-1)=((n-1:Nat):Int):=by rw[Ac,B6] <;> omega
 have w2:Ac ((v.length:Int)-2)=((n-2:Nat):Int):=by rw[Ac,B6] <;> omega
 have w3:(v.length:Int)=((n:Nat):Int):=ω;have x1:Bh u[off+n]=u[off+n]:=E4 ω ω;have x2:Bh (u[off+n]*1000000000)=u[off+n]*1000000000:=E4 ω ω;have x3:Bh u[off+(n-1)]=u[off+(n-1)]:=E4 ω ω;have x4:Bh (u[off+n]*1000000000+u[off+(n-1)])=head:=by rw[Bh,E4 ω ω,ak]
 have x5:Bh v[n-1]=v[n-1]:=E4 ω ω;have x6:Bh v[n-2]=v[n-2]:=E4 ω ω;have x7:Bh u[off+(n-2)]=u[off+(n-2)]:=E4 ω ω;rw[w1,w2,Gn rfl (ω:n-1<v.length),Ag,Gn rfl (ω:n-2<v.length),Ag,w3,O9 rfl (ω:n<n+1) ω,Ag,O9 rfl (ω:n-1<n+1) ω,Ag,x1,x2,x3,x4,x5,x6,Nr am ω y,Ag,Mn am y,Ag];refine Axo (F4 (λ(g,w)=>g*v[n-1]+w=head/\0<=w/\w<2000000000/\q<=g/\g<=1000000001) (λ(g,_)=>g.toNat) (λg=>q<=g/\g<=q+1/\g<=1000000000) ⟨by rw[Int.mul_comm];exact bl,be,ω,?_,bk⟩ ?_ ?_)
 .rcases Int.lt_or_le (head / v[n-1]) q with h|h
  .exfalso;have a1:(head / v[n-1]+1)*v[n-1]<=q*v[n-1]:=Int.mul_le_mul_of_nonneg_right ω ω;have a2:head<(head / v[n-1]+1)*v[n-1]:=Int.lt_ediv_add_one_mul_self head y;have a3:q*(1000000000 ^ (n-2)*(v[n-1]*1000000000+v[n-2]))<=q*As v:=Int.mul_le_mul_of_nonneg_left ω ag;have a4:(1000000000:Int) ^ (n-2)*((head+1)*1000000000)<=1000000000 ^ (n-2)*(q*(v[n-1]*1000000000+v[n-2])):=(by apply Int.mul_le_mul_of_nonneg_left _ (Int.le_of_lt hP);have b1:(head+1)*1000000000<=q*v[n-1]*1000000000:=ω;have b2:0<=q*v[n-2]:=Int.mul_nonneg ag ad.1;have b3:q*(v[n-1]*1000000000+v[n-2])=q*v[n-1]*1000000000+q*v[n-2]:=(by grind);omega);have a5:q*((1000000000:Int) ^ (n-2)*(v[n-1]*1000000000+v[n-2]))=1000000000 ^ (n-2)*(q*(v[n-1]*1000000000+v[n-2])):=(by grind);have a6:(1000000000:Int) ^ (n-2)*((head+1)*1000000000)=1000000000 ^ (n-2)*(head*1000000000)+1000000000 ^ (n-2)*1000000000:=(by grind);have a7:(1000000000:Int) ^ (n-2)*(head*1000000000+u[off+(n-2)])=1000000000 ^ (n-2)*(head*1000000000)+1000000000 ^ (n-2)*u[off+(n-2)]:=(by grind);have a8:(1000000000:Int) ^ (n-2)*(u[off+(n-2)]+1)<=1000000000 ^ (n-2)*1000000000:=Int.mul_le_mul_of_nonneg_left ω (Int.le_of_lt hP);have a9:(1000000000:Int) ^ (n-2)*(u[off+(n-2)]+1)=1000000000 ^ (n-2)*u[off+(n-2)]+1000000000 ^ (n-2):=(by grind);omega
  .exact h
 .rintro⟨g,w⟩ ⟨k1,k2,k3,k4,k5⟩;have S:0<=g:=ω;have w4:Bh (v[n-1])=v[n-1]:=x5;have af:∀(C:q<g),(some (Sum.inl ((Bh (g-1)),(Bh (w+v[n-1])))):Option ((Int×Int)⊕Int))=some (.inl (g-1,w+v[n-1])):=(by intro C;rw[show Bh (g-1)=g-1 from E4 ω ω,show Bh (w+v[n-1])=w+v[n-1] from E4 ω ω]);have H:∀(hr:w<1000000000) (C:q<g),(g-1)*v[n-1]+(w+v[n-1])=head/\0<=w+v[n-1]/\w+v[n-1]<2000000000/\q<=g-1/\g-1<=1000000001:=(by intro hr C;exact⟨al1 k1,ω,ω,ω,ω⟩);by_cases hr:w<1000000000
  .by_cases Y:g>=1000000000
   .refine .inl ⟨(g-1,w+v[n-1]),?_,H hr ω,ζ⟩;simp only[Ap hr,Am,Ap Y,Ag];exact af ω
   .have bp:=Afi S ω ad.1 ad.2;have y1:Bh (g*v[n-2])=g*v[n-2]:=E4 ω ω;have y2:Bh (w*1000000000)=w*1000000000:=E4 ω ω;have y3:Bh (w*1000000000+u[off+(n-2)])=w*1000000000+u[off+(n-2)]:=E4 ω ω;have az:g*(v[n-1]*1000000000+v[n-2])=(head-w)*1000000000+g*v[n-2]:=gtb k1;simp only[Ap hr,Am,Ax Y,Av,O9 rfl (ω:n-2<n+1) (ω:off+(n-2)<u.length),Ag,y1,x7,y2,y3];by_cases ae:g*v[n-2]>w*1000000000+u[off+(n-2)]
    .have C:q<g:=Axn (P:=1000000000 ^ (n-2)) (tb:=v[n-1]*1000000000+v[n-2]) (hb:=head*1000000000+u[off+(n-2)]) (B:=0) hP ao b8 ab ba bh S ω ω;refine .inl ⟨(g-1,w+v[n-1]),?_,H hr C,ζ⟩;rw[Ap ae,Am];exact af C
    .refine .inr ⟨g,by rw[Ax ae,Av],k4,?_,ω⟩;exact Anb (P:=1000000000 ^ (n-2)) (tb:=v[n-1]*1000000000+v[n-2]) (hb:=head*1000000000+u[off+(n-2)]) hP ao aa ab bb ar S ω ω z
  .refine .inr ⟨g,by simp only[Ax hr,Av,Ag],k4,?_⟩;have Y:g<=1000000000:=by
    rcases Int.lt_or_le 1000000000 g with h|h
    .exfalso;have:g=1000000001:=ω;subst this;omega
    .exact h
   refine⟨?_,Y⟩;have az:g*(v[n-1]*1000000000+v[n-2])=(head-w)*1000000000+g*v[n-2]:=gtb k1;have bo:g*v[n-2]<=1000000000*v[n-2]:=Int.mul_le_mul_of_nonneg_right Y ad.1;exact Anb (P:=1000000000 ^ (n-2)) (tb:=v[n-1]*1000000000+v[n-2]) (hb:=head*1000000000+u[off+(n-2)]) hP ao aa ab bb ar S ω ω z
 .rintro g ⟨k1,k2,k3⟩;have S:0<=g:=ω;refine F4 (λ(b,i,o)=>∃k:Nat,i=k/\k<=n/\o.length=u.length/\Cf o/\o.take off=u.take off/\o.drop (off+k)=u.drop (off+k)/\0<=b/\b<=1000000001/\As o-1000000000 ^ (off+k)*b=As u-1000000000 ^ off*(g*As (v.take k))) (λ(_,i,_)=>n-i.toNat) (λ(b,o)=>o.length=u.length/\Cf o/\o.take off=u.take off/\o.drop (off+n)=u.drop (off+n)/\0<=b/\b<=1000000001/\As o-1000000000 ^ (off+n)*b=As u-1000000000 ^ off*(g*As v)) ⟨0,rfl,ω,rfl,hu,rfl,rfl,ω,ω,by simp[As]⟩ ?_ ?_
  .rintro⟨b,i,o⟩ ⟨k,rfl,hk,ho,J,N,M,b6,b5,f⟩;rcases C9 k n with h|h
   .have G:off+k<o.length:=ω;have L:k<v.length:=ω;have hx:=J.get G;have hy:=T.get L;have e4:=Q2 h ω;have e5:decide ((k:Int)<(n:Int))=true:=Ap ω;have av:0<=g*v[k]:=Int.mul_nonneg S hy.1;have bw:g*v[k]<=1000000000*v[k]:=Int.mul_le_mul_of_nonneg_right k3 hy.1;have y1:Bh v[k]=v[k]:=E4 ω ω;have y2:Bh (g*v[k])=g*v[k]:=E4 ω ω;have y3:Ac o[off+k]=o[off+k]:=B6 ω ω;generalize au:g*v[k]=p at *;have y4:Ac (o[off+k]-b)=o[off+k]-b:=B6 ω ω;have y5:Ac (p % 1000000000)=p % 1000000000:=B6 ω ω;have y6:Ac (o[off+k]-b-p % 1000000000)=o[off+k]-b-p % 1000000000:=B6 ω ω;have y7:Ac (p / 1000000000)=p / 1000000000:=B6 ω ω;simp only[e5,Am,O9 rfl (ω:k<n+1) G,Gn rfl L,Ag,y1,y2,au,y3,y4,Mn av (show (0:Int)<1000000000 by decide),Nr av (show p<=_ by omega) (show (0:Int)<1000000000 by decide),y5,y6,y7];refine .inl (Ala (F4 (λ(b',s)=>∃t:Nat,b'=p / 1000000000+t/\s=o[off+k]-b-p % 1000000000+t*1000000000/\s<1000000000/\t<=3) (λ(_,s)=>(-s).toNat) (λ(b',s)=>∃t:Nat,b'=p / 1000000000+t/\s=o[off+k]-b-p % 1000000000+t*1000000000/\s<1000000000/\0<=s/\t<=2) ⟨0,ψ,ψ,ω,ω⟩ ?_ ?_))
    .rintro⟨b',s⟩ ⟨t,rfl,hs,ac,ht⟩;by_cases I:s<0
     .refine .inl ⟨(p / 1000000000+(t+1:Nat),s+1000000000),?_,⟨t+1,rfl,by rw[hs];simp;omega,ω,ω⟩,ζ⟩;rw[Ap I,Am,show Ac (p / 1000000000+(t:Int)+1)=p / 1000000000+((t+1:Nat):Int) by rw[Ac,B6] <;> omega,show Ac (s+1000000000)=s+1000000000 from B6 ω ω]
     .exact .inr ⟨(p / 1000000000+t,s),by rw[Ax I,Av],t,rfl,hs,ac,ω,ω⟩
    .rintro⟨b',s⟩ ⟨t,rfl,hs,ac,I,ht⟩;have y8:C6 s=s:=H8 ω ω;refine⟨.inl (p / 1000000000+t,((k+1:Nat):Int),o.set (off+k) s),by simp only[O9 rfl (ω:k<n+1) G,Ag,y8,e4];rw[Ir (n:=off+k) ω],_,rfl,⟨k+1,rfl,ω,by simpa using ho,J.set _ I ac,?_,?_,ω,ω,?_⟩,ζ⟩
     .rw[take_set_of_le ω];exact N
     .rw[drop_set_of_lt ω,show off+(k+1)=(off+k)+1 by omega,<-drop_drop,M,drop_drop]
     .rw[O1 _ G,Hq v L,show off+(k+1)=(off+k)+1 by omega,Int.pow_succ];have ay:=Int.mul_ediv_add_emod p 1000000000;have pa:(1000000000:Int) ^ (off+k)=1000000000 ^ off*1000000000 ^ k:=Int.pow_add ..;have eA:s-1000000000*(p / 1000000000+(t:Int))=o[off+k]-b-p:=(by rw[hs];omega);rw[al2 eA,f,<-au,pa];exact al3 _ _ _ _ _ _
   .have aj:k=n:=ω;subst aj;refine .inr ⟨(b,o),ψ,ho,J,N,M,b6,b5,?_⟩;rw[Iy ω]at f;exact f
  .rintro⟨b,o⟩ ⟨ho,J,N,M,b6,b5,f⟩;have hV:=z;have ah:off+n<o.length:=ω;have ax:o[off+n]=u[off+n]:=(by have:=congrArg head? M;rw[head?_drop,head?_drop,Cs ah,Cs X]at this;exact Fe this);have hE:As (u.drop (off+n))=u[off+n]:=by
    have a1:=Mp (u.drop off) (n+1) ω;have a2:=Hr (((hu.drop off).take (n+1)).u32);have a3:=Aaa (hu.drop off) (n+1);have a4:As ((u.drop off).drop (n+1))=0:=by
     rcases Int.lt_or_le 0 (As ((u.drop off).drop (n+1))) with h|h
     .have:(1000000000:Int) ^ (n+1)*1<=1000000000 ^ (n+1)*As ((u.drop off).drop (n+1)):=Int.mul_le_mul_of_nonneg_left h (Int.le_of_lt (Kc _));omega
     .omega
    rw[drop_eq_getElem_cons X];simp only[As];rw[drop_drop,show off+(n+1)=off+n+1 by omega]at a4;rw[a4];omega
   have Q:∀F:List Int,F.length=u.length->Cf F->F.take off=u.take off->F.drop (off+n)=u.drop (off+n)->0<=As ((F.drop off).take n)/\As ((F.drop off).take n)<1000000000 ^ n /\
     As F=As u+1000000000 ^ off*(As ((F.drop off).take n)+1000000000 ^ n*u[off+n]-As (u.drop off)):=by intro F l1 l2 l3 l4;have a1:=Mp (F.drop off) n (by rw[length_drop];omega);rw[drop_drop,l4,hE]at a1;have a2:=Anc ω ω l3;refine⟨Hr (((l2.drop off).take n).u32),?_,by rw[<-a1];omega⟩;have:=Ju ((l2.drop off).take n);rw[length_take,length_drop,Nat.min_eq_left ω]at this;exact this
   obtain⟨m1,m2,m3⟩:=Q o ho J N M;have pa:(1000000000:Int) ^ (off+n)=1000000000 ^ off*1000000000 ^ n:=Int.pow_add ..;have a0:As (u.drop off)-g*As v=As ((o.drop off).take n)+1000000000 ^ n*(u[off+n]-b):=(by apply Afj (k:=off);rw[m3,pa]at f;exact al4 f);have y1:Ac u[off+n]=u[off+n]:=B6 ω ω;have y2:Ac (u[off+n]-b)=u[off+n]-b:=B6 ω ω;have ap:=Kc n;have fin:∀(U:List Int) (x:Int) (j:List Int),U=j.set (off+n) x->j.length=u.length->Cf j->0<=x->x<1000000000->j.take off=u.take off->As U=As u-1000000000 ^ off*(q*As v) ->
     U.length=u.length/\Cf U/\0<=q/\q<1000000000/\As U=As u-1000000000 ^ off*(q*As v)/\0<=As (U.drop off)/\As (U.drop off)<As v:=by intro U x j e l1 l2 x0 x1 l3 aq;have L4:U.length=u.length:=(by rw[e];simpa using l1);have T4:U.take off=u.take off:=(by rw[e,take_set_of_le ω];exact l3);have hp:=Anc ω ω T4;have hd:As (U.drop off)=As (u.drop off)-q*As v:=(by have:As (U.drop off)-As (u.drop off) = - (q*As v):=(by apply Afj (k:=off);rw[<-hp,aq];exact al5 _ _ _);omega);have bg:(q+1)*As v=q*As v+As v:=(by grind);exact⟨L4,by rw[e];exact l2.set _ x0 x1,ag,bf,aq,ω,ω⟩
   simp only[O9 rfl (ω:n<n+1) ah,ax,Ag,y1,y2];by_cases A:u[off+n]-b>=0
   .have bz:g*As v<=As (u.drop off):=(by have:=Int.mul_nonneg (Int.le_of_lt ap) A;omega);have R:g=q:=by
     rcases Int.lt_or_le q g with h|h
     .exfalso;have:(q+1)*As v<=g*As v:=Int.mul_le_mul_of_nonneg_right ω ω;omega
     .omega
    have y3:C6 (u[off+n]-b)=u[off+n]-b:=H8 ω ω;have y4:C6 g=g:=H8 ω ω;rw[Ap A,Am,y3,y4,Ir (n:=off+n) ω];refine⟨_,rfl,?_⟩;rw[R];refine fin _ (u[off+n]-b) o rfl ho J A ω N ?_;rw[O1 _ ah,ax];rw[R]at f;exact al6 f
   .have R:g=q+1:=by
     have h1:1000000000 ^ n*(u[off+n]-b)<=1000000000 ^ n*(-1):=Int.mul_le_mul_of_nonneg_left ω (Int.le_of_lt ap);rcases Int.lt_or_le q g with h|h
     .omega
     .exfalso;have:g*As v<=q*As v:=Int.mul_le_mul_of_nonneg_right h ω;omega
    rw[Ax A,Av];refine F4 (λ(c,i,j)=>∃k:Nat,i=k/\k<=n/\j.length=u.length/\Cf j/\j.take off=u.take off/\j.drop (off+k)=o.drop (off+k)/\0<=c/\c<=1/\As j+1000000000 ^ (off+k)*c=As o+1000000000 ^ off*As (v.take k)) (λ(_,i,_)=>n-i.toNat) (λ(c,j)=>j.length=u.length/\Cf j/\j.take off=u.take off/\j.drop (off+n)=o.drop (off+n)/\0<=c/\c<=1/\As j+1000000000 ^ (off+n)*c=As o+1000000000 ^ off*As v) ⟨0,rfl,ω,ho,J,N,rfl,ω,ω,by simp[As]⟩ ?_ ?_
    .rintro⟨c,i,j⟩ ⟨k,rfl,hk,h3,O,V,Z,b4,b0,E⟩;rcases C9 k n with h|h
     .have G:off+k<j.length:=ω;have L:k<v.length:=ω;have hx:=O.get G;have hy:=T.get L;have e4:=Q2 h ω;have e5:decide ((k:Int)<(n:Int))=true:=Ap ω;have z1:C6 (j[off+k]+v[k])=j[off+k]+v[k]:=H8 ω ω;have z2:C6 (j[off+k]+v[k]+c)=j[off+k]+v[k]+c:=H8 ω ω;generalize hs:j[off+k]+v[k]+c=s at z2;have I:0<=s:=ω;have ac:s<2000000000:=ω;refine .inl ⟨(s / 1000000000,((k+1:Nat):Int),j.set (off+k) (s % 1000000000)),?_,⟨k+1,rfl,ω,by simpa using h3,O.set _ ω ω,?_,?_,ω,ω,?_⟩,ζ⟩
      .simp only[e5,Am,O9 rfl (ω:k<n+1) G,Gn rfl L,Ag,z1,hs,z2,Alb I (show s<=_ by omega) (show (0:Int)<1000000000 by decide),Mn I (show (0:Int)<1000000000 by decide),e4];rw[Ir (n:=off+k) ω]
      .rw[take_set_of_le ω];exact V
      .rw[drop_set_of_lt ω,show off+(k+1)=(off+k)+1 by omega,<-drop_drop,Z,drop_drop]
      .rw[O1 _ G,Hq v L,show off+(k+1)=(off+k)+1 by omega,Int.pow_succ];have ay:=Int.mul_ediv_add_emod s 1000000000;have pk:(1000000000:Int) ^ (off+k)=1000000000 ^ off*1000000000 ^ k:=Int.pow_add ..;rw[pk]at E ⊢;exact al7 hs ay E
     .have aj:k=n:=ω;subst aj;refine .inr ⟨(c,j),ψ,h3,O,V,Z,b4,b0,?_⟩;rw[Iy ω]at E;exact E
    .rintro⟨c,j⟩ ⟨h3,O,V,Z,b4,b0,E⟩;have ai:off+n<j.length:=ω;obtain⟨r1,r2,r3⟩:=Q j h3 O V (Z.trans M);have bi:j[off+n]=u[off+n]:=(by have:=congrArg head? (Z.trans M);rw[head?_drop,head?_drop,Cs ai,Cs X]at this;exact Fe this);have bd:As (u.drop off)-q*As v=As ((j.drop off).take n)+1000000000 ^ n*(u[off+n]-b+c):=(by apply Afj (k:=off);rw[r3,pa]at E;rw[R]at f;rw[pa]at f;exact al8 f E);have bj:u[off+n]-b+c=0:=by
      have bg:(q+1)*As v=q*As v+As v:=(by grind);rcases Int.lt_or_le (u[off+n]-b+c) 0 with h|h
      .exfalso;have h1:1000000000 ^ n*(u[off+n]-b+c)<=1000000000 ^ n*(-1):=Int.mul_le_mul_of_nonneg_left ω (Int.le_of_lt ap);omega
      .omega
     have y5:Ac c=c:=B6 ω ω;have y6:Ac (u[off+n]-b+c)=0:=(by rw[bj];rfl);have y7:C6 (0:Int)=0:=rfl;have y8:Bh (g-1)=q:=(by rw[R,Bh,E4 ω ω];omega);have y9:C6 q=q:=H8 ω ω;simp only[O9 rfl (ω:n<n+1) ai,Ag,y5,y6,y7,y8,y9];rw[Ir (n:=off+n) ω];refine⟨_,rfl,?_⟩;refine fin _ 0 j rfl h3 O ω ω V ?_;rw[O1 _ ai,bi];rw[R]at f;exact al9 E f ω
theorem Axs (a:List Int) (m:Int):Ad5 a m=Sy a m:=rfl
theorem Axt (z:1<=t) (b:t<1000000000) (B:d*(t+1)+r=1000000000) (f:0<=r) (c:r<=t):500000000<=d*t:=by
 have w:0<=d:=by
  rcases Int.lt_or_le d 0 with h|h
  .exfalso;have:d*(t+1)<=(-1)*(t+1):=Int.mul_le_mul_of_nonneg_right ω ω;omega
  .exact h
 have e:d*(t+1)=d*t+d:=by grind
 rcases Int.lt_or_le t 2 with h|h
 .have:t=1:=ω;subst this;omega
 .rcases Int.lt_or_le d 2 with v|v
  .have:d=0\/d=1:=ω;rcases this with rfl|rfl <;> omega
  .have C:2*(t-1)<=d*(t-1):=Int.mul_le_mul_of_nonneg_right v ω;have i:d*(t-1)=d*t-d:=(by grind);omega
theorem bl1 (P t d:Int):P*t*d=P*(d*t):=by grind
theorem bl2 {K Q S:Int} (h:o=u-X*(q*V)) (b:u+V*(X*1000000000)*Q=S):o+V*X*(q+1000000000*Q)=S:=by grind
set_option maxHeartbeats 1000000 in
theorem Afk (m n:Nat) (hm:Cq m<274877906944) (hn:Cq n<274877906944) (J:n≠0):Qa (Al m) (Al n)=some (Al (m / n),Al (m % n)):=by
 unfold Qa;rw[Am4 m n ω ω,Ag];unfold Cq at hm hn;by_cases s:m<n
 .rw[show I0 m n = -1 by rw[I0,Bc s],Ap (by decide:(-1:Int)<0),Am,Cy ζ,Ag,Nat.div_eq_of_lt s,Nat.mod_eq_of_lt s,Hz];rfl
 .rw[Ax (show ¬I0 m n<0 by rw[I0,Bb s];split <;> decide),Av];have be:(Al n).length<=(Al m).length:=Qp ω;have b6:(Al n).length≠0:=λe=>Kd J (F9.1 e);by_cases h1:(Al n).length=1
  .rw[E5 (ω:((Al n).length:Int)=1),Am];have a7:n<1000000000:=(by have:=O2 n;rw[show Cq n=1 from h1]at this;simpa using this);have ao:Al n = [(n:Int)]:=(by rw[Mo J,Nat.div_eq_of_lt a7,Hz,Nat.mod_eq_of_lt a7]);rw[ao,show Af [(n:Int)] 0=some (n:Int) from rfl,Ag,show Bh (n:Int)=n from E4 ω ω,Am9 m n (by unfold Cq;omega) ω ω,Ag];have b0:m % n<n:=Nat.mod_lt _ ω;rw[Am3 (m % n) ω,Ag]
  .rw[Da (ω:((Al n).length:Int)≠1),Av];generalize F:(Al n).length=L at *;generalize hA:(Al m).length=A at *;have w1:Ac ((L:Int)-1)=((L-1:Nat):Int):=ξ;have H:L-1<(Al n).length:=ω;have ht:=(He n).get H;have ay:(Al n)[L-1]≠0:=(by have:=(Avg n).2 (Kd J);rw[getLast_eq_getElem]at this;simpa[F] using this);generalize D:(Al n)[L-1]=t at *;have w2:Bh t=t:=E4 ω ω;have w3:Bh (t+1)=t+1:=E4 ω ω;rw[w1,Gn rfl H,D,Ag,w2,w3,Nr δ δ ω,Ag];have V:=Int.mul_ediv_add_emod 1000000000 (t+1);have ai:=Int.emod_nonneg 1000000000 (ω:t+1≠0);have ba:=Int.emod_lt_of_pos 1000000000 (ω:0<t+1);have ar:1<=1000000000 / (t+1):=by
    rcases Int.lt_or_le (1000000000 / (t+1)) 1 with h|h
    .exfalso;have:(t+1)*(1000000000 / (t+1))<=(t+1)*0:=Int.mul_le_mul_of_nonneg_left ω ω;omega
    .exact h
   have aq:1000000000 / (t+1)<=500000000:=(by have:=Int.ediv_lt_of_lt_mul (a:=1000000000) (b:=500000001) (c:=t+1) ω ω;omega);obtain⟨d,hd⟩:∃d:Nat,1000000000 / (t+1)=(d:Int):=⟨(1000000000 / (t+1)).toNat,ω⟩;rw[hd]at V ar aq ⊢;obtain⟨u,ah,I,U,S⟩:=Ana (Al m) d (He m) ω ω;obtain⟨C,ag,af,G,b8⟩:=Ana (Al n) d (He n) ω ω;rw[ah,Ag,Axs,ag,Ag,Hc]at *;rw[F]at af;rw[hA]at I;rw[Zo rfl (ω:L<=C.length),Ag];have B:=Kc (L-1);have pL:(1000000000:Int) ^ L=1000000000 ^ (L-1)*1000000000:=(by rw[<-Int.pow_succ];congr 1;omega);have Z:=Hq (Al n) H;rw[Iy ω,Hc,D]at Z;have az:=Hr (((He n).take (L-1)).u32);have a6:=Ju ((He n).take (L-1));rw[length_take,F,Nat.min_eq_left ω]at a6;have bd:(n:Int)*d<1000000000 ^ L:=(by have a1:(n:Int)*d<(1000000000 ^ (L-1)*(t+1))*d:=Int.mul_lt_mul_of_pos_right (by have:(1000000000:Int) ^ (L-1)*(t+1)=1000000000 ^ (L-1)*t+1000000000 ^ (L-1):=(by grind);omega) ω;have Q:(1000000000 ^ (L-1)*(t+1))*(d:Int)=1000000000 ^ (L-1)*((t+1)*d):=(by grind);have a3:(1000000000:Int) ^ (L-1)*((t+1)*d)<=1000000000 ^ (L-1)*1000000000:=Int.mul_le_mul_of_nonneg_left ω (Int.le_of_lt B);omega);have O:As (C.take L)=(n:Int)*d:=by
    have e:=Mp C L ω;have z:As (C.drop L)=0:=by
     have a1:=Aaa G L;have Q:=Hr ((G.take L).u32);rcases Int.lt_or_le 0 (As (C.drop L)) with h|h
     .have:(1000000000:Int) ^ L*1<=1000000000 ^ L*As (C.drop L):=Int.mul_le_mul_of_nonneg_left h (Int.le_of_lt (Kc _));omega
     .omega
    rw[z]at e;omega
   have M:(C.take L).length=L:=(by rw[length_take];omega);have f:=G.take L;have N:L-1<(C.take L).length:=ω;have am:500000000<=(d:Int)*t:=Axt (r:=1000000000 % (t+1)) ω ω (by rw[Int.mul_comm];exact V) ai ω;have x:500000000<=(C.take L)[L-1]:=by
    have e:=Hq (C.take L) N;rw[Iy ω,O]at e;have b1:=Ju (f.take (L-1));rw[length_take,M,Nat.min_eq_left ω]at b1;have b2:(1000000000:Int) ^ (L-1)*t*d<=n*d:=Int.mul_le_mul_of_nonneg_right ω ω;have b3:(1000000000:Int) ^ (L-1)*500000000<=1000000000 ^ (L-1)*(d*t):=Int.mul_le_mul_of_nonneg_left am (Int.le_of_lt B);rw[bl1]at b2;rcases Int.lt_or_le (C.take L)[L-1] 500000000 with h|h
    .exfalso;have b4:(1000000000:Int) ^ (L-1)*((C.take L)[L-1]+1)<=1000000000 ^ (L-1)*500000000:=Int.mul_le_mul_of_nonneg_left ω (Int.le_of_lt B);have b5:(1000000000:Int) ^ (L-1)*((C.take L)[L-1]+1)=1000000000 ^ (L-1)*(C.take L)[L-1]+1000000000 ^ (L-1):=(by grind);omega
    .exact h
   generalize b7:C.take L=v at *;have w4:Ac ((A:Int)-(L:Int))=((A-L:Nat):Int):=ξ;have w5:Ac (((A-L:Nat):Int)+1)=((A-L+1:Nat):Int):=ξ;rw[w4,w5,Ql rfl rfl (Nat.le_refl _) ω ω,Ag,I];have b9:=Hr U.u32;have au:(0:Int)<(n:Int)*d:=Int.mul_pos ω ω;refine Kb (λ(i,w,q)=>∃k:Nat,i=(k:Int)-1/\k<=A-L+1/\w.length=A+1/\Cf w/\q.length=A-L+1/\Cf q/\As w<As v*1000000000 ^ k/\As w+As v*1000000000 ^ k*As (q.drop k)=(m:Int)*d) (λ(i,_,_)=>(i+1).toNat) (λ(w,q)=>w.length=A+1/\Cf w/\q.length=A-L+1/\Cf q/\As w<As v/\As w+As v*As q=(m:Int)*d) ⟨A-L+1,ω,Nat.le_refl _,I,U,ψ,Cf.replicate _,?_,by rw[drop_of_length_le ψ];simp[As,S]⟩ ?_ ?_
   .have ak:(m:Int)<1000000000 ^ A:=(by have:=Ju (He m);rwa [Hc,hA]at this);have a1:(m:Int)*d<1000000000 ^ A*500000000:=(by have c1:(m:Int)*d<=m*500000000:=Int.mul_le_mul_of_nonneg_left ω ω;have c2:(m:Int)*500000000<1000000000 ^ A*500000000:=Int.mul_lt_mul_of_pos_right ak δ;omega);have Q:(1000000000:Int) ^ (L-1)*500000000<=As v:=(by have e:=Hq v N;rw[Iy ω]at e;have b1:=Hr ((f.take (L-1)).u32);have b3:(1000000000:Int) ^ (L-1)*500000000<=1000000000 ^ (L-1)*v[L-1]:=Int.mul_le_mul_of_nonneg_left x (Int.le_of_lt B);omega);have a3:(1000000000:Int) ^ (L-1)*500000000*1000000000 ^ (A-L+1)<=As v*1000000000 ^ (A-L+1):=Int.mul_le_mul_of_nonneg_right Q (Int.le_of_lt (Kc _));have a4:(1000000000:Int) ^ (L-1)*500000000*1000000000 ^ (A-L+1)=1000000000 ^ A*500000000:=(by have:(1000000000:Int) ^ A=1000000000 ^ (L-1)*1000000000 ^ (A-L+1):=(by rw[<-Int.pow_add];congr 1;omega);rw[this];grind);rw[S];omega
   .rintro⟨i,w,q⟩ ⟨k,rfl,hk,ad,E,Y,X,a8,y⟩;cases k with
    | zero=>exact .inr ⟨(w,q),ψ,ad,E,Y,X,by simpa using a8,by simpa using y⟩
    | succ j=>
     have e0:((j+1:Nat):Int)-1=(j:Int):=ω;have e1:decide ((j:Int)>=0)=true:=Ap ω;have w6:Ac ((j:Int)+(L:Int))=((j+L:Nat):Int):=ξ;have w7:Ac (((j+L:Nat):Int)+1)=((j+L+1:Nat):Int):=ξ;have sA:T9 (A+1) (j:Int) ((j+L+1:Nat):Int)=some (j,j+L+1):=(by have c1:(0:Int)<=(j:Int):=ω;have c2:(j:Int)<=((j+L+1:Nat):Int):=ω;have c3:((j+L+1:Nat):Int)<=((A+1:Nat):Int):=ω;have c4:(j:Int)=0\/(j:Int)<((j+L+1:Nat):Int):=ω;rw[T9,Bc ⟨c1,c2,c3,c4⟩];rfl);have av:As (w.drop j)<As v*1000000000:=by
      have s1:=Mp w j ω;have s2:=Hr ((E.take j).u32);rcases Int.lt_or_le (As (w.drop j)) (As v*1000000000) with h|h
      .exact h
      .exfalso;have:(1000000000:Int) ^ j*(As v*1000000000)<=1000000000 ^ j*As (w.drop j):=Int.mul_le_mul_of_nonneg_left h (Int.le_of_lt (Kc _));have e:As v*(1000000000:Int) ^ (j+1)=1000000000 ^ j*(As v*1000000000):=(by rw[Int.pow_succ];grind);omega
     obtain⟨T,o,r1,r2,r3,r4,r5,r6,r7,r8⟩:=Axr v w j L f E M ω ω x ω av;have aa:j<q.length:=ω;have w8:Ac ((j:Int)-1)=(j:Int)-1:=ξ;have lG:G5 (A+1) o=some ():=(by rw[G5,Bc ω]);refine .inl ⟨((j:Int)-1,o,q.set j T),?_,⟨j,rfl,ω,ω,r3,by simpa using Y,X.set _ r4 r5,?_,?_⟩,ψ⟩
     .simp only[e0,e1,Am,w6,w7,sA,Ag,Nat.zero_add,show j+L+1-j=L+1 by omega,r1,lG,Gn rfl aa,w8,Ir rfl]
     .have s1:=Mp o j ω;have s2:=Ju (r3.take j);rw[length_take,Nat.min_eq_left ω]at s2;have:(1000000000:Int) ^ j*(As (o.drop j)+1)<=1000000000 ^ j*As v:=Int.mul_le_mul_of_nonneg_left ω (Int.le_of_lt (Kc _));have e:(1000000000:Int) ^ j*(As (o.drop j)+1)=1000000000 ^ j*As (o.drop j)+1000000000 ^ j:=(by grind);rw[Int.mul_comm (As v)];omega
     .have d1:(q.set j T).drop j=T::q.drop (j+1):=(by rw[drop_eq_getElem_cons (by simpa using aa),drop_set_of_lt ω];simp);rw[d1];simp only[As];rw[Int.pow_succ]at y;exact bl2 (K:=0) r6 y
   .rintro⟨w,q⟩ ⟨h2,h3,h4,h5,h6,h7⟩;rw[O]at h6 h7;have ae:=Hr h3.u32;have bb:=Hr h5.u32;have R:=(Int.ediv_emod_unique au (r:=As w) (q:=As q) (a:=(m:Int)*d)).2 ⟨by rw[<-h7],ae,h6⟩;have ap:(m*d) / (n*d)=m / n:=Nat.mul_div_mul_right m n ω;have aj:(m*d) % (n*d)=(m % n)*d:=Nat.mul_mod_mul_right d m n;have ax:As q=((m / n:Nat):Int):=(by rw[<-R.1,<-ap];simp);have ab:As w=(((m % n)*d:Nat):Int):=(by rw[<-R.2,<-aj];simp);have ac:Cq ((m % n)*d)<1099511627776:=(by have s:=Ju h3;have:Cq ((m % n)*d)<=A+1:=(by apply Qo;rw[h2,ab]at s;have e:((1000000000 ^ (A+1):Nat):Int)=1000000000 ^ (A+1):=(by rw[Int.natCast_pow];rfl);omega);omega);dsimp only;rw[Qz w ω,Ag,Qm h3 ab,Am9 _ d ac ω ω,Ag,Qz q ω,Ag,Qm h5 ax,Nat.mul_div_cancel _ ω]
theorem Ane (h:Cq n<=2):n<1000000000000000000:=by have e:=O2 n;have v:1000000000 ^ Cq n<=1000000000 ^ 2:=Nat.pow_le_pow_right δ h;omega
theorem Anf (n:Nat) (h:Cq n<=2):Sw (Al n)=some ((n:Int),true):=by
 unfold Sw;unfold Cq at h;have v:=He n;refine Kb (λ(w,i)=>∃k:Nat,i=k/\k<=(Al n).length/\w=As ((Al n).drop ((Al n).length-k))) (λ(_,i)=>(Al n).length-i.toNat) (λe=>match e with|.inl _=>False | .inr w=>w=n) ⟨0,rfl,ω,by simp[As]⟩ ?_ ?_
 .rintro⟨w,i⟩ ⟨k,rfl,H,rfl⟩;rcases C9 k (Al n).length with c|E
  .have D:decide ((k:Int)<((Al n).length:Int))=true:=Ap ω;have y:Ac (((Al n).length:Int)-1)=((Al n).length:Int)-1:=ξ;have x:Ac (((Al n).length:Int)-1-(k:Int))=(((Al n).length-1-k:Nat):Int):=ξ;have C:(Al n).length-1-k<(Al n).length:=ω;have I:=v.get C;have A:=Aaa v ((Al n).length-k);have b:=Ju (v.drop ((Al n).length-k));rw[length_drop,show (Al n).length-((Al n).length-k)=k by omega]at b;have z:(1000000000:Int) ^ k<=1000000000:=(by have:k=0\/k=1:=ω;rcases this with rfl|rfl <;> decide);have u:Bh (Al n)[(Al n).length-1-k]=(Al n)[(Al n).length-1-k]:=E4 ω ω;have s:Bh (18446744073709551615-(Al n)[(Al n).length-1-k])=18446744073709551615-(Al n)[(Al n).length-1-k]:=E4 ω ω;have q:Bh (As ((Al n).drop ((Al n).length-k))*1000000000)=As ((Al n).drop ((Al n).length-k))*1000000000:=E4 ω ω;have j:Bh (As ((Al n).drop ((Al n).length-k))*1000000000+(Al n)[(Al n).length-1-k])=As ((Al n).drop ((Al n).length-k))*1000000000+(Al n)[(Al n).length-1-k]:=E4 ω ω;have B:=Q2 c ω;have F:¬As ((Al n).drop ((Al n).length-k))>(18446744073709551615-(Al n)[(Al n).length-1-k]) / 1000000000:=ω;refine .inl ⟨(As ((Al n).drop ((Al n).length-k))*1000000000+(Al n)[(Al n).length-1-k],((k+1:Nat):Int)),?_,⟨k+1,rfl,ω,?_⟩,ζ⟩
   .simp only[D,Am,y,x,Gn rfl C,Ag,u,s,Nr (show 0<=18446744073709551615-(Al n)[(Al n).length-1-k] by omega) (show 18446744073709551615-(Al n)[(Al n).length-1-k]<=_ by omega) (show (0:Int)<1000000000 by decide),Ax F,Av,q,j,B]
   .have G:(Al n).drop ((Al n).length-(k+1))=(Al n)[(Al n).length-1-k]::(Al n).drop ((Al n).length-k):=(by rw[show (Al n).length-(k+1)=(Al n).length-1-k by omega,drop_eq_getElem_cons C];congr 2;omega);rw[G];simp only[As];omega
  .have:k=(Al n).length:=ω;subst this;refine .inr ⟨.inr _,by simp;rfl,?_⟩;exact Hc n
 .rintro (e|e) f
  .exact f.elim
  .simp only at f ⊢;rw[f]
theorem Axu (m n:Nat) (F:Cq m<274877906944) (D:Cq n<274877906944):Vm (Al m) (Al n)=some (Al (Nat.gcd m n)):=by
 unfold Vm;refine Kb (λ(a,b)=>∃x y:Nat,a=Al x/\b=Al y/\Cq x<274877906944/\Cq y<274877906944/\Nat.gcd x y=Nat.gcd m n) (λ(_,b)=>(As b).toNat) (λe=>match e with|.inl r=>r=Al (Nat.gcd m n) | .inr r=>r=Al (Nat.gcd m n)) ⟨m,n,rfl,rfl,F,D,rfl⟩ ?_ ?_
 .rintro⟨a,b⟩ ⟨x,y,rfl,rfl,H,C,z⟩;by_cases c:y=0
  .subst c;refine .inr ⟨.inr (Al x),by rw[Hz];rfl,?_⟩;show Al x=_;rw[<-z,Nat.gcd_zero_right]
  .have E:(Al y).length≠0:=λe=>Kd c (F9.1 e);have A:decide (((Al y).length:Int)>0)=true:=Ap ω;by_cases w:Cq x<=2/\Cq y<=2
   .have k:=Ane w.1;have j:=Ane w.2;unfold Cq at w;simp only[A,Am,Ap (ω:((Al x).length:Int)<=2),Ap (ω:((Al y).length:Int)<=2),Ag,Anf x w.1,Anf y w.2];refine .inr (Ave (F4 (λ(p,q)=>∃u v:Nat,p=u/\q=v/\u<1000000000000000000/\v<1000000000000000000/\Nat.gcd u v=Nat.gcd m n) (λ(_,q)=>q.toNat) (λ(p,q)=>p=((Nat.gcd m n:Nat):Int)/\Nat.gcd m n<1000000000000000000) ⟨x,y,rfl,rfl,k,j,z⟩ ?_ ?_))
    .rintro⟨p,q⟩ ⟨u,v,rfl,rfl,I,B,f⟩;by_cases s:v=0
     .subst s;refine .inr ⟨((u:Int),(0:Int)),rfl,?_⟩;rw[Nat.gcd_zero_right]at f;exact⟨by rw[f],ω⟩
     .refine .inl ⟨((v:Int),((u % v:Nat):Int)),?_,⟨v,u % v,rfl,rfl,B,by have:=Nat.mod_lt u (ω:v>0);omega,?_⟩,?_⟩
      .simp only[Ap (ω:(v:Int)>0),Am,Mn (ω:(0:Int)<=u) (ω:(0:Int)<v),Ag];rfl
      .rw[<-f,Nat.gcd_comm v,<-Nat.gcd_rec,Nat.gcd_comm]
      .have:=Nat.mod_lt u (ω:v>0);simp only[Int.toNat_natCast];exact this
    .rintro⟨p,q⟩ ⟨rfl,G⟩;dsimp only;rw[Am3 _ ω];exact⟨_,rfl,_,rfl,rfl⟩
   .refine .inl ⟨(Al y,Al (x % y)),?_,⟨y,x % y,rfl,rfl,C,by have:=Qp (Nat.mod_le x y);omega,?_⟩,?_⟩
    .have:(bif ((Al x).length:Int)<=(2:Int) then some (decide (((Al y).length:Int)<=(2:Int))) else some false)=some false:=by
      unfold Cq at w;by_cases J:(Al x).length<=2
      .rw[Ap (ω:((Al x).length:Int)<=2),Am,Ax (ω:¬((Al y).length:Int)<=2)]
      .rw[Ax (ω:¬((Al x).length:Int)<=2),Av]
     simp only[A,Am];rw[this,Ag,Av,Afk x y H C c,Ag]
    .rw[<-z,Nat.gcd_comm y,<-Nat.gcd_rec,Nat.gcd_comm]
    .simp only[Hc];have:=Nat.mod_lt x (ω:y>0);omega
 .rintro (e|e) i
  .simp only at i ⊢;rw[i]
  .simp only at i ⊢;rw[i]
theorem Afl:Al 1 = [1]:=by rw[Mo δ,show 1 / 1000000000=0 by decide,Hz];rfl
theorem Ang (n:Nat):Sq (Al n)=some (decide (n=1)):=by
 unfold Sq;by_cases v:n=0
 .subst v;rw[Hz];rfl
 .rw[Mo v];by_cases w:n / 1000000000=0
  .rw[w,Hz];have e:Af [((n % 1000000000:Nat):Int)] 0=some ((n % 1000000000:Nat):Int):=rfl;simp only[length_singleton,e,Ag];have:(((1:Nat):Int)==(1:Int))=true:=rfl;rw[this,Am];congr 1;by_cases b:n=1
   .subst b;rfl
   .rw[Da ω,Ax b]
  .have c:(Al (n / 1000000000)).length≠0:=λe=>Kd w (F9.1 e);rw[Da ζ,Av,Ax ω]
def Gy (b:Bool) (n d:Nat):Bj:=if n=0 then ⟨false,[],[1]⟩ else ⟨b,Al (n / Nat.gcd n d),Al (d / Nat.gcd n d)⟩
theorem Wn (b:Bool) (n d:Nat) (j:Cq n<274877906944) (w:Cq d<274877906944):Nl ⟨b,Al n,Al d⟩=some (Gy b n d):=by
 unfold Nl Y4;dsimp only;by_cases v:n=0
 .subst v;rw[Hz];rfl
 .have k:(Al n).length≠0:=λe=>Kd v (F9.1 e);rw[Da ω,Av,Ang,Ag,Gy,Bb v];by_cases z:d=1
  .subst z;rw[Ap rfl,Am];simp
  .rw[Ax z,Av,Axu n d j w,Ag,Ang,Ag];by_cases i:Nat.gcd n d=1
   .rw[Ap i,Am,i];simp
   .have f:Nat.gcd n d≠0:=(by have:=Nat.gcd_pos_of_pos_left d (ω:0<n);omega);have c:Cq (Nat.gcd n d)<274877906944:=(by have:=Qp (Nat.gcd_le_left d (ω:0<n));omega);rw[Ax i,Av,Afk n _ j c f,Ag,Afk d _ w c f,Ag];rfl
def nv (a:Bj):Nat:=if (As a.U).toNat=0\/(As a.B).toNat=0 then 0 else (As a.U).toNat
def dv (a:Bj):Nat:=if (As a.U).toNat=0\/(As a.B).toNat=0 then 1 else (As a.B).toNat
def sv (a:Bj):Bool:=if (As a.U).toNat=0\/(As a.B).toNat=0 then false else a.N
structure RB (k:Nat) (a:Bj):Prop where
 num:O0 a.U
 den:O0 a.B
 nl:a.U.length<=k
 dl:a.B.length<=k
theorem Axv (h:O0 l):As l<=5*1000000000 ^ l.length-5:=by induction l with| nil=>simp[As]| cons d l ih=>have v:=h d ψ;have w:=ih λx e=>h x (by simp[e]);simp only[As,Hj];rw[Int.pow_succ];omega
theorem Axw (h:O0 l):As l<1000000000 ^ (l.length+1):=by have e:=Axv h;have hp:=Kc l.length;rw[Int.pow_succ];omega
theorem Anh (h:O0 l):Cq (As l).toNat<=l.length+1:=by
 apply Qo;have v:=Axw h;have w:=Hr h;have e:((1000000000 ^ (l.length+1):Nat):Int)=1000000000 ^ (l.length+1):=by rw[Int.natCast_pow];rfl
 omega
theorem RB.mono {j:Nat} (h:RB j a) (hk:j<=k):RB k a:=⟨h.num,h.den,by have:=h.nl;omega,by have:=h.dl;omega⟩
theorem Ani:Cq 1=1:=by unfold Cq;rw[Afl];rfl
theorem RB.nv (h:RB k a):Cq (nv a)<=k+1:=by
 unfold Ab.nv;split
 .simp[Aeo]
 .have:=Anh h.num;have:=h.nl;omega
theorem RB.dv (h:RB k a):Cq (dv a)<=k+1:=by
 unfold Ab.dv;split
 .simp[Ani]
 .have:=Anh h.den;have:=h.dl;omega
theorem Axx (a:Bj):dv a≠0:=by
 unfold dv;split
 .decide
 .omega
theorem Tf (a:Bj) (k:Nat) (h:RB k a) (z:k<274877906900):Mj a=some ⟨sv a,Al (nv a),Al (dv a)⟩:=by
 unfold Mj;have B:=h.nl;have C:=h.dl;rw[Am2 _ h.num ω,Ag,Am2 _ h.den ω,Ag];unfold nv dv sv;generalize (As a.U).toNat=x;generalize (As a.B).toNat=y;by_cases v:x=0
 .subst v;simp only[Hz,true_or,if_true,Afl];rfl
 .have c:(Al x).length≠0:=λe=>Kd v (F9.1 e);by_cases w:y=0
  .subst w;simp only[Hz,or_true,if_true,Afl,Da (ω:((Al x).length:Int)≠0),Av];rfl
  .have b:(Al y).length≠0:=λe=>Kd w (F9.1 e);simp only[v,w,or_self,if_false,Da (ω:((Al x).length:Int)≠0),Av,Da (ω:((Al y).length:Int)≠0),Ag]
theorem Anj (a:Bj) (k:Nat) (h:RB k a) (e:k<274877906900):Ni a=some (Gy (sv a) (nv a) (dv a)):=by unfold Ni;have v:=h.nv;have w:=h.dv;rw[Tf a k h e,Ag,Wn _ _ _ ω ω];rfl
def Wo (s:Bool) (n:Nat):Int:=if n=0 then 0 else if s then -1 else 1
theorem Axy (s:Bool) (n:Nat) (d:List Int):Va ⟨s,Al n,d⟩=some (Wo s n):=by
 unfold Va Wo;dsimp only;by_cases h:n=0
 .subst h;rw[Hz];rfl
 .have b:(Al n).length≠0:=λe=>Kd h (F9.1 e);rw[Da ω,Av,Bb h];cases s <;> rfl
theorem Axz (a:Bj) (k:Nat) (h:RB k a) (e:k<274877906900):Ln a=some (Wo (sv a) (nv a)):=by unfold Ln;rw[Tf a k h e,Ag,Axy];rfl
theorem Ax0 (a b:Bj) (j k:Nat) (e:RB j a) (hb:RB k b) (v:j<68719476736) (w:k<68719476736):Ky a b=some (Gy (sv a != sv b) (nv a*nv b) (dv a*dv b)):=by unfold Ky;have z:=e.nv;have B:=e.dv;have C:=hb.nv;have i:=hb.dv;have f:=V4 (nv a) (nv b);have c:=V4 (dv a) (dv b);rw[Tf a j e ω,Ag,Tf b k hb ω,Ag];dsimp only;rw[Wm _ _ ω ω,Ag,Wm _ _ ω ω,Ag,Wn _ _ _ ω ω];rfl
def Aab (b:Bool) (n1 j:Nat) (c:Bool) (f i:Nat):Bool:=if b=c then b else if f*j<=n1*i then b else c
def Aac (j:Bool) (n1 f:Nat) (i:Bool) (b c:Nat):Nat:=if j=i then n1*c+b*f else if b*f<=n1*c then n1*c-b*f else b*f-n1*c
theorem Ax1 (a b:Bj) (j k:Nat) (w:RB j a) (hb:RB k b) (z:j<68719476736) (B:k<68719476736) : P7 a b=some (Gy (Aab (sv a) (nv a) (dv a) (sv b) (nv b) (dv b)) (Aac (sv a) (nv a) (dv a) (sv b) (nv b) (dv b)) (dv a*dv b)):=by
 unfold P7 Y8;have C:=w.nv;have E:=w.dv;have F:=hb.nv;have y:=hb.dv;have x:=V4 (nv a) (dv b);have u:=V4 (nv b) (dv a);have s:=V4 (dv a) (dv b);have q:=Avl (nv a*dv b) (nv b*dv a);have i:=Qp (Nat.sub_le (nv a*dv b) (nv b*dv a));have f:=Qp (Nat.sub_le (nv b*dv a) (nv a*dv b));rw[Tf a j w ω,Ag,Tf b k hb ω,Ag];dsimp only;rw[Wm _ _ ω ω,Ag,Wm _ _ ω ω,Ag,Wm _ _ ω ω,Ag];by_cases c:sv a=sv b
 .have e:(sv a==sv b)=true:=(by rw[c];exact beq_self_eq_true _);rw[e,Am,Axm _ _ ω ω,Ag,Ag,Wn _ _ _ ω ω,Aab,Aac,Bc c,Bc c];rfl
 .have e:(sv a==sv b)=false:=(by simpa using c);rw[e,Av,Am4 _ _ ω ω,Ag,Aab,Aac,Bb c,Bb c];by_cases v:nv b*dv a<=nv a*dv b
  .rw[Ap (show I0 (nv a*dv b) (nv b*dv a)>=0 by rw[I0,Bb ω];split <;> decide),Am,Am8 _ _ ω v,Ag,Ag,Wn _ _ _ ω ω,Bc v,Bc v];rfl
  .rw[Ax (show ¬I0 (nv a*dv b) (nv b*dv a)>=0 by rw[I0,Bc ω];decide),Av,Am8 _ _ ω ω,Ag,Ag,Wn _ _ _ ω ω,Bb v,Bb v];rfl
theorem Ax2 (s:Bool) (d:Nat):Gy s 0 d=⟨false,[],[1]⟩:=by simp[Gy]
theorem Ank (s:Bool) (n d k:Nat) (b:Cq n<=k) (v:Cq d<=k) (e:1<=k):RB k (Gy s n d):=by
 unfold Gy;split
 .refine⟨nofun,λx h=>?_,ψ,by simpa using e⟩;simp at h;subst h;decide
 .have w:=Alf n (Nat.gcd n d);have z:=Alf d (Nat.gcd n d);unfold Cq at *;exact⟨(He _).u32,(He _).u32,by simp only;omega,by simp only;omega⟩
theorem Ax3 (s:Bool) (n d:Nat) (B:d≠0):nv (Gy s n d)=n / Nat.gcd n d/\dv (Gy s n d)=d / Nat.gcd n d/\(n≠0->sv (Gy s n d)=s)/\(n=0->sv (Gy s n d)=false):=by
 by_cases v:n=0
 .subst v;rw[Ax2];have c:d / Nat.gcd 0 d=1:=(by rw[Nat.gcd_zero_left];exact Nat.div_self ω);refine⟨by simp[nv,As],?_,λh=>(h rfl).elim,λ_=>by simp[sv,As]⟩;rw[c];simp[dv,As]
 .have f:0<Nat.gcd n d:=Nat.gcd_pos_of_pos_left d ω;have C:n / Nat.gcd n d≠0:=(by have:=Nat.div_pos (Nat.gcd_le_left d (ω:0<n)) f;omega);have E:d / Nat.gcd n d≠0:=(by have:=Nat.div_pos (Nat.gcd_le_right n (ω:0<d)) f;omega);have e:Gy s n d=⟨s,Al (n / Nat.gcd n d),Al (d / Nat.gcd n d)⟩:=(by simp[Gy,v]);have b:(As (Al (n / Nat.gcd n d))).toNat=n / Nat.gcd n d:=(by rw[Hc];rfl);have w:(As (Al (d / Nat.gcd n d))).toNat=d / Nat.gcd n d:=(by rw[Hc];rfl);rw[e];have z:¬(n / Nat.gcd n d=0\/d / Nat.gcd n d=0):=ω;refine⟨?_,?_,λ_=>?_,λh=>(v h).elim⟩
  .simp only[nv,b,w,Bb z]
  .simp only[dv,b,w,Bb z]
  .simp only[sv,b,w,Bb z]
theorem cl1 {w:Int} (i:c+x+w=s) (f:w=y*A) (b:1000000000*(s / 1000000000)+s % 1000000000=s) (z V:Int) (h:o+X*K*c=z+X*(y*V)):o+X*K*(s % 1000000000-x)+X*K*1000000000*(s / 1000000000)=z+X*(y*(V+K*A)):=by grind
end Go.Ab
namespace Go.Ab
open Go Ieee
end Go.Ab
namespace Go.Ab
open Go
theorem Ax4 {α:Type} [DecidableEq α] (l m:List α) (b:l.length=m.length):(decide (l=m))=l.zipIdx.all (λq=>decide (m[q.2]? = some q.1)):=by
 rw[Bool.eq_iff_iff,E8];constructor
 .rintro rfl;exact Aep λj x e=>by simpa using e
 .intro h;apply ext_getElem?;intro j;cases e:l[j]? with| none=>rw[List.getElem?_eq_none_iff]at e;rw[Qk ω]| some x=>have:=Mq h e;rw[E8]at this;rw[this]
theorem Ax5 {R:Type} (l m:List Int) (b:l.length<1099511627776) (h:l.length=m.length) {J:Bool⊕Unit->Option R} {rt rf:R} (z:J (.inl false)=some rf) (B:J (.inr ())=some rt) : (Ak (S:=Int) (E:=(Bool⊕Unit)) (λv=>bif v<(l.length:Int) then ((Af l v).bind λC=>(Af m v).bind λF=>bif (C != F) then some (.inr (.inl false)) else some (.inl (Ac (v+1)))) else some (.inr (.inr ()))) 0).bind J=some (bif decide (l=m) then rt else rf):=by
 rw[Ax4 l m h];refine S6 l (λq=>decide (m[q.2]? = some q.1)) (λj=>(j:Int)) rfl ω (rt:=rt) (rf:=rf) ?_ ?_
 .intro j x G _ H I L;have M:j<m.length:=(by have:=Gp G;omega);have w:m[j]? = some m[j]:=Cs M;generalize m[j]=y at w;simp only[H,I,L,Am,Ag,Cp rfl w,w,Option.some.injEq];by_cases e:x=y
  .rw[D3 e,Ap e.symm];exact⟨λ_=>rfl,λh=>by cases h⟩
  .rw[D2 e,Ax λh=>e h.symm];exact⟨nofun,λ_=>⟨.inl false,rfl,z⟩⟩
 .intro h _;exact⟨.inr (),by simp only[h];rfl,B⟩
theorem Anl (l m:List Int) (b:l.length<1099511627776):Mi l m=some (decide (l=m)):=by
 unfold Mi;by_cases h:l.length=m.length
 .rw[D3 ω];simp only[Av];refine (Ax5 l m b h (rt:=true) (rf:=false) ?_ ?_).trans (by rw[Qq]) <;> rfl
 .rw[D2 ω,Ax λe=>h (by rw[e])];rfl
def Tg (a b:Bj):Bool:=a.N==b.N&&decide (a.U=b.U)&&decide (a.B=b.B)
theorem Anm (a b:Bj):Tg a b=true↔a=b:=by
 unfold Tg;simp only[Dt,beq_iff_eq,E8];constructor
 .rintro⟨⟨e,v⟩,w⟩;cases a;cases b;simp_all
 .rintro rfl;simp
def Wp (c:Bj):Bool:=Tg (Gy (sv c) (nv c) (dv c)) c && !(nv c==0)
structure TSz (t:Bu):Prop where
 co:RB 1048576 t.C
 mo:MSz t.M
def Q3 (l:List Bu) (x:Bu) (j:Nat):Bool:=j==0||(match l[j-1]? with|some y=>decide (H3 y.M x.M<0) | none=>false)
def Th (data:List Ao) (e:List Ai) (v:Ai) (l:List Bu) (t:Bu) (j:Nat):Bool:=Wp t.C&&O7 data e v t.M&&Q3 l t j
def Lw (data:List Ao) (e:List Ai) (v:Ai) (p:List Bu):Bool:=decide (p.length<=1000)&&p.zipIdx.all (λq=>Th data e v p q.1 q.2)
theorem Ax6 {S E:Type} (F:Aq->Aq->Option Int) (l:List Bu) (i:∀y∈l,∀x,F y.M x=some (H3 y.M x)) {x:Bu} {j:Nat} (B:l[j]? = some x) (k:l.length<4611686018427387904) (c b:Option (S⊕E)) : (bif decide ((j:Int)>0) then ((Af l (Ac ((j:Int)-1))).bind λf=>(F f.M x.M).bind λv=>bif decide (v>=0) then c else b) else b)=bif Q3 l x j then b else c:=by
 have G:=Gp B;unfold Q3;by_cases h:j=0
 .subst h;rfl
 .rw[Ap ω];have e:Ac ((j:Int)-1)=((j-1:Nat):Int):=ξ;have w:l[j-1]? = some l[j-1]:=Cs ω;rw[e,Cp rfl w,w];have C:(j==0)=false:=(by simpa using h);simp only[Am,Ag,C,Bool.false_or,i _ (getElem_mem (ω:j-1<l.length))];by_cases z:H3 l[j-1].M x.M<0
  .rw[Ax ω,Ap z];rfl
  .rw[Ap ω,Ax z];rfl
theorem Ax7 (s:Bool) (n:Nat):(Wo s n==0)=(n==0):=by
 unfold Wo;by_cases h:n=0
 .rw[Bc h];subst h;rfl
 .rw[Bb h];have:(n==0)=false:=(by simpa using h);rw[this];cases s <;> rfl
theorem Ax8 {data:List Ao} {v:List Ai} {w:Ai} (hc:Mv data v w) {b1:List (ByteArray×Int)} (b2:List (ByteArray×List Dq)) (hm:D4 data v w b1) (p:List Bu) (U:∀t∈p,TSz t) :
  ∃D,Uu p b1 b2 data v w.G w.U w.R=some (Lw data v w p,D)/\D4 data v w D:=by
 unfold Uu Lw
 by_cases B:p.length<=1000
 .rw[Ax ω,Ap B,Bool.true_and]
  simp only[Av]
  obtain⟨r,V,S⟩:=Aeq (M:=List (ByteArray×Int)) (R:=Bool×List (ByteArray×Int)) p (λq=>Th data v w p q.1 q.2) (λj o=>((j:Int),o)) (D4 data v w)
   (λr=>D4 data v w r.2/\r.1=true) (λr=>D4 data v w r.2/\r.1=false) b1
   (s0:=((0:Int),b1))
   (step:=(λ(b,i)=>
    bif b<(p.length:Int) then (
    (Af p b).bind λC=>
    (Ni C.C).bind λf=>
    (show OB from
    bif (f.N==C.C.N) then (
    (Mi f.U C.C.U).bind λk=>
    bif k then (
    (Mi f.B C.C.B).bind λQ=>
    some Q)
    else some false)
    else some false).bind λG=>
    bif (!G) then some (.inr (.inl (false,i)))
    else (
    (Ln f).bind λE=>
    bif (E==(0:Int)) then some (.inr (.inl (false,i)))
    else (
    (Sd C.M i b2 data v w.G w.U w.R).bind λF=>
    bif (!F.1) then some (.inr (.inl (false,F.2)))
    else (
    bif b>(0:Int) then (
    (Af p (Ac (b-1))).bind λa0=>
    (Nb a0.M C.M).bind λa1=>
    bif a1>=(0:Int) then some (.inr (.inl (false,F.2)))
    else some (.inl ((Ac (b+1)),F.2)))
    else some (.inl ((Ac (b+1)),F.2))))))
    else some (.inr (.inr i)):Int×List (ByteArray×Int)->Option ((Int×List (ByteArray×Int))⊕((Bool×List (ByteArray×Int))⊕List (ByteArray×Int)))))
   (J:=(λz=>match z with
    | .inl (L,I)=>some (L,I)
    | .inr N=>some (true,N)))
   rfl hm ω (by
    intro j t o A hx _ H h2 T
    have c:=U t (B4 hx)
    obtain⟨D,d1,d2⟩:=Axk b2 hc A t.M c.mo
    have u:∀l:List Int,l=(Gy (sv t.C) (nv t.C) (dv t.C)).U\/l=(Gy (sv t.C) (nv t.C) (dv t.C)).B->l.length<1099511627776:=by
     intro l B
     have q:=Ank (sv t.C) (nv t.C) (dv t.C) 1048577 c.co.nv c.co.dv ω
     have:=q.nl
     have:=q.dl
     rcases B with rfl|rfl <;> omega
    have s:(bif ((Gy (sv t.C) (nv t.C) (dv t.C)).N==t.C.N) then ((Mi (Gy (sv t.C) (nv t.C) (dv t.C)).U t.C.U).bind λk=>bif k then ((Mi (Gy (sv t.C) (nv t.C) (dv t.C)).B t.C.B).bind λQ=>some Q) else some false) else some false)=some (Tg (Gy (sv t.C) (nv t.C) (dv t.C)) t.C):=by
     unfold Tg
     rw[Anl _ _ (u _ (.inl rfl)),Anl _ _ (u _ (.inr rfl))]
     cases ((Gy (sv t.C) (nv t.C) (dv t.C)).N==t.C.N) <;> cases decide ((Gy (sv t.C) (nv t.C) (dv t.C)).U=t.C.U) <;> rfl
    simp only[H,h2,T,Am,Ag,Anj t.C 1048576 c.co ω,s,Ax6 Nb p (λy hy x=>Amu y.M x (U y hy).mo) hx ω,Th,Wp]
    cases O:Tg (Gy (sv t.C) (nv t.C) (dv t.C)) t.C with
    | false=>exact⟨nofun,λ_=>⟨_,rfl,_,rfl,A,rfl⟩⟩
    | true=>
     have e:=(Anm _ _).1 O
     simp only[Dn,Av,Bool.true_and]
     rw[e,Axz t.C 1048576 c.co ω,Ag,Ax7]
     cases (nv t.C==0) with
     | true=>exact⟨nofun,λ_=>⟨_,rfl,_,rfl,A,rfl⟩⟩
     | false=>
      simp only[Av,d1,Ag,Bool.not_false,Bool.true_and]
      cases O7 data v w t.M with
      | false=>exact⟨nofun,λ_=>⟨_,rfl,_,rfl,d2,rfl⟩⟩
      | true=>
       cases Q3 p t j with
       | true=>exact⟨λ_=>⟨D,rfl,d2⟩,λh=>by cases h⟩
       | false=>exact⟨nofun,λ_=>⟨_,rfl,_,rfl,d2,rfl⟩⟩) (by
    intro o A H _
    exact⟨.inr o,by simp only[H];rfl,_,rfl,A,rfl⟩)
  refine⟨r.2,?_,?_⟩
  .have e:some r=some (p.zipIdx.all λq=>Th data v w p q.1 q.2,r.2):=by
    rcases S with⟨H,h2,T⟩|⟨H,h2,T⟩
    .rw[H,<-T]
    .rw[H,<-T]
   rw[<-e]
   exact V
  .rcases S with⟨H,h2,T⟩|⟨H,h2,T⟩ <;> exact h2
 .rw[Ap ω,Ax B]
  exact⟨b1,rfl,hm⟩
structure CSz (x:B0):Prop where
 ds:DSz x.D
 nv:x.V.length<=1048576
 vs:∀t∈x.V,Bi t<=1048576
 rs:Bi x.E<=1048576
def H4 (data:List Ao) (t:Ai):Bool:=Dk data 0 t&&decide (Bi t<=200)
def H9 (x:B0):Prop:=x.V.length<=3000/\G4 x.D/\H4 x.D x.E=true/\x.V.all (H4 x.D)=true
theorem H9.ctx {x:B0} (h:H9 x) (f:CSz x):Mv x.D x.V x.E:=by
 refine⟨h.2.1,f.ds.sz.short,λv t e=>?_,h.1⟩;have b:∀t,H4 x.D t=true->Bi t<=200:=λt h=>by simp only[H4,Dt,E8]at h;exact h.2
 unfold Ek at e;by_cases c:v = -1
 .rw[Bc c]at e;cases e;exact b _ h.2.2.1
 .rw[Bb c]at e;exact b t (H7.1 h.2.2.2 t (E9 e).2.2.2)
theorem Afm (x:B0) (c:CSz x):∃b,Uo x=some b/\(b=true↔H9 x):=by
 obtain⟨b,v,e⟩:=Al1 c.ds;have s:=c.nv;have q:=c.rs;unfold Uo H9;rw[v,Zt x.D x.E 0 ω];simp only[Ag];cases b with
 | false=>exact⟨false,rfl,by simp;intro _ h;have:=e.2 h;cases this⟩
 | true=>
  have k:=e.1 rfl;simp only[Dn,Av];by_cases i:x.V.length<=3000
  .rw[Ax ω];simp only[Av,Ag];cases f:(Dk x.D 0 x.E&&decide (Bi x.E<=200)) with
   | false=>exact⟨false,rfl,by simp[H4,f]⟩
   | true=>
    refine⟨x.V.all (H4 x.D),?_,by rw[show H4 x.D x.E=true from f];simp[i,k]⟩;simp only[Dn,Av];refine (O3 x.V (H4 x.D) (λj=>(j:Int)) rfl ω (rt:=true) (rf:=false) ?_ ?_).trans (by rw[Qq])
    .intro j t w z B C;have:=c.vs t (B4 w);simp only[z,B,C,Am,Ag,Zt x.D t 0 ω];rw[show (Dk x.D 0 t&&decide (Bi t<=200))=H4 x.D t from rfl];cases H4 x.D t with| true=>exact⟨λ_=>rfl,λh=>by cases h⟩| false=>exact⟨nofun,λ_=>⟨.inl false,rfl,rfl⟩⟩
    .intro h;exact⟨.inr (),by simp only[h];rfl,rfl⟩
  .rw[Ap ω];exact⟨false,rfl,by simp[i]⟩
mutual
theorem Afn (data:List Ao) (d:Nat) (v:Int):∀t,Dk (data.take d) v t=true->Dk data v t=true
 | ⟨k,n,l⟩,h=>by
  simp only[Dk,Dt]at h ⊢
  refine⟨?_,Ano data d v l h.2⟩
  have e:=h.1
  unfold I6 at e ⊢
  by_cases w:k=5
  .subst w
   simp only[getElem?_take]at e ⊢
   by_cases z:n.toNat<d
   .simpa[z] using e
   .simp[z]at e
  .simp only[w,if_false]at e ⊢
   exact e
theorem Ano (data:List Ao) (d:Nat) (v:Int):∀l,D8 (data.take d) v l=true->D8 data v l=true
 | [],_=>rfl
 | x::xs,h=>by
  simp only[D8,Dt]at h ⊢
  exact⟨Afn data d v x h.1,Ano data d v xs h.2⟩
end
mutual
theorem Anp (data:List Ao) (v:Int) (σ:List Ai) (z:∀s∈σ,Dk data 0 s=true) (C:(σ.length:Int)=v):∀t,Dk data v t=true->Dk data 0 (Dd σ t)=true
 | ⟨k,n,l⟩,h=>by
  simp only[Dk,Dt]at h
  cases w:isV σ k n with
  | true=>
   obtain⟨s,e,_,E⟩:=Wb w
   rw[Wc (t:=⟨k,n,l⟩) w e]
   exact z s E
  | false=>
   rw[Zv (t:=⟨k,n,l⟩) w,<-Aey]
   simp only[Dk,Dt]
   refine⟨?_,Anq data v σ z C l h.2⟩
   rw[Aey,Er]
   have e:=h.1
   unfold I6 at e ⊢
   by_cases B:k=4
   .exfalso
    subst B
    simp at e
    unfold isV at w
    rw[Ap e.1.1,Ap ω]at w
    cases w
   .simp only[B,if_false]at e ⊢
    exact e
theorem Anq (data:List Ao) (v:Int) (σ:List Ai) (e:∀s∈σ,Dk data 0 s=true) (w:(σ.length:Int)=v):∀l,D8 data v l=true->D8 data 0 (Ls σ l)=true
 | [],_=>rfl
 | x::xs,h=>by
  simp only[D8,Dt]at h
  simp only[Ls,D8,Dt]
  exact⟨Anp data v σ e w x h.1,Anq data v σ e w xs h.2⟩
end
variable {t:Ai} {i:Int} {data:List Ao} {b d m:Nat} {α β:Type} {l:List α} {f:Nat->List α} {D:α->Option Nat}
theorem Wq (h:Dk data 0 t=true):∀a∈t.R,Dk data 0 a=true:=by rw[S7,Dt,Alq,H7]at h;exact h.2
theorem Ax9 (k:G4 data) (B:Dk data 0 t=true) {c:Int} {l:List Ai} (h:I8 data t c=some l):∀a∈l,Dk data 0 a=true/\Bi a<=200:=by
 obtain⟨x,y,G,C,i,E,rfl,f⟩:=O6 h;intro a w;refine⟨?_,f a w⟩;obtain⟨b,hb,rfl⟩:=mem_map.1 w;obtain⟨H,_,j,_⟩:=E9 C;have z:=k.2.1 t.U.toNat x j;obtain⟨_,_,F⟩:=z.2.2.2.2.2 y (E9 E).2.2.2;have v:=H7.1 F b hb;refine Anp data x.V t.R (Wq B) i b ?_;unfold I7 at v;rw[Bool.or_eq_true]at v;rcases v with e|e
 .exact Afn data _ _ b (Aeu j z.2.1 e).1
 .rw[Dt]at e;exact Afn data _ _ b e.1
def bc:Nat->Nat->Nat
 | _,0=>1
 | 0,_+1=>0
 | n+1,k+1=>bc n k+bc n (k+1)
def cR (n:Nat):Bj:=Gy false n 1
theorem Afo (n:Nat):sv (cR n)=false/\nv (cR n)=n/\dv (cR n)=1:=by
 obtain⟨i,f,c,b⟩:=Ax3 false n 1 δ;refine⟨?_,?_,?_⟩
 .by_cases h:n=0
  .exact b h
  .exact c h
 .unfold cR;rw[i];simp
 .unfold cR;rw[f];simp
theorem Aya {n k:Nat} (h:Cq n<=k) (e:1<=k):RB k (cR n):=Ank _ _ _ _ h (by rw[Ani];exact e) e
theorem Anr (data:List Ao):∀(is:List Ae) (c:List Ai) (d:Nat),Bv data is c=some d->is.length=c.length/\∀(j:Nat) (i:Ae) (t:Ai),is[j]? = some i->c[j]? = some t->∃e,B3 data i t=some e/\e<=d
 | [],[],d,_=>⟨rfl,λj i t h=>by simp at h⟩
 | i::is,t::c,d,h=>by
  rw[I9]at h;cases v:B3 data i t with
  | none=>rw[v]at h;cases h
  | some a=>
   rw[v,Ag]at h;cases w:Bv data is c with
   | none=>rw[w]at h;cases h
   | some b=>rw[w]at h;have h:a+b=d:=Fe h;obtain⟨C,E⟩:=Anr data is c b w;refine⟨by simp[C],λj k f z B=>?_⟩;cases j with| zero=>cases z;cases B;exact⟨a,v,ω⟩| succ j=>obtain⟨e,q,s⟩:=E j k f z B;exact⟨e,q,ω⟩
 | [],_::_,_,h=>by simp only[Bv]at h;cases h
 | _::_,[],_,h=>by simp only[Bv]at h;cases h
def Cg (d:Nat) (f:Nat->α):List α:=(range (d+1)).map f
theorem Ij (d:Nat) (f:Nat->α):(Cg d f).length=d+1:=by simp[Cg]
theorem Tj {f:Nat->α} (h:m<=d):(Cg d f)[m]? = some (f m):=by unfold Cg;rw[getElem?_map,getElem?_range ω];rfl
theorem Mw {f:Nat->α} (hi:i=m) (h:m<=d):Af (Cg d f) i=some (f m):=Cp hi (Tj h)
theorem Afp {f g:Nat->α} (h:∀m,m<=d->f m=g m):Cg d f=Cg d g:=map_congr_left λm e=>h m (by simp at e;omega)
theorem Ny {f:Nat->α} (hi:i=m) (x:α):Bk (Cg d f) i x=Cg d (Aj f m x):=by
 rw[Ir hi];apply ext_getElem?;intro n;by_cases b:n<=d
 .rw[Tj b,getElem?_set];by_cases e:m=n
  .subst e;rw[Bc rfl,Bc (by rw[Ij];omega),Ba]
  .rw[Bb e,Tj b,Be _ _ (Ne.symm e)]
 .rw[Qk (by rw[length_set,Ij];omega),Qk (by rw[Ij];omega)]
theorem Wr (w:d<=6) (hb:b<=1000):mkN α b (Ac ((d:Int)+1)) (Ac ((d:Int)+1))=some (Cg d λ_=>[]):=by
 rw[show Ac ((d:Int)+1)=((d+1:Nat):Int) by rw[Ac,B6] <;> omega];have e:(0:Int)<=((d+1:Nat):Int):=ω;have v:((d+1:Nat):Int)<=100000:=ω;have c:b*((d+1:Nat):Int).toNat<=281474976710656:=by rw[Int.toNat_natCast];exact Nat.le_trans (Nat.mul_le_mul hb (show d+1<=7 by omega)) δ
 unfold mkN;rw[Ap rfl,Ap e,Ap v,Ap c,Int.toNat_natCast];show some _=some _;congr 1;unfold Cg;rw[List.map_const',length_range]
theorem Ans (f:Nat->α) (n:Nat):Aj f n (f n)=f:=by
 funext m;by_cases h:m=n
 .subst h;rw[Ba]
 .rw[Be _ _ h]
theorem Pa {f:α->List β} (i:l.Nodup) (v:∀a∈l,(f a).Nodup) (w:∀a∈l,∀b∈l,a≠b->∀x∈f a,x ∉ f b):(l.flatMap f).Nodup:=by unfold Nodup;rw[List.pairwise_flatMap];exact⟨v,Pairwise.imp_of_mem (λ{a b} z hb c x B y C e=>w a z b hb c x B (e ▸ C)) i⟩
theorem Lx {f:α->β} (v:∀a∈l,∀b∈l,f a=f b->a=b) (i:l.Nodup):(l.map f).Nodup:=by unfold Nodup;rw[pairwise_map];exact Pairwise.imp_of_mem (λ{a b} w hb c e=>c (v a w b hb e)) i
def Et (D:α->Option Nat) (d:Nat) (f:Nat->List α):Prop:=∀m,m<=d->(f m).Nodup/\∀x,x∈f m↔D x=some m
def Dv (D:α->Option Nat) (d:Nat):Prop:=∃S:List α,S.Nodup/\500<S.length/\∀x∈S,∃m,m<=d/\D x=some m
def A8 (d:Nat) (f:Nat->List α):Nat:=((range (d+1)).flatMap f).length
theorem Et.flat (h:Et D d f):((range (d+1)).flatMap f).Nodup/\∀x,x∈(range (d+1)).flatMap f↔∃m,m<=d/\D x=some m:=by
 refine⟨Pa List.nodup_range (λm hm=>(h m (by simp at hm;omega)).1) λa ha b hb c x hx hy=>?_,λx=>?_⟩
 .rw[mem_range]at ha hb;have j:=((h a ω).2 x).1 hx;have i:=((h b ω).2 x).1 hy;rw[j]at i;cases i;exact c rfl
 .rw[mem_flatMap];constructor
  .rintro⟨m,hm,hx⟩;rw[mem_range]at hm;exact⟨m,ω,((h m ω).2 x).1 hx⟩
  .rintro⟨m,hm,hx⟩;exact⟨m,mem_range.2 ω,((h m hm).2 x).2 hx⟩
theorem Et.big (h:Et D d f):500<A8 d f↔Dv D d:=by
 obtain⟨h1,h2⟩:=h.flat;constructor
 .exact λhb=>⟨_,h1,hb,λx hx=>(h2 x).1 hx⟩
 .rintro⟨S,i,c,b⟩;exact Nat.lt_of_lt_of_le c (i.length_le_of_subset λx hx=>(h2 x).2 (b x hx))
theorem Et.mono (h:Et D d f) (hd:b<=d):Et D b f:=λm hm=>h m ω
theorem Et.of_eq {g:Nat->List α} (h:Et D d f) (e:∀m,m<=d->g m=f m):Et D d g:=λm hm=>by rw[e m hm];exact h m hm
theorem Dv.lift {i:β->Option Nat} {f:Nat} (g:α->β) (s:∀a b,g a=g b->a=b) (u:∀x m,m<=d->D x=some m->∃c,c<=f/\i (g x)=some c) (h:Dv D d):Dv i f:=by obtain⟨S,q,k,j⟩:=h;refine⟨S.map g,Lx (λa _ b _ e=>s a b e) q,by simpa using k,λy hy=>?_⟩;obtain⟨x,hx,rfl⟩:=mem_map.1 hy;obtain⟨m,hm,e⟩:=j x hx;exact u x m hm e
theorem Ws (data:List Ao):∀(is f:List Ae) (j us:List Ai),is.length=j.length->Bv data (is++f) (j++us)=(Bv data is j).bind λa=>(Bv data f us).map (a + ·)
 | [],f,[],us,_=>by rw[nil_append,nil_append];simp only[Bv,Ag,Nat.zero_add];cases Bv data f us <;> rfl
 | i::is,f,t::j,us,h=>by
  rw[G2,G2,I9,Ws data is f j us (by simpa using h),I9];cases B3 data i t with
  | none=>rfl
  | some a=>
   cases Bv data is j with
   | none=>rfl
   | some b=>cases Bv data f us with| none=>rfl| some c=>simp[Nat.add_assoc]
theorem Afq (data:List Ao) (i:Ae) (t:Ai):Bv data [i] [t]=B3 data i t:=by rw[I9];simp only[Bv];cases B3 data i t <;> rfl
theorem Mx {is:List Ae} {b:List Ai} (h:Bv data is b=some d):is.length=b.length:=(Anr data is b d h).1
mutual
def Ik:Ai->Ae
 | ⟨k,_,l⟩=>⟨0,if k=6 then Kg l else []⟩
def Kg:List Ai->List Ae
 | []=>[]
 | t::e=>Ik t::Kg e
end
mutual
theorem Aad (data:List Ao):∀t:Ai,B3 data (Ik t) t=some 0
 | ⟨k,n,l⟩=>by
  rw[Jw]
  by_cases e:k=6
  .simp[Ik,e,Wt data l]
  .by_cases v:k=7
   .simp[Ik,v]
   .by_cases w:k=5
    .simp[Ik,w,Fb]
    .simp[Ik,e,v,w]
theorem Wt (data:List Ao):∀e:List Ai,Bv data (Kg e) e=some 0
 | []=>by simp only[Kg,Bv]
 | t::e=>by rw[Kg,I9,Aad data t,Wt data e];rfl
end
theorem Ayb (b:List Ai):(Kg b).length=b.length:=Mx (data:=[]) (Wt [] b)
mutual
theorem Ant (data:List Ao):∀(i:Ae) (t:Ai),B3 data i t=some 0->i=Ik t
 | ⟨n,v⟩,⟨k,m,l⟩,h=>by
  rw[Jw]at h
  simp only at h
  simp only[Ik]
  by_cases z:k=6
  .rw[Bc z]at h ⊢
   split at h
   .rename_i w;rw[w,Anu data v l h]
   .cases h
  .rw[Bb z]at h ⊢
   by_cases B:k=7
   .rw[Bc B]at h
    split at h
    .rename_i w
     have e:n.toNat=0:=Fe h
     have:n=0:=ω
     rw[this,F9.1 w.2.2]
    .cases h
   .rw[Bb B]at h
    by_cases C:k=5
    .rw[Bc C]at h
     split at h
     .rename_i w
      have:=We data v _ 0 h
      have E:v = []:=F9.1 ω
      rw[w,E]
     .cases h
    .rw[Bb C]at h
     split at h
     .rename_i w;rw[w.1,F9.1 w.2]
     .cases h
theorem Anu (data:List Ao):∀(is:List Ae) (v:List Ai),Bv data is v=some 0->is=Kg v
 | [],[],_=>by simp only[Kg]
 | i::is,t::v,h=>by
  rw[I9]at h
  cases w:B3 data i t with
  | none=>rw[w]at h;cases h
  | some a=>
   rw[w,Ag]at h
   cases z:Bv data is v with
   | none=>rw[z]at h;cases h
   | some b=>
    rw[z]at h
    have e:a+b=0:=Fe h
    have B:a=0:=ω
    have hb:b=0:=ω
    subst B;subst hb
    rw[Kg,<-Ant data i t w,<-Anu data is v z]
 | [],_::_,h=>by simp only[Bv]at h;cases h
 | _::_,[],h=>by simp only[Bv]at h;cases h
end
variable {t:Ai} {b c us:List Ai} {data:List Ao} {d:Nat}
theorem Dv.pre (h:Dv (λr=>Bv data r c) d):Dv (λr=>Bv data r (c++us)) d:=by obtain⟨S,j,i,f⟩:=h;refine⟨S.map (· ++ Kg us),Lx (λa _ b _ e=>List.append_cancel_right e) j,by simpa using i,λy hy=>?_⟩;obtain⟨x,hx,rfl⟩:=mem_map.1 hy;obtain⟨m,hm,e⟩:=f x hx;refine⟨m,hm,?_⟩;show Bv data (x++Kg us) (c++us)=some m;have e:Bv data x c=some m:=e;rw[Ws data _ _ _ _ (Mx e),e,Wt];rfl
theorem Dv.suf (h:Dv (λr=>Bv data r us) d):Dv (λr=>Bv data r (c++us)) d:=by refine h.lift (Kg c ++ ·) (λa b e=>List.append_cancel_left e) λx m hm e=>⟨m,hm,?_⟩;show Bv data (Kg c++x) (c++us)=some m;have e:Bv data x us=some m:=e;rw[Ws data _ _ _ _ (Ayb c),Wt,e];simp
theorem Dv.one (h:Dv (λi=>B3 data i t) d):Dv (λr=>Bv data r [t]) d := h.lift (λi=>[i]) (λa b e=>by cases e;rfl) λx m hm e=>⟨m,hm,by rw[Afq];exact e⟩
theorem Dv.up {α:Type} {D:α->Option Nat} {b:Nat} (h:Dv D d) (hd:d<=b):Dv D b:=h.lift id (λ_ _ e=>e) λx m hm e=>⟨m,ω,e⟩
theorem Dv.tup (c:t.G=6) (h:Dv (λr=>Bv data r t.R) d):Dv (λi=>B3 data i t) d := h.lift (λr=>⟨0,r⟩) (λa b e=>by cases e;rfl) λx m hm e=>⟨m,hm,by rw[Jw,Bc c,Bc rfl];exact e⟩
theorem Dv.dat (j:t.G=5) {c:Int} {f:List Ai} (hc:Fr data t c=some f) (h:Dv (λr=>Bv data r f) d):Dv (λi=>B3 data i t) (d+1) := h.lift (λr=>⟨0,[⟨c,r⟩]⟩) (λa b e=>by cases e;rfl) λx m hm e=>⟨1+m,ω,by rw[Jw,Bb ω,Bb ω,Bc j,Bc rfl,Qv,hc];have e:Bv data x f=some m:=e;simp only[Ag,e,Fb,Option.map_some,Nat.add_zero]⟩
theorem Anv {B:Nat}:∀l:List Ai,(∀a∈l,Bi a<=B)->Cl l<=l.length*B
 | [],_=>by simp[Cl]
 | a::l,h=>by have e:=h a ψ;have v:=Anv l λb hb=>h b (by simp[hb]);simp only[Cl,Hj,Nat.add_mul,Nat.one_mul];omega
theorem Wu (i:Szv data) {c:Int} (h:Fr data t c=some b):b.length<=6:=by unfold Fr at h;cases v:I8 data t c with| none=>rw[v]at h;cases h| some l=>rw[v]at h;have e:Gx l (Gw data t.U c)=b:=Fe h;obtain⟨x,y,_,z,_,B,el,_⟩:=O6 v;obtain⟨_,_,_,w⟩:=E9 z;obtain⟨_,_,_,f⟩:=E9 B;rw[<-e];refine Nat.le_trans (Zx _ _) ?_;rw[el,Er];exact (i x w y f).1
theorem Tk (f:Szv data) {c:Int} (h:Fr data t c=some b):Cl b<=1200:=by have e:=Anv b (S9 h).1;have:=Nat.mul_le_mul_right 200 (Wu f h);omega
mutual
theorem Tl {data:List Ao} (w:Szv data):∀(i:Ae) (t:Ai) (d:Nat),B3 data i t=some d->Di i<=Bi t+1201*d
 | ⟨n,e⟩,t,d,h=>by
  rw[Jw]at h
  simp only[Di]
  simp only at h
  have:=G3 t
  split at h
  .split at h
   .have:=Afr w e _ d h;omega
   .cases h
  .split at h
   .split at h
    .rename_i v
     rw[F9.1 v.2.2];simp only[Fa];omega
    .cases h
   .split at h
    .split at h
     .have:=Anw w e _ d h;omega
     .cases h
    .split at h
     .rename_i v
      rw[F9.1 v.2];simp only[Fa];omega
     .cases h
theorem Afr {data:List Ao} (z:Szv data):∀(is:List Ae) (e:List Ai) (d:Nat),Bv data is e=some d->Fa is<=Cl e+1201*d
 | [],[],d,h=>by simp only[Fa];omega
 | i::is,t::e,d,h=>by
  rw[I9]at h
  cases v:B3 data i t with
  | none=>rw[v]at h;cases h
  | some a=>
   rw[v,Ag]at h
   cases w:Bv data is e with
   | none=>rw[w]at h;cases h
   | some b=>
    rw[w]at h
    cases h
    have:=Tl z i t a v
    have:=Afr z is e b w
    simp only[Fa,Cl];omega
 | [],_::_,d,h=>by simp only[Bv]at h;cases h
 | _::_,[],d,h=>by simp only[Bv]at h;cases h
theorem Anw {data:List Ao} (v:Szv data):∀(es:List Ae) (t:Ai) (d:Nat),Fb data es t=some d->Fa es<=1201*d
 | [],t,d,h=>by simp only[Fa];omega
 | ⟨n,e⟩::es,t,d,h=>by
  rw[Qv]at h
  simp only at h
  cases w:Fr data t n with
  | none=>rw[w]at h;cases h
  | some C=>
   rw[w,Ag]at h
   cases z:Bv data e C with
   | none=>rw[z]at h;cases h
   | some a=>
    rw[z,Ag]at h
    cases B:Fb data es t with
    | none=>rw[B]at h;cases h
    | some b=>
     rw[B]at h
     cases h
     have:=Afr v e C a z
     have:=Anw v es t b B
     have:=Tk v w
     simp only[Fa,Di];omega
end
variable {a:Aq} {t:Bu} {x y:Int} {b p:List Bu} {l:List Int} {N j n:Nat} {α β:Type} {S:α->Prop} {c g:α->α->Int} {cmp:α->α->Option Int}
def sg (s:Bool) (n:Nat):Int:=if s then -(n:Int) else n
def rq (a:Bj):Rat:=mkRat (sg (sv a) (nv a)) (dv a)
def Aae (a:Bj):Prop:=a=Gy (sv a) (nv a) (dv a)
structure D5 {α:Type} (S:α->Prop) (g:α->α->Int):Prop where
 zero:∀a b,S a->S b->(g a b=0↔a=b)
 anti:∀a b,S a->S b->g b a = - g a b
 trans:∀a b c,S a->S b->S c->g a b<0->g b c<0->g a c<0
theorem D5.cmpI:D5 (λ_:Int=>True) D9:=by
 refine⟨λa b _ _=>Ge,λa b _ _=>?_,λa b c _ _ _=>?_⟩
 .unfold Go.Ab.D9;split <;> split <;> (try split) <;> (try split) <;> omega
 .unfold Go.Ab.D9;intro h1 h2;split at h1 <;> (try split at h1) <;> split at h2 <;> (try split at h2) <;> first|omega | (rw[Bc ω];decide)
theorem Anx:Dw x y<0↔x<0\/(x=0/\y<0):=by unfold Dw;split <;> omega
theorem Anz:Dw x y=0↔x=0/\y=0:=by unfold Dw;split <;> omega
theorem D5.or {γ:Type} {x:β->Prop} {u:γ->Prop} {s:β->β->Int} {j:γ->γ->Int} (p:α->β) (q:α->γ) (i:∀a b,p a=p b->q a=q b->a=b) (h1:D5 x s) (h2:D5 u j) (f:∀a,S a->x (p a)/\u (q a)) : D5 S (λa b=>Dw (s (p a) (p b)) (j (q a) (q b))):=by
 refine⟨λa b ha hb=>?_,λa b ha hb=>?_,λa b c ha hb hc=>?_⟩
 .rw[Anz,h1.zero _ _ (f a ha).1 (f b hb).1,h2.zero _ _ (f a ha).2 (f b hb).2];exact⟨λh=>i a b h.1 h.2,λh=>by subst h;exact⟨rfl,rfl⟩⟩
 .show Dw (s (p b) (p a)) (j (q b) (q a)) = - Dw (s (p a) (p b)) (j (q a) (q b));have B:=h1.anti _ _ (f a ha).1 (f b hb).1;have A:=h2.anti _ _ (f a ha).2 (f b hb).2;rw[B,A];unfold Dw;split <;> split <;> omega
 .show Dw _ _<0->Dw _ _<0->Dw _ _<0;simp only[Anx];have y:=h1.zero _ _ (f a ha).1 (f b hb).1;have e:=h1.zero _ _ (f b hb).1 (f c hc).1;have t1:=h1.trans _ _ _ (f a ha).1 (f b hb).1 (f c hc).1;have t2:=h2.trans _ _ _ (f a ha).2 (f b hb).2 (f c hc).2;rintro (h|⟨h,h'⟩) (k|⟨k,z⟩)
  .exact .inl (t1 h k)
  .rw[<-e.1 k];exact .inl h
  .rw[y.1 h];exact .inl k
  .rw[<-e.1 k,h];exact .inr ⟨rfl,t2 h' z⟩
theorem D5.mono {i:α->Prop} (h:D5 S g) (f:∀a,i a->S a):D5 i g := ⟨λa b ha hb=>h.zero a b (f a ha) (f b hb),λa b ha hb=>h.anti a b (f a ha) (f b hb),λa b c ha hb hc=>h.trans a b c (f a ha) (f b hb) (f c hc)⟩
theorem D5.congr (h:D5 S g) (e:∀a b,c a b=g a b):D5 S c:=by have:c=g:=funext λa=>funext λb=>e a b;rw[this];exact h
def LL (g:α->α->Int) (l m:List α):Int:=if l.length=m.length then E6 g l m else Go.Ab.D9 l.length m.length
theorem An0 {α:Type} {S:α->Prop} {g:α->α->Int} (h:D5 S g):∀l m:List α,l.length=m.length->(∀x∈l,S x)->(∀x∈m,S x)->(E6 g l m=0↔l=m)
 | [],[],_,_,_=>by simp[E6]
 | x::xs,y::w,b,e,v=>by simp only[E6,Anz,h.zero x y (e x ψ) (v y ψ),An0 h xs w (by simpa using b) (λz c=>e z (by simp[c])) λz c=>v z (by simp[c]),List.cons.injEq]
 | [],_::_,b,_,_=>by simp at b
 | _::_,[],b,_,_=>by simp at b
theorem An1 {α:Type} {S:α->Prop} {g:α->α->Int} (h:D5 S g):∀l m:List α,l.length=m.length->(∀x∈l,S x)->(∀x∈m,S x)->E6 g m l = - E6 g l m
 | [],[],_,_,_=>by simp[E6]
 | x::xs,y::w,b,e,v=>by simp only[E6,h.anti x y (e x ψ) (v y ψ),An1 h xs w (by simpa using b) (λz c=>e z (by simp[c])) λz c=>v z (by simp[c])];unfold Dw;split <;> split <;> omega
 | [],_::_,b,_,_=>by simp at b
 | _::_,[],b,_,_=>by simp at b
theorem An2 {α:Type} {S:α->Prop} {g:α->α->Int} (h:D5 S g):∀l m n:List α,l.length=m.length->m.length=n.length->(∀x∈l,S x)->(∀x∈m,S x)->(∀x∈n,S x)->E6 g l m<0->E6 g m n<0->E6 g l n<0
 | [],[],_,_,_,_,_,_=>by intro h;simp[E6]at h
 | x::xs,y::E,z::F,f,v,w,e,B=>by
  simp only[E6,Anx];have i:=h.zero x y (w x ψ) (e y ψ);have C:=h.zero y z (e y ψ) (B z ψ);have t1:=h.trans x y z (w x ψ) (e y ψ) (B z ψ);have t2:=An2 h xs E F (by simpa using f) (by simpa using v) (λz c=>w z (by simp[c])) (λz c=>e z (by simp[c])) λz c=>B z (by simp[c]);rintro (a|⟨a,k⟩) (b|⟨b,j⟩)
  .exact .inl (t1 a b)
  .rw[<-C.1 b];exact .inl a
  .rw[i.1 a];exact .inl b
  .rw[<-C.1 b,a];exact .inr ⟨rfl,t2 k j⟩
 | _::_,_::_,[],_,v,_,_,_=>by simp at v
 | [],_::_,_,f,_,_,_,_=>by simp at f
 | _::_,[],_,f,_,_,_,_=>by simp at f
theorem D5.ll (h:D5 S g):D5 (λl=>∀x∈l,S x) (LL g):=by
 have c:=D5.cmpI;refine⟨λa b ha hb=>?_,λa b ha hb=>?_,λx y z hx hy q=>?_⟩
 .unfold LL;split
  .rename_i i;exact An0 h a b i ha hb
  .rename_i i;rw[Ge];exact⟨λe=>(i ω).elim,λe=>(i (by rw[e])).elim⟩
 .unfold LL;by_cases i:a.length=b.length
  .rw[Bc i,Bc i.symm];exact An1 h a b i ha hb
  .rw[Bb i,Bb λe=>i e.symm];exact c.anti _ _ trivial trivial
 .unfold LL;intro h1 h2;have neg:∀a b:Int,Go.Ab.D9 a b<0->a<b:=(by intro a b h;unfold Go.Ab.D9 at h;split at h <;> (try split at h) <;> omega);have f:∀a b:Int,a<b->Go.Ab.D9 a b<0:=(by intro a b h;unfold Go.Ab.D9;rw[Bc h];decide);by_cases k:x.length=y.length
  .rw[Bc k]at h1;by_cases j:y.length=z.length
   .rw[Bc j]at h2;rw[Bc ω];exact An2 h x y z k j hx hy q h1 h2
   .rw[Bb j]at h2;rw[Bb ω];have:=neg _ _ h2;exact f _ _ ω
  .rw[Bb k]at h1;have:=neg _ _ h1;by_cases j:y.length=z.length
   .rw[Bb ω];exact f _ _ ω
   .rw[Bb j]at h2;have:=neg _ _ h2;rw[Bb ω];exact f _ _ ω
theorem An3 (g:α->α->Int) (l m:List α) (y:Int):Dw (LL g l m) y=if l.length=m.length then Dw (E6 g l m) y else Go.Ab.D9 l.length m.length:=by
 unfold LL;by_cases h:l.length=m.length
 .rw[Bc h,Bc h]
 .rw[Bb h,Bb h];unfold Dw;rw[Bb λe=>h (by have:=Ge.1 e;omega)]
theorem Ayc:D5 (λ_=>True) K7 := (D5.or (S:=λ_=>True) (λt:Gd=>t.v) (λt=>t.C) (λa b e v=>by cases a;cases b;cases e;cases v;rfl) D5.cmpI D5.cmpI λ_ _=>⟨trivial,trivial⟩).congr λ_ _=>rfl
theorem Afs:D5 (λ_=>True) Hf := (D5.or (S:=λ_=>True) (λt:Cm=>t.T) (λt=>t.Q) (λa b e v=>by cases a;cases b;cases e;cases v;rfl) Ayc.ll D5.cmpI λ_ _=>⟨λ_ _=>trivial,trivial⟩).congr λa b=>by show Hf a b=Dw (LL K7 a.T b.T) (Go.Ab.D9 a.Q b.Q);rw[An3];rfl
theorem Ayd (i j:Ae):Es i j=Dw (Go.Ab.D9 i.U j.U) (LL Es i.K j.K):=by
 rw[Afd,Z8];unfold Dw LL;by_cases h:i.U=j.U
 .rw[Bc h,Bc (Ge.2 h)]
 .rw[Bb h,Bb λe=>h (Ge.1 e)]
theorem Aft:∀n:Nat,D5 (λi=>Di i<=n) Es:=by intro n;induction n with| zero=>exact⟨λa _ e=>by have:=Gs a;omega,λa _ e=>by have:=Gs a;omega,λa _ _ e=>by have:=Gs a;omega⟩| succ n ih=>refine (D5.or (S:=λi=>Di i<=n+1) (λi:Ae=>i.U) (λi=>i.K) (λa b v w=>by cases a;cases b;cases v;cases w;rfl) D5.cmpI ih.ll ?_).congr Ayd;intro i B;refine⟨trivial,λx z=>?_⟩;have v:=K1 z;have w:=Gs i;show Di x<=n;omega
theorem Aaf:D5 (λ_=>True) Es := ⟨λa b _ _=>(Aft (max (Di a) (Di b))).zero a b (by show Di a<=_;omega) (by show Di b<=_;omega),λa b _ _=>(Aft (max (Di a) (Di b))).anti a b (by show Di a<=_;omega) (by show Di b<=_;omega),
  λa b c _ _ _=>(Aft (max (Di a) (max (Di b) (Di c)))).trans a b c (by show Di a<=_;omega) (by show Di b<=_;omega) (by show Di c<=_;omega)⟩
theorem Aye:D5 (λ_=>True) K8 := (D5.or (S:=λ_=>True) (λt:Cn=>t.v) (λt=>t.I) (λa b e v=>by cases a;cases b;cases e;cases v;rfl) D5.cmpI Aaf λ_ _=>⟨trivial,trivial⟩).congr λ_ _=>rfl
theorem Ayf:D5 (λ_=>True) Lv := (D5.or (S:=λ_=>True) (λt:B8=>t.L) (λt=>t.P) (λa b e v=>by cases a;cases b;cases e;cases v;rfl) Afs D5.cmpI λ_ _=>⟨trivial,trivial⟩).congr λ_ _=>rfl
theorem Aag:D5 (λ_=>True) H3 := (D5.or (S:=λ_=>True) (λt:Aq=>t.F) (λt=>t.A) (λa b e v=>by cases a;cases b;cases e;cases v;rfl) Aye.ll Ayf.ll λ_ _=>⟨λ_ _=>trivial,λ_ _=>trivial⟩).congr λa b=>by show H3 a b=Dw (LL K8 a.F b.F) (LL Lv a.A b.A);rw[An3];rfl
theorem Ayg {b:Aq}:H3 a b=0↔a=b:=Aag.zero a b trivial trivial
theorem Ayh {b c:Aq} (h:H3 a b<0) (e:H3 b c<0):H3 a c<0:=Aag.trans a b c trivial trivial trivial h e
def cf:List Bu->Aq->Rat
 | [],_=>0
 | t::p,m=>(if H3 t.M m=0 then rq t.C else 0)+cf p m
def ltT (t u:Bu):Prop:=H3 t.M u.M<0
structure CP (p:List Bu):Prop where
 srt:p.Pairwise ltT
 coe:∀t∈p,Aae t.C/\rq t.C≠0
theorem CP.tail (h:CP (t::p)):CP p:=⟨(pairwise_cons.1 h.srt).2,λu e=>h.coe u (by simp[e])⟩
theorem CP.nil:CP []:=⟨Pairwise.nil,λ_ h=>by cases h⟩
theorem CP.cons {t:Bu} {p:List Bu} (h:CP p) (h1:∀u∈p,H3 t.M u.M<0) (h2:Aae t.C) (h3:rq t.C≠0):CP (t::p) := ⟨pairwise_cons.2 ⟨h1,h.srt⟩,λu e=>by
  rcases Iq.1 e with rfl|e
  .exact⟨h2,h3⟩
  .exact h.coe u e⟩
theorem An4 (c:Bj):Wp c=true↔Aae c/\rq c≠0:=by
 unfold Wp Aae;rw[Dt,Anm];have h:(!(nv c==0))=true↔rq c≠0:=by have e:rq c=0↔nv c=0:=(by unfold rq;rw[Rat.mkRat_eq_zero (Axx c)];unfold sg;split <;> omega);rw[Ne,e];simp
 rw[h];exact⟨λ⟨a,b⟩=>⟨a.symm,b⟩,λ⟨a,b⟩=>⟨a.symm,b⟩⟩
theorem Ayi {l:List Bu} (h:∀(j:Nat) (x y:Bu),l[j]? = some x->l[j+1]? = some y->H3 x.M y.M<0):l.Pairwise ltT:=by
 induction l with
 | nil=>exact Pairwise.nil
 | cons t l ih=>
  have ih:=ih λj x y z B=>h (j+1) x y (by simpa using z) (by simpa using B);refine pairwise_cons.2 ⟨?_,ih⟩;cases l with
  | nil=>intro u e;cases e
  | cons v l=>
   have w:=h 0 t v rfl rfl;intro u e;rcases Iq.1 e with rfl|e
   .exact w
   .exact Ayh w ((pairwise_cons.1 ih).1 u e)
theorem Afu {data:List Ao} {e:List Ai} {v:Ai}:Lw data e v p=true↔p.length<=1000/\CP p/\∀t∈p,O7 data e v t.M=true:=by
 unfold Lw;rw[Dt,E8];constructor
 .rintro⟨C,B⟩;have g:∀(j:Nat) (t:Bu),p[j]? = some t->Wp t.C=true/\O7 data e v t.M=true/\Q3 p t j=true:=(by intro j t w;have:=Mq B w;simp only[Th,Dt]at this;exact⟨this.1.1,this.1.2,this.2⟩);refine⟨C,⟨Ayi λj x y G H=>?_,λt E=>?_⟩,λt E=>?_⟩
  .have:=(g _ _ H).2.2;unfold Q3 at this;rw[show j+1-1=j by omega,G]at this;simpa using this
  .obtain⟨j,w⟩:=Kz E;exact (An4 _).1 (g j t w).1
  .obtain⟨j,w⟩:=Kz E;exact (g j t w).2.1
 .rintro⟨C,B,I⟩;refine⟨C,H7.2 λq z=>?_⟩;have z:=mem_zipIdx' z;have w:p[q.2]? = some q.1:=(Cs z.1).trans (congrArg some z.2.symm);have F:q.1∈p:=B4 w;simp only[Th,Dt];refine⟨⟨(An4 _).2 (B.coe _ F),I _ F⟩,?_⟩;unfold Q3;by_cases J:q.2=0
  .rw[J];rfl
  .have b:q.2-1<p.length:=ω;rw[Cs b];have:=pairwise_iff_getElem.1 B.srt (q.2-1) q.2 b z.1 ω;rw[<-z.2]at this;simp only[Bool.or_eq_true,E8];exact .inr this
theorem An5:∀(k:Nat) (t:Ae),Di t<=k->k<1099511627776->Nh k t=some t:=by
 intro k;induction k with
 | zero=>intro t h;have:=Gs t;omega
 | succ k ih=>
  intro t h B;have c:=Gs t;have b:=Lt t.K;rw[Nh];refine Ga t.K (λj=>((j:Int),(t.K.take j))) rfl ω ?_ ?_
  .intro j x C e v w z;have:=K1 (B4 e);simp only[v,w,z,Am,Ag,ih x ω ω];rw[Cy ζ,Ag,C5 e]
  .intro v;exact⟨t.K,ψ,by cases t;rfl⟩
theorem Ayj (m:Aq) (b:MSz m):Ry m=some m:=by
 have E:=b.nf;have c:=b.na;unfold Ry;refine Ga m.F (λj=>((j:Int),(m.F.take j))) rfl ω ?_ ?_
 .intro j x C e v w z;have B:=B4 e;have:=b.fi x B;simp only[v,w,z,Am,Ag,An5 4000000 x.I ω ω];rw[Cy ζ,Ag,C5 e]
 .intro v;refine⟨m.F,ψ,?_⟩;dsimp only;refine Ga m.A (λj=>((j:Int),(m.A.take j))) rfl ω ?_ ?_
  .intro j x C e v w z;have B:=B4 e;have:=b.al x B;simp only[v,w,z,Am,Ag,Yl];rw[Cy ζ,Ag,Cy ζ,Ag,C5 e];rfl
  .intro v;exact⟨m.A,ψ,by cases m;rfl⟩
structure TB (k:Nat) (t:Bu):Prop where
 co:RB k t.C
 mo:MSz t.M
theorem TB.mono {k:Nat} (h:TB j t) (hk:j<=k):TB k t:=⟨h.co.mono hk,h.mo⟩
def Aah (n:Int) (f:Bool):List Int:=if f then (if n<0 then [45] else []) else (if n<0 then [32,45,32] else [32,43,32])
def Afv (n:Int):List Int:=if n.natAbs=1 then [] else ti n.natAbs++[42]
def Afw (v:Int):List Int:=if v = -1 then [114,101,115] else 118::ti v
def tT (f:Bool) (t:Gd):List Int:=Aah t.C f++(Afv t.C++Afw t.v)
def Aai:Bool->List Gd->Int->List Int
 | f,[],c=>if c≠0\/f=true then Aah c f++ti c.natAbs else []
 | f,t::b,c=>tT f t++Aai false b c
def Ayk (l:Cm):List Int:=Aai true l.T l.Q
def Aaj (X:List Int):Prop:=∀c m,X=c::m->c=97
theorem Aaj.nil:Aaj []:=by intro c m h;cases h
theorem Aaj.cons (X:List Int):Aaj (97::X):=by intro c m h;cases h;rfl
theorem Ayl (n:Nat):∃c m,ti n=c::m/\48<=c/\c<=57:=by
 have b:=Ae6 (n:Int);cases h:ti (n:Int) with
 | nil=>exact (b h).elim
 | cons c m=>refine⟨c,m,rfl,?_⟩;have v:c∈ti (n:Int):=(by rw[h];simp);unfold ti at v;obtain⟨x,w,rfl⟩:=mem_map.1 v;have e:Lib.itoa (n:Int)=Lib.decDigits n:=(by unfold Lib.itoa;first|rfl | (rw[Bb ω];simp) | simp);rw[e]at w;have:=Zy n n (Nat.le_refl _) x w;omega
def NoM (P:List Int):Prop:=∃c m,P=c::m/\c≠45
theorem NoM.ti (n:Nat) (X:List Int):NoM (Go.Ab.ti n++X):=by obtain⟨c,m,e,h⟩:=Ayl n;exact⟨c,m++X,by rw[e];rfl,ω⟩
def An6 (a:B8):List Int:=97::(ti a.P++58::Ayk a.L)
def An7 (f:Cn):List Int:=Lu f.v f.I
def Aym (m:Aq):List Int:=m.F.flatMap An7++m.A.flatMap An6
def By (l:List Int):Prop:=∀c∈l,0<=c/\c<256
theorem By.app {m:List Int} (h:By l) (h':By m):By (l++m):=by
 intro c hc;rcases Fi.1 hc with k|k
 .exact h c k
 .exact h' c k
theorem By.ti (n:Int):By (Go.Ab.ti n):=by intro c h;have:=Nx n c h;simp only[Nw,Bool.or_eq_true,Dt,beq_iff_eq,E8]at this;omega
theorem By.cons {c:Int} {l:List Int} (hc:0<=c/\c<256) (h:By l):By (c::l):=by
 intro d hd;rcases Iq.1 hd with rfl|k
 .exact hc
 .exact h d k
theorem By.nil:By []:=λc h=>by cases h
theorem By.sgn (n:Int) (f:Bool):By (Aah n f):=by unfold Aah;split <;> split <;> intro c hc <;> simp at hc <;> omega
theorem By.mag (n:Int):By (Afv n):=by
 unfold Afv;split
 .exact By.nil
 .exact (By.ti _).app (By.cons ω By.nil)
theorem By.var (n:Int):By (Afw n):=by
 unfold Afw;split
 .intro c hc;simp at hc;omega
 .exact By.cons ω (By.ti _)
theorem By.tT (f:Bool) (t:Gd):By (tT f t):=(By.sgn _ _).app ((By.mag _).app (By.var _))
theorem By.lins:∀(l:List Gd) (f:Bool) (c:Int),By (Aai f l c)
 | [],f,c=>by
  simp only[Aai];split
  .exact (By.sgn _ _).app (By.ti _)
  .exact By.nil
 | t::l,f,c=>(By.tT f t).app (By.lins l false c)
theorem By.at (a:B8):By (An6 a):=By.cons ω ((By.ti _).app (By.cons ω (By.lins _ _ _)))
theorem By.flat {g:α->List Int} (h:∀a,By (g a)) (l:List α):By (l.flatMap g):=by intro c hc;obtain⟨a,_,k⟩:=mem_flatMap.1 hc;exact h a c k
theorem By.fac (f:Cn):By (An7 f):=Z2 f.v f.I
theorem By.mono (m:Aq):By (Aym m):=(By.flat By.fac _).app (By.flat By.at _)
def bs (l:List Int):ByteArray:=⟨(Fw l).toArray⟩
theorem bnd {X:Option α} {a:α} {K:α->Option β} {r:Option β} (h:X=some a) (k:K a=r):X.bind K=r:=by rw[h];exact k
def Dst (b:List Bu):Prop:=b.Pairwise λt u=>t.M≠u.M
theorem Dst.set (h:Dst b) {u:Bu} (v:b[j]? = some t) (hm:u.M=t.M):Dst (b.set j u):=by
 have e:(b.set j u).map (·.M)=b.map (·.M):=by
  apply ext_getElem?;intro i;rw[getElem?_map,getElem?_map,getElem?_set];by_cases e:j=i
  .subst e;rw[Bc rfl,Bc (Gp v),v];simp[hm]
  .rw[Bb e]
 have k:∀l:List Bu,Dst l↔(l.map (·.M)).Pairwise (·≠·):=λl=>by rw[pairwise_map];exact Iff.rfl
 rw[k,e,<-k];exact h
structure Col (k:Nat) (P:Aq->Prop) (ts:List Bu):Prop where
 dst:Dst ts
 tb:∀t∈ts,RB k t.C
 mo:∀t∈ts,P t.M
theorem Col.nil (k:Nat) (P:Aq->Prop):Col k P []:=⟨Pairwise.nil,λ_ h=>(by cases h),λ_ h=>(by cases h)⟩
theorem Wv {l:List α} (h:n=l.length):G5 n l=some ():=by unfold G5;rw[Bc h]
theorem Ayn {s:ByteArray} {i:Int} (h0:0<=i) (h:i.toNat<s.size):∃c,Fg s i=some c:=by unfold Fg;rw[Bc h0];exact⟨_,getElem?_pos s i.toNat h⟩
set_option maxRecDepth 20000 in
theorem Ayo {n:Nat} (h:n<256):∃v,R9 (Bh (n:Int))=some v:=by
 unfold R9 Yt;rw[Bh,E4 ω ω,Ax ω];simp only[Av,Ag];rw[Ax ω];simp only[Av,Ag];rw[Ax ω];simp only[Av,Ag];have b:wu8 (n:Int)=(n:Int):=by rw[wu8];unfold IntKind.wrap;simp[IntKind.bits,IntKind.signed];omega
 rw[b];generalize j:ByteArray.mk _=T;have f:T.size=256:=by rw[<-j];rfl
 obtain⟨c,e⟩:=Ayn (s:=T) (i:=(n:Int)) ω (by rw[f];simpa using h);rw[e];exact⟨_,rfl⟩
theorem Afx (x:B0) (y:CSz x) (f:List (List Bu)) (I:∀p∈f,∀t∈p,TSz t) (S:f.length<=1048576) : ∃r,Oc x f=some r/\(((H9 x/\∀p∈f,Lw x.D x.V x.E p=true)/\∃G,r = .inl (true,x,G,[],x.D,x.V,x.E.G,x.E.U,x.E.R)/\D4 x.D x.V x.E G) \/ ((¬(H9 x/\∀p∈f,Lw x.D x.V x.E p=true))/\r = .inr false)):=by
 obtain⟨b,H,w⟩:=Alz y.ds;have R:=y.nv;have O:=y.rs;unfold Oc;rw[H,Zs x.D x.E 0 ω];by_cases D:x.V.length<=3000
 .rw[Ax ω];simp only[Av,Ag];cases b with
  | false=>exact⟨_,rfl,.inr ⟨λh=>(by have:=w.2 h.1.2.1;cases this),rfl⟩⟩
  | true=>
   have N:=w.1 rfl;simp only[Dn,Av];cases L:(Dk x.D 0 x.E&&decide (Bi x.E<=200)) with
   | false=>exact⟨_,rfl,.inr ⟨λh=>(by have:=h.1.2.2.1;rw[show H4 x.D x.E=false from L]at this;cases this),rfl⟩⟩
   | true=>
    simp only[Dn,Av,Ag];refine F4 (λi=>∃j:Nat,i=j/\j<=x.V.length/\(x.V.take j).all (H4 x.D)=true) (λi=>x.V.length-i.toNat) (λz=>match z with|.inl r=>r=false/\¬H9 x | .inr _=>H9 x) ⟨0,rfl,ω,ψ⟩ ?_ ?_
    .rintro i ⟨j,rfl,Q,c⟩;rcases C9 j x.V.length with h|h
     .have e:x.V[j]? = some x.V[j]:=Cs h;generalize x.V[j]=t at e;have:=y.vs t (B4 e);simp only[Ap (ω:(j:Int)<(x.V.length:Int)),Am,Cp rfl e,Ag,Zs x.D t 0 ω,En h ω];rw[show (Dk x.D 0 t&&decide (Bi t<=200))=H4 x.D t from rfl];cases M:H4 x.D t with| true=>exact .inl ⟨_,rfl,⟨j+1,rfl,ω,by rw[C5 e,all_append,c];simp[M]⟩,ζ⟩| false=>refine .inr ⟨.inl false,rfl,rfl,λJ=>?_⟩;have:=H7.1 J.2.2.2 t (B4 e);rw[M]at this;cases this
     .have:j=x.V.length:=ω;subst this;rw[Dr]at c;exact .inr ⟨.inr (),ψ,D,N,L,c⟩
    .rintro (r|u) k
     .obtain⟨rfl,k⟩:=k;exact⟨_,rfl,.inr ⟨λh=>k h.1,rfl⟩⟩
     .have C:H9 x:=k;simp only;refine F4 (λs=>∃(j:Nat) (o:List (ByteArray×Int)),s=((j:Int),o)/\j<=f.length/\D4 x.D x.V x.E o/\∀p∈f.take j,Lw x.D x.V x.E p=true) (λs=>f.length-s.1.toNat) (λz=>match z with|.inl r=>r=false/\¬(∀p∈f,Lw x.D x.V x.E p=true) | .inr o=>D4 x.D x.V x.E o/\∀p∈f,Lw x.D x.V x.E p=true) ⟨0,[],rfl,ω,(λq h=>by cases h),(λq h=>by simp at h)⟩ ?_ ?_
      .rintro _ ⟨j,o,rfl,Q,F,c⟩;rcases C9 j f.length with h|h
       .have e:f[j]? = some f[j]:=Cs h;generalize f[j]=p at e;have B:=B4 e;obtain⟨G,T,c2⟩:=Ax8 (C.ctx y) [] F p (I p B);simp only[Ap (ω:(j:Int)<(f.length:Int)),Am,Cp rfl e,Ag,T,En h ω];cases E:Lw x.D x.V x.E p with
        | true=>
         refine .inl ⟨_,rfl,⟨j+1,G,rfl,ω,c2,λq v=>?_⟩,ζ⟩;rw[C5 e]at v;rcases Fi.1 v with v|v
         .exact c q v
         .simp only[Fx]at v;subst v;exact E
        | false=>refine .inr ⟨.inl false,rfl,rfl,λJ=>?_⟩;have:=J p B;rw[E]at this;cases this
       .have:j=f.length:=ω;subst this;rw[Dr]at c;exact .inr ⟨.inr o,ψ,F,c⟩
      .rintro (r|o) A
       .obtain⟨rfl,A⟩:=A;exact⟨_,rfl,.inr ⟨λh=>A h.2,rfl⟩⟩
       .exact⟨_,rfl,.inl ⟨⟨C,A.2⟩,o,rfl,A.1⟩⟩
 .rw[Ap ω];exact⟨_,rfl,.inr ⟨λh=>D h.1.1,rfl⟩⟩
def Ayp (x:B0) (m:Aq):Prop:=O7 x.D x.V x.E m=true/\MSz m
structure Tm (x:B0) (p:List Bu):Prop where
 can:Lw x.D x.V x.E p=true
 sz:∀t∈p,TSz t
theorem Tm.cp {x:B0} (h:Tm x p):CP p:=(Afu.1 h.can).2.1
theorem Tm.mo {x:B0} (h:Tm x p):∀t∈p,Ayp x t.M:=λt e=>⟨(Afu.1 h.can).2.2 t e,(h.sz t e).mo⟩
structure Asc (b:List Int) (n:Nat) (l:List Int):Prop where
 up:l.Pairwise (· < ·)
 mem:∀y,y∈l↔y∈b.take n
theorem Asc.same {b:List Int} {q:Nat} (h:Asc b (q+1) l) (hp:b[q]? = some x) (hx:b[q+1]? = some x):Asc b (q+2) l:=by
 refine⟨h.up,λy=>?_⟩;rw[C5 hx,Fi,h.mem y];constructor
 .exact .inl
 .rintro (h1|h1)
  .exact h1
  .rw[Fx]at h1;subst h1;rw[C5 hp];simp
noncomputable def K9 (cmp:α->α->Option Int) (a0:Int):Int×List α->Option ((Int×List α)⊕(Int×List α)):=λ(e,b)=> (show OB from bif e>a0 then ((Af b e).bind λw=> (Af b (Ac (e-1))).bind λf=> (cmp w f).bind λz=> some (decide (z<(0:Int)))) else some false).bind λc=>
 bif c then ((Af b (Ac (e-1))).bind λv=> (Af b e).bind λB=> (Af b e).bind λC=> (Af (Bk b e v) (Ac (e-1))).bind λE=> some (.inl ((Ac (e-1)),(Bk (Bk b e v) (Ac (e-1)) B)))) else some (.inr (e,b))
noncomputable def Afy (cmp:α->α->Option Int) (a0 a1:Int) (i:List α):Option (List α) := (Ak (S:=(Int×(List α))) (E:=(List α)) (λ(e,b)=> bif e<a1 then ((Ak (K9 cmp a0) (e,b)).bind λ(v,f)=> some (.inl ((Ac (e+1)),f))) else (some (.inr b))) ((Ac (a0+1)),i)).bind λc=> some c
theorem An8 (A R:List α) (x y:α):((A++y::x::R).set (A.length+1) y).set A.length x=A++x::y::R:=by induction A with| nil=>rfl| cons a A ih=>simp only[G2,Hj,set_cons_succ,ih]
theorem Aak (A R:List α) (x:α):(A++x::R)[A.length]? = some x:=by simp
theorem An9 (A R:List α) (x y:α):(A++y::x::R)[A.length+1]? = some x:=by induction A with| nil=>rfl| cons a A ih=>simp
theorem Ayq (cmp:α->α->Option Int) (y:α) (R:List α):K9 cmp 0 (0,y::R)=some (.inr (0,y::R)):=by unfold K9;simp only[Ax (ω:¬(0:Int)>0),Av,Ag]
theorem Ayr (k:N<=1099511627776) (A R:List α) (u y:α) (b:cmp u y=some (c u y)) (f:(A++y::u::R).length<=N):K9 cmp 0 (((A.length+1:Nat):Int),A++y::u::R) = if c u y<0 then some (.inl ((A.length:Int),A++u::y::R)) else some (.inr (((A.length+1:Nat):Int),A++y::u::R)):=by
 have j:A.length+1<N:=by simp at f;omega
 have i:Ac (((A.length+1:Nat):Int)-1)=(A.length:Int):=by rw[Ac,B6] <;> omega
 unfold K9;simp only[Ap (ω:((A.length+1:Nat):Int)>0),Am,i,Cp (n:=A.length+1) rfl (An9 A R u y),Cp (n:=A.length) rfl (Aak A (u::R) y),Ag,b];by_cases e:c u y<0
 .rw[Ap e,Bc e];simp only[Am];rw[Ir (n:=A.length+1) rfl,Ir (n:=A.length) rfl,An8];have:Af ((A++y::u::R).set (A.length+1) y) (A.length:Int)=some y:=(by refine Cp rfl ?_;rw[getElem?_set_ne ω];exact Aak A (u::R) y);rw[this];rfl
 .rw[Ax e,Bb e];rfl
theorem Ays (u:N<=1099511627776) : ∀(n:Nat) (A R:List α) (x:α),A.length=n->(∀t∈A,cmp x t=some (c x t))->(A++x::R).length<=N -> ∃f j,Ak (K9 cmp 0) ((A.length:Int),A++x::R)=some ((f.length:Int),f++x::(j++R))/\A=f++j/\(∀a∈j,c x a<0)/\∀q y,f=q++[y]->¬c x y<0:=by
 intro n;induction n with
 | zero=>intro A R x i _ _;have:A = []:=F9.1 i;subst this;exact⟨[],[],F5 (Ayq cmp x R),rfl,nofun,(λq y h=>by simp at h)⟩
 | succ n ih=>
  intro A R x i C b;obtain⟨B,y,rfl⟩:∃B y,A=B++[y]:=by
   rcases eq_nil_or_concat A with h|⟨B,y,h⟩
   .rw[h]at i;cases i
   .exact⟨B,y,by simpa using h⟩
  have D:B.length=n:=(by simpa using i);have G:(B++[y])++x::R=B++y::x::R:=ψ;have el:(((B++[y]).length:Nat):Int)=((B.length+1:Nat):Int):=ψ;rw[G]at b ⊢;rw[el];have k:=Ayr (cmp:=cmp) (c:=c) u B R x y (C y ψ) b;by_cases w:c x y<0
  .rw[Bc w]at k;obtain⟨f,j,F,H,I,E⟩:=ih B (y::R) x D (λt J=>C t (by simp[J])) (by simpa using b);refine⟨f,j++[y],?_,by rw[H];simp,?_,E⟩
   .rw[Kr k,F];simp
   .intro a v;rcases Fi.1 v with v|v
    .exact I a v
    .simp only[Fx]at v;subst v;exact w
  .rw[Bb w]at k;refine⟨B++[y],[],?_,ψ,nofun,?_⟩
   .rw[F5 k];simp
   .intro q z s;have:=append_inj' s rfl;have e:y=z:=(by simpa using this.2);subst e;exact w
theorem Aoa (L:Rv c) {f k:List α} {x:α} (z:(f++k).Pairwise λa b=>¬c b a<0) (v:∀a∈k,c x a<0) (w:∀i y,f=i++[y]->¬c x y<0):(f++x::k).Pairwise (λa b=>¬c b a<0):=by
 obtain⟨j,u,s⟩:=pairwise_append.1 z;have B:∀a∈f,¬c x a<0:=by
  intro a e;rcases eq_nil_or_concat f with h|⟨i,y,h⟩
  .rw[h]at e;cases e
  .have h:f=i++[y]:=(by simpa using h);have q:=w i y h;rw[h]at e j;rcases Fi.1 e with e|e
   .exact L.ntr x y a q ((pairwise_append.1 j).2.2 a e y ψ)
   .simp only[Fx]at e;subst e;exact q
 refine pairwise_append.2 ⟨j,pairwise_cons.2 ⟨λa e h=>L.irr x (L.trs x a x (v a e) h),u⟩,λa e b hb=>?_⟩;rcases Iq.1 hb with rfl|hb
 .exact B a e
 .exact s a e b hb
theorem Aal (L:Rv c) (e:List α) (B:∀x∈e,∀y∈e,cmp x y=some (c x y)) (M:e.length<=1099511627776) : ∃R,Afy cmp 0 (e.length:Int) e=some R/\R.Perm e/\R.Pairwise (λa b=>¬c b a<0):=by
 unfold Afy;cases e with
 | nil=>refine⟨[],?_,Perm.refl _,Pairwise.nil⟩;refine Nt 0 (λ_=>((1:Int),([]:List α))) (by simp[Ac,B6]) (λj hj=>ω) ⟨[],?_,rfl⟩;simp
 | cons O D=>
 generalize k:O::D=e at *;have v:1<=e.length:=by rw[<-k];simp
 refine F4 (λs=>∃(i:Nat) (S:List α),s=((i:Int),S++e.drop i)/\1<=i/\i<=e.length/\S.length=i/\S.Perm (e.take i)/\S.Pairwise λa b=>¬c b a<0) (λs=>e.length-s.1.toNat) (λR=>R.Perm e/\R.Pairwise λa b=>¬c b a<0) ⟨1,[O],by rw[<-k];simp[Ac,B6],ω,v,rfl,by rw[<-k];simp,pairwise_singleton _ _⟩ ?_ ?_
 .rintro _ ⟨i,S,rfl,I,hi,G,f,q⟩;rcases C9 i e.length with h|h
  .have H:e[i]? = some e[i]:=Cs h;have w:e[i]∈e:=getElem_mem h;generalize e[i]=x at H w;have E:e.drop i=x::e.drop (i+1):=Mt H;have A:(S++x::e.drop (i+1)).length=e.length:=ζ;simp only[Ap (ω:(i:Int)<(e.length:Int)),Am,En h ω];rw[E];left;obtain⟨z,u,C,F,Q,J⟩:=Ays (cmp:=cmp) (c:=c) (N:=e.length) ω S.length S (e.drop (i+1)) x rfl (λt T=>B x w t (mem_of_mem_take (f.mem_iff.1 T))) (by rw[A];exact Nat.le_refl _);rw[G]at C;have hp:(z++x::u).Perm (e.take (i+1)):=(by rw[C5 H];have:(z++x::u).Perm ((z++u)++[x]):=(by rw[append_assoc];exact Perm.append_left z (perm_append_singleton x u).symm);exact this.trans (by rw[<-F];exact f.append_right [x]));refine⟨(((i+1:Nat):Int),(z++x::u)++e.drop (i+1)),bnd C ψ,⟨i+1,z++x::u,rfl,ω,ω,?_,hp,?_⟩,ζ⟩
   .rw[hp.length_eq,length_take];omega
   .rw[F]at q;exact Aoa L q Q J
  .have:i=e.length:=ω;subst this;rw[Dr]at f;simp only[Ax (ω:¬(e.length:Int)<(e.length:Int)),Av,drop_length,append_nil];exact .inr ⟨S,rfl,f,q⟩
 .rintro R ⟨C,F⟩;exact⟨R,rfl,C,F⟩
noncomputable def Aob (B:Nat) (gr:Int->Option (List α)) (a0:List (List α)):Option (List α) := (Ak (S:=(Int×Int)) (E:=Int) (λ(e,v)=> bif v<(a0.length:Int) then ((Af a0 v).bind λw=> bif (Ac (e+(w.length:Int)))<(0:Int) then (none) else (some (.inl ((Ac (e+(w.length:Int))),(Ac (v+1)))))) else (some (.inr e))) (0,0)).bind λz=> (gr z).bind λC=> (Ak (S:=(Int×(List α))) (E:=(List α)) (λ(b,c)=> bif b<(a0.length:Int) then ((Af a0 b).bind λf=> (Bl B c f).bind λj=> some (.inl ((Ac (b+1)),j))) else (some (.inr c))) (0,C)).bind λi=> some i
theorem Afz {B:Nat} (i:B<=1024) {gr:Int->Option (List α)} (s:∀n:Nat,n<=1000000->gr (n:Int)=some []) (a b:List α) (h:a.length+b.length<=1000000):Aob B gr [a,b]=some (a++b):=by
 have z:a.length*B<=1000000*1024:=Nat.mul_le_mul ω i;have C:(a.length+b.length)*B<=1000000*1024:=Nat.mul_le_mul h i;have f:Ac 1=1:=by rw[Ac,B6] <;> omega
 have c:Ac 2=2:=by rw[Ac,B6] <;> omega
 have q:Ac (a.length:Int)=(a.length:Int):=by rw[Ac,B6] <;> omega
 have k:Ac ((a.length:Int)+(b.length:Int))=((a.length:Int)+(b.length:Int)):=by rw[Ac,B6] <;> omega
 have e:Af [a,b] 0=some a:=rfl;have v:Af [a,b] 1=some b:=rfl;have x:Bl B [] a=some a:=by rw[Cy ζ];rfl
 have u:Bl B a b=some (a++b):=Cy ω;unfold Aob;refine Nt 2 (λj=>if j=0 then (0,0) else if j=1 then ((a.length:Int),1) else (((a.length+b.length:Nat):Int),2)) rfl ?_ ⟨((a.length+b.length:Nat):Int),?_,?_⟩
 .intro j w;rcases (ω:j=0\/j=1) with rfl|rfl
  .have:¬((a.length:Int)<0):=ω;simp[e,q,f,this]
  .have:¬((a.length:Int)+(b.length:Int)<0):=ω;simp[v,k,c,this]
 .simp
 .rw[s _ h,Ag];refine Nt 2 (λj=>if j=0 then (0,[]) else if j=1 then (1,a) else (2,a++b)) rfl ?_ ⟨a++b,?_,rfl⟩
  .intro j w;rcases (ω:j=0\/j=1) with rfl|rfl
   .simp[e,f,x]
   .simp[v,c,u]
  .simp
def sm:Nat->(Nat->Nat)->Nat
 | 0,_=>0
 | n+1,f=>sm n f+f n
theorem Aoc:∀n,bc n n=1
 | 0=>rfl
 | n+1=>by
  rw[bc,Aoc n]
  have:bc n (n+1)=0:=by have:=bc_big2 n (n+1) ω;exact this
  omega
where bc_big2:∀n k,n<k->bc n k=0
 | n,0,h=>absurd h ω
 | 0,k+1,_=>rfl
 | n+1,k+1,h=>by rw[bc,bc_big2 n k ω,bc_big2 n (k+1) ω]
theorem Ayt:Yf=some true:=by kernel_rfl
theorem Ayu:∀(k:Nat) (i:Ae) (a:Int),Di i<=k->k<1099511627776->∃r,Pz k i a=some r/\True:=by
 intro k;induction k with
 | zero=>intro i a h;have:=Gs i;omega
 | succ k ih=>
  intro i a h C;have f:=Gs i;have q:=Lt i.K;rw[Pz];refine Ms ⟨_,rfl,trivial⟩ ?_;refine F4 (λ(v,_)=>∃j:Nat,v=j/\j<=i.K.length) (λ(v,_)=>i.K.length-v.toNat) (λ_=>True) ⟨0,rfl,ω⟩ ?_ ?_
  .rintro⟨v,b⟩ ⟨j,rfl,E⟩;rcases C9 j i.K.length with w|w
   .have B:i.K[j]? = some i.K[j]:=Cs w;generalize i.K[j]=x at B;have F:=K1 (B4 B);obtain⟨⟨y,z⟩,c,_⟩:=ih x b ω ω;simp only[Ap (ω:(j:Int)<(i.K.length:Int)),Am,Cp rfl B,Ag,c,En w ω];cases y with| false=>exact .inr ⟨_,rfl,trivial⟩| true=>exact .inl ⟨_,rfl,⟨j+1,rfl,ω⟩,by simp only[Int.toNat_natCast];omega⟩
   .have:j=i.K.length:=ω;subst this;exact .inr ⟨.inr b,ψ,trivial⟩
  .rintro (⟨x,y⟩|e) _
   .exact⟨_,rfl,trivial⟩
   .exact⟨_,rfl,trivial⟩
theorem Ayv (i:Ae) (h:Di i<=1048576):∃b,U3 i=some b:=by unfold U3;obtain⟨r,e,_⟩:=Ayu 4000000 i 40 ω ω;exact⟨_,by rw[e];rfl⟩
def Q4 (m:Aq):Prop:=m.F.length<=8/\m.A.length<=8/\∀a∈m.A,a.L.T.length<=70
theorem Ayw (m:Aq) (F:MSz m):∃b,Uq m=some b/\(b=true->Q4 m):=by
 unfold Uq;by_cases C:(m.F.length:Int)>8
 .rw[Ap C];exact⟨false,rfl,λh=>by cases h⟩
 .rw[Ax C];by_cases E:(m.A.length:Int)>8
  .rw[Ap E];exact⟨false,rfl,λh=>by cases h⟩
  .rw[Ax E];simp only[Av,Ag];refine F4 (λv=>∃j:Nat,v=j/\j<=m.F.length) (λv=>m.F.length-v.toNat) (λz=>z = .inl false\/z = .inr ()) ⟨0,rfl,ω⟩ ?_ ?_
   .rintro v ⟨j,rfl,G⟩;rcases C9 j m.F.length with e|e
    .have w:m.F[j]? = some m.F[j]:=Cs e;generalize m.F[j]=x at w;obtain⟨b,hb⟩:=Ayv x.I (F.fi x (B4 w));simp only[Ap (ω:(j:Int)<(m.F.length:Int)),Am,Cp rfl w,Ag,hb,En e ω];cases b with| false=>exact .inr ⟨_,rfl,.inl rfl⟩| true=>exact .inl ⟨_,rfl,⟨j+1,rfl,ω⟩,by simp only[Int.toNat_natCast];omega⟩
    .have:j=m.F.length:=ω;subst this;exact .inr ⟨.inr (),ψ,.inr rfl⟩
   .rintro z (rfl|rfl)
    .exact⟨false,rfl,λh=>by cases h⟩
    .dsimp only;refine F4 (λv=>∃j:Nat,v=j/\j<=m.A.length/\∀a∈m.A.take j,a.L.T.length<=70) (λv=>m.A.length-v.toNat) (λz=>z = .inl false\/(z = .inr ()/\∀a∈m.A,a.L.T.length<=70)) ⟨0,rfl,ω,ψ⟩ ?_ ?_
     .rintro v ⟨j,rfl,G,c⟩;rcases C9 j m.A.length with e|e
      .have w:m.A[j]? = some m.A[j]:=Cs e;generalize m.A[j]=x at w;simp only[Ap (ω:(j:Int)<(m.A.length:Int)),Am,Cp rfl w,Ag,Rx,En e ω];by_cases f:(x.L.T.length:Int)<=70
       .rw[Ap f];refine .inl ⟨_,rfl,⟨j+1,rfl,ω,λa B=>?_⟩,by simp only[Int.toNat_natCast];omega⟩;rw[C5 w]at B;rcases Fi.1 B with B|B
        .exact c a B
        .rw[Fx]at B;subst B;omega
       .rw[Ax f];exact .inr ⟨_,rfl,.inl rfl⟩
      .have:j=m.A.length:=ω;subst this;rw[Dr]at c;exact .inr ⟨.inr (),ψ,.inr ⟨rfl,c⟩⟩
     .rintro z (rfl|⟨rfl,i⟩)
      .exact⟨false,rfl,λh=>by cases h⟩
      .exact⟨true,rfl,λ_=>⟨ω,ω,i⟩⟩
theorem Ayx (p:List Bu) (u:p.length<=1048576) (hp:∀t∈p,TSz t):∃b,Um p 10=some b/\(b=true->p.length<=10/\∀t∈p,Q4 t.M):=by
 unfold Um;refine F4 (λv=>∃j:Nat,v=j/\j<=p.length/\j<=11/\∀t∈p.take j,Q4 t.M) (λv=>p.length-v.toNat) (λz=>z = .inl false\/(z = .inr ()/\(p.length<=10->∀t∈p,Q4 t.M))) ⟨0,rfl,ω,ω,ψ⟩ ?_ ?_
 .rintro v ⟨j,rfl,E,i,f⟩;rcases C9 j p.length with B|B
  .by_cases s:j<=10
   .have w:p[j]? = some p[j]:=Cs B;generalize p[j]=x at w;obtain⟨b,hb,q⟩:=Ayw x.M (hp x (B4 w)).mo;simp only[Ap (ω:(j:Int)<(p.length:Int)),Ap (ω:(j:Int)<=10),Am,Cp rfl w,Ag,hb,En B ω];cases b with
    | false=>exact .inr ⟨_,rfl,.inl rfl⟩
    | true=>
     simp only[Dn,Av];have:∃c,Ur x.C=some c:=(by unfold Ur;cases decide ((x.C.U.length:Int)<=8) with| true=>exact⟨_,rfl⟩| false=>exact⟨_,rfl⟩);obtain⟨c,C⟩:=this;rw[C,Ag];cases c with
     | false=>exact .inr ⟨_,rfl,.inl rfl⟩
     | true=>
      refine .inl ⟨_,rfl,⟨j+1,rfl,ω,ω,λt e=>?_⟩,by simp only[Int.toNat_natCast];omega⟩;rw[C5 w]at e;rcases Fi.1 e with e|e
      .exact f t e
      .rw[Fx]at e;subst e;exact q rfl
   .refine .inr ⟨.inr (),?_,.inr ⟨rfl,λh=>ω⟩⟩;simp only[Ap (ω:(j:Int)<(p.length:Int)),Ax (ω:¬(j:Int)<=10),Am,Av,Ag]
  .have:j=p.length:=ω;subst this;rw[Dr]at f;exact .inr ⟨.inr (),ψ,.inr ⟨rfl,λ_=>f⟩⟩
 .rintro z (rfl|⟨rfl,k⟩)
  .exact⟨false,rfl,λh=>by cases h⟩
  .refine⟨decide ((p.length:Int)<=10),rfl,λh=>?_⟩;rw[E8]at h;exact⟨ω,k ω⟩
theorem Aod:∀(k:Nat) (t:Ae),Di t<=k->k<1099511627776->Of k t=some t:=by
 intro k;induction k with
 | zero=>intro t h;have:=Gs t;omega
 | succ k ih=>
  intro t h B;have c:=Gs t;have b:=Lt t.K;rw[Of];refine Ga t.K (λj=>((j:Int),(t.K.take j))) rfl ω ?_ ?_
  .intro j x C e v w z;have:=K1 (B4 e);simp only[v,w,z,Am,Ag,ih x ω ω];rw[Cy ζ,Ag,C5 e]
  .intro v;exact⟨t.K,ψ,by cases t;rfl⟩
theorem Ayy (m:Aq) (b:MSz m):R2 m=some m:=by
 have E:=b.nf;have c:=b.na;unfold R2;refine Ga m.F (λj=>((j:Int),(m.F.take j))) rfl ω ?_ ?_
 .intro j x C e v w z;have B:=B4 e;have:=b.fi x B;simp only[v,w,z,Am,Ag,Aod 4000000 x.I ω ω];rw[Cy ζ,Ag,C5 e]
 .intro v;refine⟨m.F,ψ,?_⟩;dsimp only;refine Ga m.A (λj=>((j:Int),(m.A.take j))) rfl ω ?_ ?_
  .intro j x C e v w z;have B:=B4 e;have:=b.al x B;simp only[v,w,z,Am,Ag,Nd];rw[Cy ζ,Ag,Ag,Cy ζ,Ag,C5 e];rfl
  .intro v;exact⟨m.A,ψ,by cases m;rfl⟩
structure PSt (K:Nat) (n:Nat) (b:List Bu):Prop where
 le:n<=b.length
 cp:CP (b.take n)
 tm:∀t∈b.take n,RB K t.C/\MSz t.M
theorem PSt.mono {K c:Nat} (h:PSt K n b) (f:K<=c):PSt c n b:=⟨h.le,h.cp,λt e=>⟨((h.tm t e).1).mono f,(h.tm t e).2⟩⟩
theorem Aoe:∀(k:Nat) (t:Ai) (a:Int),Bi t<=k->k<1099511627776->∃r,Og k t a=some r/\True:=by
 intro k;induction k with
 | zero=>intro i a h;have:=G3 i;omega
 | succ k ih=>
  intro i a h C;have f:=G3 i;have q:=Hs i.R;rw[Og];refine Ms ⟨_,rfl,trivial⟩ ?_;refine F4 (λ(v,_)=>∃j:Nat,v=j/\j<=i.R.length) (λ(v,_)=>i.R.length-v.toNat) (λ_=>True) ⟨0,rfl,ω⟩ ?_ ?_
  .rintro⟨v,b⟩ ⟨j,rfl,E⟩;rcases C9 j i.R.length with w|w
   .have B:i.R[j]? = some i.R[j]:=Cs w;generalize i.R[j]=x at B;have F:=G6 (B4 B);obtain⟨⟨y,z⟩,c,_⟩:=ih x b ω ω;simp only[Ap (ω:(j:Int)<(i.R.length:Int)),Am,Cp rfl B,Ag,c,En w ω];cases y with| false=>exact .inr ⟨_,rfl,trivial⟩| true=>exact .inl ⟨_,rfl,⟨j+1,rfl,ω⟩,by simp only[Int.toNat_natCast];omega⟩
   .have:j=i.R.length:=ω;subst this;exact .inr ⟨.inr b,ψ,trivial⟩
  .rintro (⟨x,y⟩|e) _
   .exact⟨_,rfl,trivial⟩
   .exact⟨_,rfl,trivial⟩
theorem Aof (t:Ai) (h:Bi t<=1048576):∃b,R3 t=some b:=by unfold R3;obtain⟨r,e,_⟩:=Aoe 4000000 t 250 ω ω;exact⟨_,by rw[e];rfl⟩
theorem Ayz (l:List Ai) (n:Int) (c:l.length<=1048576) (h:∀t∈l,Bi t<=1048576):∃b,Ut l n=some b/\True:=by
 unfold Ut;refine F4 (λv=>∃j:Nat,v=j/\j<=l.length) (λv=>l.length-v.toNat) (λ_=>True) ⟨0,rfl,ω⟩ ?_ ?_
 .rintro v ⟨j,rfl,z⟩;rcases C9 j l.length with e|e
  .have w:l[j]? = some l[j]:=Cs e;generalize l[j]=x at w;obtain⟨b,hb⟩:=Aof x (h x (B4 w));simp only[Ap (ω:(j:Int)<(l.length:Int)),Am,Cp rfl w,Ag,hb,En e ω];cases decide ((j:Int)<=n) with
   | false=>exact .inr ⟨_,rfl,trivial⟩
   | true=>cases b with| false=>exact .inr ⟨_,rfl,trivial⟩| true=>exact .inl ⟨_,rfl,⟨j+1,rfl,ω⟩,by simp only[Int.toNat_natCast];omega⟩
  .simp only[Ax (ω:¬(j:Int)<(l.length:Int)),Av];exact .inr ⟨_,rfl,trivial⟩
 .rintro (r|r) _
  .exact⟨_,rfl,trivial⟩
  .exact⟨_,rfl,trivial⟩
theorem Ay0 (l:List Ao) (f:DSz l):∃b,Us l=some b/\True:=by
 unfold Us;have B:=f.len;refine Ms ⟨_,rfl,trivial⟩ ?_;refine F4 (λv=>∃j:Nat,v=j/\j<=l.length) (λv=>l.length-v.toNat) (λ_=>True) ⟨0,rfl,ω⟩ ?_ ?_
 .rintro v ⟨j,rfl,O⟩;rcases C9 j l.length with H|H
  .have I:l[j]? = some l[j]:=Cs H;generalize l[j]=x at I;obtain⟨Q,M⟩:=f.sz x (B4 I);simp only[Ap (ω:(j:Int)<(l.length:Int)),Am,Cp rfl I,Ag,En H ω];have C:∃q,(bif decide ((x.S.size:Int)>40) then some true else some (decide ((x.O.length:Int)>10)))=some q:=(by cases decide ((x.S.size:Int)>40) <;> exact⟨_,rfl⟩);obtain⟨q,C⟩:=C
   erw[C];simp only[Ag];cases q with
   | true=>exact .inr ⟨_,rfl,trivial⟩
   | false=>
    simp only[Av];have E:∀(W:Option (Int⊕(Bool⊕Unit))),(∃r,W=some r/\(r = .inl ((j+1:Nat):Int)\/∃e,r = .inr e))->(∃F,W=some (Sum.inl F)/\(∃j:Nat,F=(j:Int)/\j<=l.length)/\l.length-F.toNat<l.length-((j:Int)).toNat)\/∃e,W=some (Sum.inr e)/\True:=by
     rintro W ⟨r,rfl,rfl|⟨e,rfl⟩⟩
     .exact .inl ⟨_,rfl,⟨j+1,rfl,ω⟩,by simp only[Int.toNat_natCast];omega⟩
     .exact .inr ⟨_,rfl,trivial⟩
    refine E _ ?_;refine F4 (λv=>∃j:Nat,v=j/\j<=x.O.length) (λv=>x.O.length-v.toNat) (λ_=>True) ⟨0,rfl,ω⟩ ?_ ?_
    .rintro v ⟨i,rfl,R⟩;rcases C9 i x.O.length with G|G
     .have J:x.O[i]? = some x.O[i]:=Cs G;generalize x.O[i]=y at J;have d1:=M y (B4 J);have d2:=Hs y.R;simp only[Ap (ω:(i:Int)<(x.O.length:Int)),Am,Cp rfl J,Ag,En G ω];have C:∃q,(bif decide ((y.S.size:Int)>40) then some true else some (decide ((y.R.length:Int)>8)))=some q:=(by cases decide ((y.S.size:Int)>40) <;> exact⟨_,rfl⟩);obtain⟨q,C⟩:=C
      erw[C];simp only[Ag];cases q with
      | true=>exact .inr ⟨_,rfl,trivial⟩
      | false=>
       simp only[Av];have E:∀(W:Option (Int⊕(Bool⊕Int))),(∃r,W=some r/\(r = .inl ((i+1:Nat):Int)\/∃e,r = .inr e))->(∃F,W=some (Sum.inl F)/\(∃j:Nat,F=(j:Int)/\j<=x.O.length)/\x.O.length-F.toNat<x.O.length-((i:Int)).toNat)\/∃e,W=some (Sum.inr e)/\True:=by
        rintro W ⟨r,rfl,rfl|⟨e,rfl⟩⟩
        .exact .inl ⟨_,rfl,⟨i+1,rfl,ω⟩,by simp only[Int.toNat_natCast];omega⟩
        .exact .inr ⟨_,rfl,trivial⟩
       refine E _ ?_;refine F4 (λs=>∃j:Nat,s.1=j/\j<=y.R.length) (λs=>y.R.length-s.1.toNat) (λ_=>True) ⟨0,rfl,ω⟩ ?_ ?_
       .rintro⟨_,w⟩ ⟨u,rfl,T⟩;rcases C9 u y.R.length with L|L
        .have c:y.R[u]? = some y.R[u]:=Cs L;generalize y.R[u]=t at c;have hm:=G6 (B4 c);obtain⟨⟨k,A⟩,z,_⟩:=Aoe 4000000 t w ω ω;simp only[Ap (ω:(u:Int)<(y.R.length:Int)),Am,Cp rfl c,Ag,z,En L ω];cases k with| false=>exact .inr ⟨_,rfl,trivial⟩| true=>exact .inl ⟨_,rfl,⟨u+1,rfl,ω⟩,by simp only[Int.toNat_natCast];omega⟩
        .simp only[Ax (ω:¬(u:Int)<(y.R.length:Int)),Av];exact .inr ⟨_,rfl,trivial⟩
       .rintro (r|r) _
        .exact⟨_,rfl,.inr ⟨_,rfl⟩⟩
        .exact⟨_,rfl,.inl rfl⟩
     .simp only[Ax (ω:¬(i:Int)<(x.O.length:Int)),Av];exact .inr ⟨_,rfl,trivial⟩
    .rintro (r|r) _
     .exact⟨_,rfl,.inr ⟨_,rfl⟩⟩
     .exact⟨_,rfl,.inl rfl⟩
  .simp only[Ax (ω:¬(j:Int)<(l.length:Int)),Av];exact .inr ⟨_,rfl,trivial⟩
 .rintro (r|r) _
  .exact⟨_,rfl,trivial⟩
  .exact⟨_,rfl,trivial⟩
theorem Ay1 (x:B0) (f:CSz x):∃b,Un x=some b:=by unfold Un;obtain⟨a,e,_⟩:=Ay0 x.D f.ds;obtain⟨b,hb,_⟩:=Ayz x.V 40 f.nv f.vs;obtain⟨c,v⟩:=Aof x.E f.rs;rw[e,hb,v];cases a <;> cases b <;> exact⟨_,rfl⟩
theorem Ay2 (x:B0) (u:CSz x) (c:List (List Bu)) (A:c.length<=1048576) (hp:∀p∈c,p.length<=1048576/\∀t∈p,TSz t) : ∃b,Uk x c=some b/\(b=true->∀p∈c,p.length<=10/\∀t∈p,Q4 t.M):=by
 unfold Uk;refine F4 (λv=>∃j:Nat,v=j/\j<=c.length/\∀p∈c.take j,p.length<=10/\∀t∈p,Q4 t.M) (λv=>c.length-v.toNat) (λz=>z = .inl false\/(z = .inr ()/\∀p∈c,p.length<=10/\∀t∈p,Q4 t.M)) ⟨0,rfl,ω,ψ⟩ ?_ ?_
 .rintro v ⟨j,rfl,C,f⟩;rcases C9 j c.length with B|B
  .have w:c[j]? = some c[j]:=Cs B;generalize c[j]=p at w;obtain⟨s,k⟩:=hp p (B4 w);obtain⟨b,hb,y⟩:=Ayx p s k;simp only[Ap (ω:(j:Int)<(c.length:Int)),Am,Cp rfl w,Ag,hb,En B ω];cases b with
   | false=>exact .inr ⟨_,rfl,.inl rfl⟩
   | true=>
    refine .inl ⟨_,rfl,⟨j+1,rfl,ω,λq e=>?_⟩,by simp only[Int.toNat_natCast];omega⟩;rw[C5 w]at e;rcases Fi.1 e with e|e
    .exact f q e
    .rw[Fx]at e;subst e;exact y rfl
  .have:j=c.length:=ω;subst this;rw[Dr]at f;exact .inr ⟨.inr (),ψ,.inr ⟨rfl,f⟩⟩
 .rintro z (rfl|⟨rfl,i⟩)
  .exact⟨false,rfl,λh=>by cases h⟩
  .obtain⟨b,hb⟩:=Ay1 x u;exact⟨b,by dsimp only;rw[hb];rfl,λ_=>i⟩
theorem CP.dst (h:CP p):Dst p:=h.srt.imp λ{a b} c e=>by unfold ltT at c;rw[Ayg.2 e]at c;omega
theorem Ay3:∀(k:Nat),k<1099511627776->(∀i:Ae,2*Di i<=k->Ps k i i=some true)/\(∀l:List Ae,2*Fa l+1<=k->Sc k l l=some true):=by
 intro k;induction k with
 | zero=>exact λ_=>⟨λi h=>(by have:=Gs i;omega),λl h=>ω⟩
 | succ k ih=>
  intro B;have ih:=ih ω;refine⟨λi h=>?_,λl h=>?_⟩
  .have:=Gs i;rw[Ps,beq_self_eq_true,Am,ih.2 i.K ω];rfl
  .have b:=Lt l;rw[Sc,bne_self_eq_false,Av];refine Ga l (λj=>(j:Int)) rfl ω ?_ ?_
   .intro j x C e v w z;have:=K1 (B4 e);simp only[v,w,z,Am,Ag,ih.1 x ω,Dn,Av]
   .intro h;exact⟨.inr (),by simp only[h];rfl,rfl⟩
theorem Ay4 (l:Cm) (h:l.T.length<=1048576):Up l l=some true:=by
 unfold Up;rw[bne_self_eq_false,bne_self_eq_false];simp only[Av,Ag];refine Ga l.T (λj=>(j:Int)) rfl ω ?_ ?_
 .intro j x z B e v w;simp only[e,v,w,Am,Ag,beq_self_eq_true,Bool.and_true,Dn,Av]
 .intro h;exact⟨.inr (),by simp only[h];rfl,rfl⟩
theorem Ay5 (m:Aq) (h:MSz m):Ul m m=some true:=by
 have C:=h.nf;have b:=h.na;unfold Ul;rw[bne_self_eq_false,bne_self_eq_false];simp only[Av,Ag];refine Ga m.F (λj=>(j:Int)) rfl ω ?_ ?_
 .intro j x B v e w z;have:=h.fi x (B4 v);simp only[e,w,z,Am,Ag,bne_self_eq_false,(Ay3 4000000 ω).1 x.I ω,Dn,Av]
 .intro e;refine⟨.inr (),by simp only[e];rfl,?_⟩;dsimp only;refine Ga m.A (λj=>(j:Int)) rfl ω ?_ ?_
  .intro j x B v e w z;have:=h.al x (B4 v);simp only[e,w,z,Am,Ag,bne_self_eq_false,Ay4 x.L ω,Dn,Av]
  .intro e;exact⟨.inr (),by simp only[e];rfl,rfl⟩
end Go.Ab
