/- Plain laws. -/
import Derived.Test.YtbpbaimlddncnaaGreatDoorPcPl1
import Derived.KernelRfl
open List
namespace Go.Ab
open Go
theorem Ah4 (a:A3) (k:Nat) (h:RB k a) (d:k<274877906900):Ji a=some (Cn (sv a) (nv a) (dv a)):=by unfold Ji;have e:=h.nv;have i:=h.dv;rw[Vf a k h d,Ad,S5 _ _ _ ω ω];rfl
def Kn (s:Bool) (n:Nat):Int:=if n=0 then 0 else if s then -1 else 1
theorem A0s (s:Bool) (n:Nat) (d:List Int):Xe ⟨s,Af n,d⟩=some (Kn s n):=by
 unfold Xe Kn;dsimp only;by_cases h:n=0
 .subst h;rw[Gw];rfl
 .have b:(Af n).length≠0:=λe=>Jc h (Gm.1 e);rw[Dc ω,Ao,Ay h];cases s <;> rfl
theorem Ah5 (a:A3) (k:Nat) (h:RB k a) (d:k<274877906900):Iy a=some (Kn (sv a) (nv a)):=by unfold Iy;rw[Vf a k h d,Ad,A0s];rfl
theorem Ah6 (z:Int) (d : -9223372036854775808<=z) (i:z<=9223372036854775807):R6 z=some (Af z.natAbs):=by
 unfold R6;by_cases h:z<0
 .have e:Az z=z+18446744073709551616:=(by have:IntKind.u64.wrap z=z % 18446744073709551616:=(by simp[IntKind.wrap,IntKind.bits,IntKind.signed]);rw[Az,this];omega);have b:Az (0-(z+18446744073709551616))=((z.natAbs:Nat):Int):=(by have:IntKind.u64.wrap (0-(z+18446744073709551616))=(0-(z+18446744073709551616)) % 18446744073709551616:=(by simp[IntKind.wrap,IntKind.bits,IntKind.signed]);rw[Az,this];omega);rw[Aq h,Al,e,b,Qv _ ω];rfl
 .have b:Az z=((z.natAbs:Nat):Int):=(by rw[Az,Dl ω ω];omega);rw[Aw h,Ao,b,Qv _ ω];rfl
theorem Vg (z:Int) (d : -9223372036854775808<=z) (e:z<=9223372036854775807):F6 z=some (Cn (decide (z<0)) z.natAbs 1):=by unfold F6;have:=Pe (n:=z.natAbs) ω;rw[Ah6 z d e,Ad,<-Yv,S5 _ _ _ ω (by rw[Nc];decide)];rfl
theorem A0t (x y:Int) (d : -9223372036854775808<=x) (e:x<=9223372036854775807) (h : -9223372036854775808<=y) (b:y<=9223372036854775807) (i:y≠0):Sg x y=some (Cn (decide (x<0) != decide (y<0)) x.natAbs y.natAbs):=by unfold Sg;have o:=Pe (n:=x.natAbs) ω;have q:=Pe (n:=y.natAbs) ω;rw[Dc i,Ao,Ah6 x d e,Ad,Ah6 y h b,Ad,S5 _ _ _ ω ω];rfl
theorem Ac0 (a b:A3) (j k:Nat) (d:RB j a) (hb:RB k b) (e:j<68719476736) (h:k<68719476736):G6 a b=some (Cn (sv a != sv b) (nv a*nv b) (dv a*dv b)):=by unfold G6;have i:=d.nv;have o:=d.dv;have q:=hb.nv;have g:=hb.dv;have f:=Km (nv a) (nv b);have c:=Km (dv a) (dv b);rw[Vf a j d ω,Ad,Vf b k hb ω,Ad];dsimp only;rw[Yu _ _ ω ω,Ad,Yu _ _ ω ω,Ad,S5 _ _ _ ω ω];rfl
def Vh (b:Bool) (g i:Nat) (c:Bool) (f h:Nat):Bool:=if b=c then b else if f*i<=g*h then b else c
def Qx (i:Bool) (c g:Nat) (h:Bool) (b f:Nat):Nat:=if i=h then c*f+b*g else if b*g<=c*f then c*f-b*g else b*g-c*f
theorem Ah7 (a b:A3) (j k:Nat) (r:RB j a) (hb:RB k b) (s:j<68719476736) (A:k<68719476736) : M0 a b=some (Cn (Vh (sv a) (nv a) (dv a) (sv b) (nv b) (dv b)) (Qx (sv a) (nv a) (dv a) (sv b) (nv b) (dv b)) (dv a*dv b)):=by
 unfold M0 Aa5;have B:=r.nv;have C:=r.dv;have D:=hb.nv;have q:=hb.dv;have l:=Km (nv a) (dv b);have i:=Km (nv b) (dv a);have h:=Km (dv a) (dv b);have g:=Anw (nv a*dv b) (nv b*dv a);have f:=Kz (Nat.sub_le (nv a*dv b) (nv b*dv a));have c:=Kz (Nat.sub_le (nv b*dv a) (nv a*dv b));rw[Vf a j r ω,Ad,Vf b k hb ω,Ad];dsimp only;rw[Yu _ _ ω ω,Ad,Yu _ _ ω ω,Ad,Yu _ _ ω ω,Ad];by_cases d:sv a=sv b
 .have e:(sv a==sv b)=true:=(by rw[d];exact beq_self_eq_true _);rw[e,Al,A0h _ _ ω ω,Ad,Ad,S5 _ _ _ ω ω,Vh,Qx,A7 d,A7 d];rfl
 .have e:(sv a==sv b)=false:=(by simpa using d);rw[e,Ao,Yt _ _ ω ω,Ad,Vh,Qx,Ay d,Ay d];by_cases o:nv b*dv a<=nv a*dv b
  .rw[Aq (show Gn (nv a*dv b) (nv b*dv a)>=0 by rw[Gn,Ay ω];split <;> decide),Al,Aph _ _ ω o,Ad,Ad,S5 _ _ _ ω ω,A7 o,A7 o];rfl
  .rw[Aw (show ¬Gn (nv a*dv b) (nv b*dv a)>=0 by rw[Gn,A7 ω];decide),Ao,Aph _ _ ω ω,Ad,Ad,S5 _ _ _ ω ω,Ay o,Ay o];rfl
theorem Ac1 (s:Bool) (d:Nat):Cn s 0 d=⟨false,[],[1]⟩:=by simp[Cn]
theorem N7 (s:Bool) (n d k:Nat) (b:Bl n<=k) (i:Bl d<=k) (e:1<=k):RB k (Cn s n d):=by
 unfold Cn;split
 .refine⟨nofun,λx h=>?_,ψ,by simpa using e⟩;simp at h;subst h;decide
 .have o:=Ag8 n (Nat.gcd n d);have q:=Ag8 d (Nat.gcd n d);unfold Bl at *;exact⟨(Fi _).u32,(Fi _).u32,by simp only;omega,by simp only;omega⟩
theorem Apn (s:Bool) (n d:Nat) (A:d≠0):nv (Cn s n d)=n / Nat.gcd n d/\dv (Cn s n d)=d / Nat.gcd n d/\(n≠0->sv (Cn s n d)=s)/\(n=0->sv (Cn s n d)=false):=by
 by_cases i:n=0
 .subst i;rw[Ac1];have c:d / Nat.gcd 0 d=1:=(by rw[Nat.gcd_zero_left];exact Nat.div_self ω);refine⟨by simp[nv,Ak],?_,λh=>(h rfl).elim,λ_=>by simp[sv,Ak]⟩;rw[c];simp[dv,Ak]
 .have r:0<Nat.gcd n d:=Nat.gcd_pos_of_pos_left d ω;have B:n / Nat.gcd n d≠0:=(by have:=Nat.div_pos (Nat.gcd_le_left d (ω:0<n)) r;omega);have C:d / Nat.gcd n d≠0:=(by have:=Nat.div_pos (Nat.gcd_le_right n (ω:0<d)) r;omega);have e:Cn s n d=⟨s,Af (n / Nat.gcd n d),Af (d / Nat.gcd n d)⟩:=(by simp[Cn,i]);have b:(Ak (Af (n / Nat.gcd n d))).toNat=n / Nat.gcd n d:=(by rw[Fz];rfl);have o:(Ak (Af (d / Nat.gcd n d))).toNat=d / Nat.gcd n d:=(by rw[Fz];rfl);rw[e];have q:¬(n / Nat.gcd n d=0\/d / Nat.gcd n d=0):=ω;refine⟨?_,?_,λ_=>?_,λh=>(i h).elim⟩
  .simp only[nv,b,o,Ay q]
  .simp only[dv,b,o,Ay q]
  .simp only[sv,b,o,Ay q]
theorem Vi (s:Bool) (n d k:Nat) (e:k≠0):Cn s (k*n) (k*d)=Cn s n d:=by
 unfold Cn;by_cases h:n=0
 .subst h;simp
 .have i:k*n≠0:=Nat.mul_ne_zero e h;rw[Ay i,Ay h,Nat.gcd_mul_left,Nat.mul_div_mul_left _ _ ω,Nat.mul_div_mul_left _ _ ω]
theorem Apo {s t:Bool} {n d:Nat} (h:n≠0->s=t):Cn s n d=Cn t n d:=by
 unfold Cn;by_cases e:n=0
 .simp[e]
 .rw[h e]
theorem App (l:List Int):Kv l=(Kw l).bind λv=>B4 4 [] v:=by
 unfold Kv Kw;generalize An _ _=x;cases x with
 | none=>rfl
 | some v=>simp only[Ad];cases Ei l 0 v with| none=>rfl| some y=>simp only[Ad];cases B4 4 [] y <;> rfl
theorem A0u (l:List Int):(Hx l).length<=l.length:=by
 induction l with
 | nil=>simp[Hx]
 | cons d l ih=>simp only[Hx];cases e:Hx l with| nil=>simp only[];split <;> simp| cons x m=>rw[e]at ih;simpa using ih
theorem S6 (l:List Int) (b:l.length<2199023255552):Kv l=some (Hx l):=by have:=A0u l;rw[App,Qu l ω,Ad,Dn ζ];rfl
theorem Apq (l:List Int) (e:Ma l) (B:l.length<1099511627776):Ui l=some (Af (Ak l).toNat):=by
 unfold Ui;refine Jk (λ(c,i,o)=>∃k:Nat,i=k/\k<=l.length/\o.length=k/\B7 o/\0<=c/\c<5/\Ak o+1000000000 ^ k*c=Ak (l.take k)) (λ(_,i,_)=>l.length-i.toNat) (λ(c,o)=>o.length=l.length/\B7 o/\0<=c/\c<5/\Ak o+1000000000 ^ l.length*c=Ak l) ⟨0,rfl,ω,rfl,B7.nil,ω,ω,by simp[Ak]⟩ ?_ ?_
 .rintro⟨c,i,o⟩ ⟨k,rfl,F,f,b,j,d,s⟩;rcases Cb k l.length with h|h
  .have H:=e l[k] (getElem_mem h);refine .inl ⟨((c+l[k]) / 1000000000,((k+1:Nat):Int),o++[(c+l[k]) % 1000000000]),?_,⟨k+1,rfl,ω,by simp[f],b.snoc ω ω,ω,ω,?_⟩,ζ⟩
   .have z:Az l[k]=l[k]:=Dl ω ω;have y:Az (c+l[k])=c+l[k]:=Dl ω ω;have q:Cs ((c+l[k]) % 1000000000)=(c+l[k]) % 1000000000:=Gu ω ω;have x:=Mf h ω;have u:decide ((k:Int)<(l.length:Int))=true:=(by simpa using h);simp only[u,Al,Ek rfl h,Ad,z,y,Ll (show 0<=c+l[k] by omega) (show (0:Int)<1000000000 by decide),q,Dn (show (o.length+[(c+l[k]) % 1000000000].length)*4<=_ by simp;omega),Lm (show 0<=c+l[k] by omega) (show c+l[k]<=_ by omega) (show (0:Int)<1000000000 by decide),x]
   .rw[G3 l h,<-s,M8,f,Int.pow_succ];have:=Int.mul_ediv_add_emod (c+l[k]) 1000000000;grind
  .have g:k=l.length:=ω;subst g;refine .inr ⟨(c,o),ψ,f,b,j,d,by simpa using s⟩
 .rintro⟨c,o⟩ ⟨C,r,G,E,D⟩;have A:=Hs e;by_cases d:c>0
  .have q:Cs c=c:=Gu ω ω;simp only[decide_eq_true d,Al,q,Dn (show (o.length+[c].length)*4<=_ by simp;omega),Ad,S6 (o++[c]) ζ];rw[Ln (r.snoc ω ω) (n:=(Ak l).toNat) (by rw[M8,C];omega)]
  .have:c=0:=ω;subst this;simp only[Int.lt_irrefl,gt_iff_lt,decide_false,Ao,S6 o ω,Ad];rw[Ln r (n:=(Ak l).toNat) ω]
theorem Ac2 (n:Int):On n=O1 n:=rfl
theorem Ah8 (a b:List Int):Ry a b=Sc a b:=rfl
theorem A0v (m d:Nat) (c:Bl m<1099511627776) (i:0<d) (b:d<4294967296):Xn (Af m) d=some (Af (m / d),((m % d:Nat):Int)):=by
 have h:=Ah0 m d c i b;unfold Sn at h;unfold Xn;unfold Bl at c;rw[Kk rfl rfl (Nat.le_refl _) ω ω]at h ⊢;simp only[Ad]at h ⊢;revert h;generalize An _ _=x;cases x with
 | none=>intro h;cases h
 | some v=>obtain⟨r,o⟩:=v;simp only[Ad];intro h;rw[App];cases e:Kw o with| none=>rw[e]at h;cases h| some y=>rw[e]at h;simp only[Ad]at h ⊢;have q:y=Af (m / d):=congrArg Prod.fst (Fa h);have:=Ag8 m d;unfold Bl at this;rw[Dn (by rw[q];simp;omega)];exact h
theorem Apr (m n:Nat) (V:Bl m<1099511627776) (G:n<=m):Um (Af m) (Af n)=some (Af (m-n)):=by
 unfold Um;have J:(Af n).length<=(Af m).length:=Kz G;unfold Bl at V;rw[Kk rfl rfl (Nat.le_refl _) ω ω];simp only[Ad];have Q:=Fi m;have T:=Fi n;refine Jk (λ(c,i,o)=>∃k:Nat,i=k/\k<=(Af m).length/\o.length=(Af m).length/\B7 o/\o.drop k=replicate ((Af m).length-k) 0/\0<=c/\c<=1/\Ak o=Ak ((Af m).take k)-Ak ((Af n).take k)+1000000000 ^ k*c) (λ(_,i,_)=>(Af m).length-i.toNat) (λo=>∃c:Int,o.length=(Af m).length/\B7 o/\0<=c/\c<=1/\Ak o=(m:Int)-n+1000000000 ^ (Af m).length*c) ⟨0,rfl,ω,ψ,B7.replicate _,ψ,ω,ω,by simp[Ak,Ab5]⟩ ?_ ?_
 .rintro⟨c,i,o⟩ ⟨k,rfl,W,E,u,y,M,C,z⟩;rcases Cb k (Af m).length with h|h
  .have hx:=Q.get h;have f:k<o.length:=ω;have R:=Mf h ω;have N:decide ((k:Int)<((Af m).length:Int))=true:=Aq ω;have b:o[k]=0:=(by have:=congrArg head? y;rw[head?_drop,B3 f]at this;have x:(replicate ((Af m).length-k) (0:Int)).head? = some 0:=(by cases X:(Af m).length-k with| zero=>omega| succ t=>rfl);rw[x]at this;exact Fa this);have r:∀s:Int,0<=s->s<=1000000000->Ak ((Af m).take (k+1))-Ak ((Af n).take (k+1))=Ak ((Af m).take k)-Ak ((Af n).take k)+1000000000 ^ k*((Af m)[k]-s+c) ->
     ∃(l d:Int),(bif (Af m)[k]>=s then (some (Sum.inl (0,((k+1:Nat):Int),(C2 o (k:Int) (Cs ((Af m)[k]-s)))))) else (some (Sum.inl (1,((k+1:Nat):Int),(C2 o (k:Int) (Cs ((Cs ((Af m)[k]+1000000000))-s)))))):Option ((Int×Int×List Int)⊕List Int))=some (.inl (l,((k+1:Nat):Int),o.set k d)) /\ (∃q:Nat,((k+1:Nat):Int)=q/\q<=(Af m).length/\(o.set k d).length=(Af m).length/\B7 (o.set k d)/\(o.set k d).drop q=replicate ((Af m).length-q) 0/\0<=l/\l<=1/\Ak (o.set k d)=Ak ((Af m).take q)-Ak ((Af n).take q)+1000000000 ^ q*l):=by
    intro s h1 F g;have j:∀d:Int,(o.set k d).drop (k+1)=replicate ((Af m).length-(k+1)) 0:=(by intro d;rw[drop_set_of_lt ω,<-drop_drop,y,drop_replicate];congr 1);by_cases H:(Af m)[k]>=s
    .have A:Cs ((Af m)[k]-s)=(Af m)[k]-s:=Gu ω ω;refine⟨0,(Af m)[k]-s,by rw[Aq H,Al,A,Gv rfl],k+1,rfl,ω,by simpa using E,u.set _ ω ω,j _,ω,ω,?_⟩;rw[Mb _ f,b,g,z];grind
    .have A:Cs ((Af m)[k]+1000000000)=(Af m)[k]+1000000000:=Gu ω ω;have U:Cs ((Af m)[k]+1000000000-s)=(Af m)[k]+1000000000-s:=Gu ω ω;refine⟨1,(Af m)[k]+1000000000-s,by rw[Aw H,Ao,A,U,Gv rfl],k+1,rfl,ω,by simpa using E,u.set _ ω ω,j _,ω,ω,?_⟩;rw[Mb _ f,b,g,z,Int.pow_succ];grind
   refine .inl ?_;rcases Cb k (Af n).length with e|e
   .have hy:=T.get e;have S:Cs (c+(Af n)[k])=c+(Af n)[k]:=Gu ω ω;obtain⟨l,d,D,B⟩:=r (c+(Af n)[k]) ω ω (by rw[G3 _ h,G3 _ e];grind);refine⟨(l,((k+1:Nat):Int),o.set k d),?_,B,ζ⟩;rw[<-D];simp only[N,Al,Ek rfl h,Ek rfl f,Ad,Aq (ω:(k:Int)<((Af n).length:Int)),Ek rfl e,S,R]
   .obtain⟨l,d,D,B⟩:=r c ω ω (by rw[G3 _ h,Pf (Af n) e,Pf (Af n) ω];grind);refine⟨(l,((k+1:Nat):Int),o.set k d),?_,B,ζ⟩;rw[<-D];simp only[N,Al,Ek rfl h,Ek rfl f,Ad,Aw (ω:¬(k:Int)<((Af n).length:Int)),Ao,R]
  .have L:k=(Af m).length:=ω;subst L;refine .inr ⟨o,ψ,c,E,u,M,C,?_⟩;rw[Dq,Pf _ J,Fz,Fz]at z;exact z
 .rintro o ⟨c,F,K,h4,Z,Y⟩;have I:=Kl K;rw[F]at I;have hp:=Ky (Af m).length;have:c=0:=by
   rcases Int.lt_or_le 0 c with C|C
   .have:c=1:=ω;subst this;omega
   .omega
  subst this;rw[S6 o ω,Ad,Ln K (n:=m-n) ω]
theorem A0w {o:List Int} {k n:Nat} (d:k<o.length) (h:o.drop k=replicate n 0):o[k]=0:=by have:=congrArg head? h;rw[head?_drop,B3 d]at this;cases n with| zero=>simp at this| succ t=>exact Fa this
theorem cl1 {o X K c s x y A w:Int} (d:c+x+w=s) (e:w=y*A) (b:1000000000*(s / 1000000000)+s % 1000000000=s) (z V:Int) (h:o+X*K*c=z+X*(y*V)):o+X*K*(s % 1000000000-x)+X*K*1000000000*(s / 1000000000)=z+X*(y*(V+K*A)):=by grind
set_option maxHeartbeats 1000000 in
theorem A0x (m n:Nat) (hm:Bl m<274877906944) (hn:Bl n<274877906944):Rz (Af m) (Af n)=some (Af (m*n)):=by
  unfold Rz;unfold Bl at hm hn;have hw:Ac (((Af m).length:Int)+((Af n).length:Int))=(((Af m).length+(Af n).length:Nat):Int):=ξ;have M:Ac ((((Af m).length+(Af n).length:Nat):Int)+1)=(((Af m).length+(Af n).length+1:Nat):Int):=ξ;rw[hw,M,Kk rfl rfl (Nat.le_refl _) ω ω];simp only[Ad];have ha:=Fi m;have hb:=Fi n;have D:Ak (Af n)=n:=Fz n;generalize Af n=b at *;generalize hL:b.length=L at *;refine Jk (λ(i,o)=>∃k:Nat,i=k/\k<=(Af m).length/\o.length=(Af m).length+L+1/\B7 o/\o.drop (k+L)=replicate ((Af m).length+1-k) 0/\Ak o=Ak ((Af m).take k)*n) (λ(i,_)=>(Af m).length-i.toNat) (λo=>o.length=(Af m).length+L+1/\B7 o/\Ak o=((m*n:Nat):Int)) ⟨0,rfl,ω,ψ,B7.replicate _,by rw[drop_replicate];congr 1;omega,by simp[Ab5,Ak]⟩ ?_ ?_
  . rintro⟨i,o⟩ ⟨k,rfl,hk,r,G,U,N⟩;rcases Cb k (Af m).length with h|h
    . have C:=ha.get h;have e4:=Mf h ω;have e5:decide ((k:Int)<((Af m).length:Int))=true:=Aq ω;simp only[e5,Al];have X:Ah (Af m) (k:Int)=some (Af m)[k]:=Ek rfl h;generalize J:(Af m)[k]=x at *;refine .inl (Ab4 (Ev (λ(c,j,d)=>∃q:Nat,j=q/\d.length=(Af m).length+L+1/\B7 d/\0<=c/\c<1000000000 /\ ((q<=L/\d.drop (k+L)=replicate ((Af m).length+1-k) 0/\Ak d + 1000000000 ^ (k+q)*c=Ak o+1000000000 ^ k*(x*Ak (b.take q))) \/ (q=L+1/\c=0/\d.drop (k+1+L)=replicate ((Af m).length+1-(k+1)) 0/\Ak d=Ak o+1000000000 ^ k*(x*n)))) (λ(_,j,_)=>L+1-j.toNat) (λ(c,j,d)=>d.length=(Af m).length+L+1/\B7 d/\d.drop (k+1+L)=replicate ((Af m).length+1-(k+1)) 0/\Ak d=Ak o+1000000000 ^ k*(x*n)) ⟨0,rfl,r,G,ω,ω,.inl ⟨ω,U,by simp[Ak]⟩⟩ ?_ ?_))
      . rintro⟨c,j,d⟩ ⟨q,rfl,u,g,A,F,H⟩;rcases H with⟨H,f,l⟩|⟨rfl,rfl,f,l⟩
        . have K:Ac ((k:Int)+(q:Int))=((k+q:Nat):Int):=ξ;have Q:Ac ((q:Int)+1)=((q+1:Nat):Int):=Mf (Nat.lt_succ_self q) ω;have y:k+q<d.length:=ω;have a1:=g.get y;have w4:Az d[k+q]=d[k+q]:=Dl ω ω;have w5:Az (c+d[k+q])=c+d[k+q]:=Dl ω ω;have p1:(1000000000:Int) ^ (k+(q+1))=1000000000 ^ (k+q)*1000000000:=(by rw[<-Nat.add_assoc,Int.pow_succ]);have Z:(1000000000:Int) ^ (k+q)=1000000000 ^ k*1000000000 ^ q:=Int.pow_add ..;rcases Cb q L with e|e
          . have B:q<b.length:=ω;have T:=hb.get B;have a6:=Acx C.1 C.2 T.1 T.2;have w1:Az x=x:=Dl ω ω;have w2:Az b[q]=b[q]:=Dl ω ω;have w3:Az (x*b[q])=x*b[q]:=Dl ω ω;have Y:Az (c+d[k+q]+x*b[q])=c+d[k+q]+x*b[q]:=Dl ω ω;generalize W:c+d[k+q]+x*b[q]=s at Y;have E:0<=s:=ω;have a7:s<1000000000000000000:=ω;have w7:Cs (s % 1000000000)=s % 1000000000:=Gu ω ω;refine .inl ⟨(s / 1000000000,((q+1:Nat):Int),d.set (k+q) (s % 1000000000)),?_,⟨q+1,rfl,by simpa using u,g.set _ ω ω,ω,ω,.inl ⟨ω,?_,?_⟩⟩,ζ⟩
            . simp only[Aq (ω:(q:Int)<(L:Int)),Al,Ad,K,Ek rfl y,X,Ek rfl B,w1,w2,w3,w4,w5,W,Y,Ll E (show (0:Int)<1000000000 by decide),Lm E (show s<=_ by omega) (show (0:Int)<1000000000 by decide),w7,Q,Gv rfl]
            . rw[drop_set_of_lt ω];exact f
            . rw[Mb _ y,G3 _ B,p1,Z];rw[Z]at l;exact cl1 W rfl (Int.mul_ediv_add_emod s 1000000000) _ _ l
          . have R:q=L:=ω;subst R;by_cases V:c>0
            . have z:d[k+q]=0:=A0w y f;refine .inl ⟨(0,((q+1:Nat):Int),d.set (k+q) c),?_,⟨q+1,rfl,by simpa using u,g.set _ ω ω,ω,ω,.inr ⟨rfl,rfl,?_,?_⟩⟩,ψ⟩
              . have w8:Cs c=c:=Gu ω ω;have w9:Az c=c:=Dl ω ω;simp only[Aw (ω:¬(q:Int)<(q:Int)),Ao,Aq V,Al,Ad,K,Ek rfl y,z,show Az (0:Int)=0 from rfl,Int.add_zero,w9,Ll A (show (0:Int)<1000000000 by decide),Lm A (show c<=_ by omega) (show (0:Int)<1000000000 by decide),Int.emod_eq_of_lt A F,Int.ediv_eq_zero_of_lt A F,w8,Q,Gv rfl]
              . rw[drop_set_of_lt ω,show k+1+q=(k+q)+1 by omega,<-drop_drop,f,drop_replicate];congr 1
              . rw[Mb _ y,z,Int.sub_zero];rw[Iz ω,D]at l;omega
            . have I:c=0:=ω;subst I;refine .inr ⟨(0,(q:Int),d),?_,u,g,?_,?_⟩
              . simp only[Aw (ω:¬(q:Int)<(q:Int)),Ao,Ad,show decide ((0:Int)>0)=false from rfl]
              . rw[show k+1+q=(k+q)+1 by omega,<-drop_drop,f,drop_replicate];congr 1
              . rw[Iz ω,D]at l;omega
        . refine .inr ⟨(0,((L+1:Nat):Int),d),?_,u,g,f,l⟩;simp only[Aw (ω:¬((L+1:Nat):Int)<(L:Int)),Ao,Ad,show decide ((0:Int)>0)=false from rfl]
      . rintro⟨c,j,d⟩ ⟨u,g,f,l⟩;refine⟨_,by simp only[e4],(((k+1:Nat):Int),d),rfl,⟨k+1,rfl,ω,u,g,f,?_⟩,ζ⟩;rw[l,G3 _ h,Int.add_mul,<-N,J];grind
    . have S:k=(Af m).length:=ω;subst S;refine .inr ⟨o,ψ,r,G,?_⟩;rw[Dq,Fz]at N;rw[N];simp
  . rintro o ⟨h2,h3,h4⟩;rw[S6 o ω,Ad,Ln h3 h4]
end Go.Ab
namespace Go.Ab
open Go Ieee
variable {k n:Nat}
theorem A0y (n d:Nat):∃c,Toward.even.cut false n d=c/\(n / 2 ^ d<=c)/\c<=n / 2 ^ d+1/\(n % 2 ^ d=0->c=n / 2 ^ d):=by
 refine⟨_,rfl,?_⟩;unfold Toward.cut;simp only[Nat.shiftLeft_eq,Nat.one_mul];by_cases q:d<=n.log2+2
 .rw[Nat.min_eq_left q];generalize r:2 ^ d=g;have s:0<g:=(by rw[<-r];exact Nat.pow_pos δ);refine⟨ω,?_,λA=>?_⟩
  .have:=Bool.toNat_le (decide (g<2*(n % g))||(g==2*(n % g)&&n / g % 2==1))
   omega
  .rw[A];have e:decide (g<2*0)=false:=ψ;have o:(g==2*0)=false:=ζ;rw[e,o];rfl
 .rw[Nat.min_eq_right ω];have b:n<2 ^ (n.log2+1):=Nat.lt_log2_self;have s:2 ^ (n.log2+2)=2*2 ^ (n.log2+1):=(by rw[Nat.pow_succ];omega);have f:2 ^ (n.log2+2)<=2 ^ d:=Nat.pow_le_pow_right δ ω;have k:n / 2 ^ (n.log2+2)=0:=Nat.div_eq_of_lt ω;have j:n % 2 ^ (n.log2+2)=n:=Nat.mod_eq_of_lt ω;have i:n / 2 ^ d=0:=Nat.div_eq_of_lt ω;have h:n % 2 ^ d=n:=Nat.mod_eq_of_lt ω;rw[k,j,i,h];have e:decide (2 ^ (n.log2+2)<2*n)=false:=ζ;have o:(2 ^ (n.log2+2)==2*n)=false:=ζ;rw[e,o];exact⟨ψ,ψ,λ_=>rfl⟩
theorem Vj (f:Nat) (place e:Int) (l:f≠0) (A:place+f.log2=e) (L : -1000<=e) (M:e<=900) : ∃(m:Nat) (p:Int),double.read (double.nearest false f place) = .number false m p/\4503599627370496<=m/\m<9007199254740992/\(p=e-52\/(p=e-51/\m=4503599627370496)):=by
 have g:max (place+f.log2-(double.fractionBits:Int)) double.leastPlace=e-52:=by have a:(double.fractionBits:Int)=52:=rfl;have b:double.leastPlace = -1074:=δ;rw[a,b,A];omega
 have D:double.nearest false f place=min ((e-52+1074).toNat*4503599627370496+Toward.even.cut false (f <<< (place-(e-52)).toNat) ((e-52)-place).toNat) (2047*4503599627370496):=by unfold Format.nearest;rw[Ay l];simp only[g];have b:double.leastPlace = -1074:=δ;have c:double.binade=4503599627370496:=δ;have d:double.infRung=2047*4503599627370496:=δ;rw[b,c,d];unfold Format.word;simp only[Bool.false_eq_true,if_false];congr 3
 have H:4503599627370496<=Toward.even.cut false (f <<< (place-(e-52)).toNat) ((e-52)-place).toNat/\Toward.even.cut false (f <<< (place-(e-52)).toNat) ((e-52)-place).toNat<=9007199254740992:=by
  obtain⟨c,r,E,F,C⟩:=A0y (f <<< (place-(e-52)).toNat) ((e-52)-place).toNat;rw[r];have y:2 ^ f.log2<=f:=Nat.log2_self_le l;have x:f<2 ^ (f.log2+1):=Nat.lt_log2_self;rw[Nat.shiftLeft_eq]at E F C;rcases Int.le_total place (e-52) with h|h
  .have z:(place-(e-52)).toNat=0:=ω;rw[z,Nat.pow_zero,Nat.mul_one]at E F C;have G:f.log2=52+((e-52)-place).toNat:=ω;have hp:2 ^ f.log2=4503599627370496*2 ^ ((e-52)-place).toNat:=(by rw[G,Nat.pow_add]);have k:2 ^ (f.log2+1)=9007199254740992*2 ^ ((e-52)-place).toNat:=(by rw[Nat.pow_succ,hp];omega);have o:0<2 ^ ((e-52)-place).toNat:=Nat.pow_pos δ;have I:4503599627370496<=f / 2 ^ ((e-52)-place).toNat:=(Nat.le_div_iff_mul_le o).2 ω;have J:f / 2 ^ ((e-52)-place).toNat<9007199254740992:=(Nat.div_lt_iff_lt_mul o).2 ω;omega
  .have z:((e-52)-place).toNat=0:=ω;rw[z,Nat.pow_zero,Nat.div_one]at E F C;have N:=C (Nat.mod_one _);have G:52=f.log2+(place-(e-52)).toNat:=ω;have hp:2 ^ f.log2*2 ^ (place-(e-52)).toNat=4503599627370496:=(by rw[<-Nat.pow_add,<-G]);have k:2 ^ (f.log2+1)*2 ^ (place-(e-52)).toNat=9007199254740992:=(by rw[Nat.pow_succ,Nat.mul_right_comm,hp]);have o:0<2 ^ (place-(e-52)).toNat:=Nat.pow_pos δ;have I:=Nat.mul_le_mul_right (2 ^ (place-(e-52)).toNat) y;have J:=Nat.mul_lt_mul_of_pos_right x o;omega
 generalize Toward.even.cut false (f <<< (place-(e-52)).toNat) ((e-52)-place).toNat=c at *;obtain⟨t,K⟩:∃t:Nat,(e-52+1074).toNat=t/\t<=1922/\(t:Int)=e+1022:=⟨_,rfl,ω,ω⟩;rw[K.1]at D;rw[Nat.min_eq_left ω]at D;rw[D];have b:double.leastPlace = -1074:=δ;have B:double.binade=4503599627370496:=δ;have d:double.infRung=2047*4503599627370496:=δ;have q:double.signWeight=9223372036854775808:=δ;unfold Format.read;rw[b,B,d,q];have u:(t*4503599627370496+c) / 9223372036854775808=0:=Nat.div_eq_of_lt ω;have s:(t*4503599627370496+c) % 9223372036854775808=t*4503599627370496+c:=Nat.mod_eq_of_lt ω;simp only[u,s];rw[Ay ω,A7 ω];by_cases r:c<9007199254740992
 .refine⟨c,e-52,?_,H.1,r,.inl rfl⟩;have j:(t*4503599627370496+c) % 4503599627370496=c-4503599627370496:=ω;have i:(t*4503599627370496+c) / 4503599627370496=t+1:=ω;rw[j,i,show 4503599627370496+(c-4503599627370496)=c by omega,show (-1074:Int)+((t+1-1:Nat):Int)=e-52 by omega];rfl
 .have r:c=9007199254740992:=ω;subst r;refine⟨4503599627370496,e-51,?_,δ,δ,.inr ⟨rfl,rfl⟩⟩;have j:(t*4503599627370496+9007199254740992) % 4503599627370496=0:=ω;have i:(t*4503599627370496+9007199254740992) / 4503599627370496=t+2:=ω;rw[j,i,Nat.add_zero,show (-1074:Int)+((t+2-1:Nat):Int)=e-51 by omega];rfl
theorem Ah9 (v:Int) (h:0<=v):floatOfInt .f64 v=double.nearest false v.natAbs 0:=by have e:decide (v<0)=false:=Aw ω;show double.nearest (decide (v<0)) v.natAbs 0=_;rw[e]
theorem A0z:double.read 4876203697187506176 = .number false 7812500000000000 7:=by decide
theorem Ac3 (d:2 ^ k<=n) (e:n<2 ^ (k+1)):n.log2=k:=(Nat.log2_eq_iff (by have:=Nat.pow_pos (n:=k) (show 0<2 by decide);omega)).2 ⟨d,e⟩
theorem Yw (h:n<2 ^ (k+1)):n.log2<=k:=by
 by_cases d:n=0
 .subst d;simp
 .have:=(Nat.log2_lt d).2 h;omega
theorem Aia (h:2 ^ k<=n):k<=n.log2:=(Nat.le_log2 (by have:=Nat.pow_pos (n:=k) (show 0<2 by decide);omega)).2 h
theorem A00 (x:Int) (h0:1<=x) (A:x<1000000000):∃(w:Nat) (m:Nat) (p:Int),floatBits .mul .f64 (floatOfInt .f64 x) 4876203697187506176=some w/\double.read w = .number false m p/\4503599627370496<=m/\m<9007199254740992/\7<=p/\(p<=37\/(p=38/\m=4503599627370496)):=by
 have j:x.natAbs.log2<=29:=Yw ζ;obtain⟨d,b,g,B,C,D⟩:=Vj x.natAbs 0 (x.natAbs.log2) ω ω ω ω;have c:(d*7812500000000000).log2=104\/((d*7812500000000000).log2=105/\d≠4503599627370496):=by
  have e:2 ^ 104<=d*7812500000000000:=ω;have o:d*7812500000000000<2 ^ 106:=ω;rcases Cb (d*7812500000000000) (2 ^ 105) with h|h
  .exact .inl (Ac3 e h)
  .exact .inr ⟨Ac3 h o,by rintro rfl;omega⟩
 obtain⟨q,i,f,r,s,E⟩:=Vj (d*7812500000000000) (b+7) (b+7+(d*7812500000000000).log2) ω rfl ω ω;refine⟨double.nearest false (d*7812500000000000) (b+7),q,i,?_,f,r,s,ω,ω⟩;show ((double.read (floatOfInt .f64 x)).product (double.read 4876203697187506176)).map double.write=_;rw[Ah9 x ω,g,A0z];rfl
theorem A01 (w:Nat) (m:Nat) (p:Int) (r:double.read w = .number false m p) (M:4503599627370496<=m) (L:m<9007199254740992) (I:7<=p) (j:p<=37\/(p=38/\m=4503599627370496)) (y:Int) (h0:0<=y) (h1:y<1000000000000000000) : ∃(w':Nat) (g:Nat) (f:Int),floatBits .add .f64 w (floatOfInt .f64 y)=some w'/\double.read w' = .number false g f/\4503599627370496<=g/\g<9007199254740992/\7<=f/\f<=39:=by
 obtain⟨c,b,x,S,R⟩:∃(c:Nat) (b:Int),double.read (floatOfInt .f64 y) = .number false c b/\b<=8/\c<9007199254740992/\-1074<=b:=by
  rw[Ah9 y h0];by_cases o:y.natAbs=0
  .rw[o];exact⟨0,-1074,δ,δ,δ,δ⟩
  .have X:y.natAbs.log2<=59:=Yw ζ;obtain⟨C,D,A,a1,F,a3⟩:=Vj y.natAbs 0 (y.natAbs.log2) o ω ω ω;exact⟨C,D,A,ω,F,ω⟩
 generalize H:min p b=d;have K:∃T:Nat,signed false m (p-d).toNat+signed false c (b-d).toNat=(T:Int)/\T=m*2 ^ (p-d).toNat+c*2 ^ (b-d).toNat:=by refine⟨m <<< (p-d).toNat+c <<< (b-d).toNat,rfl,by rw[Nat.shiftLeft_eq,Nat.shiftLeft_eq]⟩
 obtain⟨T,t1,t2⟩:=K;have G:0<2 ^ (p-d).toNat:=Nat.pow_pos δ;have i:2 ^ (b-d).toNat<=2 ^ (8-d).toNat:=Nat.pow_le_pow_right δ ω;have J:m*2 ^ (p-d).toNat<=2 ^ (90-d).toNat:=by
  rcases j with h|⟨rfl,rfl⟩
  .have e:2 ^ (90-d).toNat=2 ^ (p-d).toNat*2 ^ (90-p).toNat:=(by rw[<-Nat.pow_add];congr 1;omega);have e2:2 ^ 53<=2 ^ (90-p).toNat:=Nat.pow_le_pow_right δ ω;rw[e,Nat.mul_comm];exact Nat.mul_le_mul_left _ ω
  .have e:2 ^ (90-d).toNat=2 ^ (38-d).toNat*2 ^ 52:=(by rw[<-Nat.pow_add];congr 1;omega);rw[e,Nat.mul_comm];omega
 have E:c*2 ^ (b-d).toNat<2 ^ (90-d).toNat:=by have e:2 ^ (90-d).toNat=2 ^ (8-d).toNat*2 ^ 82:=(by rw[<-Nat.pow_add];congr 1;omega);have Z:c*2 ^ (b-d).toNat<=c*2 ^ (8-d).toNat:=Nat.mul_le_mul_left _ i;have N:0<2 ^ (8-d).toNat:=Nat.pow_pos δ;have Y:c*2 ^ (8-d).toNat<2 ^ 82*2 ^ (8-d).toNat:=Nat.mul_lt_mul_of_pos_right ω N;rw[e,Nat.mul_comm (2 ^ (8-d).toNat)];omega
 have s:T<2 ^ ((90-d).toNat+1):=by rw[Nat.pow_succ];omega
 have q:2 ^ (52+(p-d).toNat)<=T:=by have:2 ^ 52*2 ^ (p-d).toNat<=m*2 ^ (p-d).toNat:=Nat.mul_le_mul_right _ ω;rw[Nat.pow_add];omega
 have V:=Yw s;have U:=Aia q;have u:T≠0:=by have:=Nat.pow_pos (n:=52+(p-d).toNat) (show 0<2 by decide);omega
 obtain⟨Q,B,z,W,c2,c3⟩:=Vj T d (d+T.log2) u rfl ω ω;refine⟨double.nearest false T d,Q,B,?_,z,W,c2,ω,ω⟩;show ((double.read w).sum (double.read (floatOfInt .f64 y))).map double.write=_;rw[r,x];have l:¬((T:Int)=0):=ω;have k:decide ((T:Int)<0)=false:=Aw ω;simp only[Datum.sum,H,t1,Ay l,k,Option.map_some,Int.natAbs_natCast,Format.write]
theorem A02 {b m N:Nat} {p:Int} (g:double.read b = .number false m p) (i:(Datum.number false m p).toInt .zero=some (N:Int)) (h:N<=9223372036854775808):floatToIntVal .f64 b .u64=some (N:Int):=by have d:FloatKind.f64.decode b = .number false m p:=g;have f:IntKind.u64.min=0:=δ;have c:IntKind.u64.max=18446744073709551615:=δ;unfold floatToIntVal;rw[d,i];simp only[f,c];rw[A7 ⟨ω,ω⟩]
theorem A03 (w:Nat) (m:Nat) (p:Int) (C:double.read w = .number false m p) (M:4503599627370496<=m) (L:m<9007199254740992) (J:7<=p) (I:p<=39) (z:Int) (h0:1000000000<=z) (K:z<1000000000000000000) : ∃(w':Nat) (n:Int),floatBits .quo .f64 w (floatOfInt .f64 z)=some w'/\floatToIntVal .f64 w' .u64=some n/\0<=n/\n<=9223372036854775808:=by
 have S:z.natAbs.log2<=59:=Yw ζ;have R:29<=z.natAbs.log2:=Aia ζ;obtain⟨f,c,l,Q,T,V⟩:=Vj z.natAbs 0 (z.natAbs.log2) ω ω ω ω;have B:m.log2=52:=Ac3 ω ω;have x:f.log2=52:=Ac3 ω ω;generalize o:m*2 ^ 54 / f=q;generalize r:((m*2 ^ 54 % f != 0).toNat)=s;have D:s<=1:=by rw[<-r];exact Bool.toNat_le _
 have G:q<2 ^ 55:=by rw[<-o];exact (Nat.div_lt_iff_lt_mul ω).2 ω
 have E:2 ^ 53<=q:=by rw[<-o];exact (Nat.le_div_iff_mul_le ω).2 ω
 have A:(2*q+s).log2<=55:=Yw ω;have y:54<=(2*q+s).log2:=Aia ω;obtain⟨d,b,u,W,F,c3⟩:=Vj (2*q+s) (p-c-(54:Nat)-1) (p-c-(54:Nat)-1+(2*q+s).log2) ω rfl ω ω;have j:(Datum.number false m p).quotient (double.fractionBits+2) (Datum.number false f c)=some (.number false (2*q+s) (p-c-(54:Nat)-1)):=by have i:¬f=0:=ω;have fb:double.fractionBits+2=54:=rfl;simp only[Datum.quotient,Ay i,fb,B,x,Nat.shiftLeft_eq,Nat.add_sub_cancel,o,r,Bool.xor_self]
 have H:d*2 ^ b.toNat<=9223372036854775808:=by
  have k:b<=10\/(b=11/\d=4503599627370496):=ω;rcases k with h|⟨rfl,rfl⟩
  .have:2 ^ b.toNat<=2 ^ 10:=Nat.pow_le_pow_right δ ω;have:=Nat.mul_le_mul (Nat.le_of_lt F) this;omega
  .decide
 obtain⟨N,U,g⟩:∃N:Nat,(Datum.number false d b).toInt .zero=some (N:Int)/\N<=9223372036854775808:=by
  refine⟨(d <<< b.toNat) / (1 <<< min (-b).toNat ((d <<< b.toNat).log2+2)),?_,?_⟩
  .simp only[Datum.toInt,Datum.integral,Toward.cut,signed,Bool.false_eq_true,if_false,Nat.shiftLeft_zero,Bool.toNat_false,Nat.add_zero]
  .rw[Nat.shiftLeft_eq d];exact Nat.le_trans (Nat.div_le_self _ _) H
 refine⟨double.nearest false (2*q+s) (p-c-(54:Nat)-1),(N:Int),?_,?_,ω,ω⟩
 .have e:floatBits .quo .f64 w (floatOfInt .f64 z)=((double.read w).quotient (double.fractionBits+2) (double.read (floatOfInt .f64 z))).map double.write:=rfl;rw[e,C,Ah9 z ω,l,j];simp only[Option.map_some,Format.write]
 .exact A02 u U g
theorem A04 (r n:Nat) (Q:2<=Bl n) (E:Bl r<=Bl n+1) (G:Bl n<1099511627776):∃d:Nat,Xo (Af r) (Af n)=some (d:Int)/\d<1000000000:=by
 unfold Xo;unfold Bl at Q E G;have c:n≠0:=by rintro rfl;rw[Gw]at Q;simp at Q
 by_cases V:(Af r).length<(Af n).length
 .exact⟨0,by rw[Aq ω];rfl,δ⟩
 .rw[Aw ω,Ao];have y:Ac (((Af n).length:Int)-1)=(((Af n).length-1:Nat):Int):=ξ;have u:Ac (((Af n).length:Int)-2)=(((Af n).length-2:Nat):Int):=ξ;have T:(Af n).length-1<(Af n).length:=ω;have W:(Af n).length-2<(Af n).length:=ω;have h:(Af n).length-1<(Af r).length:=ω;have g:(Af n).length-2<(Af r).length:=ω;have t1:=(Fi n).get T;have t2:=(Fi n).get W;have M:=(Fi r).get h;have L:=(Fi r).get g;have i:(Af n)[(Af n).length-1]≠0:=(by have:=(Ab6 n).2 (Jc c);rwa [getLast_eq_getElem]at this);rw[y,u,Ek rfl T,Ad,Ek rfl W,Ad,Ek rfl h,Ad,Ek rfl g,Ad];generalize (Af n)[(Af n).length-1]=o at *;generalize (Af n)[(Af n).length-2]=F at *;generalize (Af r)[(Af n).length-1]=C at *;generalize (Af r)[(Af n).length-2]=H at *;have l:Az (Az (Az C*1000000000)+Az H)=C*1000000000+H:=(by rw[show Az C=C from Dl ω ω,show Az H=H from Dl ω ω,show Az (C*1000000000)=C*1000000000 from Dl ω ω];exact Dl ω ω);have j:Az (Az (Az o*1000000000)+Az F)=o*1000000000+F:=(by rw[show Az o=o from Dl ω ω,show Az F=F from Dl ω ω,show Az (o*1000000000)=o*1000000000 from Dl ω ω];exact Dl ω ω);rw[l,j];by_cases X:(Af r).length=(Af n).length
  .rw[Gb ω,Al,Lm ω ω ω,Ad];have R:0<=(C*1000000000+H) / (o*1000000000+F):=Int.ediv_nonneg ω ω;have N:(C*1000000000+H) / (o*1000000000+F)<1000000000:=Int.ediv_lt_of_lt_mul ω ω;exact⟨((C*1000000000+H) / (o*1000000000+F)).toNat,by congr 1;omega,ω⟩
  .have K:(Af n).length<(Af r).length:=ω;have b:r≠0:=(by rintro rfl;rw[Gw]at K;simp at K);have J:=(Fi r).get K;have f:(Af r)[(Af n).length]≠0:=(by have:=(Ab6 r).2 (Jc b);rw[getLast_eq_getElem]at this;have e:(Af r).length-1=(Af n).length:=ω;simpa[e] using this);rw[Dc ω,Ao,Ek rfl K,Ad];generalize (Af r)[(Af n).length]=x at *;obtain⟨s,m3,A,f1,f2,f3,f4,f5,f6⟩:=A00 x ω ω;obtain⟨q,m4,z,g1,g2,g3,g4,g5,g6⟩:=A01 s m3 A f2 f3 f4 f5 f6 (C*1000000000+H) ω ω;obtain⟨I,k,D,B,U,S⟩:=A03 q m4 z g2 g3 g4 g5 g6 (o*1000000000+F) ω ω;rw[f1,Ad,g1,Ad,D,Ad,B,Ad,show Az (k+2)=k+2 from Dl ω ω];by_cases hc:(999999999:Int)<k+2
   .exact⟨999999999,by rw[A7 hc];rfl,δ⟩
   .exact⟨(k+2).toNat,by rw[Ay hc];congr 1;omega,ω⟩
end Go.Ab
namespace Go.Ab
open Go
variable {a b:A3} {res:Ag} {t:Aj} {m:Br} {x y:Int} {vars:List Ag} {p:List Aj} {data:List Am} {j k n:Nat} {α:Type} {S:α->Prop} {g:α->α->Int}
theorem A05 (x r:Nat):Bl (x % 1000000000+1000000000*r)<=Bl r+1:=by apply J0;have:=M9 r;rw[Nat.pow_succ];omega
set_option maxHeartbeats 1000000 in
theorem Aib (m n:Nat) (W:Bl m<137438953472) (hn:Bl n<137438953472) (D:n≠0):Ru (Af m) (Af n)=some (Af (m / n),Af (m % n)):=by
 unfold Ru;rw[Ah8,Yt m n ω ω,Ad];have ae:=W;have ad:=hn;unfold Bl at W hn;by_cases l:m<n
 .rw[show Gn m n = -1 by rw[Gn,A7 l],Aq (by decide:(-1:Int)<0),Al,S6 _ ω,Ad,Ay0 (Ab6 m),Nat.div_eq_of_lt l,Nat.mod_eq_of_lt l,Gw]
 .rw[Aw (show ¬Gn m n<0 by rw[Gn,Ay l];split <;> decide),Ao];have a7:(Af n).length≠0:=λe=>Jc D (Gm.1 e);by_cases h1:(Af n).length=1
  .rw[Gb (ω:((Af n).length:Int)=1),Al];have B:n<1000000000:=(by have:=M9 n;rw[show Bl n=1 from h1]at this;simpa using this);have X:Af n = [(n:Int)]:=(by rw[M7 D,Nat.div_eq_of_lt B,Gw,Nat.mod_eq_of_lt B]);rw[X,show Ah [(n:Int)] 0=some (n:Int) from rfl,Ad,show Az (n:Int)=n from Dl ω ω,A0v m n ω ω ω,Ad];have a6:m % n<n:=Nat.mod_lt _ ω;rw[Ac2,Qv (m % n) ω,Ad]
  .rw[Dc (ω:((Af n).length:Int)≠1),Ao];have hw:Ac (((Af m).length:Int)-1)=((Af m).length:Int)-1:=ξ;rw[Kk rfl rfl (Nat.le_refl _) ω ω,hw];simp only[Ad];have ha:=Fi m;refine Jk (λ(r,i,q)=>∃(k R:Nat),r=Af R/\i=(k:Int)-1/\k<=(Af m).length/\R<n/\q.length=(Af m).length/\B7 q/\Ak (q.drop k)*n+R=Ak ((Af m).drop k)) (λ(_,i,_)=>(i+1).toNat) (λ(r,q)=>∃R:Nat,r=Af R/\R<n/\q.length=(Af m).length/\B7 q/\Ak q*n+R=m) ⟨(Af m).length,0,by rw[Gw],rfl,Nat.le_refl _,ω,ψ,B7.replicate _,by simp[Ak]⟩ ?_ ?_
   .rintro⟨r,i,q⟩ ⟨k,R,rfl,rfl,hk,J,u,g,A⟩;cases k with
    | zero=>exact .inr ⟨(Af R,q),ψ,R,rfl,J,u,g,by simpa[Fz] using A⟩
    | succ j=>
     have F:j<(Af m).length:=ω;have E:j<q.length:=ω;have hx:=ha.get F;obtain⟨x,y⟩:∃x:Nat,(Af m)[j]=(x:Int):=⟨(Af m)[j].toNat,ω⟩;have L:x<1000000000:=ω;have e0:((j+1:Nat):Int)-1=(j:Int):=ω;have e1:decide ((j:Int)>=0)=true:=Aq ω;have Y:Bl R<=Bl n:=Kz ω;have ab:Bl (x+1000000000*R)<=Bl R+1:=(by have:=A05 x R;rwa [Nat.mod_eq_of_lt L]at this);have ag:(Af R).length<=(Af n).length:=Y;have G:Kv ((x:Int)::Af R)=some (Af (x+1000000000*R)):=by
      rw[S6 _ ζ];congr 1;refine Ln ?_ ?_
      .intro d o;rcases Fp.1 o with rfl|o
       .omega
       .exact Fi R d o
      .simp only[Ak,Fz];omega
     obtain⟨d0,S,af⟩:=A04 (x+1000000000*R) n (by unfold Bl;omega) ω ω;generalize a1:x+1000000000*R=f at *;have aa:f<1000000000*n:=ω;have s:∀d:Nat,d<18446744073709551616->On (d:Int)=some (Af d)/\Rz (Af n) (Af d)=some (Af (n*d)):=(by intro d o;have:=Pe o;exact⟨by rw[Ac2,Qv d o],A0x n d ω ω⟩);have I:∀d:Nat,d<18446744073709551616->Ry (Af (n*d)) (Af f)=some (Gn (n*d) f):=(by intro d o;have h3:=Pe o;have h4:=Km n d;rw[Ah8,Yt _ _ ω ω]);simp only[e0,e1,Al,Ek rfl F,y,Ad,Dn (show ([(x:Int)].length+(Af R).length)*4<=_ by simp;omega),singleton_append,G,S];refine .inl (Ab4 (Ev (λd=>∃e:Nat,d=e/\e<=d0) (λd=>d.toNat) (λd=>∃e:Nat,d=e/\e<=d0/\n*e<=f) ⟨d0,rfl,Nat.le_refl _⟩ ?_ ?_))
     .rintro d ⟨e,rfl,he⟩;by_cases V:e=0
      .subst V;exact .inr ⟨0,rfl,0,rfl,ω,ψ⟩
      .obtain⟨H,K⟩:=s e ω;simp only[Aq (ω:(e:Int)>0),Al,H,K,I e ω,Ad];by_cases C:f<n*e
       .refine .inl ⟨((e-1:Nat):Int),?_,⟨e-1,rfl,ω⟩,ζ⟩;rw[show Gn (n*e) f=1 by rw[Gn,Ay ω,A7 C],show decide ((1:Int)>0)=true from rfl,Al,show Az ((e:Int)-1)=((e-1:Nat):Int) by rw[Az,Dl] <;> omega]
       .refine .inr ⟨(e:Int),?_,e,rfl,he,ω⟩;rw[Aw (show ¬Gn (n*e) f>0 by rw[Gn,Ay C];split <;> decide),Ao]
     .rintro d ⟨e,rfl,he,M⟩;obtain⟨H,K⟩:=s e ω;simp only[H,K,Ad,Apr f (n*e) ω M];refine Ev (λ(r,d)=>∃(c b:Nat),r=Af c/\d=b/\n*b+c=f) (λ(r,_)=>(Ak r).toNat) (λ(r,d)=>∃(c b:Nat),r=Af c/\d=b/\n*b+c=f/\c<n) ⟨f-n*e,e,rfl,rfl,ω⟩ ?_ ?_
      .rintro⟨r,d⟩ ⟨c,b,rfl,rfl,T⟩;have a8:Bl c<=Bl f:=Kz ω;have U:b<1000000000:=by
        rcases Cb b 1000000000 with h|h
        .exact h
        .exfalso;have:n*1000000000<=n*b:=Nat.mul_le_mul_left n h;omega
       simp only[Ah8,Yt c n ω ω,Ad];by_cases C:c<n
       .refine .inr ⟨(Af c,(b:Int)),?_,c,b,rfl,rfl,T,C⟩;rw[Aw (show ¬Gn c n>=0 by rw[Gn,A7 C];decide),Ao]
       .refine .inl ⟨(Af (c-n),((b+1:Nat):Int)),?_,⟨c-n,b+1,rfl,rfl,?_⟩,?_⟩
        .rw[Aq (show Gn c n>=0 by rw[Gn,Ay C];split <;> decide),Al,Apr c n ω ω,Ad,show Az ((b:Int)+1)=((b+1:Nat):Int) by rw[Az,Dl] <;> omega]
        .rw[Nat.mul_add];omega
        .simp only[Fz];omega
      .rintro⟨r,d⟩ ⟨c,b,rfl,rfl,T,Z⟩;have U:b<1000000000:=by
        rcases Cb b 1000000000 with h|h
        .exact h
        .exfalso;have:n*1000000000<=n*b:=Nat.mul_le_mul_left n h;omega
       have w1:Cs (b:Int)=b:=Gu ω ω;have w8:Ac ((j:Int)-1)=(j:Int)-1:=ξ;refine⟨_,by simp only[Ek rfl E,Ad,w1,w8,Gv rfl],(Af c,(j:Int)-1,q.set j (b:Int)),rfl,⟨j,c,rfl,rfl,ω,Z,by simpa using u,g.set _ ω ω,?_⟩,ψ⟩;have d1:(q.set j (b:Int)).drop j=(b:Int)::q.drop (j+1):=(by rw[drop_eq_getElem_cons (by simpa using E),drop_set_of_lt ω];simp);rw[d1,drop_eq_getElem_cons F,y];simp only[Ak];rw[<-A];have:((n*b+c:Nat):Int)=((x+1000000000*R:Nat):Int):=(by rw[T,a1]);simp only[Int.natCast_add,Int.natCast_mul]at this;grind
   .rintro⟨r,q⟩ ⟨R,rfl,J,u,g,A⟩;dsimp only;have ac:=Hs g.u32;obtain⟨Q,hQ⟩:∃Q:Nat,Ak q=Q:=⟨(Ak q).toNat,ω⟩;rw[hQ]at A;have z:Q*n+R=m:=(by have:((Q*n+R:Nat):Int)=(m:Int):=(by simp only[Int.natCast_add,Int.natCast_mul];exact A);omega);have o:m / n=Q:=(by rw[<-z,Nat.mul_comm,Nat.mul_add_div ω,Nat.div_eq_of_lt J];rfl);have N:m % n=R:=(by rw[<-z,Nat.mul_comm,Nat.mul_add_mod,Nat.mod_eq_of_lt J]);rw[S6 q ω,Ad,Ln g hQ,o,N]
theorem A06 (m n:Nat) (g:Bl m<137438953472) (f:Bl n<137438953472):W9 (Af m) (Af n)=some (Af (Nat.gcd m n)):=by
 unfold W9;refine Jk (λ(a,b)=>∃x y:Nat,a=Af x/\b=Af y/\Bl x<137438953472/\Bl y<137438953472/\Nat.gcd x y=Nat.gcd m n) (λ(_,b)=>(Ak b).toNat) (λr=>r=Af (Nat.gcd m n)) ⟨m,n,rfl,rfl,g,f,rfl⟩ ?_ (by rintro e rfl;rfl);rintro⟨a,b⟩ ⟨x,y,rfl,rfl,q,d,o⟩;by_cases c:y=0
 .subst c;refine .inr ⟨Af x,by rw[Gw];rfl,?_⟩;rw[<-o,Nat.gcd_zero_right]
 .have h:(Af y).length≠0:=λe=>Jc c (Gm.1 e);have i:decide (((Af y).length:Int)>0)=true:=Aq ω;refine .inl ⟨(Af y,Af (x % y)),?_,⟨y,x % y,rfl,rfl,d,by have:=Kz (Nat.mod_le x y);omega,?_⟩,?_⟩
  .simp only[i,Al,Aib x y q d c,Ad]
  .rw[<-o,Nat.gcd_comm y,<-Nat.gcd_rec,Nat.gcd_comm]
  .simp only[Fz];have:=Nat.mod_lt x (ω:y>0);omega
def Vk (b:Bool) (n d:Nat):A3:=if d=0 then ⟨false,[],[1]⟩ else Cn b n d
theorem Aps (h:n≠0):(Af n).length≠0:=λe=>Jc h (Gm.1 e)
theorem A07 (c:Bool) (a b:List Int) (B:Ma a) (hb:Ma b) (l:a.length<137438953400) (k:b.length<137438953400):Rq c a b=some (Vk c (Ak a).toNat (Ak b).toNat):=by
 unfold Rq;have D:=Acz B;have E:=Acz hb;rw[Apq a B ω,Ad,Apq b hb ω,Ad];generalize (Ak a).toNat=n at *;generalize (Ak b).toNat=d at *;by_cases g:n=0
 .subst g;have:Vk c 0 d=⟨false,[],[1]⟩:=(by unfold Vk;split <;> simp[Cn]);rw[this,Gw];rfl
 .have i:=Aps g;by_cases o:d=0
  .subst o;simp only[Dc (ω:((Af n).length:Int)≠0),Ao,Gw,Ad];rfl
  .have j:=Aps o;have f:Nat.gcd n d≠0:=(by have:=Nat.gcd_pos_of_pos_left d (ω:0<n);omega);have s:Bl (Nat.gcd n d)<=Bl n:=Kz (Nat.gcd_le_left d (ω:0<n));simp only[Dc (ω:((Af n).length:Int)≠0),Ao,Dc (ω:((Af d).length:Int)≠0),Ad,A06 n d ω ω];rw[Vk,Ay o,Cn,Ay g];have r:(bif (((Af (Nat.gcd n d)).length:Int) != (1:Int)) then some true else ((Ah (Af (Nat.gcd n d)) 0).bind λh=>some (h != (1:Int))))=some (decide (Nat.gcd n d≠1)):=by
    have e:=Ah3 (Nat.gcd n d);unfold Sh at e;by_cases q:(Af (Nat.gcd n d)).length=1
    .rw[Gb (ω:((Af (Nat.gcd n d)).length:Int)=1),Al]at e;rw[Hw (ω:((Af (Nat.gcd n d)).length:Int)=1),Ao];cases C:Ah (Af (Nat.gcd n d)) 0 with| none=>rw[C]at e;cases e| some v=>rw[C]at e;simp only[Ad]at e ⊢;have e:=Fa e;congr 1;rw[bne,e];simp
    .rw[Dc (ω:((Af (Nat.gcd n d)).length:Int)≠1),Ao]at e;rw[Gc (ω:((Af (Nat.gcd n d)).length:Int)≠1),Al];have e:=Fa e;have:Nat.gcd n d≠1:=(by simpa using e.symm);rw[Aq this]
   rw[r,Ad];by_cases A:Nat.gcd n d=1
   .rw[Aw (by simpa using A),Ao,A];simp
   .rw[Aq A,Al,Aib n _ ω ω f,Ad,Aib d _ ω ω f,Ad]
theorem A08 (s:Bool) (n d:Nat) (h:d≠0):Vk s n d=Cn s n d:=by rw[Vk,Ay h]
theorem Apt (b:Bool) (n d:Nat) (f:Bl n<137438953400) (e:Bl d<137438953400) (c:d≠0):Rq b (Af n) (Af d)=some (Cn b n d):=by unfold Bl at f e;rw[A07 b _ _ (Fi n).u32 (Fi d).u32 f e,Fz,Fz,Int.toNat_natCast,Int.toNat_natCast,A08 _ _ _ c]
theorem Apu (h:RB k a):RB (k+1) (Cn (sv a) (nv a) (dv a)):=N7 _ _ _ _ h.nv h.dv ω
theorem A09 (z:Int) (d : -9223372036854775808<=z) (e:z<=9223372036854775807):Rm z=some (Cn (decide (z<0)) z.natAbs 1):=by
 unfold Rm;have j:=Pe (n:=z.natAbs) ω;have c:([1]:List Int)=Af 1:=Yv.symm;by_cases h:z<0
 .have i:Ac (z+1)=z+1:=B8 ω ω;have g:Ac (0-(z+1))=0-(z+1):=B8 ω ω;have f:Az (0-(z+1))=0-(z+1):=Dl ω ω;have b:Az (0-(z+1)+1)=((z.natAbs:Nat):Int):=(by rw[Az,Dl ω ω];omega);rw[Aq h,Al,i,g,f,b,Ac2,Qv _ ω,Ad,c,Apt _ _ _ ω (by rw[Nc];decide) δ,Ad]
 .have b:Az z=((z.natAbs:Nat):Int):=(by rw[Az,Dl ω ω];omega);rw[Aw h,Ao,b,Ac2,Qv _ ω,Ad,c,Apt _ _ _ ω (by rw[Nc];decide) δ,Ad]
theorem Ac4 (s:Bool) (n d:Nat) (e:d≠0):∃g:Nat,g≠0/\n=g*nv (Cn s n d)/\d=g*dv (Cn s n d)/\(n≠0->sv (Cn s n d)=s)/\(n=0->sv (Cn s n d)=false):=by obtain⟨h,i,o,b⟩:=Apn s n d e;have q:0<Nat.gcd n d:=Nat.gcd_pos_of_pos_right _ ω;exact⟨Nat.gcd n d,ω,by rw[h];exact (Nat.mul_div_cancel' (Nat.gcd_dvd_left _ _)).symm,by rw[i];exact (Nat.mul_div_cancel' (Nat.gcd_dvd_right _ _)).symm,o,b⟩
theorem A1a (s t:Bool) (n d m e:Nat) (o:d≠0) (l:e≠0):Cn (sv (Cn s n d) != sv (Cn t m e)) (nv (Cn s n d)*nv (Cn t m e)) (dv (Cn s n d)*dv (Cn t m e))=Cn (s != t) (n*m) (d*e):=by
 obtain⟨g,r,A,B,C,_⟩:=Ac4 s n d o;obtain⟨h,k,D,E,u,_⟩:=Ac4 t m e l;have q:Cn (s != t) (n*m) (d*e)=Cn (sv (Cn s n d) != sv (Cn t m e)) (n*m) (d*e):=by apply Apo;intro b;have i:n≠0:=λe=>b (by rw[e];simp);have j:m≠0:=λe=>b (by rw[e];simp);rw[C i,u j]
 rw[q];generalize Cn s n d=c at *;generalize Cn t m e=f at *;rw[A,B,D,E,show g*nv c*(h*nv f)=g*h*(nv c*nv f) by grind,show g*dv c*(h*dv f)=g*h*(dv c*dv f) by grind,Vi _ _ _ _ (Nat.mul_ne_zero r k)]
def Ha (n:Nat):Nat->Nat
 | 0=>1
 | k+1=>Ha n k*(n-k)
def fct:Nat->Nat
 | 0=>1
 | k+1=>fct k*(k+1)
theorem Ac5:∀k,fct k≠0
 | 0=>δ
 | k+1=>Nat.mul_ne_zero (Ac5 k) ω
theorem A1b (h:n<k):Ha n k=0:=by
 induction k with
 | zero=>omega
 | succ k ih=>
  simp only[Ha];rcases Cb n k with d|d
  .rw[ih d];simp
  .have:n-k=0:=ω;rw[this];simp
theorem A1c (n k:Nat) (b:n<1000000000):Bl (Ha n k)<=k+1:=by induction k with| zero=>simp[Ha,Nc]| succ k ih=>have d:=Km (Ha n k) (n-k);have e:Bl (n-k)<=1:=J0 ζ;simp only[Ha];omega
theorem A1d (k:Nat) (d:k<1000000000):Bl (fct k)<=k+1:=by induction k with| zero=>simp[fct,Nc]| succ k ih=>have e:=Km (fct k) (k+1);have h:Bl (k+1)<=1:=J0 ζ;simp only[fct];have:=ih ω;omega
theorem Apv (h:n<1000000000):Bl n<=1:=J0 (by simpa using h)
theorem A1e (n k:Nat) (b:n<1000000000) (d:k<=64):RB (k+1) (Cn false (Ha n k) (fct k)) := N7 _ _ _ _ (A1c n k b) (A1d k ω) ω
theorem Apw (a:A3):A3.mk a.N a.U a.B=a:=by cases a;rfl
theorem Apx (n k:Nat) (z:n<1000000000) (B:k<=64):Uq (n:Int) (k:Int)=some (Cn false (Ha n k) (fct k)):=by
 unfold Uq;have A:F6 1=some (Cn false (Ha n 0) (fct 0)):=Vg 1 δ δ;rw[A,Ad];refine Jk (λ(i,s,b,c)=>∃q:Nat,i=q/\q<=k/\q<=n/\A3.mk s b c=Cn false (Ha n q) (fct q)) (λ(i,_,_,_)=>k-i.toNat) (λe=>match e with|.inl r=>r=Cn false (Ha n k) (fct k) | .inr (s,b,c)=>A3.mk s b c=Cn false (Ha n k) (fct k)) ⟨0,rfl,ω,ω,Apw _⟩ ?_ ?_
 .rintro⟨i,s,b,c⟩ ⟨q,rfl,C,y,d⟩;rcases Cb q k with h|h
  .simp only[Aq (ω:(q:Int)<(k:Int)),Al];by_cases x:n=q
   .subst x;refine .inr ⟨.inl (Cn false 0 1),?_,?_⟩
    .rw[Gb rfl,Al,Vg 0 δ δ];rfl
    .show Cn false 0 1=_;rw[A1b h,Ac1,Ac1]
   .have u:Ac ((n:Int)-(q:Int))=((n-q:Nat):Int):=ξ;have l:Ac ((q:Int)+1)=((q+1:Nat):Int):=Mf h ω;have o:Sg ((n-q:Nat):Int) ((q+1:Nat):Int)=some (Cn false (n-q) (q+1)):=(by rw[A0t _ _ ω ω ω ω ω,Aw (ω:¬((n-q:Nat):Int)<0),Aw (ω:¬((q+1:Nat):Int)<0)];rfl);have g:RB 1 (Cn false (n-q) (q+1)):=N7 _ _ _ _ (Apv ω) (Apv ω) ω;have j:=Ac0 _ _ _ _ (A1e n q z ω) g ω ω;rw[A1a false false (Ha n q) (fct q) (n-q) (q+1) (Ac5 q) ω]at j;refine .inl ⟨(((q+1:Nat):Int),(Cn false (Ha n (q+1)) (fct (q+1))).N,(Cn false (Ha n (q+1)) (fct (q+1))).U,(Cn false (Ha n (q+1)) (fct (q+1))).B),?_,⟨q+1,rfl,ω,ω,Apw _⟩,ζ⟩;rw[Dc ω,Ao,u,l,o,Ad,d,j,Ad];rfl
  .have:q=k:=ω;subst this;refine .inr ⟨.inr (s,b,c),ψ,d⟩
 .rintro (e|⟨s,b,c⟩) f
  .simp only at f ⊢;rw[f]
  .simp only at f ⊢;rw[f]
theorem A1f [DecidableEq α] (l m:List α) (b:l.length=m.length):(decide (l=m))=l.zipIdx.all (λq=>decide (m[q.2]? = some q.1)):=by
 rw[Bool.eq_iff_iff,D4];constructor
 .rintro rfl;exact An1 λj x d=>by simpa using d
 .intro h;apply ext_getElem?;intro j;cases d:l[j]? with| none=>rw[List.getElem?_eq_none_iff]at d;rw[Su ω]| some x=>have:=K1 h d;rw[D4]at this;rw[this]
theorem A1g {R:Type} (l m:List Int) (b:l.length<1099511627776) (h:l.length=m.length) {J:Bool⊕Unit->Option R} {rt rf:R} (o:J (.inl false)=some rf) (r:J (.inr ())=some rt) : (An (S:=Int) (E:=(Bool⊕Unit)) (λd=>bif d<(l.length:Int) then ((Ah l d).bind λs=>(Ah m d).bind λA=>bif (s != A) then some (.inr (.inl false)) else some (.inl (Ac (d+1)))) else some (.inr (.inr ()))) 0).bind J=some (bif decide (l=m) then rt else rf):=by
 rw[A1f l m h];refine Ab7 l (λq=>decide (m[q.2]? = some q.1)) (λj=>(j:Int)) rfl ω (rt:=rt) (rf:=rf) ?_ ?_
 .intro j x B _ C D F;have G:j<m.length:=(by have:=Ez B;omega);have i:m[j]? = some m[j]:=B3 G;generalize m[j]=y at i;simp only[C,D,F,Al,Ad,Bu rfl i,i,Option.some.injEq];by_cases e:x=y
  .rw[Hw e,Aq e.symm];exact⟨λ_=>rfl,λh=>by cases h⟩
  .rw[Gc e,Aw λh=>e h.symm];exact⟨nofun,λ_=>⟨.inl false,rfl,o⟩⟩
 .intro h _;exact⟨.inr (),by simp only[h];rfl,r⟩
theorem Apy (l m:List Int) (b:l.length<1099511627776):Ns l m=some (decide (l=m)):=by
 unfold Ns;by_cases h:l.length=m.length
 .rw[Hw ω];simp only[Ao];refine (A1g l m b h (rt:=true) (rf:=false) ?_ ?_).trans (by rw[Ag9]) <;> rfl
 .rw[Gc ω,Aw λe=>h (by rw[e])];rfl
def Vl (a b:A3):Bool:=a.N==b.N&&decide (a.U=b.U)&&decide (a.B=b.B)
theorem Apz (a b:A3):Vl a b=true↔a=b:=by
 unfold Vl;simp only[D3,beq_iff_eq,D4];constructor
 .rintro⟨⟨d,e⟩,h⟩;cases a;cases b;simp_all
 .rintro rfl;simp
def Yx (c:A3):Bool:=Vl (Cn (sv c) (nv c) (dv c)) c && !(nv c==0)
structure TSz (t:Aj):Prop where
 co:RB 1048576 t.C
 mo:MSz t.M
def S7 (l:List Aj) (x:Aj) (j:Nat):Bool:=j==0||(match l[j-1]? with|some y=>decide (Ea y.M x.M<0) | none=>false)
def Vm (data:List Am) (vars:List Ag) (res:Ag) (l:List Aj) (t:Aj) (j:Nat):Bool:=Yx t.C&&Jo data vars res t.M&&S7 l t j
def Ko (data:List Am) (vars:List Ag) (res:Ag) (p:List Aj):Bool:=decide (p.length<=1000)&&p.zipIdx.all (λq=>Vm data vars res p q.1 q.2)
theorem A1h {S E:Type} (F:Br->Br->Option Int) (l:List Aj) (g:∀y∈l,∀x,F y.M x=some (Ea y.M x)) {x:Aj} (r:l[j]? = some x) (i:l.length<4611686018427387904) (c b:Option (S⊕E)) : (bif decide ((j:Int)>0) then ((Ah l (Ac ((j:Int)-1))).bind λf=>(F f.M x.M).bind λd=>bif decide (d>=0) then c else b) else b)=bif S7 l x j then b else c:=by
 have A:=Ez r;unfold S7;by_cases h:j=0
 .subst h;rfl
 .rw[Aq ω];have e:Ac ((j:Int)-1)=((j-1:Nat):Int):=ξ;have o:l[j-1]? = some l[j-1]:=B3 ω;rw[e,Bu rfl o,o];have s:(j==0)=false:=(by simpa using h);simp only[Al,Ad,s,Bool.false_or,g _ (getElem_mem (ω:j-1<l.length))];by_cases q:Ea l[j-1].M x.M<0
  .rw[Aw ω,Aq q];rfl
  .rw[Aq ω,Aw q];rfl
theorem A1i (s:Bool) (n:Nat):(Kn s n==0)=(n==0):=by
 unfold Kn;by_cases h:n=0
 .rw[A7 h];subst h;rfl
 .rw[Ay h];have:(n==0)=false:=(by simpa using h);rw[this];cases s <;> rfl
theorem Ap0 (hc:Lp data vars res) {b1:List (ByteArray×Int)} (b2:List (ByteArray×List Ar)) (V:Dm data vars res b1) (p:List Aj) (U:∀t∈p,TSz t) :
  ∃B,W2 p b1 b2 data vars res.G res.U res.R=some (Ko data vars res p,B)/\Dm data vars res B:=by
 unfold W2 Ko
 by_cases A:p.length<=1000
 .rw[Aw ω,Aq A,Bool.true_and]
  simp only[Ao]
  obtain⟨r,X,S⟩:=Aha (M:=List (ByteArray×Int)) (R:=Bool×List (ByteArray×Int)) p (λq=>Vm data vars res p q.1 q.2) (λj o=>((j:Int),o)) (Dm data vars res)
   (λr=>Dm data vars res r.2/\r.1=true) (λr=>Dm data vars res r.2/\r.1=false) b1
   (s0:=((0:Int),b1))
   (step:=(λ(b,g)=>
    bif b<(p.length:Int) then (
    (Ah p b).bind λd=>
    (Ji d.C).bind λf=>
    (show OB from
    bif (f.N==d.C.N) then (
    (Ns f.U d.C.U).bind λi=>
    bif i then (
    (Ns f.B d.C.B).bind λH=>
    some H)
    else some false)
    else some false).bind λE=>
    bif (!E) then some (.inr (.inl (false,g)))
    else (
    (Iy f).bind λD=>
    bif (D==(0:Int)) then some (.inr (.inl (false,g)))
    else (
    (Uj d.M g b2 data vars res.G res.U res.R).bind λC=>
    bif (!C.1) then some (.inr (.inl (false,C.2)))
    else (
    bif b>(0:Int) then (
    (Ah p (Ac (b-1))).bind λT=>
    (P6 T.M d.M).bind λW=>
    bif W>=(0:Int) then some (.inr (.inl (false,C.2)))
    else some (.inl ((Ac (b+1)),C.2)))
    else some (.inl ((Ac (b+1)),C.2))))))
    else some (.inr (.inr g)):Int×List (ByteArray×Int)->Option ((Int×List (ByteArray×Int))⊕((Bool×List (ByteArray×Int))⊕List (ByteArray×Int)))))
   (J:=(λz=>match z with
    | .inl (I,G)=>some (I,G)
    | .inr L=>some (true,L)))
   rfl V ω (by
    intro j t o u hx _ F Q K
    have c:=U t (B6 hx)
    obtain⟨B,d1,d2⟩:=A0f b2 hc u t.M c.mo
    have s:∀l:List Int,l=(Cn (sv t.C) (nv t.C) (dv t.C)).U\/l=(Cn (sv t.C) (nv t.C) (dv t.C)).B->l.length<1099511627776:=by
     intro l A
     have q:=N7 (sv t.C) (nv t.C) (dv t.C) 1048577 c.co.nv c.co.dv ω
     have:=q.nl
     have:=q.dl
     rcases A with rfl|rfl <;> omega
    have k:(bif ((Cn (sv t.C) (nv t.C) (dv t.C)).N==t.C.N) then ((Ns (Cn (sv t.C) (nv t.C) (dv t.C)).U t.C.U).bind λi=>bif i then ((Ns (Cn (sv t.C) (nv t.C) (dv t.C)).B t.C.B).bind λH=>some H) else some false) else some false)=some (Vl (Cn (sv t.C) (nv t.C) (dv t.C)) t.C):=by
     unfold Vl
     rw[Apy _ _ (s _ (.inl rfl)),Apy _ _ (s _ (.inr rfl))]
     cases ((Cn (sv t.C) (nv t.C) (dv t.C)).N==t.C.N) <;> cases decide ((Cn (sv t.C) (nv t.C) (dv t.C)).U=t.C.U) <;> rfl
    simp only[F,Q,K,Al,Ad,Ah4 t.C 1048576 c.co ω,k,A1h P6 p (λy hy x=>Ao4 y.M x (U y hy).mo) hx ω,Vm,Yx]
    cases N:Vl (Cn (sv t.C) (nv t.C) (dv t.C)) t.C with
    | false=>exact⟨nofun,λ_=>⟨_,rfl,_,rfl,u,rfl⟩⟩
    | true=>
     have e:=(Apz _ _).1 N
     simp only[bnt,Ao,Bool.true_and]
     rw[e,Ah5 t.C 1048576 c.co ω,Ad,A1i]
     cases (nv t.C==0) with
     | true=>exact⟨nofun,λ_=>⟨_,rfl,_,rfl,u,rfl⟩⟩
     | false=>
      simp only[Ao,d1,Ad,Bool.not_false,Bool.true_and]
      cases Jo data vars res t.M with
      | false=>exact⟨nofun,λ_=>⟨_,rfl,_,rfl,d2,rfl⟩⟩
      | true=>
       cases S7 p t j with
       | true=>exact⟨λ_=>⟨B,rfl,d2⟩,λh=>by cases h⟩
       | false=>exact⟨nofun,λ_=>⟨_,rfl,_,rfl,d2,rfl⟩⟩) (by
    intro o u F _
    exact⟨.inr o,by simp only[F];rfl,_,rfl,u,rfl⟩)
  refine⟨r.2,?_,?_⟩
  .have e:some r=some (p.zipIdx.all λq=>Vm data vars res p q.1 q.2,r.2):=by
    rcases S with⟨F,Q,K⟩|⟨F,Q,K⟩
    .rw[F,<-K]
    .rw[F,<-K]
   rw[<-e]
   exact X
  .rcases S with⟨F,Q,K⟩|⟨F,Q,K⟩ <;> exact Q
 .rw[Aq ω,Aw A]
  exact⟨b1,rfl,V⟩
structure CSz (x:Cu):Prop where
 ds:DSz x.D
 nv:x.V.length<=1048576
 vs:∀t∈x.V,Bw t<=1048576
 rs:Bw x.E<=1048576
def Gg (data:List Am) (t:Ag):Bool:=G8 data 0 t&&decide (Bw t<=200)
def Ia (x:Cu):Prop:=x.V.length<=3000/\Hy x.D/\Gg x.D x.E=true/\x.V.all (Gg x.D)=true
theorem Ia.ctx {x:Cu} (h:Ia x) (c:CSz x):Lp x.D x.V x.E:=by
 refine⟨h.2.1,c.ds.sz.short,λv t d=>?_,h.1⟩;have good:∀t,Gg x.D t=true->Bw t<=200:=λt h=>by simp only[Gg,D3,D4]at h;exact h.2
 unfold E6 at d;by_cases b:v = -1
 .rw[A7 b]at d;cases d;exact good _ h.2.2.1
 .rw[Ay b]at d;exact good t (H9.1 h.2.2.2 t (Iv d).2.2.2)
theorem A1j (x:Cu) (g:CSz x) (p:List Aj) (hp:∀t∈p,TSz t):∃b,T8 x p=some b/\(b=true↔Ia x/\Ko x.D x.V x.E p=true):=by
 obtain⟨b,I,C⟩:=Acf g.ds;have D:=g.nv;have B:=g.rs;unfold T8 L3;rw[I,Sx x.D x.E 0 ω];by_cases s:x.V.length<=3000
 .rw[Aw ω];simp only[Ao,Ad];cases b with
  | false=>exact⟨false,rfl,by simp;intro h;have:=C.2 h.2.1;cases this⟩
  | true=>
   have A:=C.1 rfl;simp only[bnt,Ao];cases l:(G8 x.D 0 x.E&&decide (Bw x.E<=200)) with
   | false=>exact⟨false,rfl,by simp;intro h;have:=h.2.2.1;rw[show Gg x.D x.E=false from l]at this;cases this⟩
   | true=>
    simp only[bnt,Ao,Ad];rw[Option.bind_assoc];refine Ev (λi=>∃j:Nat,i=j/\j<=x.V.length/\(x.V.take j).all (Gg x.D)=true) (λi=>x.V.length-i.toNat) (λz=>match z with|.inl r=>r=false/\¬Ia x | .inr _=>Ia x) ⟨0,rfl,ω,ψ⟩ ?_ ?_
    .rintro i ⟨j,rfl,o,c⟩;rcases Cb j x.V.length with h|h
     .have d:x.V[j]? = some x.V[j]:=B3 h;generalize x.V[j]=t at d;have:=g.vs t (B6 d);simp only[Aq (ω:(j:Int)<(x.V.length:Int)),Al,Bu rfl d,Ad,Sx x.D t 0 ω,C3 h ω];rw[show (G8 x.D 0 t&&decide (Bw t<=200))=Gg x.D t from rfl];cases F:Gg x.D t with| true=>exact .inl ⟨_,rfl,⟨j+1,rfl,ω,by rw[Dd d,all_append,c];simp[F]⟩,ζ⟩| false=>refine .inr ⟨.inl false,rfl,rfl,λG=>?_⟩;have:=H9.1 G.2.2.2 t (B6 d);rw[F]at this;cases this
     .have:j=x.V.length:=ω;subst this;rw[Dq]at c;exact .inr ⟨.inr (),ψ,s,A,l,c⟩
    .rintro (r|u) f
     .obtain⟨rfl,f⟩:=f;exact⟨false,rfl,by simp[f]⟩
     .have H:Ia x:=f;have E:Dm x.D x.V x.E []:=λq h=>by cases h
      obtain⟨y,e,J⟩:=Ap0 (H.ctx g) [] E p hp;cases k:Ko x.D x.V x.E p with
      | true=>
       rw[k]at e;refine⟨true,?_,by simp[H]⟩;simp only;rw[Option.bind_assoc];refine Jl 1 (λj=>match j with|0=>((0:Int),[]) | _=>((1:Int),y)) rfl ?_ ⟨.inr y,rfl,rfl⟩
       intro j o
       match j,o with| 0,_=>show (bif decide ((0:Int)<1) then _ else _)=_;simp only[Aq (ω:(0:Int)<1),Al];rw[show Ah [p] 0=some p from rfl,Ad,e];rfl
      | false=>rw[k]at e;refine⟨false,?_,ψ⟩;simp only;rw[Option.bind_assoc];refine Jl 0 (λ_=>((0:Int),[])) rfl (λj o=>ω) ⟨.inl false,?_,rfl⟩;show (bif decide ((0:Int)<1) then _ else _)=_;simp only[Aq (ω:(0:Int)<1),Al];rw[show Ah [p] 0=some p from rfl,Ad,e];rfl
 .rw[Aq ω];exact⟨false,rfl,by simp;intro h;exact absurd h.1 s⟩
theorem A1k:∀(k:Nat) (t:Ag),Bw t<=k->k<1099511627776->∃i,Sl k t=some i/\True:=by
 intro k;induction k with
 | zero=>intro t h;have:=Sw t;omega
 | succ k ih=>
  intro t h r;have g:=Jm t;have c:=K2 t.R;rw[Sl];refine O5 ?_ ⟨_,rfl,trivial⟩;refine Ev (λ(i,o)=>∃j:Nat,i=j/\j<=t.R.length/\o.length=j) (λ(i,_)=>t.R.length-i.toNat) (λ_=>True) ⟨0,rfl,ω,rfl⟩ ?_ λe _=>⟨_,rfl,trivial⟩;rintro⟨i,o⟩ ⟨j,rfl,s,b⟩;rcases Cb j t.R.length with d|d
  .have q:t.R[j]? = some t.R[j]:=B3 d;generalize t.R[j]=x at q;have l:=J1 (B6 q);obtain⟨y,f,_⟩:=ih x ω ω;simp only[Aq (ω:(j:Int)<(t.R.length:Int)),Al,Bu rfl q,Ad,f,C3 d ω];have b:o.length=j:=b;rw[Dn ζ,Ad];exact .inl ⟨_,rfl,⟨j+1,rfl,ω,by simp[b]⟩,ζ⟩
  .have:j=t.R.length:=ω;subst this;exact .inr ⟨o,ψ,trivial⟩
theorem Aic (c:DSz data) (f:Hy data) (t:Ag) (hg:Gg data t=true) (i:Ai) (r:Bt i<=1048576):Lk data t i=some (Jd (D2 data i t)):=by
 have b:=hg;simp only[Gg,D3,D4]at b;obtain⟨q,h,g⟩:=Acf c;have s:q=true:=g.2 f;subst s;unfold Lk Sf;rw[h,Sx data t 0 ω];simp only[Ad,Al];rw[show (G8 data 0 t&&decide (Bw t<=200))=Gg data t from rfl,hg];obtain⟨p,k,j⟩:=(Azx f.szv c.sz.short 4000000).1 i t ω r b.2;simp only[bnt,Ao,k,Ad];rcases j with⟨e,d,o,A,B⟩|⟨e,o⟩
 .rw[e,o,Qq A,B];rfl
 .rw[e,Aoq o];rfl
theorem A1l (h:Jo data vars res m=true):(∀f∈m.F,∃t,E6 vars res f.v=some t)/\m.F.length<=6:=by
 unfold Jo at h;simp only[D3,D4]at h;obtain⟨⟨o,q⟩,B⟩:=h;have d:∀f∈m.F,1<=D8 data vars res f:=by intro f d;obtain⟨j,e⟩:=Ik d;have:=K1 o e;simp only[Pc,D3,D4]at this;exact this.1
 have r:0<=Dr m.A:=(Apc m.A (λa r=>by obtain⟨j,e⟩:=Ik r;have:=K1 q e;simp only[Pd,D3,D4]at this;omega)).1;refine⟨λf b=>?_,?_⟩
 .have:=d f b;unfold D8 at this;cases s:E6 vars res f.v with
  | none=>rw[s]at this;have:(1:Int)<=-1:=this;omega
  | some t=>exact⟨t,rfl⟩
 .have i:∀l:List Bg,(∀f∈l,1<=D8 data vars res f)->(l.length:Int)<=Ch data vars res l:=(by intro l;induction l with| nil=>intro _;simp[Ch]| cons f C ih=>intro c;have o:=c f ψ;have q:=ih λg A=>c g (by simp[A]);unfold Ch at *;simp only[map_cons,sum_cons,D9];omega);have:=i m.F d;omega
theorem A1m (a b:A3) (j k:Nat) (d:RB j a) (hb:RB k b) (e:j<34359738000) (o:k<34359738000):∃c,M0 a b=some c/\True/\RB (j+k+3) c:=by
 refine⟨_,Ah7 a b j k d hb ω ω,trivial,?_⟩;have r:=d.nv;have A:=d.dv;have B:=hb.nv;have s:=hb.dv;have q:=Km (nv a) (dv b);have l:=Km (nv b) (dv a);have i:=Km (dv a) (dv b);have f:Qx (sv a) (nv a) (dv a) (sv b) (nv b) (dv b)<=nv a*dv b+nv b*dv a:=by
  unfold Qx;split
  .omega
  .split <;> omega
 have h:=Kz f;have g:=Anw (nv a*dv b) (nv b*dv a);exact N7 _ _ _ _ ω ω ω
theorem A1n (k:Nat):RB k ⟨false,[],[]⟩:=⟨nofun,nofun,ψ,ψ⟩
def sg (s:Bool) (n:Nat):Int:=if s then -(n:Int) else n
def rq (a:A3):Rat:=mkRat (sg (sv a) (nv a)) (dv a)
def J5 (a:A3):Prop:=a=Cn (sv a) (nv a) (dv a)
theorem Pg (s:Bool) (n d:Nat) (e:d≠0):rq (Cn s n d)=mkRat (sg s n) d:=by
 obtain⟨g,o,q,r,A,f⟩:=Ac4 s n d e;unfold rq;rw[Rat.mkRat_eq_iff (Hz _) e];generalize nv (Cn s n d)=b at *;generalize dv (Cn s n d)=i at *;generalize sv (Cn s n d)=B at *;by_cases c:n=0
 .have:b=0:=by
   rcases Nat.eq_zero_or_pos b with h|h
   .exact h
   .have:=Nat.mul_pos (Nat.pos_of_ne_zero o) h;omega
  subst this;subst c;cases s <;> cases B <;> simp[sg]
 .rw[A c,q,r];cases s <;> simp only[sg,if_true,if_false,Bool.false_eq_true,Int.natCast_mul] <;> grind
theorem S8 (s:Bool) (n d:Nat) (A:d≠0):J5 (Cn s n d):=by
 obtain⟨g,i,o,q,r,f⟩:=Ac4 s n d A;unfold J5;generalize B:Cn s n d=c at o q r f;have e:=Vi s (nv c) (dv c) g i;rw[<-o,<-q,B]at e;by_cases b:n=0
 .have C:nv c=0:=by
   rcases Nat.eq_zero_or_pos (nv c) with h|h
   .exact h
   .have:=Nat.mul_pos (Nat.pos_of_ne_zero i) h;omega
  rw[C,Ac1]at e ⊢;exact e
 .rw[r b];exact e
theorem Ap1 (n m:Int) {d e:Nat} (o:d≠0) (g:e≠0):mkRat n d<mkRat m e↔n*e<m*d:=by
 have c:(0:Rat)<(d:Rat):=Rat.natCast_pos.2 ω;have b:(0:Rat)<(e:Rat):=Rat.natCast_pos.2 ω;rw[Rat.mkRat_eq_div,Rat.mkRat_eq_div,Rat.div_lt_iff c];rw[<-Rat.mul_lt_mul_right b];have f:(m:Rat) / (e:Rat)*(d:Rat)*(e:Rat)=(m:Rat)*(d:Rat):=by grind
 rw[f];have h:(n:Rat)*(e:Rat)=((n*(e:Int):Int):Rat):=by rw[Rat.intCast_mul];rfl
 have i:(m:Rat)*(d:Rat)=((m*(d:Int):Int):Rat):=by rw[Rat.intCast_mul];rfl
 rw[h,i,Rat.intCast_lt_intCast]
theorem Ac6 (o:J5 a) (hb:J5 b) (h:rq a=rq b):a=b:=by
 unfold rq at h;rw[Rat.mkRat_eq_iff (Hz _) (Hz _)]at h;rw[o,hb];have q:=Hz a;have l:=Hz b;generalize nv a=n at *;generalize dv a=d at *;generalize sv a=s at *;generalize nv b=m at *;generalize dv b=e at *;generalize sv b=t at *;have f:n*e=m*d/\(n≠0->s=t):=by
  have c:n≠0->0<n*e:=λh=>Nat.mul_pos ω ω;have g:m≠0->0<m*d:=λh=>Nat.mul_pos ω ω;have A:((n*e:Nat):Int)=(n:Int)*e:=ψ;have B:((m*d:Nat):Int)=(m:Int)*d:=ψ;cases s <;> cases t <;> simp only[sg,if_true,if_false,Bool.false_eq_true,Int.neg_mul]at h
  .exact⟨ω,λ_=>rfl⟩
  .have:n*e=0/\m*d=0:=ω;refine⟨ω,λi=>?_⟩;have:=c i;omega
  .have:n*e=0/\m*d=0:=ω;refine⟨ω,λi=>?_⟩;have:=c i;omega
  .exact⟨ω,λ_=>rfl⟩
 have k:=Vi s n d e l;have j:=Vi t m e d q;rw[<-k,<-j,Nat.mul_comm e n,f.1,Nat.mul_comm e d,Nat.mul_comm m d];refine Apo λr=>f.2 ?_;rintro rfl;rw[Nat.zero_mul]at f;have:=f.1;rw[Nat.mul_comm d m]at r;omega
theorem A1o (j:Bool) (c g:Nat) (i:Bool) (b f:Nat):sg (Vh j c g i b f) (Qx j c g i b f)=sg j c*f+sg i b*g:=by
 unfold Vh Qx sg;have d:((c*f:Nat):Int)=(c:Int)*f:=ψ;have e:((b*g:Nat):Int)=(b:Int)*g:=ψ;cases j <;> cases i <;> simp only[if_true,if_false,Bool.false_eq_true,Bool.true_eq_false,Int.neg_mul]
 .omega
 .by_cases h:b*g<=c*f
  .simp only[A7 h];simp only[if_false,Bool.false_eq_true];omega
  .simp only[Ay h];simp only[if_true];omega
 .by_cases h:b*g<=c*f
  .simp only[A7 h];simp only[if_true];omega
  .simp only[Ay h];simp only[if_false,Bool.false_eq_true];omega
 .omega
theorem Aid (d:RB j a) (hb:RB k b) (o:j<34359738000) (q:k<34359738000):∃c,M0 a b=some c/\True/\RB (j+k+3) c/\J5 c/\rq c=rq a+rq b:=by
 obtain⟨c,h,r,s⟩:=A1m a b j k d hb o q;have e:=Ah7 a b j k d hb ω ω;rw[h]at e;have e:=Fa e;have i:dv a*dv b≠0:=Nat.mul_ne_zero (Hz a) (Hz b);refine⟨c,h,r,s,?_,?_⟩
 .rw[e];exact S8 _ _ _ i
 .rw[e,Pg _ _ _ i,A1o,rq,rq,Rat.mkRat_add_mkRat _ _ (Hz a) (Hz b)]
theorem A1p (s t:Bool) (n m:Nat):sg (s != t) (n*m)=sg s n*sg t m:=by unfold sg;cases s <;> cases t <;> simp[Int.neg_mul,Int.mul_neg]
theorem Yy (d:RB j a) (hb:RB k b) (i:j<34359738000) (o:k<34359738000):∃c,G6 a b=some c/\RB (j+k+2) c/\J5 c/\rq c=rq a*rq b:=by have e:dv a*dv b≠0:=Nat.mul_ne_zero (Hz a) (Hz b);have q:=d.nv;have r:=d.dv;have s:=hb.nv;have h:=hb.dv;have g:=Km (nv a) (nv b);have f:=Km (dv a) (dv b);refine⟨_,Ac0 a b j k d hb ω ω,N7 _ _ _ _ ω ω ω,S8 _ _ _ e,?_⟩;rw[Pg _ _ _ e,A1p,rq,rq,Rat.mkRat_mul_mkRat]
def S9 (x:Rat):Int:=if x<0 then -1 else if 0<x then 1 else 0
theorem A1q (a:A3):rq a<0↔Kn (sv a) (nv a) = -1:=by have e:(0:Rat)=mkRat 0 1:=ψ;rw[rq,e,Ap1 _ _ (Hz a) δ];unfold sg Kn;split <;> split <;> simp <;> omega
theorem A1r (a:A3):0<rq a↔Kn (sv a) (nv a)=1:=by have e:(0:Rat)=mkRat 0 1:=ψ;rw[rq,e,Ap1 _ _ δ (Hz a)];unfold sg Kn;split <;> split <;> simp <;> omega
theorem A1s (a:A3):Kn (sv a) (nv a)=S9 (rq a):=by
 have i:=A1q a;have o:=A1r a;have d:Kn (sv a) (nv a) = -1\/Kn (sv a) (nv a)=0\/Kn (sv a) (nv a)=1:=by unfold Kn;split <;> (try split) <;> simp
 unfold S9;split
 .rename_i h;exact i.1 h
 .rename_i h;split
  .rename_i e;exact o.1 e
  .rename_i e;rcases d with d|d|d
   .exact (h (i.2 d)).elim
   .exact d
   .exact (e (o.2 d)).elim
theorem Yz (h:RB k a) (d:k<34359738000):Iy a=some (S9 (rq a))/\True:=by rw[<-A1s];exact⟨Ah5 a k h ω,trivial⟩
structure Fg {α:Type} (S:α->Prop) (g:α->α->Int):Prop where
 zero:∀a b,S a->S b->(g a b=0↔a=b)
 anti:∀a b,S a->S b->g b a = - g a b
 trans:∀a b c,S a->S b->S c->g a b<0->g b c<0->g a c<0
theorem Fg.cmpI:Fg (λ_:Int=>True) Ff:=by
 refine⟨λa b _ _=>Jn,λa b _ _=>?_,λa b c _ _ _=>?_⟩
 .unfold Go.Ab.Ff;split <;> split <;> (try split) <;> (try split) <;> omega
 .unfold Go.Ab.Ff;intro h1 h2;split at h1 <;> (try split at h1) <;> split at h2 <;> (try split at h2) <;> first|omega | (rw[A7 ω];decide)
theorem Ap2:orI x y<0↔x<0\/(x=0/\y<0):=by unfold orI;split <;> omega
theorem Ap3:orI x y=0↔x=0/\y=0:=by unfold orI;split <;> omega
theorem Fg.or {β γ:Type} {s:β->Prop} {l:γ->Prop} {j:β->β->Int} {i:γ->γ->Int} (p:α->β) (q:α->γ) (g:∀a b,p a=p b->q a=q b->a=b) (h1:Fg s j) (h2:Fg l i) (f:∀a,S a->s (p a)/\l (q a)) : Fg S (λa b=>orI (j (p a) (p b)) (i (q a) (q b))):=by
 refine⟨λa b ha hb=>?_,λa b ha hb=>?_,λa b c ha hb hc=>?_⟩
 .rw[Ap3,h1.zero _ _ (f a ha).1 (f b hb).1,h2.zero _ _ (f a ha).2 (f b hb).2];exact⟨λh=>g a b h.1 h.2,λh=>by subst h;exact⟨rfl,rfl⟩⟩
 .show orI (j (p b) (p a)) (i (q b) (q a)) = - orI (j (p a) (p b)) (i (q a) (q b));have z:=h1.anti _ _ (f a ha).1 (f b hb).1;have y:=h2.anti _ _ (f a ha).2 (f b hb).2;rw[z,y];unfold orI;split <;> split <;> omega
 .show orI _ _<0->orI _ _<0->orI _ _<0;simp only[Ap2];have u:=h1.zero _ _ (f a ha).1 (f b hb).1;have d:=h1.zero _ _ (f b hb).1 (f c hc).1;have t1:=h1.trans _ _ _ (f a ha).1 (f b hb).1 (f c hc).1;have t2:=h2.trans _ _ _ (f a ha).2 (f b hb).2 (f c hc).2;rintro (h|⟨h,h'⟩) (k|⟨k,x⟩)
  .exact .inl (t1 h k)
  .rw[<-d.1 k];exact .inl h
  .rw[u.1 h];exact .inl k
  .rw[<-d.1 k,h];exact .inr ⟨rfl,t2 h' x⟩
theorem Fg.mono {S':α->Prop} (h:Fg S g) (hs:∀a,S' a->S a):Fg S' g := ⟨λa b ha hb=>h.zero a b (hs a ha) (hs b hb),λa b ha hb=>h.anti a b (hs a ha) (hs b hb),λa b c ha hb hc=>h.trans a b c (hs a ha) (hs b hb) (hs c hc)⟩
theorem Fg.congr {c:α->α->Int} (h:Fg S g) (e:∀a b,c a b=g a b):Fg S c:=by have:c=g:=funext λa=>funext λb=>e a b;rw[this];exact h
def LL (g:α->α->Int) (l m:List α):Int:=if l.length=m.length then F1 g l m else Go.Ab.Ff l.length m.length
theorem Ap4 {α:Type} {S:α->Prop} {g:α->α->Int} (h:Fg S g):∀l m:List α,l.length=m.length->(∀x∈l,S x)->(∀x∈m,S x)->(F1 g l m=0↔l=m)
 | [],[],_,_,_=>by simp[F1]
 | x::xs,y::i,b,d,e=>by simp only[F1,Ap3,h.zero x y (d x ψ) (e y ψ),Ap4 h xs i (by simpa using b) (λz c=>d z (by simp[c])) λz c=>e z (by simp[c]),List.cons.injEq]
 | [],_::_,b,_,_=>by simp at b
 | _::_,[],b,_,_=>by simp at b
theorem Ap5 {α:Type} {S:α->Prop} {g:α->α->Int} (h:Fg S g):∀l m:List α,l.length=m.length->(∀x∈l,S x)->(∀x∈m,S x)->F1 g m l = - F1 g l m
 | [],[],_,_,_=>by simp[F1]
 | x::xs,y::i,b,d,e=>by simp only[F1,h.anti x y (d x ψ) (e y ψ),Ap5 h xs i (by simpa using b) (λz c=>d z (by simp[c])) λz c=>e z (by simp[c])];unfold orI;split <;> split <;> omega
 | [],_::_,b,_,_=>by simp at b
 | _::_,[],b,_,_=>by simp at b
theorem Ap6 {α:Type} {S:α->Prop} {g:α->α->Int} (h:Fg S g):∀l m n:List α,l.length=m.length->m.length=n.length->(∀x∈l,S x)->(∀x∈m,S x)->(∀x∈n,S x)->F1 g l m<0->F1 g m n<0->F1 g l n<0
 | [],[],_,_,_,_,_,_=>by intro h;simp[F1]at h
 | x::xs,y::A,z::j,f,i,e,d,o=>by
  simp only[F1,Ap2];have k:=h.zero x y (e x ψ) (d y ψ);have r:=h.zero y z (d y ψ) (o z ψ);have t1:=h.trans x y z (e x ψ) (d y ψ) (o z ψ);have t2:=Ap6 h xs A j (by simpa using f) (by simpa using i) (λz c=>e z (by simp[c])) (λz c=>d z (by simp[c])) λz c=>o z (by simp[c]);rintro (a|⟨a,s⟩) (b|⟨b,q⟩)
  .exact .inl (t1 a b)
  .rw[<-r.1 b];exact .inl a
  .rw[k.1 a];exact .inl b
  .rw[<-r.1 b,a];exact .inr ⟨rfl,t2 s q⟩
 | _::_,_::_,[],_,i,_,_,_=>by simp at i
 | [],_::_,_,f,_,_,_,_=>by simp at f
 | _::_,[],_,f,_,_,_,_=>by simp at f
theorem Fg.ll (h:Fg S g):Fg (λl=>∀x∈l,S x) (LL g):=by
 have c:=Fg.cmpI;refine⟨λa b ha hb=>?_,λa b ha hb=>?_,λx y z hx hy q=>?_⟩
 .unfold LL;split
  .rename_i i;exact Ap4 h a b i ha hb
  .rename_i i;rw[Jn];exact⟨λe=>(i ω).elim,λe=>(i (by rw[e])).elim⟩
 .unfold LL;by_cases i:a.length=b.length
  .rw[A7 i,A7 i.symm];exact Ap5 h a b i ha hb
  .rw[Ay i,Ay λe=>i e.symm];exact c.anti _ _ trivial trivial
 .unfold LL;intro h1 h2;have neg:∀a b:Int,Go.Ab.Ff a b<0->a<b:=(by intro a b h;unfold Go.Ab.Ff at h;split at h <;> (try split at h) <;> omega);have f:∀a b:Int,a<b->Go.Ab.Ff a b<0:=(by intro a b h;unfold Go.Ab.Ff;rw[A7 h];decide);by_cases k:x.length=y.length
  .rw[A7 k]at h1;by_cases j:y.length=z.length
   .rw[A7 j]at h2;rw[A7 ω];exact Ap6 h x y z k j hx hy q h1 h2
   .rw[Ay j]at h2;rw[Ay ω];have:=neg _ _ h2;exact f _ _ ω
  .rw[Ay k]at h1;have:=neg _ _ h1;by_cases j:y.length=z.length
   .rw[Ay ω];exact f _ _ ω
   .rw[Ay j]at h2;have:=neg _ _ h2;rw[Ay ω];exact f _ _ ω
theorem Ap7 (g:α->α->Int) (l m:List α) (y:Int):orI (LL g l m) y=if l.length=m.length then orI (F1 g l m) y else Go.Ab.Ff l.length m.length:=by
 unfold LL;by_cases h:l.length=m.length
 .rw[A7 h,A7 h]
 .rw[Ay h,Ay h];unfold orI;rw[Ay λe=>h (by have:=Jn.1 e;omega)]
theorem A1t:Fg (λ_=>True) Yp := (Fg.or (S:=λ_=>True) (λt:B0=>t.v) (λt=>t.C) (λa b d e=>by cases a;cases b;cases d;cases e;rfl) Fg.cmpI Fg.cmpI λ_ _=>⟨trivial,trivial⟩).congr λ_ _=>rfl
theorem Lq:Fg (λ_=>True) Hk := (Fg.or (S:=λ_=>True) (λt:Bz=>t.T) (λt=>t.Q) (λa b d e=>by cases a;cases b;cases d;cases e;rfl) A1t.ll Fg.cmpI λ_ _=>⟨λ_ _=>trivial,trivial⟩).congr λa b=>by show Hk a b=orI (LL Yp a.T b.T) (Go.Ab.Ff a.Q b.Q);rw[Ap7];rfl
theorem A1u (i j:Ai):Gf i j=orI (Go.Ab.Ff i.U j.U) (LL Gf i.K j.K):=by
 rw[Ao2,Ahy];unfold orI LL;by_cases h:i.U=j.U
 .rw[A7 h,A7 (Jn.2 h)]
 .rw[Ay h,Ay λe=>h (Jn.1 e)]
theorem Aie:∀n:Nat,Fg (λi=>Bt i<=n) Gf:=by intro n;induction n with| zero=>exact⟨λa _ d=>by have:=Fe a;omega,λa _ d=>by have:=Fe a;omega,λa _ _ d=>by have:=Fe a;omega⟩| succ n ih=>refine (Fg.or (S:=λi=>Bt i<=n+1) (λi:Ai=>i.U) (λi=>i.K) (λa b e h=>by cases a;cases b;cases e;cases h;rfl) Fg.cmpI ih.ll ?_).congr A1u;intro i q;refine⟨trivial,λx o=>?_⟩;have e:=K6 o;have h:=Fe i;show Bt x<=n;omega
theorem Ac7:Fg (λ_=>True) Gf := ⟨λa b _ _=>(Aie (max (Bt a) (Bt b))).zero a b (by show Bt a<=_;omega) (by show Bt b<=_;omega),λa b _ _=>(Aie (max (Bt a) (Bt b))).anti a b (by show Bt a<=_;omega) (by show Bt b<=_;omega),
  λa b c _ _ _=>(Aie (max (Bt a) (max (Bt b) (Bt c)))).trans a b c (by show Bt a<=_;omega) (by show Bt b<=_;omega) (by show Bt c<=_;omega)⟩
theorem A1v:Fg (λ_=>True) Ve := (Fg.or (S:=λ_=>True) (λt:Bg=>t.v) (λt=>t.I) (λa b d e=>by cases a;cases b;cases d;cases e;rfl) Fg.cmpI Ac7 λ_ _=>⟨trivial,trivial⟩).congr λ_ _=>rfl
theorem A1w:Fg (λ_=>True) Yq := (Fg.or (S:=λ_=>True) (λt:Bc=>t.L) (λt=>t.P) (λa b d e=>by cases a;cases b;cases d;cases e;rfl) Lq Fg.cmpI λ_ _=>⟨trivial,trivial⟩).congr λ_ _=>rfl
theorem Aif:Fg (λ_=>True) Ea := (Fg.or (S:=λ_=>True) (λt:Br=>t.F) (λt=>t.A) (λa b d e=>by cases a;cases b;cases d;cases e;rfl) A1v.ll A1w.ll λ_ _=>⟨λ_ _=>trivial,λ_ _=>trivial⟩).congr λa b=>by show Ea a b=orI (LL Ve a.F b.F) (LL Yq a.A b.A);rw[Ap7];rfl
theorem N8 {a b:Br}:Ea a b=0↔a=b:=Aif.zero a b trivial trivial
theorem Vn (a b:Br):Ea b a = - Ea a b:=Aif.anti a b trivial trivial
theorem Vo {a b c:Br} (h:Ea a b<0) (d:Ea b c<0):Ea a c<0:=Aif.trans a b c trivial trivial trivial h d
theorem Ap8 (m:Br):Ea m m=0:=N8.2 rfl
theorem Aig {a b:Br}:0<Ea a b↔Ea b a<0:=by rw[Vn a b];omega
def cf:List Aj->Br->Rat
 | [],_=>0
 | t::p,m=>(if Ea t.M m=0 then rq t.C else 0)+cf p m
def ltT (t u:Aj):Prop:=Ea t.M u.M<0
structure CP (p:List Aj):Prop where
 srt:p.Pairwise ltT
 coe:∀t∈p,J5 t.C/\rq t.C≠0
theorem CP.tail (h:CP (t::p)):CP p:=⟨(pairwise_cons.1 h.srt).2,λu d=>h.coe u (by simp[d])⟩
theorem CP.head (h:CP (t::p)):∀u∈p,Ea t.M u.M<0:=(pairwise_cons.1 h.srt).1
theorem CP.nil:CP []:=⟨Pairwise.nil,λ_ h=>by cases h⟩
theorem CP.cons {t:Aj} {p:List Aj} (h:CP p) (h1:∀u∈p,Ea t.M u.M<0) (h2:J5 t.C) (h3:rq t.C≠0):CP (t::p) := ⟨pairwise_cons.2 ⟨h1,h.srt⟩,λu d=>by
  rcases Fp.1 d with rfl|d
  .exact⟨h2,h3⟩
  .exact h.coe u d⟩
theorem Ap9 (h:∀t∈p,Ea t.M m≠0):cf p m=0:=by induction p with| nil=>rfl| cons t p ih=>simp only[cf];rw[Ay (h t ψ),ih λu d=>h u (by simp[d])];grind
theorem Y0 (h:∀t∈p,Ea m t.M<0):cf p m=0 := Ap9 λt d e=>by have:=h t d;rw[Vn,e]at this;omega
theorem Ta (h:CP (t::p)):cf (t::p) t.M=rq t.C:=by simp only[cf];rw[A7 (Ap8 _),Y0 h.head];grind
theorem Aih (h:Ea t.M m≠0):cf (t::p) m=cf p m:=by simp only[cf];rw[Ay h];grind
theorem Qy (p q:List Aj) (m:Br):cf (p++q) m=cf p m+cf q m:=by induction p with| nil=>simp only[nil_append,cf];grind| cons t p ih=>simp only[Eh,cf,ih];grind
theorem Aii (h:CP p) (d:t∈p):cf p t.M=rq t.C:=by
 induction p with
 | nil=>cases d
 | cons u p ih=>
  rcases Fp.1 d with rfl|d
  .exact Ta h
  .have:=h.head t d;rw[Aih ω];exact ih h.tail d
theorem CP.ext:∀{p q:List Aj},CP p->CP q->(∀m,cf p m=cf q m)->p=q
 | [],[],_,_,_=>rfl
 | [],u::q,_,h2,h=>by have:=h u.M;rw[Ta h2]at this;exact ((h2.coe u ψ).2 this.symm).elim
 | t::p,[],h1,_,h=>by have:=h t.M;rw[Ta h1]at this;exact ((h1.coe t ψ).2 this).elim
 | t::p,u::q,h1,h2,h=>by
  have b:Ea t.M u.M=0:=by
   rcases Int.lt_trichotomy (Ea t.M u.M) 0 with k|k|k
   .have e:=h t.M;rw[Ta h1,Y0 (p:=u::q)]at e
    .exact ((h1.coe t ψ).2 e).elim
    .intro w d;rcases Fp.1 d with rfl|d
     .exact k
     .exact Vo k (h2.head w d)
   .exact k
   .have k:=Aig.1 k;have e:=h u.M;rw[Ta h2,Y0 (p:=t::p)]at e
    .exact ((h2.coe u ψ).2 e.symm).elim
    .intro w d;rcases Fp.1 d with rfl|d
     .exact k
     .exact Vo k (h1.head w d)
  have c:=N8.1 b;have hc:t.C=u.C:=(by refine Ac6 (h1.coe t ψ).1 (h2.coe u ψ).1 ?_;have e:=h t.M;rw[Ta h1,c,Ta h2]at e;exact e);have i:t=u:=(by cases t;cases u;simp_all);subst i;congr 1;refine CP.ext h1.tail h2.tail λm=>?_;by_cases e:Ea t.M m=0
  .rw[<-N8.1 e,Y0 h1.head,Y0 h2.head]
  .have:=h m;rwa [Aih e,Aih e]at this
theorem Aqa (c:A3):Yx c=true↔J5 c/\rq c≠0:=by
 unfold Yx J5;rw[D3,Apz];have h:(!(nv c==0))=true↔rq c≠0:=by have e:rq c=0↔nv c=0:=(by unfold rq;rw[Rat.mkRat_eq_zero (Hz c)];unfold sg;split <;> omega);rw[Ne,e];simp
 rw[h];exact⟨λ⟨a,b⟩=>⟨a.symm,b⟩,λ⟨a,b⟩=>⟨a.symm,b⟩⟩
theorem A1x {l:List Aj} (h:∀(j:Nat) (x y:Aj),l[j]? = some x->l[j+1]? = some y->Ea x.M y.M<0):l.Pairwise ltT:=by
 induction l with
 | nil=>exact Pairwise.nil
 | cons t l ih=>
  have ih:=ih λj x y i o=>h (j+1) x y (by simpa using i) (by simpa using o);refine pairwise_cons.2 ⟨?_,ih⟩;cases l with
  | nil=>intro u d;cases d
  | cons v l=>
   have e:=h 0 t v rfl rfl;intro u d;rcases Fp.1 d with rfl|d
   .exact e
   .exact Vo e ((pairwise_cons.1 ih).1 u d)
theorem Ac8:Ko data vars res p=true↔p.length<=1000/\CP p/\∀t∈p,Jo data vars res t.M=true:=by
 unfold Ko;rw[D3,D4];constructor
 .rintro⟨i,h⟩;have g:∀(j:Nat) (t:Aj),p[j]? = some t->Yx t.C=true/\Jo data vars res t.M=true/\S7 p t j=true:=(by intro j t d;have:=K1 h d;simp only[Vm,D3]at this;exact⟨this.1.1,this.1.2,this.2⟩);refine⟨i,⟨A1x λj x y r s=>?_,λt o=>?_⟩,λt o=>?_⟩
  .have:=(g _ _ s).2.2;unfold S7 at this;rw[show j+1-1=j by omega,r]at this;simpa using this
  .obtain⟨j,d⟩:=Ik o;exact (Aqa _).1 (g j t d).1
  .obtain⟨j,d⟩:=Ik o;exact (g j t d).2.1
 .rintro⟨i,h,A⟩;refine⟨i,H9.2 λq e=>?_⟩;have e:=mem_zipIdx' e;have d:p[q.2]? = some q.1:=(B3 e.1).trans (congrArg some e.2.symm);have c:q.1∈p:=B6 d;simp only[Vm,D3];refine⟨⟨(Aqa _).2 (h.coe _ c),A _ c⟩,?_⟩;unfold S7;by_cases B:q.2=0
  .rw[B];rfl
  .have b:q.2-1<p.length:=ω;rw[B3 b];have:=pairwise_iff_getElem.1 h.srt (q.2-1) q.2 b e.1 ω;rw[<-e.2]at this;simp only[Bool.or_eq_true,D4];exact .inr this
theorem Aqb:∀(k:Nat) (t:Ai),Bt t<=k->k<1099511627776->O0 k t=some t:=by
 intro k;induction k with
 | zero=>intro t h;have:=Fe t;omega
 | succ k ih=>
  intro t h q;have c:=Fe t;have b:=O7 t.K;rw[O0];refine F7 t.K (λj=>((j:Int),(t.K.take j))) rfl ω ?_ ?_
  .intro j x r d e i o;have:=K6 (B6 d);simp only[e,i,o,Al,Ad,ih x ω ω];rw[Dn ζ,Ad,Dd d]
  .intro e;exact⟨t.K,ψ,by cases t;rfl⟩
theorem A1y (m:Br) (b:MSz m):Xm m=some m:=by
 have g:=b.nf;have f:=b.na;unfold Xm;refine F7 m.F (λj=>((j:Int),(m.F.take j))) rfl ω ?_ ?_
 .intro j x o d e h i;have c:=B6 d;have:=b.fi x c;simp only[e,h,i,Al,Ad,Aqb 4000000 x.I ω ω];rw[Dn ζ,Ad,Dd d]
 .intro e;refine⟨m.F,ψ,?_⟩;dsimp only;refine F7 m.A (λj=>((j:Int),(m.A.take j))) rfl ω ?_ ?_
  .intro j x o d e h i;have c:=B6 d;have:=b.al x c;simp only[e,h,i,Al,Ad,Agw];rw[Dn ζ,Ad,Dn ζ,Ad,Dd d];rfl
  .intro e;exact⟨m.A,ψ,by cases m;rfl⟩
structure TB (k:Nat) (t:Aj):Prop where
 co:RB k t.C
 mo:MSz t.M
theorem TSz.tb (h:TSz t):TB 1048576 t:=⟨h.co,h.mo⟩
theorem TB.mono (h:TB j t) (hk:j<=k):TB k t:=⟨h.co.mono hk,h.mo⟩
theorem A1z (c:A3):rq c=0↔nv c=0:=by unfold rq;rw[Rat.mkRat_eq_zero (Hz c)];unfold sg;split <;> omega
variable {t u:Aj} {a:Bz} {n v w:Int} {ts:List Aj} {P R S X b l m:List Int} {j:Nat} {α:Type} {g:α->List Int}
def I3 (n:Int) (f:Bool):List Int:=if f then (if n<0 then [45] else []) else (if n<0 then [32,45,32] else [32,43,32])
def J6 (n:Int):List Int:=if n.natAbs=1 then [] else ti n.natAbs++[42]
def Je (v:Int):List Int:=if v = -1 then [114,101,115] else 118::ti v
def tT (f:Bool) (t:B0):List Int:=I3 t.C f++(J6 t.C++Je t.v)
def Ib:Bool->List B0->Int->List Int
 | f,[],c=>if c≠0\/f=true then I3 c f++ti c.natAbs else []
 | f,t::ts,c=>tT f t++Ib false ts c
def Y1 (l:Bz):List Int:=Ib true l.T l.Q
def Iw (X:List Int):Prop:=∀c m,X=c::m->c=97
theorem Iw.nil:Iw []:=by intro c m h;cases h
theorem Iw.cons (X:List Int):Iw (97::X):=by intro c m h;cases h;rfl
theorem Iw.nonum (h:Iw X):Lo X:=by intro c m e;rw[h c m e];decide
theorem Aij (n:Nat):∃c m,ti n=c::m/\48<=c/\c<=57:=by
 have b:=Ack (n:Int);cases h:ti (n:Int) with
 | nil=>exact (b h).elim
 | cons c m=>refine⟨c,m,rfl,?_⟩;have d:c∈ti (n:Int):=(by rw[h];simp);unfold ti at d;obtain⟨x,i,rfl⟩:=mem_map.1 d;have e:Lib.itoa (n:Int)=Lib.decDigits n:=(by unfold Lib.itoa;first|rfl | (rw[Ay ω];simp) | simp);rw[e]at i;have:=Aci n n (Nat.le_refl _) x i;omega
theorem Aqc (ts:List B0) (c:Int) (b:Iw X):Lo (Ib false ts c++X):=by
 have k:∀(n:Int) (Y:List Int),Lo (I3 n false++Y):=by intro n Y c m e;unfold I3 at e;simp only[Bool.false_eq_true,if_false]at e;split at e <;> (cases e;decide)
 cases ts with
 | nil=>
  simp only[Ib];split
  .rw[append_assoc];exact k _ _
  .exact b.nonum
 | cons t ts=>simp only[Ib,tT,append_assoc];exact k _ _
theorem Aqd (c:Lo R) (b:Lo S) (h:Je v++R=Je w++S):v=w/\R=S:=by
 unfold Je at h;split at h <;> split at h
 .simp only[Eh,nil_append,List.cons.injEq,true_and]at h;exact⟨ω,h⟩
 .simp at h
 .simp at h
 .simp only[Eh,List.cons.injEq,true_and]at h;obtain⟨g,f⟩:=Pa _ _ _ _ (Im v) (Im w) c b h;exact⟨S0 g,f⟩
theorem Aik (v:Int):∃c m,Je v=c::m/\(c=114\/c=118):=by
 unfold Je;split
 .exact⟨_,_,rfl,.inl rfl⟩
 .exact⟨_,_,rfl,.inr rfl⟩
theorem Ail (X:List Int):Lo (42::X):=by intro c m e;cases e;decide
theorem A10 {a b:Int} (i:Lo R) (g:Lo S) (h:J6 a++(Je v++R)=J6 b++(Je w++S)):a.natAbs=b.natAbs/\v=w/\R=S:=by
 unfold J6 at h;have o:∀(n:Nat) (u:Int) (X Y:List Int),Je u++X=ti n++[42]++Y->False:=by intro n u X Y e;obtain⟨c,m,f,q⟩:=Aik u;obtain⟨d,k,l,j⟩:=Aij n;rw[f,l]at e;simp only[Eh,List.cons.injEq]at e;omega
 split at h <;> split at h
 .rename_i r A;simp only[nil_append]at h;exact⟨r.trans A.symm,Aqd i g h⟩
 .exact (o _ _ _ _ h).elim
 .exact (o _ _ _ _ h.symm).elim
 .simp only[append_assoc,Eh,nil_append]at h;obtain⟨f,q⟩:=Pa _ _ _ _ (Im _) (Im _) (Ail _) (Ail _) h;have l:=S0 f;obtain⟨j,s⟩:=Aqd i g (List.cons.inj q).2;exact⟨ω,j,s⟩
def NoM (P:List Int):Prop:=∃c m,P=c::m/\c≠45
theorem NoM.ti (n:Nat) (X:List Int):NoM (Go.Ab.ti n++X):=by obtain⟨c,m,e,h⟩:=Aij n;exact⟨c,m++X,by rw[e];rfl,ω⟩
theorem NoM.pT (a v:Int) (X:List Int):NoM (J6 a++(Je v++X)):=by
 unfold J6;split
 .obtain⟨c,m,e,h⟩:=Aik v;exact⟨c,m++X,by rw[e];rfl,ω⟩
 .rw[append_assoc];exact NoM.ti _ _
theorem Aim {a b:Int} {f:Bool} {Q:List Int} (i:NoM P) (g:NoM Q) (h:I3 a f++P=I3 b f++Q):(a<0↔b<0)/\P=Q:=by
 obtain⟨c,m,rfl,q⟩:=i;obtain⟨d,k,rfl,r⟩:=g;unfold I3 at h;cases f with
 | true=>
  simp only[if_true]at h;split at h <;> split at h
  .rename_i e o;exact⟨by simp[e,o],by simpa using h⟩
  .simp at h;exact (r h.1.symm).elim
  .simp at h;exact (q h.1).elim
  .rename_i e o;exact⟨by simp[e,o],by simpa using h⟩
 | false=>
  simp only[Bool.false_eq_true,if_false]at h;split at h <;> split at h
  .rename_i e o;exact⟨by simp[e,o],by simpa using h⟩
  .simp at h
  .simp at h
  .rename_i e o;exact⟨by simp[e,o],by simpa using h⟩
theorem Ain (b:Iw X) (h:I3 n false++P=X):False:=by
 unfold I3 at h;simp only[Bool.false_eq_true,if_false]at h;split at h
 .have:=b _ _ h.symm;omega
 .have:=b _ _ h.symm;omega
theorem Aqe {c d:Int} {f:Bool} {u:B0} {m:List B0} {Y:List Int} (b:Iw X) (k:Iw Y) (h:Ib f [] c++X=Ib f (u::m) d++Y):False:=by
 simp only[Ib,tT]at h;split at h
 .simp only[append_assoc]at h;obtain⟨_,e⟩:=Aim (NoM.ti _ _) (NoM.pT _ _ _) h;unfold J6 at e;split at e
  .obtain⟨q,r,j,s⟩:=Aik u.v;obtain⟨A,B,g,C⟩:=Aij c.natAbs;rw[j,g]at e;simp only[nil_append,Eh,List.cons.injEq]at e;omega
  .simp only[append_assoc,Eh,nil_append]at e;obtain⟨_,g⟩:=Pa _ _ _ _ (Im _) (Im _) b.nonum (Ail _) e;have:=b _ _ g;omega
 .rename_i i;have o:f=false:=(by cases f with|true=>simp at i|false=>rfl);subst o;simp only[nil_append,append_assoc]at h;exact Ain b h.symm
theorem Aqf:∀(l m:List B0) (f:Bool) (c d:Int) (X Y:List Int),Iw X->Iw Y->Ib f l c++X=Ib f m d++Y->l=m/\c=d/\X=Y
 | [],[],f,c,d,X,Y,g,b,h=>by
  simp only[Ib]at h;split at h <;> split at h
  .simp only[append_assoc]at h;obtain⟨x,q⟩:=Aim (NoM.ti _ _) (NoM.ti _ _) h;obtain⟨j,i⟩:=Pa _ _ _ _ (Im _) (Im _) g.nonum b.nonum q;have s:=S0 j;exact⟨rfl,ω,i⟩
  .rename_i e o;have r:f=false:=(by cases f with|true=>simp at o|false=>rfl);subst r;simp only[append_assoc,nil_append]at h;exact (Ain b h).elim
  .rename_i e o;have r:f=false:=(by cases f with|true=>simp at e|false=>rfl);subst r;simp only[append_assoc,nil_append]at h;exact (Ain g h.symm).elim
  .rename_i e o;refine⟨rfl,?_,by simpa using h⟩;have B:c=0:=(by by_cases k:c=0;exact k;exact (e (.inl k)).elim);have C:d=0:=(by by_cases k:d=0;exact k;exact (o (.inl k)).elim);omega
 | [],u::m,f,c,d,X,Y,g,b,h=>(Aqe g b h).elim
 | t::l,[],f,c,d,X,Y,g,b,h=>(Aqe b g h.symm).elim
 | t::l,u::m,f,c,d,X,Y,g,b,h=>by simp only[Ib,tT,append_assoc]at h;obtain⟨x,q⟩:=Aim (NoM.pT _ _ _) (NoM.pT _ _ _) h;obtain⟨j,i,s⟩:=A10 (Aqc _ _ g) (Aqc _ _ b) q;obtain⟨A,z,y⟩:=Aqf l m false c d X Y g b s;have:t=u:=(by cases t;cases u;simp only at x j i;subst i;congr 1;omega);exact⟨by rw[this,A],z,y⟩
def H3 (a:Bc):List Int:=97::(ti a.P++58::Y1 a.L)
def Dy (f:Bg):List Int:=J4 f.v f.I
def Y2 (m:Br):List Int:=m.F.flatMap Dy++m.A.flatMap H3
theorem Ac9 (l:List Bc):Iw (l.flatMap H3):=by cases l with| nil=>exact Iw.nil| cons a l=>simp only[flatMap_cons,H3,Eh];exact Iw.cons _
theorem Ada (X:List Int):Lo (58::X):=by intro c m e;cases e;decide
theorem Aqg:∀(l m:List Bc),l.flatMap H3=m.flatMap H3->l=m
 | [],[],_=>rfl
 | [],b::m,h=>by simp[H3]at h
 | a::l,[],h=>by simp[H3]at h
 | a::l,b::m,h=>by simp only[flatMap_cons,H3,Eh,append_assoc,List.cons.injEq,true_and]at h;obtain⟨s,q⟩:=Pa _ _ _ _ (Im _) (Im _) (Ada _) (Ada _) h;have k:=(List.cons.inj q).2;obtain⟨g,f,j⟩:=Aqf _ _ true _ _ _ _ (Ac9 l) (Ac9 m) k;have i:=Aqg l m j;have c:=S0 s;obtain⟨⟨d,t1⟩,d1⟩:=a;obtain⟨⟨e,t2⟩,d2⟩:=b;simp only at g f c;rw[g,f,c,i]
theorem Aqh (l:List Bg) (b:Iw X):Qs (l.flatMap Dy++X):=by cases l with| nil=>intro c m e;rw[b c m e];exact⟨δ,δ⟩| cons a l=>intro c m e;simp only[flatMap_cons,Dy,J4,Eh]at e;cases e;exact⟨δ,δ⟩
theorem Aio:∀(l m:List Bg) (X Y:List Int),Iw X->Iw Y->l.flatMap Dy++X=m.flatMap Dy++Y->l=m/\X=Y
 | [],[],X,Y,_,_,h=>⟨rfl,by simpa using h⟩
 | [],b::m,X,Y,f,_,h=>by simp only[flatMap_cons,flatMap_nil,Dy,J4,Eh,nil_append]at h;have:=f _ _ h;omega
 | a::l,[],X,Y,_,c,h=>by simp only[flatMap_cons,flatMap_nil,Dy,J4,Eh,nil_append]at h;have:=c _ _ h.symm;omega
 | a::l,b::m,X,Y,f,c,h=>by simp only[flatMap_cons,Dy,J4,Eh,append_assoc,List.cons.injEq,true_and]at h;obtain⟨x,u⟩:=Pa _ _ _ _ (Im _) (Im _) (Ada _) (Ada _) h;have s:=(List.cons.inj u).2;obtain⟨i,q⟩:=Acn _ _ _ _ (Aqh l f) (Aqh m c) s;obtain⟨k,j⟩:=Aio l m X Y f c q;have g:=S0 x;obtain⟨y,d⟩:=a;obtain⟨e,o⟩:=b;simp only at i g;exact⟨by rw[i,g,k],j⟩
theorem A11 {m n:Br} (h:Y2 m=Y2 n):m=n:=by obtain⟨c,f⟩:=Aio _ _ _ _ (Ac9 _) (Ac9 _) h;have b:=Aqg _ _ f;cases m;cases n;simp only at c b;rw[c,b]
def By (l:List Int):Prop:=∀c∈l,0<=c/\c<256
theorem By.app (h:By l) (h':By m):By (l++m):=by
 intro c hc;rcases D7.1 hc with k|k
 .exact h c k
 .exact h' c k
theorem By.ti (n:Int):By (Go.Ab.ti n):=by intro c h;have:=Im n c h;simp only[O9,Bool.or_eq_true,D3,beq_iff_eq,D4]at this;omega
theorem By.cons {c:Int} {l:List Int} (hc:0<=c/\c<256) (h:By l):By (c::l):=by
 intro d hd;rcases Fp.1 hd with rfl|k
 .exact hc
 .exact h d k
theorem By.nil:By []:=λc h=>by cases h
theorem By.sgn (n:Int) (f:Bool):By (I3 n f):=by unfold I3;split <;> split <;> intro c hc <;> simp at hc <;> omega
theorem By.mag (n:Int):By (J6 n):=by
 unfold J6;split
 .exact By.nil
 .exact (By.ti _).app (By.cons ω By.nil)
theorem By.var (n:Int):By (Je n):=by
 unfold Je;split
 .intro c hc;simp at hc;omega
 .exact By.cons ω (By.ti _)
theorem By.tT (f:Bool) (t:B0):By (tT f t):=(By.sgn _ _).app ((By.mag _).app (By.var _))
theorem By.lins:∀(l:List B0) (f:Bool) (c:Int),By (Ib f l c)
 | [],f,c=>by
  simp only[Ib];split
  .exact (By.sgn _ _).app (By.ti _)
  .exact By.nil
 | t::l,f,c=>(By.tT f t).app (By.lins l false c)
theorem By.at (a:Bc):By (H3 a):=By.cons ω ((By.ti _).app (By.cons ω (By.lins _ _ _)))
theorem By.flat (h:∀a,By (g a)) (l:List α):By (l.flatMap g):=by intro c hc;obtain⟨a,_,k⟩:=mem_flatMap.1 hc;exact h a c k
theorem By.fac (f:Bg):By (Dy f):=Acp f.v f.I
theorem By.mono (m:Br):By (Y2 m):=(By.flat By.fac _).app (By.flat By.at _)
def bs (l:List Int):ByteArray:=⟨(Ey l).toArray⟩
theorem Aip (c:By l) (b:By m) (h:bs l=bs m):l=m:=by
 unfold bs at h;have d:(Ey l).toArray=(Ey m).toArray:=by injection h
 have e:Ey l=Ey m:=by simpa using congrArg Array.toList d
 exact Ahw _ _ c b e
def K7 (m:Br):ByteArray:=bs (Y2 m)
theorem Aqi {m n:Br} (h:K7 m=K7 n):m=n:=A11 (Aip (By.mono m) (By.mono n) h)
theorem Vp (l:List Int):(bs l).size=l.length:=by unfold bs Ey;simp[ByteArray.size]
theorem Aqj (h:By l):Mv (bs l)=l:=by
 unfold Mv bs Ey
 simp only[map_map]
 conv=>rhs;rw[<-map_id l]
 refine map_congr_left λc d=>?_
 have:=h c d
 simp only[Function.comp,UInt8.toNat_ofNat',id]
 omega
theorem A12 (l m:List Int):bs l++bs m=bs (l++m):=by apply ByteArray.ext;rw[ByteArray.data_append];unfold bs Ey;simp
theorem Tb (h:l.length+m.length<=9223372036854775807):Fw (bs l) (bs m)=some (bs (l++m)):=by unfold Fw;rw[A7 (by rw[Vp,Vp];exact h),A12]
theorem Adb (h:El n):Oj n=some (bs (ti n)):=by
 rw[Ahu h]
 congr 2
 congr 1
 unfold Ey ti
 rw[map_map]
 conv=>lhs;rw[<-map_id (Lib.itoa n)]
 refine map_congr_left λc _=>?_
 simp[Function.comp]
theorem Y3 {S E R:Type} {step:S->Option (S⊕E)} {s0:S} {J:E->Option R} {r:R} (c:α) (xs:List α) (b:Nat->S) (h0:s0=b 0) (g:xs.length<2305843009213693952) (d:∀(j:Nat) (x:α),xs[j]? = some x->decide (((j+1:Nat):Int)<((c::xs).length:Int))=true->Ah (c::xs) ((j+1:Nat):Int)=some x->Ac (((j+1:Nat):Int)+1)=((j+1+1:Nat):Int)->step (b j)=some (.inl (b (j+1)))) (f:decide (((xs.length+1:Nat):Int)<((c::xs).length:Int))=false->∃e,step (b xs.length)=some (.inr e)/\J e=some r):(An step s0).bind J=some r:=by refine Jl xs.length b h0 (λj h=>?_) (f ψ);have i:xs[j]? = some xs[j]:=B3 h;exact d j _ i (Aq (by simp only[D9];omega)) (Bu rfl ψ) (C3 (n:=xs.length+1) ω ω)
theorem bnd {β:Type} {X:Option α} {a:α} {K:α->Option β} {r:Option β} (h:X=some a) (k:K a=r):X.bind K=r:=by rw[h];exact k
theorem Mg (c:By l) (h:b.length+l.length<=140737488355328):Gt (bs l) b=some ((l.length:Int),b++l):=by simp only[Gt,U1,Ad,Aqj c,Vp];rw[Dn ω];rfl
theorem Tc (c:By l) (h:b.length+l.length<=140737488355328):Ja (bs l) b=some ((l.length:Int),b++l):=by simp only[Ja,Xs,Ad,Aqj c,Vp];rw[Dn ω];rfl
theorem N9 (hb:By b):Ku b=some (bs b):=by exact A7 hb
theorem A13 (hb:By b):Yg b=some (bs b):=N9 hb
theorem Aiq (n:Int) (h : -1048576<=n/\n<=1048576):(J6 n).length<=22:=by
 unfold J6;split
 .simp
 .have:=Nb (n:=(n.natAbs:Int)) (by unfold El;omega);simp;omega
theorem Adc (n:Int) (f:Bool):(I3 n f).length<=3:=by unfold I3;split <;> split <;> simp
theorem A14 (h : -1<=v/\v<3000):(Je v).length<=22:=by
 unfold Je;split
 .simp
 .have:=Nb (n:=v) (by unfold El;omega);simp;omega
structure Aqk (a:Bz):Prop where
 c : -1048576<=a.Q/\a.Q<=1048576
 n:a.T.length<=16
 t:∀t∈a.T,(-1<=t.v/\t.v<3000)/\(-1048576<=t.C/\t.C<=1048576)
theorem Air (h:G4 a=true):Aqk a:=by unfold G4 at h;simp only[D3,D4]at h;refine⟨⟨h.1.1,h.1.2.1⟩,h.1.2.2,λt d=>?_⟩;obtain⟨j,e⟩:=Ik d;have:=K1 h.2 e;simp only[Acv,D3,D4]at this;omega
theorem Ais {t:B0} (f:Bool) (h:(-1<=t.v/\t.v<3000)/\(-1048576<=t.C/\t.C<=1048576)):(tT f t).length<=47:=by have:=Adc t.C f;have:=Aiq t.C h.2;have:=A14 h.1;unfold tT;simp only[Eu];omega
theorem Aql (h : -1048576<=n/\n<=1048576):(if Ac (0-n)>n then Ac (0-n) else n)=(n.natAbs:Int):=by rw[Ac,B8 ω ω];split <;> omega
theorem c45:ByteArray.mk #[45]=bs [45]:=rfl
theorem A15:ByteArray.mk #[32,45,32]=bs [32,45,32]:=rfl
theorem A16:ByteArray.mk #[32,43,32]=bs [32,43,32]:=rfl
theorem c42:ByteArray.mk #[42]=bs [42]:=rfl
theorem Aqm:ByteArray.mk #[118]=bs [118]:=rfl
theorem c97:ByteArray.mk #[97]=bs [97]:=rfl
theorem c58:ByteArray.mk #[58]=bs [58]:=rfl
theorem Aqn:ByteArray.mk #[114,101,115]=bs [114,101,115]:=rfl
theorem Aqo:By [45]:=By.cons ω By.nil
theorem by3 (a b c:Int) (d:0<=a/\a<256) (hb:0<=b/\b<256) (e:0<=c/\c<256):By [a,b,c]:=By.cons d (By.cons hb (By.cons e By.nil))
theorem Aqp (f:Bool) (c : -1048576<=n/\n<=1048576) (hb:b.length<=1099511627776):Yh n f b=some ((n.natAbs:Int),b++I3 n f):=by
 unfold Yh I3;rw[Aql c,c45,A15,A16];rw[Mg Aqo ζ,Mg (by3 _ _ _ ω ω ω) ζ,Mg (by3 _ _ _ ω ω ω) ζ];by_cases h:n<0
 .rw[Aq h,A7 h,A7 h];cases f <;> rfl
 .rw[Aw h,Ay h,Ay h];cases f <;> simp
theorem A17 (c : -1048576<=n/\n<=1048576) (hb:b.length<=1099511627776):Sb n true b=some (if n<0 then .inl ((n.natAbs:Int),b++[45]) else .inr ((n.natAbs:Int),b)):=by
 unfold Sb;rw[Aql c,c45,Tc Aqo ζ];by_cases h:n<0
 .rw[Aq h,A7 h];rfl
 .rw[Aw h,Ay h];rfl
theorem Ait {n:Nat} (h:n<=1048576):M5 (n:Int) 10=some (bs (ti n)):=by unfold M5 Aav;exact Adb (by unfold El;omega)
theorem Add {n:Nat} (h:n<=1048576):(ti (n:Int)).length<=21:=Nb (by unfold El;omega)
theorem Aqq (c : -1048576<=n/\n<=1048576) (hb:b.length<=1099511627776) : (bif ((n.natAbs:Int) != (1:Int)) then (M5 (n.natAbs:Int) 10).bind λv=>(Fw v (ByteArray.mk #[42])).bind λu=>(Gt u b).bind λw=>some w.2 else some b)=some (b++J6 n):=by
 have d:=Add (n:=n.natAbs) ω;unfold J6;by_cases h:n.natAbs=1
 .rw[Hw ω,A7 h];simp
 .rw[Gc ω,Ay h,Ait ω,c42];simp only[Al,Ad];rw[Tb ζ,Ad,Mg ((By.ti _).app (By.cons ω By.nil)) ζ];rfl
theorem Aiu {R:Type} (K:List Int->Option R) (c : -1<=v/\v<3000) (hb:b.length<=1099511627776) : (bif (v==(-1)) then (Gt (ByteArray.mk #[114,101,115]) b).bind λw=>K w.2 else (Ii v).bind λx=>(Fw (ByteArray.mk #[118]) x).bind λy=>(Gt y b).bind λw=>K w.2)=K (b++Je v):=by
 have d:=Nb (n:=v) (by unfold El;omega);unfold Je;by_cases h:v = -1
 .rw[Gb h,A7 h,Aqn,Mg (by3 _ _ _ ω ω ω) ζ];rfl
 .rw[Dc h,Ay h,Aqm];simp only[Ao,Ii];rw[Adb (by unfold El;omega),Ad,Tb ζ,Ad];rw[show [118]++ti v=118::ti v from rfl,Mg (By.cons ω (By.ti _)) ζ];rfl
theorem Ade {l:List α} {x:α} (h:l[j]? = some x):(l.take (j+1)).flatMap g=(l.take j).flatMap g++g x:=by rw[Dd h];simp
theorem Aiv {α:Type} {g:α->List Int} {n:Nat}:∀(l:List α),(∀a∈l,(g a).length<=n)->(l.flatMap g).length<=l.length*n
 | [],_=>ψ
 | a::l,h=>by have e:=h a ψ;have i:=Aiv l λb d=>h b (by simp[d]);simp only[flatMap_cons,Eu,D9,Nat.add_mul];omega
theorem Aiw {n:Nat} (l:List α) (j:Nat) (h:∀a∈l,(g a).length<=n):((l.take j).flatMap g).length<=l.length*n:=by refine Nat.le_trans (Aiv _ λa d=>h a (mem_of_mem_take d)) (Nat.mul_le_mul_right _ ?_);rw[length_take];omega
theorem Aqr:∀(ts:List B0) (c:Int),Ib false ts c=ts.flatMap (tT false)++Ib false [] c
 | [],c=>ψ
 | t::ts,c=>by have:=Aqr ts c;simp only[flatMap_cons,append_assoc,<-this];rfl
theorem A18 (h:G4 a=true) (A:a.T≠[]):Ov a=some (bs (Y1 a)):=by
 have y:=Air h;unfold Ov;rw[Ahz,h];obtain⟨c,l⟩:=a;cases l with
 | nil=>exact (A rfl).elim
 | cons t ts=>
  have H : -1048576<=c/\c<=1048576:=y.c;have L:ts.length<=15:=(by have:=y.n;simp at this;omega);have o:(-1<=t.v/\t.v<3000)/\(-1048576<=t.C/\t.C<=1048576):=y.t t ψ;have q:∀u∈ts,(-1<=u.v/\u.v<3000)/\(-1048576<=u.C/\u.C<=1048576):=λu r=>y.t u (by simp[r]);have s:=λj=>Aiw (g:=tT false) (n:=47) ts j λu r=>Ais false (q u r);have I:=Ais true o;simp only[Ad,bnt,Ao];rw[Aq (by simp only[D9];omega),Al];refine bnd (a:=((t.C.natAbs:Int),tT true t)) ?_ ?_
  .rw[show Ah (t::ts) 0=some t from rfl,Ad,A17 o.2 ψ,Ad];have E:=Nb (n:=t.v) (by unfold El;omega);have G:=Add (n:=t.C.natAbs) ω;have B:=Aiq t.C o.2;by_cases C:t.C<0
   .rw[A7 C];simp only;rw[Aqq o.2 ψ,Ad];refine (Aiu (λb=>some ((t.C.natAbs:Int),b)) o.1 ζ).trans ?_;simp[tT,I3,C]
   .rw[Ay C];simp only;by_cases d:t.C.natAbs=1
    .rw[Hw ω];simp only[Ao];by_cases x:t.v = -1
     .rw[Gb x,Aqn,Al,Tc (by3 _ _ _ ω ω ω) ψ];simp[tT,I3,C,J6,d,Je,x]
     .rw[Dc x,Ao,Aqm,Ii,Adb (by unfold El;omega),Ad,Tb ζ,Ad,show [118]++ti t.v=118::ti t.v from rfl,
       Tc (By.cons ω (By.ti _)) ζ];simp[tT,I3,C,J6,d,Je,x]
    .rw[Gc ω];simp only[Al];rw[Ait ω,Ad,c42,Tb ζ,Ad,Tc ((By.ti _).app (By.cons ω By.nil)) ζ,Ad];refine (Aiu (λb=>some ((t.C.natAbs:Int),b)) o.1 ζ).trans ?_;simp[tT,I3,C,J6,d]
  .simp only;refine Y3 t ts (λj=>(((j+1:Nat):Int),tT true t++(ts.take j).flatMap (tT false))) (by simp[Ac,B8]) ω ?_ ?_
   .intro j u r d F K;have f:=q u (B6 r);have:=s j;have B:=Aiq u.C f.2;have z:=Adc u.C false;simp only[d,F,K,Al,Ad];rw[Dc ω,Aqp false f.2 (by simp only[Eu];omega),Ad,Aqq f.2 (by simp only[Eu];omega),Ad];refine (Aiu (R:=(Int×List Int)⊕List Int) (λb=>some (.inl (((j+1+1:Nat):Int),b))) f.1 (by simp only[Eu];omega)).trans ?_;rw[Ade r];simp[tT]
   .intro d;have F:=s ts.length;rw[Dq]at F;refine⟨tT true t++ts.flatMap (tT false),by simp only[d,Ao,Dq],?_⟩;have D:By (tT true t++ts.flatMap (tT false)):=(By.tT _ _).app (By.flat (By.tT _) _);have e:Y1 ⟨c,t::ts⟩=tT true t++ts.flatMap (tT false)++Ib false [] c:=(by have:=Aqr ts c;rw[append_assoc,<-this];rfl);rw[e];have k:((((t::ts).length:Nat):Int)==(0:Int))=false:=Dc (by simp only[D9];omega);by_cases i:c=0
    .simp only[Hw i,Ao,k,Ad];rw[N9 D];simp[Ib,i]
    .have J:=Add (n:=c.natAbs) ω;have z:=Adc c false;simp only[Gc i,Al,Ad,k];rw[Aqp false H (by simp only[Eu];omega),Ad,Ait ω,Ad,Mg (By.ti _) (by simp only[Eu];omega),Ad, N9 ((D.app (By.sgn _ _)).app (By.ti _))];simp[Ib,i]
theorem Aqs (h:Aqk a):(Y1 a).length<=1024:=by
 have d:∀(l:List B0) (f:Bool),(∀t∈l,(-1<=t.v/\t.v<3000)/\(-1048576<=t.C/\t.C<=1048576))->(Ib f l a.Q).length<=47*l.length+24:=by
  intro l;induction l with
  | nil=>intro f _;have e:=Add (n:=a.Q.natAbs) (by have:=h.c;omega);have i:=Adc a.Q f;simp only[Ib];split <;> simp <;> omega
  | cons t l ih=>intro f b;have e:=Ais f (b t ψ);have i:=ih false λu o=>b u (by simp[o]);simp only[Ib,Eu,D9];omega
 have:=d a.T true h.t;have:=h.n;unfold Y1;omega
structure CMo (m:Br):Prop where
 sz:MSz m
 nf:m.F.length<=6
 na:m.A.length<=6
 al:∀a∈m.A,G4 a.L=true/\a.L.T≠[]/\1<=a.P/\a.P<=6
theorem Adf {R:Type} {a:Bc} (K:ByteArray->Option R) (h:G4 a.L=true/\a.L.T≠[]/\1<=a.P/\a.P<=6) : ((Ii a.P).bind λu=>(Fw (ByteArray.mk #[97]) u).bind λv=>(Fw v (ByteArray.mk #[58])).bind λw=>(Ov a.L).bind λx=>(Fw w x).bind λy=>K y)=K (bs (H3 a)):=by have d:=Nb (n:=a.P) (by unfold El;omega);have e:=Aqs (Air h.1);rw[Ii,Adb (by unfold El;omega),Ad,c97,Tb ζ,Ad,c58,Tb ζ,Ad,A18 h.1 h.2.1,Ad,Tb ζ,Ad];simp[H3]
theorem Y4 {a:Bc} (h:G4 a.L=true/\a.L.T≠[]/\1<=a.P/\a.P<=6):(H3 a).length<=1100:=by have d:=Nb (n:=a.P) (by unfold El;omega);have e:=Aqs (Air h.1);simp[H3];omega
theorem Adg {f:Bg} (h:Bt f.I<=1048576) (b:iR f.I/\El f.v):(Dy f).length<=33554432:=by have d:=Nb b.2;have e:=Ahs f.I b.1;simp[Dy,J4];omega
theorem Aqt {m:Br} (h:CMo m):W8 m=some (K7 m):=by
 obtain⟨d,c⟩:=m;have k:∀f∈d,Bt f.I<=1048576/\iR f.I/\El f.v:=λf o=>⟨h.sz.fi f o,h.sz.fr f o⟩;have s:∀a∈c,G4 a.L=true/\a.L.T≠[]/\1<=a.P/\a.P<=6:=h.al;have M:d.length<=6:=h.nf;have L:c.length<=6:=h.na;have z:=λ(l:List Bg) (u:∀f∈l,f∈d) (j:Nat)=>Aiw (g:=Dy) (n:=33554432) l j λf o=>Adg (k f (u f o)).1 (k f (u f o)).2;have A:=λ(l:List Bc) (u:∀a∈l,a∈c) (j:Nat)=>Aiw (g:=H3) (n:=1100) l j λa C=>Y4 (s a (u a C));have J:∀l:List Bg,By (l.flatMap Dy):=λl=>By.flat By.fac l;have D:∀l:List Bc,By (l.flatMap H3):=λl=>By.flat By.at l;have F:∀f:Bg,f∈d->Li f.v f.I=some (bs (Dy f)):=λf o=>Acq f.v f.I (k f o).2.2 (k f o).2.1 (k f o).1;unfold W8 K7 Y2;cases d with
 | nil=>
  rw[Aw ψ,Ao];cases c with
  | nil=>rw[Aw ψ,Ao];rw[A13 By.nil];rfl
  | cons a c=>
   have C:=s a ψ;have x:=Y4 C;rw[Aq (by simp only[D9];omega),Al,show Ah (a::c) 0=some a from rfl,Ad];refine (Adf _ C).trans ?_;rw[Tc (By.at a) ζ,Ad];refine Y3 a c (λj=>(((j+1:Nat):Int),[]++H3 a++(c.take j).flatMap H3)) (by simp[Ac,B8]) (by simp at L;omega) ?_ ?_
   .intro j b e r H K;have i:=s b (by simp[B6 e]);have:=Y4 i;have:=A c (λb e=>by simp[e]) j;simp at L;simp only[r,H,K,Al,Ad];refine (Adf _ i).trans ?_;rw[Mg (By.at b) (by simp only[Eu,length_nil];omega),Ad,Ade e];simp
   .intro r;refine⟨[]++H3 a++c.flatMap H3,by simp only[r,Ao,Dq],?_⟩;dsimp only;rw[N9 ((By.nil.app (By.at a)).app (D c))];simp
 | cons f d=>
  have o:=k f ψ;have I:=Adg o.1 o.2;rw[Aq (by simp only[D9];omega),Al,show Ah (f::d) 0=some f from rfl,Ad,F f ψ,Ad,Tc (By.fac f) ζ,Ad];refine Y3 f d (λj=>(((j+1:Nat):Int),[]++Dy f++(d.take j).flatMap Dy)) (by simp[Ac,B8]) (by simp at M;omega) ?_ ?_
  .intro j g N r H K;have q:g∈f::d:=(by simp[B6 N]);have:=Adg (k g q).1 (k g q).2;have:=z d (λb e=>by simp[e]) j;simp at M;simp only[r,H,K,Al,Ad];rw[F g q,Ad,Mg (By.fac g) (by simp only[Eu,length_nil];omega),Ad,Ade N];simp
  .intro r;have E:=z d (λb e=>by simp[e]) d.length;rw[Dq]at E;simp at M;refine⟨[]++Dy f++d.flatMap Dy,by simp only[r,Ao,Dq],?_⟩;have y:By ([]++Dy f++d.flatMap Dy):=(By.nil.app (By.fac f)).app (J d);have G:([]++Dy f++d.flatMap Dy).length<=234881024:=(by simp only[Eu,length_nil];omega);have eB:(f::d).flatMap Dy = []++Dy f++d.flatMap Dy:=ψ;rw[eB];generalize []++Dy f++d.flatMap Dy=B at y G;cases c with
   | nil=>rw[Aw ψ,Ao,N9 y];simp
   | cons a c=>
    have C:=s a ψ;have x:=Y4 C;rw[Aq (by simp only[D9];omega),Al,show Ah (a::c) 0=some a from rfl,Ad];refine (Adf _ C).trans ?_;rw[Mg (By.at a) ω,Ad];refine Y3 a c (λj=>(((j+1:Nat):Int),B++H3 a++(c.take j).flatMap H3)) (by simp[Ac,B8]) (by simp at L;omega) ?_ ?_
    .intro j b e r H K;have i:=s b (by simp[B6 e]);have:=Y4 i;have:=A c (λb e=>by simp[e]) j;simp at L;simp only[r,H,K,Al,Ad];refine (Adf _ i).trans ?_;rw[Mg (By.at b) (by simp only[Eu];omega),Ad,Ade e];simp
    .intro r;refine⟨B++H3 a++c.flatMap H3,by simp only[r,Ao,Dq],?_⟩;dsimp only;rw[N9 ((y.app (By.at a)).app (D c))];simp
def plc (ts:List Aj):List (ByteArray×Int):=ts.zipIdx.map λq=>(K7 q.1.M,(q.2:Int))
def Dst (ts:List Aj):Prop:=ts.Pairwise λt u=>t.M≠u.M
theorem Aqu (ts:List Aj) (t:Aj):plc (ts++[t])=plc ts++[(K7 t.M,(ts.length:Int))]:=by unfold plc;simp[zipIdx_append]
theorem Y5 (ts:List Aj) (j:Nat):(plc ts)[j]? = (ts[j]?).map λt=>(K7 t.M,(j:Int)):=by unfold plc;simp[getElem?_map,getElem?_zipIdx];cases ts[j]? <;> rfl
theorem Aqv (h:ts[j]? = some t) (b:u.M=t.M):plc (ts.set j u)=plc ts:=by
 apply ext_getElem?;intro i;rw[Y5,Y5,getElem?_set];by_cases e:j=i
 .subst e;rw[A7 rfl,A7 (Ez h),h];simp[b]
 .rw[Ay e]
theorem Adh {α:Type}:∀(o:List (ByteArray×α)) (s:ByteArray) (v:α),Ej o s=false->Fx o s v=o++[(s,v)]
 | [],_,_,_=>rfl
 | p::o,s,v,h=>by simp only[Ej,any_cons,Bool.or_eq_false_iff]at h;simp only[Fx,h.1,Ao,Eh,List.cons.injEq,true_and];exact Adh o s v h.2
theorem Aqw {m:Br} (h:∀t∈ts,t.M≠m):Ej (plc ts) (K7 m)=false:=by unfold Ej;rw[any_eq_false];intro p hp;obtain⟨j,d⟩:=Ik hp;rw[Y5]at d;cases i:ts[j]? with| none=>rw[i]at d;cases d| some t=>rw[i]at d;simp only[Option.map_some,Option.some.injEq]at d;subst d;intro e;have e:=(Md _ _).1 e;exact h t (B6 i) (Aqi e).symm
theorem Aqx (s:Dst ts) (h:ts[j]? = some t):Ej (plc ts) (K7 t.M)=true/\Hq (plc ts) (K7 t.M) 0=(j:Int):=by
 have hp:(plc ts)[j]? = some (K7 t.M,(j:Int)):=by rw[Y5,h];rfl
 refine⟨any_eq_true.2 ⟨_,B6 hp,(Md _ _).2 rfl⟩,?_⟩;unfold Hq;have r:(plc ts).find? (λp=>K7 t.M==p.1)=some (K7 t.M,(j:Int)):=by
  cases r:(plc ts).find? (λp=>K7 t.M==p.1) with
  | none=>have:=find?_eq_none.1 r _ (B6 hp);exact (this ((Md _ _).2 rfl)).elim
  | some q=>
   have A:=find?_some r;obtain⟨i,d⟩:=Ik (mem_of_find?_eq_some r);rw[Y5]at d;cases o:ts[i]? with
   | none=>rw[o]at d;cases d
   | some u=>
    rw[o]at d;simp only[Option.map_some,Option.some.injEq]at d;subst d;have e:=Aqi ((Md _ _).1 A);have f:i=j:=by
     have c:=Ez o;have b:=Ez h;rw[B3 c]at o;rw[B3 b]at h;rcases Nat.lt_trichotomy i j with k|k|k
     .have:=pairwise_iff_getElem.1 s i j c b k;rw[Fa o,Fa h]at this;exact (this e.symm).elim
     .exact k
     .have:=pairwise_iff_getElem.1 s j i b c k;rw[Fa o,Fa h]at this;exact (this e).elim
    subst f;rw[e]
 rw[r];rfl
open Classical in
theorem Vq (t:Aj) (p:List Aj) (m:Br):cf (t::p) m=(if t.M=m then rq t.C else 0)+cf p m:=by
 simp only[cf];by_cases e:t.M=m
 .rw[A7 (N8.2 e),A7 e]
 .rw[Ay λh=>e (N8.1 h),Ay e]
open Classical in
theorem Aix:∀{ts:List Aj} {j:Nat} {t u:Aj},ts[j]? = some t->u.M=t.M->∀m,cf (ts.set j u) m=cf ts m+(if t.M=m then rq u.C-rq t.C else 0)
 | [],j,t,u,h,_,m=>by simp at h
 | s::ts,0,t,u,h,d,m=>by simp only[getElem?_cons_zero,Option.some.injEq]at h;subst h;rw[set_cons_zero,Vq,Vq,d];split <;> grind
 | s::ts,j+1,t,u,h,d,m=>by simp only[getElem?_cons_succ]at h;rw[set_cons_succ,Vq,Vq,Aix h d m];grind
theorem Dst.set (h:Dst ts) (d:ts[j]? = some t) (b:u.M=t.M):Dst (ts.set j u):=by
 have e:(ts.set j u).map (·.M)=ts.map (·.M):=by
  apply ext_getElem?;intro i;rw[getElem?_map,getElem?_map,getElem?_set];by_cases e:j=i
  .subst e;rw[A7 rfl,A7 (Ez d),d];simp[b]
  .rw[Ay e]
 have k:∀l:List Aj,Dst l↔(l.map (·.M)).Pairwise (·≠·):=λl=>by rw[pairwise_map];exact Iff.rfl
 rw[k,e,<-k];exact h
structure Col (k:Nat) (P:Br->Prop) (ts:List Aj):Prop where
 dst:Dst ts
 tb:∀t∈ts,RB k t.C
 mo:∀t∈ts,P t.M
theorem Col.nil (k:Nat) (P:Br->Prop):Col k P []:=⟨Pairwise.nil,λ_ h=>(by cases h),λ_ h=>(by cases h)⟩
theorem A19 {k0 k:Nat} {P:Br->Prop} (L:∀m,P m->CMo m) (l ts:List Aj) (B:Col k0 P ts) (J:∀t∈l,RB k t.C/\P t.M) (hk:k<=k0) (N:k0+l.length*(k+3)<34359738000) (M:ts.length+l.length<=1099511627776) : ∃f,Lg l (plc ts) ts=some (plc f,f)/\Col (k0+l.length*(k+3)) P f/\f.length<=ts.length+l.length/\∀m,cf f m=cf ts m+cf l m:=by
 unfold Lg;refine U7 (A:=List Aj) (λf=>(plc f,f)) ?_;refine Ev (λs=>∃(j:Nat) (u:List Aj),s=((j:Int),plc u,u)/\j<=l.length/\Col (k0+j*(k+3)) P u/\u.length<=ts.length+j/\∀m,cf u m=cf ts m+cf (l.take j) m) (λs=>l.length-s.1.toNat) (λz=>∃u,z=(plc u,u)/\Col (k0+l.length*(k+3)) P u/\u.length<=ts.length+l.length/\∀m,cf u m=cf ts m+cf l m) ⟨0,ts,rfl,ω,by simpa using B,ω,λm=>by simp only[take_zero,cf];grind⟩ ?_ ?_
 .rintro _ ⟨j,u,rfl,hj,o,y,q⟩;rcases Cb j l.length with h|h
  .have C:l[j]? = some l[j]:=B3 h;generalize l[j]=x at C;obtain⟨F,G⟩:=J x (B6 C);have E:j*(k+3)+(k+3)<=l.length*(k+3):=(by rw[<-Nat.succ_mul];exact Nat.mul_le_mul_right _ h);have D:(j+1)*(k+3)=j*(k+3)+(k+3):=(by rw[Nat.succ_mul]);simp only[Aq (ω:(j:Int)<(l.length:Int)),Al,Bu rfl C,Ad,Aqt (L _ G),C3 h ω];left;by_cases r:∃t∈u,t.M=x.M
   .obtain⟨t,H,I⟩:=r;obtain⟨i,K⟩:=Ik H;obtain⟨Q,T⟩:=Aqx o.dst K;rw[I]at Q T;obtain⟨c,U,_,V,c4,W⟩:=Aid (o.tb t H) F ω ω;refine⟨((j+1:Nat),plc (u.set i ⟨c,t.M⟩),u.set i ⟨c,t.M⟩),?_,⟨j+1,u.set i ⟨c,t.M⟩,rfl,ω,⟨o.dst.set K rfl,?_,?_⟩,by rw[length_set];omega,λm=>?_⟩,ζ⟩
    .simp only[Q,T,Al,Ad,Bu rfl K,U,Gv rfl,Aqv (u:=⟨c,t.M⟩) K rfl]
    .intro w d;rcases mem_or_eq_of_mem_set d with d|rfl
     .exact (o.tb w d).mono ω
     .exact V.mono ω
    .intro w d;rcases mem_or_eq_of_mem_set d with d|rfl
     .exact o.mo w d
     .exact o.mo t H
    .rw[Aix (u:=⟨c,t.M⟩) K rfl m,q m,Dd C,Qy,Vq];simp only[W,I,cf];split <;> grind
   .have g:=Aqw (m:=x.M) (ts:=u) λt H e=>r ⟨t,H,e⟩;refine⟨((j+1:Nat),plc (u++[x]),u++[x]),?_,⟨j+1,u++[x],rfl,ω,⟨?_,?_,?_⟩,ζ,λm=>?_⟩,ζ⟩
    .simp only[g,Ao,Ad];rw[Dn ζ,Ad,Adh _ _ _ g,Aqu]
    .refine pairwise_append.2 ⟨o.dst,pairwise_singleton _ _,λa ha b F=>?_⟩;simp only[D0]at F;subst F;exact λe=>r ⟨a,ha,e⟩
    .intro w d;rcases D7.1 d with d|d
     .exact (o.tb w d).mono ω
     .simp only[D0]at d;subst d;exact F.mono ω
    .intro w d;rcases D7.1 d with d|d
     .exact o.mo w d
     .simp only[D0]at d;subst d;exact G
    .rw[Qy,q m,Dd C,Qy];grind
  .have:j=l.length:=ω;subst this;rw[Dq]at q;simp only[Aw (ω:¬(l.length:Int)<(l.length:Int)),Ao];exact .inr ⟨_,rfl,u,rfl,o,y,q⟩
 .rintro _ ⟨u,rfl,h1,h2,h3⟩;exact⟨_,rfl,u,rfl,h1,h2,h3⟩
end Go.Ab
