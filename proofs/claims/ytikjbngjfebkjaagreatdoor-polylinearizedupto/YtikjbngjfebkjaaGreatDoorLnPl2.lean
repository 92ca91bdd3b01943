/- Plain laws. -/
import Derived.Test.YtikjbngjfebkjaaGreatDoorLnPl1
import Derived.KernelRfl
open List
namespace Go.Ab
open Go
theorem Ahd (a:Ao) (k:Nat) (h:RB k a) (d:k<274877906900):Kg a=some (Cg (sv a) (nv a) (dv a)):=by unfold Kg;have e:=h.nv;have i:=h.dv;rw[S7 a k h d,Ad,P6 _ _ _ ω ω];rfl
def Lh (s:Bool) (n:Nat):Int:=if n=0 then 0 else if s then -1 else 1
theorem A61 (s:Bool) (n:Nat) (d:List Int):Aat ⟨s,Ah n,d⟩=some (Lh s n):=by
 unfold Aat Lh;dsimp only;by_cases h:n=0
 .subst h;rw[Hv];rfl
 .have b:(Ah n).length≠0:=λe=>Kj h (Fr.1 e);rw[Cu ω,Ap,Ar h];cases s <;> rfl
theorem Ahe (a:Ao) (k:Nat) (h:RB k a) (d:k<274877906900):I1 a=some (Lh (sv a) (nv a)):=by unfold I1;rw[S7 a k h d,Ad,A61];rfl
theorem Aml (z:Int) (d : -9223372036854775808<=z) (i:z<=9223372036854775807):Ui z=some (Ah z.natAbs):=by
 unfold Ui;by_cases h:z<0
 .have e:Ba z=z+18446744073709551616:=(by have:IntKind.u64.wrap z=z % 18446744073709551616:=(by simp[IntKind.wrap,IntKind.bits,IntKind.signed]);rw[Ba,this];omega);have b:Ba (0-(z+18446744073709551616))=((z.natAbs:Nat):Int):=(by have:IntKind.u64.wrap (0-(z+18446744073709551616))=(0-(z+18446744073709551616)) % 18446744073709551616:=(by simp[IntKind.wrap,IntKind.bits,IntKind.signed]);rw[Ba,this];omega);rw[As h,Ak,e,b,Q8 _ ω];rfl
 .have b:Ba z=((z.natAbs:Nat):Int):=(by rw[Ba,Dr ω ω];omega);rw[Aw h,Ap,b,Q8 _ ω];rfl
theorem X7 (z:Int) (d : -9223372036854775808<=z) (e:z<=9223372036854775807):Ei z=some (Cg (decide (z<0)) z.natAbs 1):=by unfold Ei;have:=Oy (n:=z.natAbs) ω;rw[Aml z d e,Ad,<-X6,P6 _ _ _ ω (by rw[Oz];decide)];rfl
theorem Aun (x y:Int) (d : -9223372036854775808<=x) (e:x<=9223372036854775807) (h : -9223372036854775808<=y) (i:y<=9223372036854775807) (o:y≠0):Ql x y=some (Cg (decide (x<0) != decide (y<0)) x.natAbs y.natAbs):=by unfold Ql;have q:=Oy (n:=x.natAbs) ω;have r:=Oy (n:=y.natAbs) ω;rw[Cu o,Ap,Aml x d e,Ad,Aml y h i,Ad,P6 _ _ _ ω ω];rfl
theorem X8 (a b:Ao) (j k:Nat) (d:RB j a) (hb:RB k b) (e:j<68719476736) (h:k<68719476736):E6 a b=some (Cg (sv a != sv b) (nv a*nv b) (dv a*dv b)):=by unfold E6;have i:=d.nv;have o:=d.dv;have q:=hb.nv;have r:=hb.dv;have f:=H5 (nv a) (nv b);have c:=H5 (dv a) (dv b);rw[S7 a j d ω,Ad,S7 b k hb ω,Ad];dsimp only;rw[S5 _ _ ω ω,Ad,S5 _ _ ω ω,Ad,P6 _ _ _ ω ω];rfl
def L0 (b:Bool) (g i:Nat) (c:Bool) (f h:Nat):Bool:=if b=c then b else if f*i<=g*h then b else c
def Kn (i:Bool) (c g:Nat) (h:Bool) (b f:Nat):Nat:=if i=h then c*f+b*g else if b*g<=c*f then c*f-b*g else b*g-c*f
theorem Ahf (a b:Ao) (j k:Nat) (o:RB j a) (hb:RB k b) (r:j<68719476736) (s:k<68719476736) : Jj a b=some (Cg (L0 (sv a) (nv a) (dv a) (sv b) (nv b) (dv b)) (Kn (sv a) (nv a) (dv a) (sv b) (nv b) (dv b)) (dv a*dv b)):=by
 unfold Jj W3;have u:=o.nv;have v:=o.dv;have w:=hb.nv;have A:=hb.dv;have q:=H5 (nv a) (dv b);have l:=H5 (nv b) (dv a);have i:=H5 (dv a) (dv b);have h:=Ab5 (nv a*dv b) (nv b*dv a);have g:=Ja (Nat.sub_le (nv a*dv b) (nv b*dv a));have f:=Ja (Nat.sub_le (nv b*dv a) (nv a*dv b));rw[S7 a j o ω,Ad,S7 b k hb ω,Ad];dsimp only;rw[S5 _ _ ω ω,Ad,S5 _ _ ω ω,Ad,S5 _ _ ω ω,Ad];by_cases c:sv a=sv b
 .have e:(sv a==sv b)=true:=(by rw[c];exact beq_self_eq_true _);rw[e,Ak,Auh _ _ ω ω,Ad,Ad,P6 _ _ _ ω ω,L0,Kn,Au c,Au c];rfl
 .have e:(sv a==sv b)=false:=(by simpa using c);rw[e,Ap,S4 _ _ ω ω,Ad,L0,Kn,Ar c,Ar c];by_cases d:nv b*dv a<=nv a*dv b
  .rw[As (show Fk (nv a*dv b) (nv b*dv a)>=0 by rw[Fk,Ar ω];split <;> decide),Ak,Ag9 _ _ ω d,Ad,Ad,P6 _ _ _ ω ω,Au d,Au d];rfl
  .rw[Aw (show ¬Fk (nv a*dv b) (nv b*dv a)>=0 by rw[Fk,Au ω];decide),Ap,Ag9 _ _ ω ω,Ad,Ad,P6 _ _ _ ω ω,Ar d,Ar d];rfl
theorem Acm (s:Bool) (d:Nat):Cg s 0 d=⟨false,[],[1]⟩:=by simp[Cg]
theorem M4 (s:Bool) (n d k:Nat) (b:Bs n<=k) (i:Bs d<=k) (e:1<=k):RB k (Cg s n d):=by
 unfold Cg;split
 .refine⟨nofun,λx h=>?_,ψ,by simpa using e⟩;simp at h;subst h;decide
 .have o:=Alr n (Nat.gcd n d);have q:=Alr d (Nat.gcd n d);unfold Bs at *;exact⟨(F0 _).u32,(F0 _).u32,by simp only;omega,by simp only;omega⟩
theorem Ahg (s:Bool) (n d:Nat) (u:d≠0):nv (Cg s n d)=n / Nat.gcd n d/\dv (Cg s n d)=d / Nat.gcd n d/\(n≠0->sv (Cg s n d)=s)/\(n=0->sv (Cg s n d)=false):=by
 by_cases i:n=0
 .subst i;rw[Acm];have c:d / Nat.gcd 0 d=1:=(by rw[Nat.gcd_zero_left];exact Nat.div_self ω);refine⟨by simp[nv,Al],?_,λh=>(h rfl).elim,λ_=>by simp[sv,Al]⟩;rw[c];simp[dv,Al]
 .have r:0<Nat.gcd n d:=Nat.gcd_pos_of_pos_left d ω;have v:n / Nat.gcd n d≠0:=(by have:=Nat.div_pos (Nat.gcd_le_left d (ω:0<n)) r;omega);have w:d / Nat.gcd n d≠0:=(by have:=Nat.div_pos (Nat.gcd_le_right n (ω:0<d)) r;omega);have e:Cg s n d=⟨s,Ah (n / Nat.gcd n d),Ah (d / Nat.gcd n d)⟩:=(by simp[Cg,i]);have b:(Al (Ah (n / Nat.gcd n d))).toNat=n / Nat.gcd n d:=(by rw[Gc];rfl);have o:(Al (Ah (d / Nat.gcd n d))).toNat=d / Nat.gcd n d:=(by rw[Gc];rfl);rw[e];have q:¬(n / Nat.gcd n d=0\/d / Nat.gcd n d=0):=ω;refine⟨?_,?_,λ_=>?_,λh=>(i h).elim⟩
  .simp only[nv,b,o,Ar q]
  .simp only[dv,b,o,Ar q]
  .simp only[sv,b,o,Ar q]
theorem S8 (s:Bool) (n d k:Nat) (e:k≠0):Cg s (k*n) (k*d)=Cg s n d:=by
 unfold Cg;by_cases h:n=0
 .subst h;simp
 .have i:k*n≠0:=Nat.mul_ne_zero e h;rw[Ar i,Ar h,Nat.gcd_mul_left,Nat.mul_div_mul_left _ _ ω,Nat.mul_div_mul_left _ _ ω]
theorem Auo {s t:Bool} {n d:Nat} (h:n≠0->s=t):Cg s n d=Cg t n d:=by
 unfold Cg;by_cases e:n=0
 .simp[e]
 .rw[h e]
theorem Aup (l:List Int):Mb l=(Mc l).bind λv=>B6 4 [] v:=by
 unfold Mb Mc;generalize Am _ _=x;cases x with
 | none=>rfl
 | some v=>simp only[Ad];cases F5 l 0 v with| none=>rfl| some y=>simp only[Ad];cases B6 4 [] y <;> rfl
theorem A62 (l:List Int):(I2 l).length<=l.length:=by
 induction l with
 | nil=>simp[I2]
 | cons d l ih=>simp only[I2];cases e:I2 l with| nil=>simp only[];split <;> simp| cons x m=>rw[e]at ih;simpa using ih
theorem Vm (l:List Int) (b:l.length<2199023255552):Mb l=some (I2 l):=by have:=A62 l;rw[Aup,S3 l ω,Ad,Dl ζ];rfl
theorem Auq (l:List Int) (e:Nu l) (A:l.length<1099511627776):W9 l=some (Ah (Al l).toNat):=by
 unfold W9;refine Ki (λ(c,i,o)=>∃k:Nat,i=k/\k<=l.length/\o.length=k/\Cj o/\0<=c/\c<5/\Al o+1000000000 ^ k*c=Al (l.take k)) (λ(_,i,_)=>l.length-i.toNat) (λ(c,o)=>o.length=l.length/\Cj o/\0<=c/\c<5/\Al o+1000000000 ^ l.length*c=Al l) ⟨0,rfl,ω,rfl,Cj.nil,ω,ω,by simp[Al]⟩ ?_ ?_
 .rintro⟨c,i,o⟩ ⟨k,rfl,C,f,b,j,d,r⟩;rcases Cf k l.length with h|h
  .have E:=e l[k] (getElem_mem h);refine .inl ⟨((c+l[k]) / 1000000000,((k+1:Nat):Int),o++[(c+l[k]) % 1000000000]),?_,⟨k+1,rfl,ω,by simp[f],b.snoc ω ω,ω,ω,?_⟩,ζ⟩
   .have y:Ba l[k]=l[k]:=Dr ω ω;have x:Ba (c+l[k])=c+l[k]:=Dr ω ω;have q:C3 ((c+l[k]) % 1000000000)=(c+l[k]) % 1000000000:=Hc ω ω;have u:=M3 h ω;have s:decide ((k:Int)<(l.length:Int))=true:=(by simpa using h);simp only[s,Ak,Ev rfl h,Ad,y,x,Mf (show 0<=c+l[k] by omega) (show (0:Int)<1000000000 by decide),q,Dl (show (o.length+[(c+l[k]) % 1000000000].length)*4<=_ by simp;omega),Mz (show 0<=c+l[k] by omega) (show c+l[k]<=_ by omega) (show (0:Int)<1000000000 by decide),u]
   .rw[Hf l h,<-r,Mg,f,Int.pow_succ];have:=Int.mul_ediv_add_emod (c+l[k]) 1000000000;grind
  .have g:k=l.length:=ω;subst g;refine .inr ⟨(c,o),ψ,f,b,j,d,by simpa using r⟩
 .rintro⟨c,o⟩ ⟨w,v,F,D,B⟩;have z:=H8 e;by_cases d:c>0
  .have q:C3 c=c:=Hc ω ω;simp only[decide_eq_true d,Ak,q,Dl (show (o.length+[c].length)*4<=_ by simp;omega),Ad,Vm (o++[c]) ζ];rw[M0 (v.snoc ω ω) (n:=(Al l).toNat) (by rw[Mg,w];omega)]
  .have:c=0:=ω;subst this;simp only[Int.lt_irrefl,gt_iff_lt,decide_false,Ap,Vm o ω,Ad];rw[M0 v (n:=(Al l).toNat) ω]
theorem Acn (n:Int):Og n=Qp n:=rfl
theorem Aco (a b:List Int):Pd a b=Um a b:=rfl
theorem A63 (m d:Nat) (c:Bs m<1099511627776) (i:0<d) (b:d<4294967296):Aa5 (Ah m) d=some (Ah (m / d),((m % d:Nat):Int)):=by
 have h:=Amh m d c i b;unfold U2 at h;unfold Aa5;unfold Bs at c;rw[Ld rfl rfl (Nat.le_refl _) ω ω]at h ⊢;simp only[Ad]at h ⊢;revert h;generalize Am _ _=x;cases x with
 | none=>intro h;cases h
 | some v=>obtain⟨r,o⟩:=v;simp only[Ad];intro h;rw[Aup];cases e:Mc o with| none=>rw[e]at h;cases h| some y=>rw[e]at h;simp only[Ad]at h ⊢;have q:y=Ah (m / d):=congrArg Prod.fst (Eu h);have:=Alr m d;unfold Bs at this;rw[Dl (by rw[q];simp;omega)];exact h
theorem Ahh (m n:Nat) (V:Bs m<1099511627776) (E:n<=m):R8 (Ah m) (Ah n)=some (Ah (m-n)):=by
 unfold R8;have I:(Ah n).length<=(Ah m).length:=Ja E;unfold Bs at V;rw[Ld rfl rfl (Nat.le_refl _) ω ω];simp only[Ad];have H:=F0 m;have K:=F0 n;refine Ki (λ(c,i,o)=>∃k:Nat,i=k/\k<=(Ah m).length/\o.length=(Ah m).length/\Cj o/\o.drop k=replicate ((Ah m).length-k) 0/\0<=c/\c<=1/\Al o=Al ((Ah m).take k)-Al ((Ah n).take k)+1000000000 ^ k*c) (λ(_,i,_)=>(Ah m).length-i.toNat) (λo=>∃c:Int,o.length=(Ah m).length/\Cj o/\0<=c/\c<=1/\Al o=(m:Int)-n+1000000000 ^ (Ah m).length*c) ⟨0,rfl,ω,ψ,Cj.replicate _,ψ,ω,ω,by simp[Al,Agi]⟩ ?_ ?_
 .rintro⟨c,i,o⟩ ⟨k,rfl,P,D,u,y,L,w,v⟩;rcases Cf k (Ah m).length with h|h
  .have Q:=H.get h;have f:k<o.length:=ω;have R:=M3 h ω;have N:decide ((k:Int)<((Ah m).length:Int))=true:=As ω;have b:o[k]=0:=(by have:=congrArg head? y;rw[head?_drop,Bq f]at this;have x:(replicate ((Ah m).length-k) (0:Int)).head? = some 0:=(by cases T:(Ah m).length-k with| zero=>omega| succ t=>rfl);rw[x]at this;exact Eu this);have r:∀s:Int,0<=s->s<=1000000000->Al ((Ah m).take (k+1))-Al ((Ah n).take (k+1))=Al ((Ah m).take k)-Al ((Ah n).take k)+1000000000 ^ k*((Ah m)[k]-s+c) ->
     ∃(l d:Int),(bif (Ah m)[k]>=s then (some (Sum.inl (0,((k+1:Nat):Int),(Ct o (k:Int) (C3 ((Ah m)[k]-s)))))) else (some (Sum.inl (1,((k+1:Nat):Int),(Ct o (k:Int) (C3 ((C3 ((Ah m)[k]+1000000000))-s)))))):Option ((Int×Int×List Int)⊕List Int))=some (.inl (l,((k+1:Nat):Int),o.set k d)) /\ (∃q:Nat,((k+1:Nat):Int)=q/\q<=(Ah m).length/\(o.set k d).length=(Ah m).length/\Cj (o.set k d)/\(o.set k d).drop q=replicate ((Ah m).length-q) 0/\0<=l/\l<=1/\Al (o.set k d)=Al ((Ah m).take q)-Al ((Ah n).take q)+1000000000 ^ q*l):=by
    intro s W C g;have j:∀d:Int,(o.set k d).drop (k+1)=replicate ((Ah m).length-(k+1)) 0:=(by intro d;rw[drop_set_of_lt ω,<-drop_drop,y,drop_replicate];congr 1);by_cases M:(Ah m)[k]>=s
    .have z:C3 ((Ah m)[k]-s)=(Ah m)[k]-s:=Hc ω ω;refine⟨0,(Ah m)[k]-s,by rw[As M,Ak,z,He rfl],k+1,rfl,ω,by simpa using D,u.set _ ω ω,j _,ω,ω,?_⟩;rw[Nv _ f,b,g,v];grind
    .have z:C3 ((Ah m)[k]+1000000000)=(Ah m)[k]+1000000000:=Hc ω ω;have U:C3 ((Ah m)[k]+1000000000-s)=(Ah m)[k]+1000000000-s:=Hc ω ω;refine⟨1,(Ah m)[k]+1000000000-s,by rw[Aw M,Ap,z,U,He rfl],k+1,rfl,ω,by simpa using D,u.set _ ω ω,j _,ω,ω,?_⟩;rw[Nv _ f,b,g,v,Int.pow_succ];grind
   refine .inl ?_;rcases Cf k (Ah n).length with e|e
   .have hy:=K.get e;have S:C3 (c+(Ah n)[k])=c+(Ah n)[k]:=Hc ω ω;obtain⟨l,d,B,A⟩:=r (c+(Ah n)[k]) ω ω (by rw[Hf _ h,Hf _ e];grind);refine⟨(l,((k+1:Nat):Int),o.set k d),?_,A,ζ⟩;rw[<-B];simp only[N,Ak,Ev rfl h,Ev rfl f,Ad,As (ω:(k:Int)<((Ah n).length:Int)),Ev rfl e,S,R]
   .obtain⟨l,d,B,A⟩:=r c ω ω (by rw[Hf _ h,Lz (Ah n) e,Lz (Ah n) ω];grind);refine⟨(l,((k+1:Nat):Int),o.set k d),?_,A,ζ⟩;rw[<-B];simp only[N,Ak,Ev rfl h,Ev rfl f,Ad,Aw (ω:¬(k:Int)<((Ah n).length:Int)),Ap,R]
  .have J:k=(Ah m).length:=ω;subst J;refine .inr ⟨o,ψ,c,D,u,L,w,?_⟩;rw[Db,Lz _ I,Gc,Gc]at v;exact v
 .rintro o ⟨c,C,F,h4,Y,X⟩;have G:=Lv F;rw[C]at G;have hp:=Lu (Ah m).length;have:c=0:=by
   rcases Int.lt_or_le 0 c with w|w
   .have:c=1:=ω;subst this;omega
   .omega
  subst this;rw[Vm o ω,Ad,M0 F (n:=m-n) ω]
theorem A64 {o:List Int} {k n:Nat} (d:k<o.length) (h:o.drop k=replicate n 0):o[k]=0:=by have:=congrArg head? h;rw[head?_drop,Bq d]at this;cases n with| zero=>simp at this| succ t=>exact Eu this
theorem cl1 {o X K c s x y A w:Int} (f:c+x+w=s) (d:w=y*A) (b:1000000000*(s / 1000000000)+s % 1000000000=s) (z V:Int) (h:o+X*K*c=z+X*(y*V)):o+X*K*(s % 1000000000-x)+X*K*1000000000*(s / 1000000000)=z+X*(y*(V+K*A)):=by grind
set_option maxHeartbeats 1000000 in
theorem X9 (m n:Nat) (Q:Bs m<274877906944) (T:Bs n<274877906944):Nn (Ah m) (Ah n)=some (Ah (m*n)):=by
  unfold Nn;unfold Bs at Q T;have W:Ac (((Ah m).length:Int)+((Ah n).length:Int))=(((Ah m).length+(Ah n).length:Nat):Int):=ξ;have M:Ac ((((Ah m).length+(Ah n).length:Nat):Int)+1)=(((Ah m).length+(Ah n).length+1:Nat):Int):=ξ;rw[W,M,Ld rfl rfl (Nat.le_refl _) ω ω];simp only[Ad];have ha:=F0 m;have hb:=F0 n;have D:Al (Ah n)=n:=Gc n;generalize Ah n=b at *;generalize hL:b.length=L at *;refine Ki (λ(i,o)=>∃k:Nat,i=k/\k<=(Ah m).length/\o.length=(Ah m).length+L+1/\Cj o/\o.drop (k+L)=replicate ((Ah m).length+1-k) 0/\Al o=Al ((Ah m).take k)*n) (λ(i,_)=>(Ah m).length-i.toNat) (λo=>o.length=(Ah m).length+L+1/\Cj o/\Al o=((m*n:Nat):Int)) ⟨0,rfl,ω,ψ,Cj.replicate _,by rw[drop_replicate];congr 1;omega,by simp[Agi,Al]⟩ ?_ ?_
  . rintro⟨i,o⟩ ⟨k,rfl,hk,v,G,S,e⟩;rcases Cf k (Ah m).length with h|h
    . have w:=ha.get h;have e4:=M3 h ω;have e5:decide ((k:Int)<((Ah m).length:Int))=true:=As ω;simp only[e5,Ak];have V:Ag (Ah m) (k:Int)=some (Ah m)[k]:=Ev rfl h;generalize J:(Ah m)[k]=x at *;refine .inl (Xu (Ej (λ(c,j,d)=>∃q:Nat,j=q/\d.length=(Ah m).length+L+1/\Cj d/\0<=c/\c<1000000000 /\ ((q<=L/\d.drop (k+L)=replicate ((Ah m).length+1-k) 0/\Al d + 1000000000 ^ (k+q)*c=Al o+1000000000 ^ k*(x*Al (b.take q))) \/ (q=L+1/\c=0/\d.drop (k+1+L)=replicate ((Ah m).length+1-(k+1)) 0/\Al d=Al o+1000000000 ^ k*(x*n)))) (λ(_,j,_)=>L+1-j.toNat) (λ(c,j,d)=>d.length=(Ah m).length+L+1/\Cj d/\d.drop (k+1+L)=replicate ((Ah m).length+1-(k+1)) 0/\Al d=Al o+1000000000 ^ k*(x*n)) ⟨0,rfl,v,G,ω,ω,.inl ⟨ω,S,by simp[Al]⟩⟩ ?_ ?_))
      . rintro⟨c,j,d⟩ ⟨q,rfl,u,g,A,C,F⟩;rcases F with⟨F,f,l⟩|⟨rfl,rfl,f,l⟩
        . have H:Ac ((k:Int)+(q:Int))=((k+q:Nat):Int):=ξ;have K:Ac ((q:Int)+1)=((q+1:Nat):Int):=M3 (Nat.lt_succ_self q) ω;have y:k+q<d.length:=ω;have a1:=g.get y;have w4:Ba d[k+q]=d[k+q]:=Dr ω ω;have w5:Ba (c+d[k+q])=c+d[k+q]:=Dr ω ω;have p1:(1000000000:Int) ^ (k+(q+1))=1000000000 ^ (k+q)*1000000000:=(by rw[<-Nat.add_assoc,Int.pow_succ]);have Y:(1000000000:Int) ^ (k+q)=1000000000 ^ k*1000000000 ^ q:=Int.pow_add ..;rcases Cf q L with r|r
          . have B:q<b.length:=ω;have P:=hb.get B;have a6:=Aha w.1 w.2 P.1 P.2;have w1:Ba x=x:=Dr ω ω;have w2:Ba b[q]=b[q]:=Dr ω ω;have w3:Ba (x*b[q])=x*b[q]:=Dr ω ω;have X:Ba (c+d[k+q]+x*b[q])=c+d[k+q]+x*b[q]:=Dr ω ω;generalize Z:c+d[k+q]+x*b[q]=s at X;have E:0<=s:=ω;have a7:s<1000000000000000000:=ω;have w7:C3 (s % 1000000000)=s % 1000000000:=Hc ω ω;refine .inl ⟨(s / 1000000000,((q+1:Nat):Int),d.set (k+q) (s % 1000000000)),?_,⟨q+1,rfl,by simpa using u,g.set _ ω ω,ω,ω,.inl ⟨ω,?_,?_⟩⟩,ζ⟩
            . simp only[As (ω:(q:Int)<(L:Int)),Ak,Ad,H,Ev rfl y,V,Ev rfl B,w1,w2,w3,w4,w5,Z,X,Mf E (show (0:Int)<1000000000 by decide),Mz E (show s<=_ by omega) (show (0:Int)<1000000000 by decide),w7,K,He rfl]
            . rw[drop_set_of_lt ω];exact f
            . rw[Nv _ y,Hf _ B,p1,Y];rw[Y]at l;exact cl1 Z rfl (Int.mul_ediv_add_emod s 1000000000) _ _ l
          . have N:q=L:=ω;subst N;by_cases U:c>0
            . have z:d[k+q]=0:=A64 y f;refine .inl ⟨(0,((q+1:Nat):Int),d.set (k+q) c),?_,⟨q+1,rfl,by simpa using u,g.set _ ω ω,ω,ω,.inr ⟨rfl,rfl,?_,?_⟩⟩,ψ⟩
              . have w8:C3 c=c:=Hc ω ω;have w9:Ba c=c:=Dr ω ω;simp only[Aw (ω:¬(q:Int)<(q:Int)),Ap,As U,Ak,Ad,H,Ev rfl y,z,show Ba (0:Int)=0 from rfl,Int.add_zero,w9,Mf A (show (0:Int)<1000000000 by decide),Mz A (show c<=_ by omega) (show (0:Int)<1000000000 by decide),Int.emod_eq_of_lt A C,Int.ediv_eq_zero_of_lt A C,w8,K,He rfl]
              . rw[drop_set_of_lt ω,show k+1+q=(k+q)+1 by omega,<-drop_drop,f,drop_replicate];congr 1
              . rw[Nv _ y,z,Int.sub_zero];rw[Ii ω,D]at l;omega
            . have I:c=0:=ω;subst I;refine .inr ⟨(0,(q:Int),d),?_,u,g,?_,?_⟩
              . simp only[Aw (ω:¬(q:Int)<(q:Int)),Ap,Ad,show decide ((0:Int)>0)=false from rfl]
              . rw[show k+1+q=(k+q)+1 by omega,<-drop_drop,f,drop_replicate];congr 1
              . rw[Ii ω,D]at l;omega
        . refine .inr ⟨(0,((L+1:Nat):Int),d),?_,u,g,f,l⟩;simp only[Aw (ω:¬((L+1:Nat):Int)<(L:Int)),Ap,Ad,show decide ((0:Int)>0)=false from rfl]
      . rintro⟨c,j,d⟩ ⟨u,g,f,l⟩;refine⟨_,by simp only[e4],(((k+1:Nat):Int),d),rfl,⟨k+1,rfl,ω,u,g,f,?_⟩,ζ⟩;rw[l,Hf _ h,Int.add_mul,<-e,J];grind
    . have R:k=(Ah m).length:=ω;subst R;refine .inr ⟨o,ψ,v,G,?_⟩;rw[Db,Gc]at e;rw[e];simp
  . rintro o ⟨h2,h3,h4⟩;rw[Vm o ω,Ad,M0 h3 h4]
theorem A65 (m n:Nat) (U:Bs m<274877906944) (S:Bs n<274877906944):Aab (Ah m) (Ah n)=some (Ah (m+n)):=by
 unfold Aab;unfold Bs at U S;have H:=F0 m;have C:=F0 n;have G:Al (Ah m)=m:=Gc m;have E:Al (Ah n)=n:=Gc n;have J:=Ag8 (n:=m);have I:=Ag8 (n:=n);generalize Ah m=a at *;generalize Ah n=b at *;generalize Q:max a.length b.length=M;refine Ki (λ(c,i,o)=>∃k:Nat,i=k/\o.length=k/\Cj o/\0<=c/\c<=1/\((k<=M/\Al o+1000000000 ^ k*c=Al (a.take k)+Al (b.take k))\/(k=M+1/\c=0/\Al o=m+n/\1000000000 ^ M<=Al o))) (λ(_,i,_)=>M+1-i.toNat) (λo=>Cj o/\Al o=m+n/\(o≠[]->1000000000 ^ (o.length-1)<=Al o)) ⟨0,rfl,rfl,Cj.nil,ω,ω,.inl ⟨ω,by simp[Al]⟩⟩ ?_ ?_
 .rintro⟨c,i,o⟩ ⟨k,rfl,l,h,X,T,F⟩;rcases F with⟨F,r⟩|⟨rfl,rfl,r,hp⟩
  .have Z:Ac ((k:Int)+1)=((k+1:Nat):Int):=M3 (Nat.lt_succ_self k) ω;have step:∀s:Int,0<=s->s<2000000000 ->
     ((H3 .u32 s 1000000000).bind λB=>(Iu s 1000000000).bind λA=>(B6 4 o [A]).bind λD=>some (Sum.inl (B,(Ac ((k:Int)+1)),D)))=some (Sum.inl (s / 1000000000,((k+1:Nat):Int),o++[s % 1000000000]):(Int×Int×List Int)⊕List Int):=by intro s d v;rw[Alo d ω δ,Ad,Mf d δ,Ad,Dl ζ,Ad,Z]
   have g:∀s:Int,0<=s->s<2000000000->k<M->Al (a.take (k+1))+Al (b.take (k+1))=Al (a.take k)+Al (b.take k)+1000000000 ^ k*(s-c) ->
     (∃q:Nat,((k+1:Nat):Int)=q/\(o++[s % 1000000000]).length=q/\Cj (o++[s % 1000000000])/\0<=s / 1000000000/\s / 1000000000<=1/\((q<=M/\Al (o++[s % 1000000000])+1000000000 ^ q*(s / 1000000000)=Al (a.take q)+Al (b.take q))\/(q=M+1/\s / 1000000000=0/\Al (o++[s % 1000000000])=m+n/\1000000000 ^ M<=Al (o++[s % 1000000000])))):=by intro s d v x u;refine⟨k+1,rfl,by simp[l],h.snoc ω ω,ω,ω,.inl ⟨ω,?_⟩⟩;rw[u,<-r,Mg,l,Int.pow_succ];have:=Int.mul_ediv_add_emod s 1000000000;grind
   by_cases j:k<a.length
   .have W:=H.get j;have R:C3 (c+a[k])=c+a[k]:=Hc ω ω;by_cases f:k<b.length
    .have K:=C.get f;have z:C3 (c+a[k]+b[k])=c+a[k]+b[k]:=Hc ω ω;refine .inl ⟨((c+a[k]+b[k]) / 1000000000,((k+1:Nat):Int),o++[(c+a[k]+b[k]) % 1000000000]),?_,g (c+a[k]+b[k]) ω ω ω (by rw[Hf a j,Hf b f];grind),ζ⟩;rw[<-step (c+a[k]+b[k]) ω ω];simp only[As (ω:(k:Int)<(a.length:Int)),As (ω:(k:Int)<(b.length:Int)),Ak,Ad,Ev rfl j,Ev rfl f,R,z]
    .refine .inl ⟨((c+a[k]) / 1000000000,((k+1:Nat):Int),o++[(c+a[k]) % 1000000000]),?_,g (c+a[k]) ω ω ω (by rw[Hf a j,Lz b ω,Lz b ω];grind),ζ⟩;rw[<-step (c+a[k]) ω ω];simp only[As (ω:(k:Int)<(a.length:Int)),Aw (ω:¬(k:Int)<(b.length:Int)),Ak,Ap,Ad,Ev rfl j,R]
   .by_cases f:k<b.length
    .have K:=C.get f;have z:C3 (c+b[k])=c+b[k]:=Hc ω ω;refine .inl ⟨((c+b[k]) / 1000000000,((k+1:Nat):Int),o++[(c+b[k]) % 1000000000]),?_,g (c+b[k]) ω ω ω (by rw[Hf b f,Lz a ω,Lz a ω];grind),ζ⟩;rw[<-step (c+b[k]) ω ω];simp only[Aw (ω:¬(k:Int)<(a.length:Int)),As (ω:(k:Int)<(b.length:Int)),Ak,Ap,Ad,Ev rfl f,z]
    .have x:k=M:=ω;subst x;rw[Lz a ω,Lz b ω,G,E]at r;by_cases Y:c>0
     .have N:c=1:=ω;subst N;refine .inl ⟨((1:Int) / 1000000000,((k+1:Nat):Int),o++[(1:Int) % 1000000000]),?_,⟨k+1,rfl,by simp[l],h.snoc δ δ,δ,δ,.inr ⟨rfl,rfl,?_,?_⟩⟩,ψ⟩
      .rw[<-step 1 ω ω];simp only[Aw (ω:¬(k:Int)<(a.length:Int)),Aw (ω:¬(k:Int)<(b.length:Int)),Ap,Ad,show decide ((1:Int)>0)=true from rfl,Ak]
      .rw[Mg,l];exact r
      .rw[Mg,l,show (1:Int) % 1000000000=1 from rfl];have:=H8 h.u32;omega
     .have y:c=0:=ω;subst y;refine .inr ⟨o,?_,h,ω,λL=>?_⟩
      .simp only[Aw (ω:¬(k:Int)<(a.length:Int)),Aw (ω:¬(k:Int)<(b.length:Int)),Ap,Ad,show decide ((0:Int)>0)=false from rfl]
      .have V:k≠0:=(by intro e;rw[e]at l;exact L (Fr.1 l));rcases Nat.le_total a.length b.length with w|w
       .have:k=b.length:=ω;have d:=I (by intro e;rw[e]at this;simp at this;omega);rw[l,this];omega
       .have:k=a.length:=ω;have d:=J (by intro e;rw[e]at this;simp at this;omega);rw[l,this];omega
  .refine .inr ⟨o,?_,h,r,λ_=>by rw[l];simpa using hp⟩;simp only[Aw (ω:¬((M+1:Nat):Int)<(a.length:Int)),Aw (ω:¬((M+1:Nat):Int)<(b.length:Int)),Ap,Ad,show decide ((0:Int)>0)=false from rfl]
 .rintro o ⟨d,v,P⟩;congr 1;exact Agk (Amg d P) (by rw[v];simp)
end Go.Ab
namespace Go.Ab
open Go Ieee
variable {k n:Nat}
theorem A66 (n d:Nat):∃c,Toward.even.cut false n d=c/\(n / 2 ^ d<=c)/\c<=n / 2 ^ d+1/\(n % 2 ^ d=0->c=n / 2 ^ d):=by
 refine⟨_,rfl,?_⟩;unfold Toward.cut;simp only[Nat.shiftLeft_eq,Nat.one_mul];by_cases q:d<=n.log2+2
 .rw[Nat.min_eq_left q];generalize r:2 ^ d=g;have s:0<g:=(by rw[<-r];exact Nat.pow_pos δ);refine⟨ω,?_,λu=>?_⟩
  .have:=Bool.toNat_le (decide (g<2*(n % g))||(g==2*(n % g)&&n / g % 2==1))
   omega
  .rw[u];have e:decide (g<2*0)=false:=ψ;have o:(g==2*0)=false:=ζ;rw[e,o];rfl
 .rw[Nat.min_eq_right ω];have b:n<2 ^ (n.log2+1):=Nat.lt_log2_self;have s:2 ^ (n.log2+2)=2*2 ^ (n.log2+1):=(by rw[Nat.pow_succ];omega);have f:2 ^ (n.log2+2)<=2 ^ d:=Nat.pow_le_pow_right δ ω;have k:n / 2 ^ (n.log2+2)=0:=Nat.div_eq_of_lt ω;have j:n % 2 ^ (n.log2+2)=n:=Nat.mod_eq_of_lt ω;have i:n / 2 ^ d=0:=Nat.div_eq_of_lt ω;have h:n % 2 ^ d=n:=Nat.mod_eq_of_lt ω;rw[k,j,i,h];have e:decide (2 ^ (n.log2+2)<2*n)=false:=ζ;have o:(2 ^ (n.log2+2)==2*n)=false:=ζ;rw[e,o];exact⟨ψ,ψ,λ_=>rfl⟩
theorem Ya (f:Nat) (place e:Int) (l:f≠0) (A:place+f.log2=e) (J : -1000<=e) (K:e<=900) : ∃(m:Nat) (p:Int),double.read (double.nearest false f place) = .number false m p/\4503599627370496<=m/\m<9007199254740992/\(p=e-52\/(p=e-51/\m=4503599627370496)):=by
 have g:max (place+f.log2-(double.fractionBits:Int)) double.leastPlace=e-52:=by have a:(double.fractionBits:Int)=52:=rfl;have b:double.leastPlace = -1074:=δ;rw[a,b,A];omega
 have w:double.nearest false f place=min ((e-52+1074).toNat*4503599627370496+Toward.even.cut false (f <<< (place-(e-52)).toNat) ((e-52)-place).toNat) (2047*4503599627370496):=by unfold Format.nearest;rw[Ar l];simp only[g];have b:double.leastPlace = -1074:=δ;have c:double.binade=4503599627370496:=δ;have d:double.infRung=2047*4503599627370496:=δ;rw[b,c,d];unfold Format.word;simp only[Bool.false_eq_true,if_false];congr 3
 have F:4503599627370496<=Toward.even.cut false (f <<< (place-(e-52)).toNat) ((e-52)-place).toNat/\Toward.even.cut false (f <<< (place-(e-52)).toNat) ((e-52)-place).toNat<=9007199254740992:=by
  obtain⟨c,r,C,D,v⟩:=A66 (f <<< (place-(e-52)).toNat) ((e-52)-place).toNat;rw[r];have y:2 ^ f.log2<=f:=Nat.log2_self_le l;have x:f<2 ^ (f.log2+1):=Nat.lt_log2_self;rw[Nat.shiftLeft_eq]at C D v;rcases Int.le_total place (e-52) with h|h
  .have z:(place-(e-52)).toNat=0:=ω;rw[z,Nat.pow_zero,Nat.mul_one]at C D v;have E:f.log2=52+((e-52)-place).toNat:=ω;have hp:2 ^ f.log2=4503599627370496*2 ^ ((e-52)-place).toNat:=(by rw[E,Nat.pow_add]);have k:2 ^ (f.log2+1)=9007199254740992*2 ^ ((e-52)-place).toNat:=(by rw[Nat.pow_succ,hp];omega);have o:0<2 ^ ((e-52)-place).toNat:=Nat.pow_pos δ;have G:4503599627370496<=f / 2 ^ ((e-52)-place).toNat:=(Nat.le_div_iff_mul_le o).2 ω;have H:f / 2 ^ ((e-52)-place).toNat<9007199254740992:=(Nat.div_lt_iff_lt_mul o).2 ω;omega
  .have z:((e-52)-place).toNat=0:=ω;rw[z,Nat.pow_zero,Nat.div_one]at C D v;have L:=v (Nat.mod_one _);have E:52=f.log2+(place-(e-52)).toNat:=ω;have hp:2 ^ f.log2*2 ^ (place-(e-52)).toNat=4503599627370496:=(by rw[<-Nat.pow_add,<-E]);have k:2 ^ (f.log2+1)*2 ^ (place-(e-52)).toNat=9007199254740992:=(by rw[Nat.pow_succ,Nat.mul_right_comm,hp]);have o:0<2 ^ (place-(e-52)).toNat:=Nat.pow_pos δ;have G:=Nat.mul_le_mul_right (2 ^ (place-(e-52)).toNat) y;have H:=Nat.mul_lt_mul_of_pos_right x o;omega
 generalize Toward.even.cut false (f <<< (place-(e-52)).toNat) ((e-52)-place).toNat=c at *;obtain⟨t,I⟩:∃t:Nat,(e-52+1074).toNat=t/\t<=1922/\(t:Int)=e+1022:=⟨_,rfl,ω,ω⟩;rw[I.1]at w;rw[Nat.min_eq_left ω]at w;rw[w];have b:double.leastPlace = -1074:=δ;have B:double.binade=4503599627370496:=δ;have d:double.infRung=2047*4503599627370496:=δ;have q:double.signWeight=9223372036854775808:=δ;unfold Format.read;rw[b,B,d,q];have u:(t*4503599627370496+c) / 9223372036854775808=0:=Nat.div_eq_of_lt ω;have s:(t*4503599627370496+c) % 9223372036854775808=t*4503599627370496+c:=Nat.mod_eq_of_lt ω;simp only[u,s];rw[Ar ω,Au ω];by_cases r:c<9007199254740992
 .refine⟨c,e-52,?_,F.1,r,.inl rfl⟩;have j:(t*4503599627370496+c) % 4503599627370496=c-4503599627370496:=ω;have i:(t*4503599627370496+c) / 4503599627370496=t+1:=ω;rw[j,i,show 4503599627370496+(c-4503599627370496)=c by omega,show (-1074:Int)+((t+1-1:Nat):Int)=e-52 by omega];rfl
 .have r:c=9007199254740992:=ω;subst r;refine⟨4503599627370496,e-51,?_,δ,δ,.inr ⟨rfl,rfl⟩⟩;have j:(t*4503599627370496+9007199254740992) % 4503599627370496=0:=ω;have i:(t*4503599627370496+9007199254740992) / 4503599627370496=t+2:=ω;rw[j,i,Nat.add_zero,show (-1074:Int)+((t+2-1:Nat):Int)=e-51 by omega];rfl
theorem Amm (v:Int) (h:0<=v):floatOfInt .f64 v=double.nearest false v.natAbs 0:=by have e:decide (v<0)=false:=Aw ω;show double.nearest (decide (v<0)) v.natAbs 0=_;rw[e]
theorem A67:double.read 4876203697187506176 = .number false 7812500000000000 7:=by decide
theorem Ahi (d:2 ^ k<=n) (e:n<2 ^ (k+1)):n.log2=k:=(Nat.log2_eq_iff (by have:=Nat.pow_pos (n:=k) (show 0<2 by decide);omega)).2 ⟨d,e⟩
theorem Acp (h:n<2 ^ (k+1)):n.log2<=k:=by
 by_cases d:n=0
 .subst d;simp
 .have:=(Nat.log2_lt d).2 h;omega
theorem Amn (h:2 ^ k<=n):k<=n.log2:=(Nat.le_log2 (by have:=Nat.pow_pos (n:=k) (show 0<2 by decide);omega)).2 h
theorem A68 (x:Int) (h0:1<=x) (u:x<1000000000):∃(w:Nat) (m:Nat) (p:Int),floatBits .mul .f64 (floatOfInt .f64 x) 4876203697187506176=some w/\double.read w = .number false m p/\4503599627370496<=m/\m<9007199254740992/\7<=p/\(p<=37\/(p=38/\m=4503599627370496)):=by
 have j:x.natAbs.log2<=29:=Acp ζ;obtain⟨d,b,g,v,A,B⟩:=Ya x.natAbs 0 (x.natAbs.log2) ω ω ω ω;have c:(d*7812500000000000).log2=104\/((d*7812500000000000).log2=105/\d≠4503599627370496):=by
  have e:2 ^ 104<=d*7812500000000000:=ω;have o:d*7812500000000000<2 ^ 106:=ω;rcases Cf (d*7812500000000000) (2 ^ 105) with h|h
  .exact .inl (Ahi e h)
  .exact .inr ⟨Ahi h o,by rintro rfl;omega⟩
 obtain⟨q,i,f,r,s,C⟩:=Ya (d*7812500000000000) (b+7) (b+7+(d*7812500000000000).log2) ω rfl ω ω;refine⟨double.nearest false (d*7812500000000000) (b+7),q,i,?_,f,r,s,ω,ω⟩;show ((double.read (floatOfInt .f64 x)).product (double.read 4876203697187506176)).map double.write=_;rw[Amm x ω,g,A67];rfl
theorem A69 (w:Nat) (m:Nat) (p:Int) (r:double.read w = .number false m p) (M:4503599627370496<=m) (L:m<9007199254740992) (I:7<=p) (j:p<=37\/(p=38/\m=4503599627370496)) (y:Int) (h0:0<=y) (W:y<1000000000000000000) : ∃(w':Nat) (g:Nat) (f:Int),floatBits .add .f64 w (floatOfInt .f64 y)=some w'/\double.read w' = .number false g f/\4503599627370496<=g/\g<9007199254740992/\7<=f/\f<=39:=by
 obtain⟨c,b,x,S,R⟩:∃(c:Nat) (b:Int),double.read (floatOfInt .f64 y) = .number false c b/\b<=8/\c<9007199254740992/\-1074<=b:=by
  rw[Amm y h0];by_cases o:y.natAbs=0
  .rw[o];exact⟨0,-1074,δ,δ,δ,δ⟩
  .have X:y.natAbs.log2<=59:=Acp ζ;obtain⟨v,D,A,a1,C,a3⟩:=Ya y.natAbs 0 (y.natAbs.log2) o ω ω ω;exact⟨v,D,A,ω,C,ω⟩
 generalize F:min p b=d;have H:∃T:Nat,signed false m (p-d).toNat+signed false c (b-d).toNat=(T:Int)/\T=m*2 ^ (p-d).toNat+c*2 ^ (b-d).toNat:=by refine⟨m <<< (p-d).toNat+c <<< (b-d).toNat,rfl,by rw[Nat.shiftLeft_eq,Nat.shiftLeft_eq]⟩
 obtain⟨T,t1,t2⟩:=H;have G:0<2 ^ (p-d).toNat:=Nat.pow_pos δ;have i:2 ^ (b-d).toNat<=2 ^ (8-d).toNat:=Nat.pow_le_pow_right δ ω;have J:m*2 ^ (p-d).toNat<=2 ^ (90-d).toNat:=by
  rcases j with h|⟨rfl,rfl⟩
  .have e:2 ^ (90-d).toNat=2 ^ (p-d).toNat*2 ^ (90-p).toNat:=(by rw[<-Nat.pow_add];congr 1;omega);have e2:2 ^ 53<=2 ^ (90-p).toNat:=Nat.pow_le_pow_right δ ω;rw[e,Nat.mul_comm];exact Nat.mul_le_mul_left _ ω
  .have e:2 ^ (90-d).toNat=2 ^ (38-d).toNat*2 ^ 52:=(by rw[<-Nat.pow_add];congr 1;omega);rw[e,Nat.mul_comm];omega
 have E:c*2 ^ (b-d).toNat<2 ^ (90-d).toNat:=by have e:2 ^ (90-d).toNat=2 ^ (8-d).toNat*2 ^ 82:=(by rw[<-Nat.pow_add];congr 1;omega);have Z:c*2 ^ (b-d).toNat<=c*2 ^ (8-d).toNat:=Nat.mul_le_mul_left _ i;have N:0<2 ^ (8-d).toNat:=Nat.pow_pos δ;have Y:c*2 ^ (8-d).toNat<2 ^ 82*2 ^ (8-d).toNat:=Nat.mul_lt_mul_of_pos_right ω N;rw[e,Nat.mul_comm (2 ^ (8-d).toNat)];omega
 have s:T<2 ^ ((90-d).toNat+1):=by rw[Nat.pow_succ];omega
 have q:2 ^ (52+(p-d).toNat)<=T:=by have:2 ^ 52*2 ^ (p-d).toNat<=m*2 ^ (p-d).toNat:=Nat.mul_le_mul_right _ ω;rw[Nat.pow_add];omega
 have V:=Acp s;have U:=Amn q;have u:T≠0:=by have:=Nat.pow_pos (n:=52+(p-d).toNat) (show 0<2 by decide);omega
 obtain⟨K,B,z,P,Q,c3⟩:=Ya T d (d+T.log2) u rfl ω ω;refine⟨double.nearest false T d,K,B,?_,z,P,Q,ω,ω⟩;show ((double.read w).sum (double.read (floatOfInt .f64 y))).map double.write=_;rw[r,x];have l:¬((T:Int)=0):=ω;have k:decide ((T:Int)<0)=false:=Aw ω;simp only[Datum.sum,F,t1,Ar l,k,Option.map_some,Int.natAbs_natCast,Format.write]
theorem A7a {b m N:Nat} {p:Int} (g:double.read b = .number false m p) (i:(Datum.number false m p).toInt .zero=some (N:Int)) (h:N<=9223372036854775808):floatToIntVal .f64 b .u64=some (N:Int):=by have d:FloatKind.f64.decode b = .number false m p:=g;have f:IntKind.u64.min=0:=δ;have c:IntKind.u64.max=18446744073709551615:=δ;unfold floatToIntVal;rw[d,i];simp only[f,c];rw[Au ⟨ω,ω⟩]
theorem A7b (w:Nat) (m:Nat) (p:Int) (r:double.read w = .number false m p) (R:4503599627370496<=m) (M:m<9007199254740992) (L:7<=p) (J:p<=39) (z:Int) (h0:1000000000<=z) (F:z<1000000000000000000) : ∃(w':Nat) (n:Int),floatBits .quo .f64 w (floatOfInt .f64 z)=some w'/\floatToIntVal .f64 w' .u64=some n/\0<=n/\n<=9223372036854775808:=by
 have U:z.natAbs.log2<=59:=Acp ζ;have S:29<=z.natAbs.log2:=Amn ζ;obtain⟨f,c,u,H,K,P⟩:=Ya z.natAbs 0 (z.natAbs.log2) ω ω ω ω;have D:m.log2=52:=Ahi ω ω;have y:f.log2=52:=Ahi ω ω;generalize o:m*2 ^ 54 / f=q;generalize l:((m*2 ^ 54 % f != 0).toNat)=s;have E:s<=1:=by rw[<-l];exact Bool.toNat_le _
 have I:q<2 ^ 55:=by rw[<-o];exact (Nat.div_lt_iff_lt_mul ω).2 ω
 have G:2 ^ 53<=q:=by rw[<-o];exact (Nat.le_div_iff_mul_le ω).2 ω
 have B:(2*q+s).log2<=55:=Acp ω;have A:54<=(2*q+s).log2:=Amn ω;obtain⟨d,b,x,Q,v,T⟩:=Ya (2*q+s) (p-c-(54:Nat)-1) (p-c-(54:Nat)-1+(2*q+s).log2) ω rfl ω ω;have j:(Datum.number false m p).quotient (double.fractionBits+2) (Datum.number false f c)=some (.number false (2*q+s) (p-c-(54:Nat)-1)):=by have i:¬f=0:=ω;have fb:double.fractionBits+2=54:=rfl;simp only[Datum.quotient,Ar i,fb,D,y,Nat.shiftLeft_eq,Nat.add_sub_cancel,o,l,Bool.xor_self]
 have C:d*2 ^ b.toNat<=9223372036854775808:=by
  have k:b<=10\/(b=11/\d=4503599627370496):=ω;rcases k with h|⟨rfl,rfl⟩
  .have:2 ^ b.toNat<=2 ^ 10:=Nat.pow_le_pow_right δ ω;have:=Nat.mul_le_mul (Nat.le_of_lt v) this;omega
  .decide
 obtain⟨N,V,g⟩:∃N:Nat,(Datum.number false d b).toInt .zero=some (N:Int)/\N<=9223372036854775808:=by
  refine⟨(d <<< b.toNat) / (1 <<< min (-b).toNat ((d <<< b.toNat).log2+2)),?_,?_⟩
  .simp only[Datum.toInt,Datum.integral,Toward.cut,signed,Bool.false_eq_true,if_false,Nat.shiftLeft_zero,Bool.toNat_false,Nat.add_zero]
  .rw[Nat.shiftLeft_eq d];exact Nat.le_trans (Nat.div_le_self _ _) C
 refine⟨double.nearest false (2*q+s) (p-c-(54:Nat)-1),(N:Int),?_,?_,ω,ω⟩
 .have e:floatBits .quo .f64 w (floatOfInt .f64 z)=((double.read w).quotient (double.fractionBits+2) (double.read (floatOfInt .f64 z))).map double.write:=rfl;rw[e,r,Amm z ω,u,j];simp only[Option.map_some,Format.write]
 .exact A7a x V g
theorem A7c (r n:Nat) (H:2<=Bs n) (E:Bs r<=Bs n+1) (G:Bs n<1099511627776):∃d:Nat,Aa6 (Ah r) (Ah n)=some (d:Int)/\d<1000000000:=by
 unfold Aa6;unfold Bs at H E G;have c:n≠0:=by rintro rfl;rw[Hv]at H;simp at H
 by_cases V:(Ah r).length<(Ah n).length
 .exact⟨0,by rw[As ω];rfl,δ⟩
 .rw[Aw ω,Ap];have y:Ac (((Ah n).length:Int)-1)=(((Ah n).length-1:Nat):Int):=ξ;have u:Ac (((Ah n).length:Int)-2)=(((Ah n).length-2:Nat):Int):=ξ;have K:(Ah n).length-1<(Ah n).length:=ω;have P:(Ah n).length-2<(Ah n).length:=ω;have h:(Ah n).length-1<(Ah r).length:=ω;have g:(Ah n).length-2<(Ah r).length:=ω;have t1:=(F0 n).get K;have t2:=(F0 n).get P;have M:=(F0 r).get h;have L:=(F0 r).get g;have i:(Ah n)[(Ah n).length-1]≠0:=(by have:=(Agj n).2 (Kj c);rwa [getLast_eq_getElem]at this);rw[y,u,Ev rfl K,Ad,Ev rfl P,Ad,Ev rfl h,Ad,Ev rfl g,Ad];generalize (Ah n)[(Ah n).length-1]=o at *;generalize (Ah n)[(Ah n).length-2]=w at *;generalize (Ah r)[(Ah n).length-1]=v at *;generalize (Ah r)[(Ah n).length-2]=C at *;have l:Ba (Ba (Ba v*1000000000)+Ba C)=v*1000000000+C:=(by rw[show Ba v=v from Dr ω ω,show Ba C=C from Dr ω ω,show Ba (v*1000000000)=v*1000000000 from Dr ω ω];exact Dr ω ω);have j:Ba (Ba (Ba o*1000000000)+Ba w)=o*1000000000+w:=(by rw[show Ba o=o from Dr ω ω,show Ba w=w from Dr ω ω,show Ba (o*1000000000)=o*1000000000 from Dr ω ω];exact Dr ω ω);rw[l,j];by_cases X:(Ah r).length=(Ah n).length
  .rw[Ef ω,Ak,Mz ω ω ω,Ad];have R:0<=(v*1000000000+C) / (o*1000000000+w):=Int.ediv_nonneg ω ω;have N:(v*1000000000+C) / (o*1000000000+w)<1000000000:=Int.ediv_lt_of_lt_mul ω ω;exact⟨((v*1000000000+C) / (o*1000000000+w)).toNat,by congr 1;omega,ω⟩
  .have F:(Ah n).length<(Ah r).length:=ω;have b:r≠0:=(by rintro rfl;rw[Hv]at F;simp at F);have J:=(F0 r).get F;have f:(Ah r)[(Ah n).length]≠0:=(by have:=(Agj r).2 (Kj b);rw[getLast_eq_getElem]at this;have e:(Ah r).length-1=(Ah n).length:=ω;simpa[e] using this);rw[Cu ω,Ap,Ev rfl F,Ad];generalize (Ah r)[(Ah n).length]=x at *;obtain⟨s,T,A,f1,f2,f3,f4,f5,f6⟩:=A68 x ω ω;obtain⟨q,W,z,g1,g2,g3,g4,g5,g6⟩:=A69 s T A f2 f3 f4 f5 f6 (v*1000000000+C) ω ω;obtain⟨I,k,D,B,U,S⟩:=A7b q W z g2 g3 g4 g5 g6 (o*1000000000+w) ω ω;rw[f1,Ad,g1,Ad,D,Ad,B,Ad,show Ba (k+2)=k+2 from Dr ω ω];by_cases Q:(999999999:Int)<k+2
   .exact⟨999999999,by rw[Au Q];rfl,δ⟩
   .exact⟨(k+2).toNat,by rw[Ar Q];congr 1;omega,ω⟩
end Go.Ab
namespace Go.Ab
open Go
variable {a:Ao} {k n:Nat}
theorem A7d (x r:Nat):Bs (x % 1000000000+1000000000*r)<=Bs r+1:=by apply Kk;have:=Ou r;rw[Nat.pow_succ];omega
set_option maxHeartbeats 1000000 in
theorem Amo (m n:Nat) (K:Bs m<137438953472) (P:Bs n<137438953472) (B:n≠0):Ul (Ah m) (Ah n)=some (Ah (m / n),Ah (m % n)):=by
 unfold Ul;rw[Aco,S4 m n ω ω,Ad];have ae:=K;have ad:=P;unfold Bs at K P;by_cases l:m<n
 .rw[show Fk m n = -1 by rw[Fk,Au l],As (by decide:(-1:Int)<0),Ak,Vm _ ω,Ad,A49 (Agj m),Nat.div_eq_of_lt l,Nat.mod_eq_of_lt l,Hv]
 .rw[Aw (show ¬Fk m n<0 by rw[Fk,Ar l];split <;> decide),Ap];have a7:(Ah n).length≠0:=λe=>Kj B (Fr.1 e);by_cases h1:(Ah n).length=1
  .rw[Ef (ω:((Ah n).length:Int)=1),Ak];have A:n<1000000000:=(by have:=Ou n;rw[show Bs n=1 from h1]at this;simpa using this);have X:Ah n = [(n:Int)]:=(by rw[Ot B,Nat.div_eq_of_lt A,Hv,Nat.mod_eq_of_lt A]);rw[X,show Ag [(n:Int)] 0=some (n:Int) from rfl,Ad,show Ba (n:Int)=n from Dr ω ω,A63 m n ω ω ω,Ad];have a6:m % n<n:=Nat.mod_lt _ ω;rw[Acn,Q8 (m % n) ω,Ad]
  .rw[Cu (ω:((Ah n).length:Int)≠1),Ap];have hw:Ac (((Ah m).length:Int)-1)=((Ah m).length:Int)-1:=ξ;rw[Ld rfl rfl (Nat.le_refl _) ω ω,hw];simp only[Ad];have ha:=F0 m;refine Ki (λ(r,i,q)=>∃(k R:Nat),r=Ah R/\i=(k:Int)-1/\k<=(Ah m).length/\R<n/\q.length=(Ah m).length/\Cj q/\Al (q.drop k)*n+R=Al ((Ah m).drop k)) (λ(_,i,_)=>(i+1).toNat) (λ(r,q)=>∃R:Nat,r=Ah R/\R<n/\q.length=(Ah m).length/\Cj q/\Al q*n+R=m) ⟨(Ah m).length,0,by rw[Hv],rfl,Nat.le_refl _,ω,ψ,Cj.replicate _,by simp[Al]⟩ ?_ ?_
   .rintro⟨r,i,q⟩ ⟨k,R,rfl,rfl,hk,I,u,g,w⟩;cases k with
    | zero=>exact .inr ⟨(Ah R,q),ψ,R,rfl,I,u,g,by simpa[Gc] using w⟩
    | succ j=>
     have C:j<(Ah m).length:=ω;have D:j<q.length:=ω;have hx:=ha.get C;obtain⟨x,y⟩:∃x:Nat,(Ah m)[j]=(x:Int):=⟨(Ah m)[j].toNat,ω⟩;have J:x<1000000000:=ω;have e0:((j+1:Nat):Int)-1=(j:Int):=ω;have e1:decide ((j:Int)>=0)=true:=As ω;have Y:Bs R<=Bs n:=Ja ω;have ab:Bs (x+1000000000*R)<=Bs R+1:=(by have:=A7d x R;rwa [Nat.mod_eq_of_lt J]at this);have ag:(Ah R).length<=(Ah n).length:=Y;have E:Mb ((x:Int)::Ah R)=some (Ah (x+1000000000*R)):=by
      rw[Vm _ ζ];congr 1;refine M0 ?_ ?_
      .intro d o;rcases Gl.1 o with rfl|o
       .omega
       .exact F0 R d o
      .simp only[Al,Gc];omega
     obtain⟨d0,S,af⟩:=A7c (x+1000000000*R) n (by unfold Bs;omega) ω ω;generalize a1:x+1000000000*R=f at *;have aa:f<1000000000*n:=ω;have s:∀d:Nat,d<18446744073709551616->Og (d:Int)=some (Ah d)/\Nn (Ah n) (Ah d)=some (Ah (n*d)):=(by intro d o;have:=Oy o;exact⟨by rw[Acn,Q8 d o],X9 n d ω ω⟩);have G:∀d:Nat,d<18446744073709551616->Pd (Ah (n*d)) (Ah f)=some (Fk (n*d) f):=(by intro d o;have h3:=Oy o;have h4:=H5 n d;rw[Aco,S4 _ _ ω ω]);simp only[e0,e1,Ak,Ev rfl C,y,Ad,Dl (show ([(x:Int)].length+(Ah R).length)*4<=_ by simp;omega),singleton_append,E,S];refine .inl (Xu (Ej (λd=>∃e:Nat,d=e/\e<=d0) (λd=>d.toNat) (λd=>∃e:Nat,d=e/\e<=d0/\n*e<=f) ⟨d0,rfl,Nat.le_refl _⟩ ?_ ?_))
     .rintro d ⟨e,rfl,T⟩;by_cases V:e=0
      .subst V;exact .inr ⟨0,rfl,0,rfl,ω,ψ⟩
      .obtain⟨F,H⟩:=s e ω;simp only[As (ω:(e:Int)>0),Ak,F,H,G e ω,Ad];by_cases v:f<n*e
       .refine .inl ⟨((e-1:Nat):Int),?_,⟨e-1,rfl,ω⟩,ζ⟩;rw[show Fk (n*e) f=1 by rw[Fk,Ar ω,Au v],show decide ((1:Int)>0)=true from rfl,Ak,show Ba ((e:Int)-1)=((e-1:Nat):Int) by rw[Ba,Dr] <;> omega]
       .refine .inr ⟨(e:Int),?_,e,rfl,T,ω⟩;rw[Aw (show ¬Fk (n*e) f>0 by rw[Fk,Ar v];split <;> decide),Ap]
     .rintro d ⟨e,rfl,T,M⟩;obtain⟨F,H⟩:=s e ω;simp only[F,H,Ad,Ahh f (n*e) ω M];refine Ej (λ(r,d)=>∃(c b:Nat),r=Ah c/\d=b/\n*b+c=f) (λ(r,_)=>(Al r).toNat) (λ(r,d)=>∃(c b:Nat),r=Ah c/\d=b/\n*b+c=f/\c<n) ⟨f-n*e,e,rfl,rfl,ω⟩ ?_ ?_
      .rintro⟨r,d⟩ ⟨c,b,rfl,rfl,L⟩;have a8:Bs c<=Bs f:=Ja ω;have U:b<1000000000:=by
        rcases Cf b 1000000000 with h|h
        .exact h
        .exfalso;have:n*1000000000<=n*b:=Nat.mul_le_mul_left n h;omega
       simp only[Aco,S4 c n ω ω,Ad];by_cases v:c<n
       .refine .inr ⟨(Ah c,(b:Int)),?_,c,b,rfl,rfl,L,v⟩;rw[Aw (show ¬Fk c n>=0 by rw[Fk,Au v];decide),Ap]
       .refine .inl ⟨(Ah (c-n),((b+1:Nat):Int)),?_,⟨c-n,b+1,rfl,rfl,?_⟩,?_⟩
        .rw[As (show Fk c n>=0 by rw[Fk,Ar v];split <;> decide),Ak,Ahh c n ω ω,Ad,show Ba ((b:Int)+1)=((b+1:Nat):Int) by rw[Ba,Dr] <;> omega]
        .rw[Nat.mul_add];omega
        .simp only[Gc];omega
      .rintro⟨r,d⟩ ⟨c,b,rfl,rfl,L,Z⟩;have U:b<1000000000:=by
        rcases Cf b 1000000000 with h|h
        .exact h
        .exfalso;have:n*1000000000<=n*b:=Nat.mul_le_mul_left n h;omega
       have w1:C3 (b:Int)=b:=Hc ω ω;have w8:Ac ((j:Int)-1)=(j:Int)-1:=ξ;refine⟨_,by simp only[Ev rfl D,Ad,w1,w8,He rfl],(Ah c,(j:Int)-1,q.set j (b:Int)),rfl,⟨j,c,rfl,rfl,ω,Z,by simpa using u,g.set _ ω ω,?_⟩,ψ⟩;have d1:(q.set j (b:Int)).drop j=(b:Int)::q.drop (j+1):=(by rw[drop_eq_getElem_cons (by simpa using D),drop_set_of_lt ω];simp);rw[d1,drop_eq_getElem_cons C,y];simp only[Al];rw[<-w];have:((n*b+c:Nat):Int)=((x+1000000000*R:Nat):Int):=(by rw[L,a1]);simp only[Int.natCast_add,Int.natCast_mul]at this;grind
   .rintro⟨r,q⟩ ⟨R,rfl,I,u,g,w⟩;dsimp only;have ac:=H8 g.u32;obtain⟨Q,W⟩:∃Q:Nat,Al q=Q:=⟨(Al q).toNat,ω⟩;rw[W]at w;have z:Q*n+R=m:=(by have:((Q*n+R:Nat):Int)=(m:Int):=(by simp only[Int.natCast_add,Int.natCast_mul];exact w);omega);have o:m / n=Q:=(by rw[<-z,Nat.mul_comm,Nat.mul_add_div ω,Nat.div_eq_of_lt I];rfl);have N:m % n=R:=(by rw[<-z,Nat.mul_comm,Nat.mul_add_mod,Nat.mod_eq_of_lt I]);rw[Vm q ω,Ad,M0 g W,o,N]
theorem A7e (m n:Nat) (g:Bs m<137438953472) (f:Bs n<137438953472):Aao (Ah m) (Ah n)=some (Ah (Nat.gcd m n)):=by
 unfold Aao;refine Ki (λ(a,b)=>∃x y:Nat,a=Ah x/\b=Ah y/\Bs x<137438953472/\Bs y<137438953472/\Nat.gcd x y=Nat.gcd m n) (λ(_,b)=>(Al b).toNat) (λr=>r=Ah (Nat.gcd m n)) ⟨m,n,rfl,rfl,g,f,rfl⟩ ?_ (by rintro e rfl;rfl);rintro⟨a,b⟩ ⟨x,y,rfl,rfl,q,d,o⟩;by_cases c:y=0
 .subst c;refine .inr ⟨Ah x,by rw[Hv];rfl,?_⟩;rw[<-o,Nat.gcd_zero_right]
 .have h:(Ah y).length≠0:=λe=>Kj c (Fr.1 e);have i:decide (((Ah y).length:Int)>0)=true:=As ω;refine .inl ⟨(Ah y,Ah (x % y)),?_,⟨y,x % y,rfl,rfl,d,by have:=Ja (Nat.mod_le x y);omega,?_⟩,?_⟩
  .simp only[i,Ak,Amo x y q d c,Ad]
  .rw[<-o,Nat.gcd_comm y,<-Nat.gcd_rec,Nat.gcd_comm]
  .simp only[Gc];have:=Nat.mod_lt x (ω:y>0);omega
def S9 (b:Bool) (n d:Nat):Ao:=if d=0 then ⟨false,[],[1]⟩ else Cg b n d
theorem Aur (h:n≠0):(Ah n).length≠0:=λe=>Kj h (Fr.1 e)
theorem Aus (c:Bool) (a b:List Int) (w:Nu a) (hb:Nu b) (l:a.length<137438953400) (k:b.length<137438953400):Nm c a b=some (S9 c (Al a).toNat (Al b).toNat):=by
 unfold Nm;have B:=Ahc w;have C:=Ahc hb;rw[Auq a w ω,Ad,Auq b hb ω,Ad];generalize (Al a).toNat=n at *;generalize (Al b).toNat=d at *;by_cases g:n=0
 .subst g;have:S9 c 0 d=⟨false,[],[1]⟩:=(by unfold S9;split <;> simp[Cg]);rw[this,Hv];rfl
 .have i:=Aur g;by_cases o:d=0
  .subst o;simp only[Cu (ω:((Ah n).length:Int)≠0),Ap,Hv,Ad];rfl
  .have j:=Aur o;have f:Nat.gcd n d≠0:=(by have:=Nat.gcd_pos_of_pos_left d (ω:0<n);omega);have s:Bs (Nat.gcd n d)<=Bs n:=Ja (Nat.gcd_le_left d (ω:0<n));simp only[Cu (ω:((Ah n).length:Int)≠0),Ap,Cu (ω:((Ah d).length:Int)≠0),Ad,A7e n d ω ω];rw[S9,Ar o,Cg,Ar g];have r:(bif (((Ah (Nat.gcd n d)).length:Int) != (1:Int)) then some true else ((Ag (Ah (Nat.gcd n d)) 0).bind λh=>some (h != (1:Int))))=some (decide (Nat.gcd n d≠1)):=by
    have e:=Amk (Nat.gcd n d);unfold Uq at e;by_cases q:(Ah (Nat.gcd n d)).length=1
    .rw[Ef (ω:((Ah (Nat.gcd n d)).length:Int)=1),Ak]at e;rw[G1 (ω:((Ah (Nat.gcd n d)).length:Int)=1),Ap];cases A:Ag (Ah (Nat.gcd n d)) 0 with| none=>rw[A]at e;cases e| some v=>rw[A]at e;simp only[Ad]at e ⊢;have e:=Eu e;congr 1;rw[bne,e];simp
    .rw[Cu (ω:((Ah (Nat.gcd n d)).length:Int)≠1),Ap]at e;rw[F7 (ω:((Ah (Nat.gcd n d)).length:Int)≠1),Ak];have e:=Eu e;have:Nat.gcd n d≠1:=(by simpa using e.symm);rw[As this]
   rw[r,Ad];by_cases u:Nat.gcd n d=1
   .rw[Aw (by simpa using u),Ap,u];simp
   .rw[As u,Ak,Amo n _ ω ω f,Ad,Amo d _ ω ω f,Ad]
theorem A7f (a:Ao):S9 a.N (Al a.U).toNat (Al a.B).toNat=Cg (sv a) (nv a) (dv a):=by
 unfold S9 sv nv dv;by_cases b:(Al a.U).toNat=0
 .simp[b,Cg]
 .by_cases d:(Al a.B).toNat=0
  .simp[d,Cg]
  .simp[b,d]
theorem Yb (a:Ao) (k:Nat) (h:RB k a) (d:k<137438953400):Nl a=some (Cg (sv a) (nv a) (dv a)):=by unfold Nl;have:=h.nl;have:=h.dl;rw[Aus _ _ _ h.num h.den ω ω,Ad,A7f]
theorem Acq (s:Bool) (n d:Nat) (h:d≠0):(Cg s n d).U=Ah (nv (Cg s n d))/\(Cg s n d).B=Ah (dv (Cg s n d))/\(Cg s n d).N=sv (Cg s n d):=by
 obtain⟨i,o,q,r⟩:=Ahg s n d h;rw[i,o];by_cases e:n=0
 .subst e;rw[r rfl,Acm];have b:d / Nat.gcd 0 d=1:=(by rw[Nat.gcd_zero_left];exact Nat.div_self ω);rw[b,Nat.zero_div,Hv,X6];exact⟨rfl,rfl,rfl⟩
 .rw[q e];simp[Cg,e]
theorem Acr (a:Ao):∃g:Nat,g≠0/\nv a=g*nv (Cg (sv a) (nv a) (dv a))/\dv a=g*dv (Cg (sv a) (nv a) (dv a))/\sv (Cg (sv a) (nv a) (dv a))=sv a:=by
 obtain⟨e,h,i,o⟩:=Ahg (sv a) (nv a) (dv a) (F2 a);have r:=F2 a;have s:0<Nat.gcd (nv a) (dv a):=Nat.gcd_pos_of_pos_right _ ω;refine⟨Nat.gcd (nv a) (dv a),ω,?_,?_,?_⟩
 .rw[e];exact (Nat.mul_div_cancel' (Nat.gcd_dvd_left _ _)).symm
 .rw[h];exact (Nat.mul_div_cancel' (Nat.gcd_dvd_right _ _)).symm
 .by_cases d:nv a=0
  .rw[o d];unfold nv at d;unfold sv;split at d
   .rename_i q;rw[Au q]
   .omega
  .exact i d
theorem A7g (s:Bool) (n d:Nat) (h:d≠0):S9 s n d=Cg s n d:=by rw[S9,Ar h]
theorem Yc (b:Bool) (n d:Nat) (f:Bs n<137438953400) (e:Bs d<137438953400) (c:d≠0):Nm b (Ah n) (Ah d)=some (Cg b n d):=by unfold Bs at f e;rw[Aus b _ _ (F0 n).u32 (F0 d).u32 f e,Gc,Gc,Int.toNat_natCast,Int.toNat_natCast,A7g _ _ _ c]
theorem Aut (h:RB k a):RB (k+1) (Cg (sv a) (nv a) (dv a)):=M4 _ _ _ _ h.nv h.dv ω
theorem Ahj (h:RB k a):Bs (nv (Cg (sv a) (nv a) (dv a)))<=k+1/\Bs (dv (Cg (sv a) (nv a) (dv a)))<=k+1:=by
 obtain⟨g,q,d,e,_⟩:=Acr a;have i:=h.nv;have o:=h.dv;refine⟨Nat.le_trans (Ja ?_) i,Nat.le_trans (Ja ?_) o⟩
 .exact Nat.le_trans (Nat.le_mul_of_pos_left _ ω) (Nat.le_of_eq d.symm)
 .exact Nat.le_trans (Nat.le_mul_of_pos_left _ ω) (Nat.le_of_eq e.symm)
theorem A7h (a b:Ao) (j k:Nat) (e:RB j a) (hb:RB k b) (D:j<34359738368) (E:k<34359738368):Ub a b=some (Cg (sv a != sv b) (nv a*nv b) (dv a*dv b)):=by unfold Ub;rw[Yb a j e ω,Ad,Yb b k hb ω,Ad];obtain⟨g,o,r,v,w⟩:=Acr a;obtain⟨h,A,B,C,q⟩:=Acr b;obtain⟨f1,f2,f3⟩:=Acq (sv a) (nv a) (dv a) (F2 a);obtain⟨l,i,f⟩:=Acq (sv b) (nv b) (dv b) (F2 b);obtain⟨y,x⟩:=Ahj e;obtain⟨u,s⟩:=Ahj hb;rw[f1,f2,f3,l,i,f,w,q];generalize F:Cg (sv a) (nv a) (dv a)=c at *;generalize G:Cg (sv b) (nv b) (dv b)=d at *;have H:=H5 (nv c) (nv d);have I:=H5 (dv c) (dv d);have z:dv c*dv d≠0:=Nat.mul_ne_zero (F2 c) (F2 d);rw[X9 _ _ ω ω,Ad,X9 _ _ ω ω,Ad,Yc _ _ _ ω ω z,Ad];rw[r,v,B,C,show g*nv c*(h*nv d)=g*h*(nv c*nv d) by grind,show g*dv c*(h*dv d)=g*h*(dv c*dv d) by grind,S8 _ _ _ _ (Nat.mul_ne_zero o A)]
theorem A7i (l:Bool) (c j:Nat) (k:Bool) (b i g h:Nat) (hg:g≠0) (hh:h≠0):Kn l (g*c) (g*j) k (h*b) (h*i)=g*h*Kn l c j k b i/\L0 l (g*c) (g*j) k (h*b) (h*i)=L0 l c j k b i:=by
 have u:g*c*(h*i)=g*h*(c*i):=by grind
 have s:h*b*(g*j)=g*h*(b*j):=by grind
 have d:(g*h*(b*j)<=g*h*(c*i))↔(b*j<=c*i):=Nat.mul_le_mul_left_iff (Nat.mul_pos ω ω);unfold Kn L0;rw[u,s];by_cases q:l=k
 .simp only[Au q];exact⟨by rw[Nat.mul_add],trivial⟩
 .simp only[Ar q];by_cases f:b*j<=c*i
  .simp only[Au f,Au (d.2 f)];exact⟨by rw[Nat.mul_sub],trivial⟩
  .simp only[Ar f,Ar λh=>f (d.1 h)];exact⟨by rw[Nat.mul_sub],trivial⟩
theorem A7j (a b:Ao) (j k:Nat) (o:RB j a) (hb:RB k b) (I:j<34359738368) (J:k<34359738368) : R3 a b=some (Cg (L0 (sv a) (nv a) (dv a) (sv b) (nv b) (dv b)) (Kn (sv a) (nv a) (dv a) (sv b) (nv b) (dv b)) (dv a*dv b)):=by
 unfold R3;rw[Yb a j o ω,Ad,Yb b k hb ω,Ad];obtain⟨g,r,w,C,F⟩:=Acr a;obtain⟨h,v,G,H,y⟩:=Acr b;obtain⟨f1,f2,f3⟩:=Acq (sv a) (nv a) (dv a) (F2 a);obtain⟨x,u,s⟩:=Acq (sv b) (nv b) (dv b) (F2 b);obtain⟨E,D⟩:=Ahj o;obtain⟨B,A⟩:=Ahj hb;rw[f1,f2,f3,x,u,s,F,y];generalize K:Cg (sv a) (nv a) (dv a)=c at *;generalize L:Cg (sv b) (nv b) (dv b)=d at *;have M:=H5 (nv c) (dv d);have N:=H5 (nv d) (dv c);have P:=H5 (dv c) (dv d);have Q:=Ab5 (nv c*dv d) (nv d*dv c);have R:=Ja (Nat.sub_le (nv c*dv d) (nv d*dv c));have T:=Ja (Nat.sub_le (nv d*dv c) (nv c*dv d));have z:dv c*dv d≠0:=Nat.mul_ne_zero (F2 c) (F2 d);obtain⟨q,l⟩:=A7i (sv a) (nv c) (dv c) (sv b) (nv d) (dv d) g h r v;rw[w,C,G,H,q,l,show g*dv c*(h*dv d)=g*h*(dv c*dv d) by grind,S8 _ _ _ _ (Nat.mul_ne_zero r v)];rw[X9 _ _ ω ω,Ad,X9 _ _ ω ω,Ad,X9 _ _ ω ω,Ad];unfold L0 Kn;by_cases i:sv a=sv b
 .have e:(sv a==sv b)=true:=(by rw[i];exact beq_self_eq_true _);rw[e,Ak,A65 _ _ ω ω,Ad,Yc _ _ _ ω ω z,Ad,Au i,Au i]
 .have e:(sv a==sv b)=false:=(by simpa using i);rw[e,Ap,Aco,S4 _ _ ω ω,Ad,Ar i,Ar i];by_cases f:nv d*dv c<=nv c*dv d
  .rw[As (show Fk (nv c*dv d) (nv d*dv c)>=0 by rw[Fk,Ar ω];split <;> decide),Ak,Ahh _ _ ω f,Ad,Yc _ _ _ ω ω z,Ad,Au f,Au f]
  .rw[Aw (show ¬Fk (nv c*dv d) (nv d*dv c)>=0 by rw[Fk,Au ω];decide),Ap,Ahh _ _ ω ω,Ad,Yc _ _ _ ω ω z,Ad,Ar f,Ar f]
theorem A7k (z:Int) (d : -9223372036854775808<=z) (e:z<=9223372036854775807):Qj z=some (Cg (decide (z<0)) z.natAbs 1):=by
 unfold Qj;have j:=Oy (n:=z.natAbs) ω;have c:([1]:List Int)=Ah 1:=X6.symm;by_cases h:z<0
 .have i:Ac (z+1)=z+1:=B4 ω ω;have g:Ac (0-(z+1))=0-(z+1):=B4 ω ω;have f:Ba (0-(z+1))=0-(z+1):=Dr ω ω;have b:Ba (0-(z+1)+1)=((z.natAbs:Nat):Int):=(by rw[Ba,Dr ω ω];omega);rw[As h,Ak,i,g,f,b,Acn,Q8 _ ω,Ad,c,Yc _ _ _ ω (by rw[Oz];decide) δ,Ad]
 .have b:Ba z=((z.natAbs:Nat):Int):=(by rw[Ba,Dr ω ω];omega);rw[Aw h,Ap,b,Acn,Q8 _ ω,Ad,c,Yc _ _ _ ω (by rw[Oz];decide) δ,Ad]
theorem Ahk (s:Bool) (n d:Nat) (e:d≠0):∃g:Nat,g≠0/\n=g*nv (Cg s n d)/\d=g*dv (Cg s n d)/\(n≠0->sv (Cg s n d)=s)/\(n=0->sv (Cg s n d)=false):=by obtain⟨h,i,o,q⟩:=Ahg s n d e;have r:0<Nat.gcd n d:=Nat.gcd_pos_of_pos_right _ ω;exact⟨Nat.gcd n d,ω,by rw[h];exact (Nat.mul_div_cancel' (Nat.gcd_dvd_left _ _)).symm,by rw[i];exact (Nat.mul_div_cancel' (Nat.gcd_dvd_right _ _)).symm,o,q⟩
theorem A7l (s t:Bool) (n d m e:Nat) (o:d≠0) (k:e≠0):Cg (sv (Cg s n d) != sv (Cg t m e)) (nv (Cg s n d)*nv (Cg t m e)) (dv (Cg s n d)*dv (Cg t m e))=Cg (s != t) (n*m) (d*e):=by
 obtain⟨g,r,u,v,w,_⟩:=Ahk s n d o;obtain⟨h,A,B,C,q,_⟩:=Ahk t m e k;have l:Cg (s != t) (n*m) (d*e)=Cg (sv (Cg s n d) != sv (Cg t m e)) (n*m) (d*e):=by apply Auo;intro b;have i:n≠0:=λe=>b (by rw[e];simp);have j:m≠0:=λe=>b (by rw[e];simp);rw[w i,q j]
 rw[l];generalize Cg s n d=c at *;generalize Cg t m e=f at *;rw[u,v,B,C,show g*nv c*(h*nv f)=g*h*(nv c*nv f) by grind,show g*dv c*(h*dv f)=g*h*(dv c*dv f) by grind,S8 _ _ _ _ (Nat.mul_ne_zero r A)]
def Ia (n:Nat):Nat->Nat
 | 0=>1
 | k+1=>Ia n k*(n-k)
def fct:Nat->Nat
 | 0=>1
 | k+1=>fct k*(k+1)
theorem Yd:∀k,fct k≠0
 | 0=>δ
 | k+1=>Nat.mul_ne_zero (Yd k) ω
theorem A7m (h:n<k):Ia n k=0:=by
 induction k with
 | zero=>omega
 | succ k ih=>
  simp only[Ia];rcases Cf n k with d|d
  .rw[ih d];simp
  .have:n-k=0:=ω;rw[this];simp
theorem A7n (n k:Nat) (b:n<1000000000):Bs (Ia n k)<=k+1:=by induction k with| zero=>simp[Ia,Oz]| succ k ih=>have d:=H5 (Ia n k) (n-k);have e:Bs (n-k)<=1:=Kk ζ;simp only[Ia];omega
theorem A7o (k:Nat) (d:k<1000000000):Bs (fct k)<=k+1:=by induction k with| zero=>simp[fct,Oz]| succ k ih=>have e:=H5 (fct k) (k+1);have h:Bs (k+1)<=1:=Kk ζ;simp only[fct];have:=ih ω;omega
theorem Auu (h:n<1000000000):Bs n<=1:=Kk (by simpa using h)
theorem A7p (n k:Nat) (b:n<1000000000) (d:k<=64):RB (k+1) (Cg false (Ia n k) (fct k)) := M4 _ _ _ _ (A7n n k b) (A7o k ω) ω
theorem Auv (a:Ao):Ao.mk a.N a.U a.B=a:=by cases a;rfl
theorem Auw (n k:Nat) (z:n<1000000000) (v:k<=64):Ut (n:Int) (k:Int)=some (Cg false (Ia n k) (fct k)):=by
 unfold Ut;have A:Ei 1=some (Cg false (Ia n 0) (fct 0)):=X7 1 δ δ;rw[A,Ad];refine Ki (λ(i,s,b,c)=>∃q:Nat,i=q/\q<=k/\q<=n/\Ao.mk s b c=Cg false (Ia n q) (fct q)) (λ(i,_,_,_)=>k-i.toNat) (λe=>match e with|.inl r=>r=Cg false (Ia n k) (fct k) | .inr (s,b,c)=>Ao.mk s b c=Cg false (Ia n k) (fct k)) ⟨0,rfl,ω,ω,Auv _⟩ ?_ ?_
 .rintro⟨i,s,b,c⟩ ⟨q,rfl,w,y,d⟩;rcases Cf q k with h|h
  .simp only[As (ω:(q:Int)<(k:Int)),Ak];by_cases o:n=q
   .subst o;refine .inr ⟨.inl (Cg false 0 1),?_,?_⟩
    .rw[Ef rfl,Ak,X7 0 δ δ];rfl
    .show Cg false 0 1=_;rw[A7m h,Acm,Acm]
   .have u:Ac ((n:Int)-(q:Int))=((n-q:Nat):Int):=ξ;have l:Ac ((q:Int)+1)=((q+1:Nat):Int):=M3 h ω;have x:Ql ((n-q:Nat):Int) ((q+1:Nat):Int)=some (Cg false (n-q) (q+1)):=(by rw[Aun _ _ ω ω ω ω ω,Aw (ω:¬((n-q:Nat):Int)<0),Aw (ω:¬((q+1:Nat):Int)<0)];rfl);have g:RB 1 (Cg false (n-q) (q+1)):=M4 _ _ _ _ (Auu ω) (Auu ω) ω;have j:=X8 _ _ _ _ (A7p n q z ω) g ω ω;rw[A7l false false (Ia n q) (fct q) (n-q) (q+1) (Yd q) ω]at j;refine .inl ⟨(((q+1:Nat):Int),(Cg false (Ia n (q+1)) (fct (q+1))).N,(Cg false (Ia n (q+1)) (fct (q+1))).U,(Cg false (Ia n (q+1)) (fct (q+1))).B),?_,⟨q+1,rfl,ω,ω,Auv _⟩,ζ⟩;rw[Cu ω,Ap,u,l,x,Ad,d,j,Ad];rfl
  .have:q=k:=ω;subst this;refine .inr ⟨.inr (s,b,c),ψ,d⟩
 .rintro (e|⟨s,b,c⟩) f
  .simp only at f ⊢;rw[f]
  .simp only at f ⊢;rw[f]
theorem A7q {α:Type} [DecidableEq α] (l m:List α) (b:l.length=m.length):(decide (l=m))=l.zipIdx.all (λq=>decide (m[q.2]? = some q.1)):=by
 rw[Bool.eq_iff_iff,Dk];constructor
 .rintro rfl;exact Als λj x d=>by simpa using d
 .intro h;apply ext_getElem?;intro j;cases d:l[j]? with| none=>rw[List.getElem?_eq_none_iff]at d;rw[Lt ω]| some x=>have:=Jo h d;rw[Dk]at this;rw[this]
theorem A7r {R:Type} (l m:List Int) (b:l.length<1099511627776) (h:l.length=m.length) {J:Bool⊕Unit->Option R} {rt rf:R} (o:J (.inl false)=some rf) (r:J (.inr ())=some rt) : (Am (S:=Int) (E:=(Bool⊕Unit)) (λd=>bif d<(l.length:Int) then ((Ag l d).bind λs=>(Ag m d).bind λu=>bif (s != u) then some (.inr (.inl false)) else some (.inl (Ac (d+1)))) else some (.inr (.inr ()))) 0).bind J=some (bif decide (l=m) then rt else rf):=by
 rw[A7q l m h];refine Xw l (λq=>decide (m[q.2]? = some q.1)) (λj=>(j:Int)) rfl ω (rt:=rt) (rf:=rf) ?_ ?_
 .intro j x v _ w A B;have C:j<m.length:=(by have:=Ek v;omega);have i:m[j]? = some m[j]:=Bq C;generalize m[j]=y at i;simp only[w,A,B,Ak,Ad,Br rfl i,i,Option.some.injEq];by_cases e:x=y
  .rw[G1 e,As e.symm];exact⟨λ_=>rfl,λh=>by cases h⟩
  .rw[F7 e,Aw λh=>e h.symm];exact⟨nofun,λ_=>⟨.inl false,rfl,o⟩⟩
 .intro h _;exact⟨.inr (),by simp only[h];rfl,r⟩
theorem Aux (l m:List Int) (b:l.length<1099511627776):Pi l m=some (decide (l=m)):=by
 unfold Pi;by_cases h:l.length=m.length
 .rw[G1 ω];simp only[Ap];refine (A7r l m b h (rt:=true) (rf:=false) ?_ ?_).trans (by rw[Ab7]) <;> rfl
 .rw[F7 ω,Aw λe=>h (by rw[e])];rfl
def Ye (a b:Ao):Bool:=a.N==b.N&&decide (a.U=b.U)&&decide (a.B=b.B)
theorem Auy (a b:Ao):Ye a b=true↔a=b:=by
 unfold Ye;simp only[Cv,beq_iff_eq,Dk];constructor
 .rintro⟨⟨d,e⟩,h⟩;cases a;cases b;simp_all
 .rintro rfl;simp
def Acs (c:Ao):Bool:=Ye (Cg (sv c) (nv c) (dv c)) c && !(nv c==0)
structure TSz (t:An):Prop where
 co:RB 1048576 t.C
 mo:MSz t.M
def Vn (l:List An) (x:An) (j:Nat):Bool:=j==0||(match l[j-1]? with|some y=>decide (Fg y.M x.M<0) | none=>false)
def Yf (data:List Aj) (vars:List Af) (res:Af) (l:List An) (t:An) (j:Nat):Bool:=Acs t.C&&Jw data vars res t.M&&Vn l t j
def Jr (data:List Aj) (vars:List Af) (res:Af) (p:List An):Bool:=decide (p.length<=1000)&&p.zipIdx.all (λq=>Yf data vars res p q.1 q.2)
theorem A7s {S E:Type} (F:A7->A7->Option Int) (l:List An) (g:∀y∈l,∀x,F y.M x=some (Fg y.M x)) {x:An} {j:Nat} (r:l[j]? = some x) (i:l.length<4611686018427387904) (c b:Option (S⊕E)) : (bif decide ((j:Int)>0) then ((Ag l (Ac ((j:Int)-1))).bind λf=>(F f.M x.M).bind λd=>bif decide (d>=0) then c else b) else b)=bif Vn l x j then b else c:=by
 have u:=Ek r;unfold Vn;by_cases h:j=0
 .subst h;rfl
 .rw[As ω];have e:Ac ((j:Int)-1)=((j-1:Nat):Int):=ξ;have o:l[j-1]? = some l[j-1]:=Bq ω;rw[e,Br rfl o,o];have s:(j==0)=false:=(by simpa using h);simp only[Ak,Ad,s,Bool.false_or,g _ (getElem_mem (ω:j-1<l.length))];by_cases q:Fg l[j-1].M x.M<0
  .rw[Aw ω,As q];rfl
  .rw[As ω,Aw q];rfl
theorem A7t (s:Bool) (n:Nat):(Lh s n==0)=(n==0):=by
 unfold Lh;by_cases h:n=0
 .rw[Au h];subst h;rfl
 .rw[Ar h];have:(n==0)=false:=(by simpa using h);rw[this];cases s <;> rfl
theorem A7u {data:List Aj} {vars:List Af} {res:Af} (W:Ox data vars res) {b1:List (ByteArray×Int)} (b2:List (ByteArray×List Ax)) (U:E4 data vars res b1) (p:List An) (Q:∀t∈p,TSz t) :
  ∃B,Z9 p b1 b2 data vars res.G res.U res.R=some (Jr data vars res p,B)/\E4 data vars res B:=by
 unfold Z9 Jr
 by_cases A:p.length<=1000
 .rw[Aw ω,As A,Bool.true_and]
  simp only[Ap]
  obtain⟨r,V,S⟩:=Alu (M:=List (ByteArray×Int)) (R:=Bool×List (ByteArray×Int)) p (λq=>Yf data vars res p q.1 q.2) (λj o=>((j:Int),o)) (E4 data vars res)
   (λr=>E4 data vars res r.2/\r.1=true) (λr=>E4 data vars res r.2/\r.1=false) b1
   (s0:=((0:Int),b1))
   (step:=(λ(b,g)=>
    bif b<(p.length:Int) then (
    (Ag p b).bind λd=>
    (Kg d.C).bind λf=>
    (show OB from
    bif (f.N==d.C.N) then (
    (Pi f.U d.C.U).bind λi=>
    bif i then (
    (Pi f.B d.C.B).bind λC=>
    some C)
    else some false)
    else some false).bind λE=>
    bif (!E) then some (.inr (.inl (false,g)))
    else (
    (I1 f).bind λD=>
    bif (D==(0:Int)) then some (.inr (.inl (false,g)))
    else (
    (W4 d.M g b2 data vars res.G res.U res.R).bind λv=>
    bif (!v.1) then some (.inr (.inl (false,v.2)))
    else (
    bif b>(0:Int) then (
    (Ag p (Ac (b-1))).bind λK=>
    (Sb K.M d.M).bind λP=>
    bif P>=(0:Int) then some (.inr (.inl (false,v.2)))
    else some (.inl ((Ac (b+1)),v.2)))
    else some (.inl ((Ac (b+1)),v.2))))))
    else some (.inr (.inr g)):Int×List (ByteArray×Int)->Option ((Int×List (ByteArray×Int))⊕((Bool×List (ByteArray×Int))⊕List (ByteArray×Int)))))
   (J:=(λz=>match z with
    | .inl (I,G)=>some (I,G)
    | .inr L=>some (true,L)))
   rfl U ω (by
    intro j t o u T _ w H F
    have c:=Q t (Bz T)
    obtain⟨B,d1,d2⟩:=A6p b2 W u t.M c.mo
    have s:∀l:List Int,l=(Cg (sv t.C) (nv t.C) (dv t.C)).U\/l=(Cg (sv t.C) (nv t.C) (dv t.C)).B->l.length<1099511627776:=by
     intro l A
     have q:=M4 (sv t.C) (nv t.C) (dv t.C) 1048577 c.co.nv c.co.dv ω
     have:=q.nl
     have:=q.dl
     rcases A with rfl|rfl <;> omega
    have k:(bif ((Cg (sv t.C) (nv t.C) (dv t.C)).N==t.C.N) then ((Pi (Cg (sv t.C) (nv t.C) (dv t.C)).U t.C.U).bind λi=>bif i then ((Pi (Cg (sv t.C) (nv t.C) (dv t.C)).B t.C.B).bind λC=>some C) else some false) else some false)=some (Ye (Cg (sv t.C) (nv t.C) (dv t.C)) t.C):=by
     unfold Ye
     rw[Aux _ _ (s _ (.inl rfl)),Aux _ _ (s _ (.inr rfl))]
     cases ((Cg (sv t.C) (nv t.C) (dv t.C)).N==t.C.N) <;> cases decide ((Cg (sv t.C) (nv t.C) (dv t.C)).U=t.C.U) <;> rfl
    simp only[w,H,F,Ak,Ad,Ahd t.C 1048576 c.co ω,k,A7s Sb p (λy X x=>Aub y.M x (Q y X).mo) T ω,Yf,Acs]
    cases N:Ye (Cg (sv t.C) (nv t.C) (dv t.C)) t.C with
    | false=>exact⟨nofun,λ_=>⟨_,rfl,_,rfl,u,rfl⟩⟩
    | true=>
     have e:=(Auy _ _).1 N
     simp only[Fz,Ap,Bool.true_and]
     rw[e,Ahe t.C 1048576 c.co ω,Ad,A7t]
     cases (nv t.C==0) with
     | true=>exact⟨nofun,λ_=>⟨_,rfl,_,rfl,u,rfl⟩⟩
     | false=>
      simp only[Ap,d1,Ad,Bool.not_false,Bool.true_and]
      cases Jw data vars res t.M with
      | false=>exact⟨nofun,λ_=>⟨_,rfl,_,rfl,d2,rfl⟩⟩
      | true=>
       cases Vn p t j with
       | true=>exact⟨λ_=>⟨B,rfl,d2⟩,λh=>by cases h⟩
       | false=>exact⟨nofun,λ_=>⟨_,rfl,_,rfl,d2,rfl⟩⟩) (by
    intro o u w _
    exact⟨.inr o,by simp only[w];rfl,_,rfl,u,rfl⟩)
  refine⟨r.2,?_,?_⟩
  .have e:some r=some (p.zipIdx.all λq=>Yf data vars res p q.1 q.2,r.2):=by
    rcases S with⟨w,H,F⟩|⟨w,H,F⟩
    .rw[w,<-F]
    .rw[w,<-F]
   rw[<-e]
   exact V
  .rcases S with⟨w,H,F⟩|⟨w,H,F⟩ <;> exact H
 .rw[As ω,Aw A]
  exact⟨b1,rfl,U⟩
structure CSz (x:Ck):Prop where
 ds:DSz x.D
 nv:x.V.length<=1048576
 vs:∀t∈x.V,B0 t<=1048576
 rs:B0 x.E<=1048576
def G4 (data:List Aj) (t:Af):Bool:=Fe data 0 t&&decide (B0 t<=200)
def Ij (x:Ck):Prop:=x.V.length<=3000/\H9 x.D/\G4 x.D x.E=true/\x.V.all (G4 x.D)=true
theorem Ij.ctx {x:Ck} (h:Ij x) (hz:CSz x):Ox x.D x.V x.E:=by
 refine⟨h.2.1,hz.ds.sz.short,λv t d=>?_,h.1⟩;have good:∀t,G4 x.D t=true->B0 t<=200:=λt h=>by simp only[G4,Cv,Dk]at h;exact h.2
 unfold D3 at d;by_cases hv:v = -1
 .rw[Au hv]at d;cases d;exact good _ h.2.2.1
 .rw[Ar hv]at d;exact good t (Gt.1 h.2.2.2 t (Hg d).2.2.2)
mutual
def C1:Az->Nat
 | ⟨_,_,l⟩=>1+Ec l
def Ec:List Az->Nat
 | []=>0
 | x::xs=>C1 x+Ec xs
end
variable {l:List Az}
theorem Mj (t:Az):C1 t=1+Ec t.K:=by cases t;simp only[C1]
theorem Yg (t:Az):1<=C1 t:=by rw[Mj];omega
theorem M5 {a:Az} (h:a∈l):C1 a<=Ec l:=by
 induction l with
 | nil=>cases h
 | cons x xs ih=>
  simp only[Ec];rcases Gl.1 h with rfl|h
  .omega
  .have:=ih h;omega
theorem Vo (l:List Az):l.length<=Ec l:=by induction l with| nil=>simp| cons x xs ih=>simp only[Ec,D2];have:=Yg x;omega
theorem Auz (l m:List Az):Ec (l++m)=Ec l+Ec m:=by induction l with| nil=>simp[Ec]| cons x xs ih=>simp only[D4,Ec,ih];omega
theorem Au0 {j:Nat} {x:Az} (h:l[j]? = some x):Ec (l.take (j+1))=Ec (l.take j)+C1 x:=by rw[Cz h,Auz];simp[Ec]
theorem Au1 (l:List Az) (j:Nat):Ec (l.take j)<=Ec l:=by have:=Auz (l.take j) (l.drop j);rw[take_append_drop]at this;omega
theorem A7v (k:Nat) (l:List Az) (c:Nat) (I:l.length<1099511627776) (A:c<=5000) (ih:∀(a:Az),a∈l->∀f:Nat,f<=c->∃q:Int,Pg k a f=some (decide (C1 a<=f),q)/\(C1 a<=f->q=(f:Int)-C1 a)) : ∃p:Int×Int,Xe (k+2) l c=some p/\(Ec l<=c->p.1 = -1/\p.2=(c:Int)-Ec l)/\(¬Ec l<=c->0<=p.1):=by
 rw[Xe];refine Ej (λ(e,d)=>∃j:Nat,e=j/\j<=l.length/\Ec (l.take j)<=c/\d=(c:Int)-Ec (l.take j)) (λ(e,_)=>l.length-e.toNat) (λz=>match z with|.inl (i,_)=>0<=i/\¬Ec l<=c | .inr d=>Ec l<=c/\d=(c:Int)-Ec l) ⟨0,rfl,ω,by simp[Ec],by simp[Ec]⟩ ?_ ?_
 .rintro⟨e,d⟩ ⟨j,rfl,C,u,v⟩;have v:d=_:=v;subst v;rcases Cf j l.length with h|h
  .have o:l[j]? = some l[j]:=Bq h;generalize l[j]=x at o;obtain⟨g,y,s⟩:∃g:Nat,(c:Int)-Ec (l.take j)=g/\g<=c:=⟨c-Ec (l.take j),ω,ω⟩;obtain⟨q,G,E⟩:=ih x (Bz o) g s;have B:=Au0 o;have D:=Au1 l (j+1);simp only[As (ω:(j:Int)<(l.length:Int)),Ak,Br rfl o,Ad,Aaq,y,G,C6 h ω];by_cases w:C1 x<=g
   .rw[As w];have J:=E w;exact .inl ⟨_,rfl,⟨j+1,rfl,ω,ω,by show q=_;omega⟩,ζ⟩
   .rw[Aw w];exact .inr ⟨.inl ((j:Int),q),rfl,ω,ω⟩
  .have:j=l.length:=ω;subst this;rw[Db]at *;exact .inr ⟨.inr ((c:Int)-Ec l),ψ,u,rfl⟩
 .rintro (⟨i,b⟩|d) r
  .exact⟨(i,b),rfl,λh=>absurd h r.2,λ_=>r.1⟩
  .exact⟨(-1,d),rfl,λ_=>⟨rfl,r.2⟩,λh=>absurd r.1 h⟩
theorem A7w:∀(left:Nat) (t:Az) (k:Nat),left<=5000->4*left+4<=k->C1 t<1099511627776->∃c:Int,Pg k t left=some (decide (C1 t<=left),c)/\(C1 t<=left->c=(left:Int)-C1 t):=by
 intro left;induction left using Nat.strongRecOn with
 | _ left l=>
  intro t k y B C;have hp:=Yg t;have s:=Mj t;have q:=Vo t.K;obtain⟨j,rfl⟩:∃j,k=j+1:=⟨k-1,ω⟩;cases left with
  | zero=>refine⟨-1,?_,λh=>ω⟩;rw[Pg,Aw (ω:¬C1 t<=0)];rfl
  | succ f=>
   have x:Ac (((f+1:Nat):Int)-1)=(f:Int):=ξ;obtain⟨g,rfl⟩:∃g,j=g+3:=⟨j-3,ω⟩;obtain⟨⟨i,c⟩,o,r,v⟩:=A7v g t.K f ω ω (λa w b u=>by have:=M5 w;exact l b ω a g ω ω ω);rw[Pg,x,Aw ω];simp only[Ap,Aap,o,Ad];by_cases e:Ec t.K<=f
   .obtain⟨d,A⟩:=r e;simp only at d A;refine⟨c,?_,λ_=>ω⟩;rw[Aw ω,As ω];rfl
   .have d:=v e;simp only at d;refine⟨c,?_,λh=>ω⟩;rw[As ω,Aw ω];rfl
mutual
def Hi (data:List Aj):Az->Af->Bool
 | ⟨k,n,d⟩,t=>
  if t.G=1 then k==3&&decide (-1099511627776<=n)&&decide (n<=1099511627776)&&d.length==0
  else if t.G=2 then k==2&&(n==0||n==1)&&d.length==0
  else if t.G=3 then k==1&&n==0&&d.length==0
  else if t.G=6 then k==4&&n==0&&Ib data d t.R
  else if t.G=5 then k==5&&decide (0<=n)&&decide (n<8)&&(match Jp data t n with|some l=>Ib data d l|none=>false)
  else if t.G=7 then k==6&&n==0&&decide (d.length<=4096)&&(match t.R with|u::_=>Vp data d u | []=>false)
  else if t.G=8 then k==7&&n==0&&Ib data d t.R
  else k==8&&decide (0<=n)&&decide (n<64)&&d.length==0
def Ib (data:List Aj):List Az->List Af->Bool
 | [],[]=>true
 | x::xs,t::d=>Hi data x t&&Ib data xs d
 | [],_::_=>false
 | _::_,[]=>false
def Vp (data:List Aj):List Az->Af->Bool
 | [],_=>true
 | x::xs,t=>Hi data x t&&Vp data xs t
end
theorem Ta (data:List Aj) (v:Az) (t:Af):Hi data v t = if t.G=1 then v.G==3&&decide (-1099511627776<=v.U)&&decide (v.U<=1099511627776)&&v.K.length==0 else if t.G=2 then v.G==2&&(v.U==0||v.U==1)&&v.K.length==0 else if t.G=3 then v.G==1&&v.U==0&&v.K.length==0 else if t.G=6 then v.G==4&&v.U==0&&Ib data v.K t.R else if t.G=5 then v.G==5&&decide (0<=v.U)&&decide (v.U<8)&&(match Jp data t v.U with|some l=>Ib data v.K l|none=>false) else if t.G=7 then v.G==6&&v.U==0&&decide (v.K.length<=4096)&&(match t.R with|u::_=>Vp data v.K u | []=>false) else if t.G=8 then v.G==7&&v.U==0&&Ib data v.K t.R else v.G==8&&decide (0<=v.U)&&decide (v.U<64)&&v.K.length==0:=by cases v;simp only[Hi]
theorem A7x (data:List Aj) (l:List Az) (t:Af):Vp data l t=l.all (Hi data · t):=by induction l with| nil=>rfl| cons x xs ih=>simp only[Vp,ih,all_cons]
theorem Acu (data:List Aj):∀(l:List Az) (ts:List Af),l.length≠ts.length->Ib data l ts=false
 | [],[],h=>absurd rfl h
 | x::xs,t::ts,h=>by simp only[Ib,Acu data xs ts (by simpa using h),Bool.and_false]
 | [],_::_,_=>by simp only[Ib]
 | _::_,[],_=>by simp only[Ib]
theorem Acv (data:List Aj):∀(l:List Az) (ts:List Af),l.length=ts.length->Ib data l ts=(l.zip ts).all (λq=>Hi data q.1 q.2)
 | [],[],_=>rfl
 | x::xs,t::ts,h=>by simp only[Ib,zip_cons_cons,all_cons,Acv data xs ts (by simpa using h)]
 | [],_::_,h=>by simp at h
 | _::_,[],h=>by simp at h
mutual
theorem Amp (data:List Aj) (d:Nat) (v:Int):∀t,Fe (data.take d) v t=true->Fe data v t=true
 | ⟨k,n,l⟩,h=>by
  simp only[Fe,Cv]at h ⊢
  refine⟨?_,Au2 data d v l h.2⟩
  have e:=h.1
  unfold Lx at e ⊢
  by_cases i:k=5
  .subst i
   simp only[getElem?_take]at e ⊢
   by_cases o:n.toNat<d
   .simpa[o] using e
   .simp[o]at e
  .simp only[i,if_false]at e ⊢
   exact e
theorem Au2 (data:List Aj) (d:Nat) (v:Int):∀l,Gu (data.take d) v l=true->Gu data v l=true
 | [],_=>rfl
 | x::xs,h=>by
  simp only[Gu,Cv]at h ⊢
  exact⟨Amp data d v x h.1,Au2 data d v xs h.2⟩
end
mutual
theorem Au3 (data:List Aj) (v:Int) (σ:List Af) (i:∀s∈σ,Fe data 0 s=true) (q:(σ.length:Int)=v):∀t,Fe data v t=true->Fe data 0 (El σ t)=true
 | ⟨k,n,l⟩,h=>by
  simp only[Fe,Cv]at h
  cases e:isV σ k n with
  | true=>
   obtain⟨s,d,_,r⟩:=Agq e
   rw[Acf (t:=⟨k,n,l⟩) e d]
   exact i s r
  | false=>
   rw[Agr (t:=⟨k,n,l⟩) e,<-Al1]
   simp only[Fe,Cv]
   refine⟨?_,Au4 data v σ i q l h.2⟩
   rw[Al1,C5]
   have d:=h.1
   unfold Lx at d ⊢
   by_cases o:k=4
   .exfalso
    subst o
    simp at d
    unfold isV at e
    rw[As d.1.1,As ω]at e
    cases e
   .simp only[o,if_false]at d ⊢
    exact d
theorem Au4 (data:List Aj) (v:Int) (σ:List Af) (d:∀s∈σ,Fe data 0 s=true) (e:(σ.length:Int)=v):∀l,Gu data v l=true->Gu data 0 (Ov σ l)=true
 | [],_=>rfl
 | x::xs,h=>by
  simp only[Gu,Cv]at h
  simp only[Ov,Gu,Cv]
  exact⟨Au3 data v σ d e x h.1,Au4 data v σ d e xs h.2⟩
end
variable {t:Af} {data:List Aj} {α β:Type}
theorem Au5 (h:Fe data 0 t=true):∀a∈t.R,Fe data 0 a=true:=by rw[Ab8,Cv,Atf,Gt]at h;exact h.2
theorem A7y (r:H9 data) (ht:Fe data 0 t=true) {c:Int} {l:List Af} (h:Jp data t c=some l):∀a∈l,Fe data 0 a=true/\B0 a<=200:=by
 obtain⟨x,y,A,s,g,u,rfl,f⟩:=Pv h;intro a o;refine⟨?_,f a o⟩;obtain⟨b,v,rfl⟩:=mem_map.1 o;obtain⟨B,_,i,_⟩:=Hg s;have q:=r.2.1 t.U.toNat x i;obtain⟨_,_,w⟩:=q.2.2.2.2.2 y (Hg u).2.2.2;have e:=Gt.1 w b v;refine Au3 data x.V t.R (Au5 ht) g b ?_;unfold Sy at e;rw[Bool.or_eq_true]at e;rcases e with d|d
 .exact Amp data _ _ b (Alx i q.2.1 d).1
 .rw[Cv]at d;exact Amp data _ _ b d.1
theorem A7z (h:Fe data 0 t=true):(t.G=1\/t.G=2\/t.G=3\/t.G=5\/t.G=6\/t.G=7\/t.G=8\/t.G=9)/\(t.G=7->t.R.length=1)/\(t.G=8->t.R.length=1):=by
 rw[Ab8,Cv]at h;have d:=h.1;unfold Lx at d;by_cases q:t.G=1
 .simp[q]
 by_cases l:t.G=2
 .simp[l]
 by_cases k:t.G=3
 .simp[k]
 by_cases j:t.G=4
 .exfalso;simp[j]at d;omega
 by_cases i:t.G=5
 .simp[i]
 by_cases g:t.G=6
 .simp[g]
 by_cases f:t.G=7
 .simp[f]at d ⊢;exact d.2
 by_cases c:t.G=8
 .simp[c]at d ⊢;exact d.2
 by_cases b:t.G=9
 .simp[b]
 .simp[q,l,k,j,i,g,f,c,b]at d
theorem Ahl (l:List α):((l.length:Int)==(0:Int))=(l.length==0):=Atb l 0
def Acw (m:List β) (p:α×β->Bool) (q:α×Nat):Bool:=match m[q.2]? with|some y=>p (q.1,y) | none=>false
theorem A70 (l:List α) (m:List β) (p:α×β->Bool) (h:l.length=m.length):(l.zip m).all p=l.zipIdx.all (Acw m p):=by
 rw[Bool.eq_iff_iff];constructor
 .intro e;refine Als λj x o=>?_;have d:=Ek o;have q:m[j]? = some m[j]:=Bq ω;simp only[Acw,q];refine Gt.1 e _ (Bz (i:=j) ?_);rw[getElem?_zip_eq_some];exact⟨o,q⟩
 .intro e;rw[Gt];rintro⟨x,y⟩ r;obtain⟨j,d⟩:=Hu r;rw[getElem?_zip_eq_some]at d;have:=Jo e d.1;simp only[Acw,d.2]at this;exact this
theorem A71 (hv:H9 data):∀(n:Nat) (v:Az) (t:Af) (k:Nat),C1 v<=n->4*n<=k->n<=5000->Fe data 0 t=true->B0 t<=200->R9 k data v t=some (Hi data v t):=by
 intro n;induction n with
 | zero=>intro v t k h;have:=Yg v;omega
 | succ n ih=>
  intro v t k h hk hn F D;have a1:=Mj v;have a6:=Vo v.K;obtain⟨k,rfl⟩:∃k',k=k' + 4:=⟨k-4,ω⟩;obtain⟨kd,k7,k8⟩:=A7z F;have f:∀d:List Af,(∀a∈d,Fe data 0 a=true/\B0 a<=200)->Se (k+3) data v.K d=some (Ib data v.K d):=by
   intro d S;rw[Se,Aa7];by_cases V:v.K.length=d.length
   .rw[G1 ω,Acv data _ _ V,A70 _ _ _ V];simp only[Ap];have e:=Xw v.K (Acw d λq=>Hi data q.1 q.2) (λj=>(j:Int)) (s0:=(0:Int)) rfl ω (rt:=true) (rf:=false) (J:=λz:Bool⊕Unit=>match z with|.inl R=>some R | .inr _=>some true)
     (step:=λE=>bif E<(v.K.length:Int) then ((Ag v.K E).bind λX=>(Ag d E).bind λv9=>(Xf (k+1) X v9 data).bind λH=>bif (!H) then some (.inr (.inl false)) else some (.inl (Ac (E+1)))) else some (.inr (.inr ()))) (by intro j x o _ K P Q;have r:d[j]? = some (d[j]'(by have:=Ek o;omega)):=Bq (by have:=Ek o;omega);generalize d[j]'(by have:=Ek o;omega)=y at r;have s:=S y (Bz r);have T:=M5 (Bz o);simp only[K,P,Q,Ak,Ad,Br rfl r,Acw,r,Xf,ih x y k ω ω ω s.1 s.2];cases Hi data x y with| true=>exact⟨λ_=>rfl,λh=>by cases h⟩| false=>exact⟨nofun,λ_=>⟨.inl false,rfl,rfl⟩⟩) (by intro h _;exact⟨.inr (),by simp only[h];rfl,rfl⟩)
    rw[Ab7]at e;exact congrArg (λq=>Option.bind q some) e
   .rw[F7 ω,Acu data _ _ V];rfl
  have b:∀a∈t.R,Fe data 0 a=true/\B0 a<=200:=λa ha=>⟨Au5 F a ha,by have:=Kl ha;have:=J2 t;omega⟩;rw[R9,Ta];by_cases N:t.G=1
  .rw[Ef N,Au N,Ahl];cases (v.G==3) <;> cases decide (-1099511627776<=v.U) <;> cases decide (v.U<=1099511627776) <;> rfl
  rw[Cu N,Ar N];by_cases M:t.G=2
  .rw[Ef M,Au M,Ahl];cases (v.G==2) <;> cases (v.U==0) <;> cases (v.U==1) <;> rfl
  rw[Cu M,Ar M];by_cases L:t.G=3
  .rw[Ef L,Au L,Ahl];cases (v.G==1) <;> cases (v.U==0) <;> rfl
  rw[Cu L,Ar L];by_cases G:t.G=6
  .rw[Ef G,Au G,f t.R b];cases (v.G==4) <;> cases (v.U==0) <;> rfl
  rw[Cu G,Ar G];by_cases I:t.G=5
  .rw[Ef I,Au I,A53 hv.szv t D];simp only[Ap,Ak];by_cases w:v.G=5
   .rw[G1 w,Ef w];by_cases W:v.U<0
    .rw[As W,Aw (ω:¬0<=v.U)];rfl
    .by_cases g3:v.U>=8
     .rw[Aw W,As g3,Aw (ω:¬v.U<8)];simp
     .rw[Aw W,Aw g3,As (ω:0<=v.U),As (ω:v.U<8)];simp only[Ap,Ad,Bool.true_and];cases hf:Jp data t v.U with| none=>rfl| some l=>simp only[okL,Ak];rw[f l (A7y hv F hf)];rfl
   .rw[F7 w,Cu w];rfl
  rw[Cu I,Ar I];by_cases c:t.G=7
  .rw[Ef c,Au c,show decide ((v.K.length:Int)<=4096)=decide (v.K.length<=4096) by congr 1;simp only[eq_iff_iff];omega];have U:=k7 c
   match A:t.R,U with
   | [u],_=>
    have hu:=b u (by rw[A];simp);have B:Ab0 (k+3) v.K data t=some (!Vp data v.K u):=by
     rw[Ab0,Aga,A7x];have e:=Alt v.K (λx=>!Hi data x u) ω (J:=λz=>match z with|.inl Y=>some Y | .inr _=>some (-1)) (step:=λC=>bif C<(v.K.length:Int) then ((Ag v.K C).bind λv4=>(Xa (k+1) v4 data t).bind λv5=>bif v5 then some (.inr (.inl C)) else some (.inl (Ac (C+1)))) else some (.inr (.inr ()))) (by intro j x o K P Q;have T:=M5 o;have hi:Ag t.R 0=some u:=(by rw[A];rfl);simp only[K,P,Q,Ak,Ad,Xa,hi,ih x u k ω ω ω hu.1 hu.2]) (λh=>by simp only[h];rfl) (λ_=>rfl) rfl
     obtain⟨i,i1,i2⟩:=e
     erw[i1];simp only[Ad,i2];rw[any_eq_not_all_not];simp
    simp only[Ap,Ak,B,Ad];cases (v.G==6) <;> cases (v.U==0) <;> cases decide (v.K.length<=4096) <;> cases Vp data v.K u <;> rfl
  rw[Cu c,Ar c];by_cases g:t.G=8
  .rw[Ef g,Au g,f t.R b];cases (v.G==7) <;> cases (v.U==0) <;> rfl
  rw[Cu g,Ar g];have Z:t.G=9:=ω;rw[Ef Z,Ahl];cases (v.G==8) <;> cases decide (0<=v.U) <;> cases decide (v.U<64) <;> rfl
def M6 (data:List Aj) (v:Az) (t:Af):Bool:=G4 data t&&decide (C1 v<=5000)&&Hi data v t
theorem Au6 (o:DSz data) (v:Az) (t:Af) (f:C1 v<1099511627776) (ht:B0 t<=1048576):∃b,R4 data v t=some b/\(b=true↔H9 data/\M6 data v t=true):=by
 obtain⟨b,q,d⟩:=Agp o;unfold R4 Afb M6;rw[q,Xx data t 0 ω];simp only[Ad];rw[show (Fe data 0 t&&decide (B0 t<=200))=G4 data t from rfl];cases b with
 | false=>exact⟨false,rfl,by simp;intro h;have:=d.2 h;cases this⟩
 | true=>
  have e:=d.1 rfl;cases r:G4 data t with
  | false=>exact⟨false,rfl,ψ⟩
  | true=>
   obtain⟨j,i,_⟩:=A7w 5000 v 4000000 ω ω f;have i:Pg 4000000 v 5000=_:=i;simp only[Ak,Ad,i];by_cases g:C1 v<=5000
   .have c:=r;simp only[G4,Cv,Dk]at c;rw[As g];simp only[Ak,A71 e 5000 v t 4000000 g ω ω c.1 c.2,Ad];exact⟨_,rfl,by simp[e]⟩
   .rw[Aw g];exact⟨false,rfl,ψ⟩
mutual
def Iy (data:List Aj) (d:Int):Az->List Az
 | ⟨k,n,e⟩=>⟨k,n,e⟩::Iz data d e (Eb data d n)
def Iz (data:List Aj) (d:Int):List Az->List Bool->List Az
 | x::xs,b::bs=>(bif b then Iy data d x else [])++Iz data d xs bs
 | [],_=>[]
 | _::_,[]=>[]
end
theorem Au7 (data:List Aj) (d:Int) (v:Az):Iy data d v=v::Iz data d v.K (Eb data d v.U):=by cases v;simp only[Iy]
mutual
theorem Amq (data:List Aj) (d:Int):∀v,(Iy data d v).length<=C1 v
 | ⟨k,n,e⟩=>by
  have:=Amr data d e (Eb data d n)
  simp only[Iy,C1,D2];omega
theorem Amr (data:List Aj) (d:Int):∀l r,(Iz data d l r).length<=Ec l
 | x::xs,b::bs=>by
  have e:=Amq data d x
  have h:=Amr data d xs bs
  cases b <;> simp only[Iz,Ec,Ew,Ak,Ap,length_nil] <;> omega
 | [],_=>by simp[Iz]
 | _::_,[]=>by simp[Iz]
end
variable {m:A7} {res:Af} {t:An} {a b:Ao} {x y:Int} {vars:List Af} {data:List Aj} {p:List An} {j k:Nat} {α:Type} {S:α->Prop} {g:α->α->Int}
theorem Au8 (data:List Aj) (d:Int):∀(l:List Az) (r:List Bool) (x:Az) (b:Bool),l.length=r.length->Iz data d (l++[x]) (r++[b])=Iz data d l r++(bif b then Iy data d x else [])
 | [],[],x,b,_=>by simp[Iz]
 | y::e,c::cs,x,b,h=>by simp only[D4,Iz,Au8 data d e cs x b (by simpa using h),append_assoc]
 | [],_::_,_,_,h=>by simp at h
 | _::_,[],_,_,h=>by simp at h
theorem A72 {a:Af} {d vars:Int} {σ:List Af} (h:Ky a d vars=true) (f:(σ.length:Int)=vars):El σ a=⟨5,d,σ⟩:=by
 unfold Ky at h;simp only[Cv,beq_iff_eq]at h;obtain⟨⟨⟨i,o⟩,u⟩,q⟩:=h;have r:isV σ a.G a.U=false:=by unfold isV;rw[i];rfl
 rw[Agr r,i,o];congr 1;apply ext_getElem?;intro j;rw[getElem?_map];cases e:a.R[j]? with| none=>rw[List.getElem?_eq_none_iff]at e;rw[Lt ω];rfl| some x=>have v:=Ek e;have:=Jo q e;simp only[Sx,Cv,beq_iff_eq]at this;have c:σ[j]? = some (σ[j]' ω):=Bq ω;generalize σ[j]' ω=s at c;have b:isV σ x.G x.U=true:=(by unfold isV;rw[this.1.1,this.1.2,As ω,As ω];rfl);rw[c,Option.map_some,Acf b (by rw[this.1.2];exact c)]
theorem Ahm {v:Az} {t:Af} (o:t.G=5) (h:Hi data v t=true) : ∃x,Ag data t.U=some x/\0<=v.U/\v.U<x.O.length/\(Eb data t.U v.U).length=v.K.length/\∀(j:Nat) (w:Az),v.K[j]? = some w->(Eb data t.U v.U)[j]? = some true->Hi data w t=true:=by
 rw[Ta,Ar ω,Ar ω,Ar ω,Ar ω,Au o]at h;cases d:Jp data t v.U with
 | none=>rw[d]at h;simp at h
 | some l=>
  rw[d]at h;simp only[Cv]at h;have b:=h.2;have c:v.K.length=l.length:=by
   by_cases q:v.K.length=l.length
   .exact q
   .rw[Acu data _ _ q]at b;cases b
  have D:=Xz d;obtain⟨x,y,_,C,s,E,q,_⟩:=Pv d;obtain⟨B,A,_,_⟩:=Hg E;refine⟨x,C,B,A,ω,λj w F z=>?_⟩;rw[Acv data _ _ c]at b;have G:=Ek F;have g:l[j]? = some (l[j]' ω):=Bq ω;have e:=Gt.1 b (w,l[j]' ω) (Bz (i:=j) (by rw[getElem?_zip_eq_some];exact⟨F,g⟩));simp only at e;have r:y.R[j]? = some (y.R[j]'(by rw[q]at c;simp at c;omega)):=Bq _;generalize y.R[j]'_=a at r;have u:(Eb data t.U v.U)[j]? = some (Ky a t.U x.V):=(by unfold Eb;simp only[C,E,getElem?_map,r,Option.map_some]);rw[u]at z;have f:=Eu z;have k:l[j]? = some (El t.R a):=(by rw[q,getElem?_map,r];rfl);rw[k]at g;rw[<-Eu g,A72 f s]at e;have:(Af.mk 5 t.U t.R)=t:=(by cases t;simp only at o;rw[o]);rw[this]at e;exact e
theorem A73 {t:Af} (r:t.G=5) (B:List (List Bool)) (I:∀(x:Aj),Ag data t.U=some x->∀n:Int,0<=n->n<x.O.length->Ag B n=some (Eb data t.U n)):∀(n:Nat) (v:Az) (k:Nat) (b:List Az),C1 v<=n->n<=k->n<=1048576->b.length+C1 v<=1048576->Hi data v t=true->U3 k v b B=some (b++Iy data t.U v):=by
 intro n;induction n with
 | zero=>intro v k b h;have:=Yg v;omega
 | succ n ih=>
  intro v k b h E J K G;obtain⟨k,rfl⟩:∃s,k=s+1:=⟨k-1,ω⟩;have y:=Mj v;have z:=Vo v.K;obtain⟨x,C,q,l,i,f⟩:=Ahm r G;rw[U3,Dl ζ,Ad,Acb b [] _ _ b.length rfl rfl,Ad,Aca b [] _ _ _ b.length rfl rfl,I x C v.U q l,Ad,Au7];generalize L:Eb data t.U v.U=R at *;have g:∀j,(Iz data t.U (v.K.take j) (R.take j)).length<=Ec (v.K.take j):=λj=>Amr _ _ _ _;refine Gd R (λj=>((j:Int),b++[v]++Iz data t.U (v.K.take j) (R.take j))) (by simp[Iz]) ω ?_ ?_
  .intro j c M o e F H;have d:v.K[j]? = some (v.K[j]' ω):=Bq ω;generalize v.K[j]'_=w at d;have u:=M5 (Bz d);have A:=Au0 d;have D:=Au1 v.K (j+1);have hp:=g j;simp only[e,F,H,Ak,Ad,Br rfl d,Cz d,Cz o];rw[Au8 _ _ _ _ _ _ ζ];cases c with| false=>simp| true=>rw[ih w k _ ω ω ω ζ (f j w d o)];simp
  .intro e;refine⟨b++(v::Iz data t.U v.K R),?_,rfl⟩;simp only[e];rw[Ii (ω:v.K.length<=R.length),Db];simp
theorem A74 (k:M1 data) (l:∀x∈data,x.O.length<=8) {t:Af} (e:t.G=5) (v:Az) (r:C1 v<=5000) (h:Hi data v t=true):Aa9 data t v=some (Iy data t.U v):=by
 obtain⟨x,d,u,s,g,f⟩:=Ahm e h;have i:=l x (Hg d).2.2.2;unfold Aa9;rw[d,Ad];refine Gd x.O (λj=>((j:Int),(range j).map λc:Nat=>Eb data t.U (c:Int))) rfl ω ?_ ?_
 .intro j y A B o C w;simp only[o,w,Ak,Xy data t.U (j:Int) k,Ad];rw[Dl ζ,Ad,range_succ];simp
 .intro o;refine⟨(range x.O.length).map λc:Nat=>Eb data t.U (c:Int),ψ,?_⟩;rw[A73 e _ (λq b n D E=>?_) 5000 v 4000000 [] r ω ω ζ h]
  .rfl
  .rw[d]at b;cases b;rw[Br (n:=n.toNat) ω];rw[getElem?_map,getElem?_range ω];simp only[Option.map_some];rw[show ((n.toNat:Nat):Int)=n by omega]
theorem A75:∀(k:Nat) (t:Af),B0 t<=k->k<1099511627776->∃i,U7 k t=some i/\True:=by
 intro k;induction k with
 | zero=>intro t h;have:=Vg t;omega
 | succ k ih=>
  intro t h r;have g:=J2 t;have c:=Lw t.R;rw[U7];refine Q2 ?_ ⟨_,rfl,trivial⟩;refine Ej (λ(i,o)=>∃j:Nat,i=j/\j<=t.R.length/\o.length=j) (λ(i,_)=>t.R.length-i.toNat) (λ_=>True) ⟨0,rfl,ω,rfl⟩ ?_ λe _=>⟨_,rfl,trivial⟩;rintro⟨i,o⟩ ⟨j,rfl,s,b⟩;rcases Cf j t.R.length with d|d
  .have q:t.R[j]? = some t.R[j]:=Bq d;generalize t.R[j]=x at q;have l:=Kl (Bz q);obtain⟨y,f,_⟩:=ih x ω ω;simp only[As (ω:(j:Int)<(t.R.length:Int)),Ak,Br rfl q,Ad,f,C6 d ω];have b:o.length=j:=b;rw[Dl ζ,Ad];exact .inl ⟨_,rfl,⟨j+1,rfl,ω,by simp[b]⟩,ζ⟩
  .have:j=t.R.length:=ω;subst this;exact .inr ⟨o,ψ,trivial⟩
theorem Ahn (r:DSz data) (s:H9 data) (t:Af) (hg:G4 data t=true) (i:Ai) (u:Bw i<=1048576):Mu data t i=some (Ju (Dj data i t)):=by
 have b:=hg;simp only[G4,Cv,Dk]at b;obtain⟨q,f,c⟩:=Agp r;have v:q=true:=c.2 s;subst v;unfold Mu Us;rw[f,Xx data t 0 ω];simp only[Ad,Ak];rw[show (Fe data 0 t&&decide (B0 t<=200))=G4 data t from rfl,hg];obtain⟨p,h,g⟩:=(A55 s.szv r.sz.short 4000000).1 i t ω u b.2;simp only[Fz,Ap,h,Ad];rcases g with⟨e,d,o,w,A⟩|⟨e,o⟩
 .rw[e,o,Q3 w,A];rfl
 .rw[e,Atx o];rfl
theorem Aho (h:Jw data vars res m=true):(∀f∈m.F,∃t,D3 vars res f.v=some t)/\m.F.length<=6:=by
 unfold Jw at h;simp only[Cv,Dk]at h;obtain⟨⟨o,q⟩,v⟩:=h;have d:∀f∈m.F,1<=Eg data vars res f:=by intro f d;obtain⟨j,e⟩:=Hu d;have:=Jo o e;simp only[P5,Cv,Dk]at this;exact this.1
 have r:0<=Eo m.A:=(Aue m.A (λa r=>by obtain⟨j,e⟩:=Hu r;have:=Jo q e;simp only[Ny,Cv,Dk]at this;omega)).1;refine⟨λf b=>?_,?_⟩
 .have:=d f b;unfold Eg at this;cases s:D3 vars res f.v with
  | none=>rw[s]at this;have:(1:Int)<=-1:=this;omega
  | some t=>exact⟨t,rfl⟩
 .have i:∀l:List Bi,(∀f∈l,1<=Eg data vars res f)->(l.length:Int)<=Cx data vars res l:=(by intro l;induction l with| nil=>intro _;simp[Cx]| cons f w ih=>intro c;have o:=c f ψ;have q:=ih λg u=>c g (by simp[u]);unfold Cx at *;simp only[map_cons,sum_cons,D2];omega);have:=i m.F d;omega
theorem A76 (a b:Ao) (j k:Nat) (d:RB j a) (hb:RB k b) (e:j<34359738000) (h:k<34359738000):∃c,E6 a b=some c/\Ub a b=some c/\RB (j+k+2) c:=by refine⟨_,X8 a b j k d hb ω ω,A7h a b j k d hb ω ω,?_⟩;have i:=d.nv;have o:=d.dv;have q:=hb.nv;have r:=hb.dv;have g:=H5 (nv a) (nv b);have f:=H5 (dv a) (dv b);exact M4 _ _ _ _ ω ω ω
theorem A77 (a b:Ao) (j k:Nat) (d:RB j a) (hb:RB k b) (e:j<34359738000) (o:k<34359738000):∃c,Jj a b=some c/\R3 a b=some c/\RB (j+k+3) c:=by
 refine⟨_,Ahf a b j k d hb ω ω,A7j a b j k d hb ω ω,?_⟩;have r:=d.nv;have s:=d.dv;have u:=hb.nv;have v:=hb.dv;have q:=H5 (nv a) (dv b);have l:=H5 (nv b) (dv a);have i:=H5 (dv a) (dv b);have f:Kn (sv a) (nv a) (dv a) (sv b) (nv b) (dv b)<=nv a*dv b+nv b*dv a:=by
  unfold Kn;split
  .omega
  .split <;> omega
 have h:=Ja f;have g:=Ab5 (nv a*dv b) (nv b*dv a);exact M4 _ _ _ _ ω ω ω
theorem A78 (k:Nat):RB k ⟨false,[],[]⟩:=⟨nofun,nofun,ψ,ψ⟩
def sg (s:Bool) (n:Nat):Int:=if s then -(n:Int) else n
def rq (a:Ao):Rat:=mkRat (sg (sv a) (nv a)) (dv a)
def G9 (a:Ao):Prop:=a=Cg (sv a) (nv a) (dv a)
theorem Nz (s:Bool) (n d:Nat) (e:d≠0):rq (Cg s n d)=mkRat (sg s n) d:=by
 obtain⟨g,i,o,q,r,v⟩:=Ahk s n d e;unfold rq;rw[Rat.mkRat_eq_iff (F2 _) e];generalize nv (Cg s n d)=b at *;generalize dv (Cg s n d)=f at *;generalize sv (Cg s n d)=u at *;by_cases c:n=0
 .have:b=0:=by
   rcases Nat.eq_zero_or_pos b with h|h
   .exact h
   .have:=Nat.mul_pos (Nat.pos_of_ne_zero i) h;omega
  subst this;subst c;cases s <;> cases u <;> simp[sg]
 .rw[r c,o,q];cases s <;> simp only[sg,if_true,if_false,Bool.false_eq_true,Int.natCast_mul] <;> grind
theorem P7 (s:Bool) (n d:Nat) (u:d≠0):G9 (Cg s n d):=by
 obtain⟨g,i,o,q,r,v⟩:=Ahk s n d u;unfold G9;generalize w:Cg s n d=c at o q r v;have e:=S8 s (nv c) (dv c) g i;rw[<-o,<-q,w]at e;by_cases b:n=0
 .have A:nv c=0:=by
   rcases Nat.eq_zero_or_pos (nv c) with h|h
   .exact h
   .have:=Nat.mul_pos (Nat.pos_of_ne_zero i) h;omega
  rw[A,Acm]at e ⊢;exact e
 .rw[r b];exact e
theorem Au9 (n m:Int) {d e:Nat} (o:d≠0) (g:e≠0):mkRat n d<mkRat m e↔n*e<m*d:=by
 have c:(0:Rat)<(d:Rat):=Rat.natCast_pos.2 ω;have b:(0:Rat)<(e:Rat):=Rat.natCast_pos.2 ω;rw[Rat.mkRat_eq_div,Rat.mkRat_eq_div,Rat.div_lt_iff c];rw[<-Rat.mul_lt_mul_right b];have f:(m:Rat) / (e:Rat)*(d:Rat)*(e:Rat)=(m:Rat)*(d:Rat):=by grind
 rw[f];have h:(n:Rat)*(e:Rat)=((n*(e:Int):Int):Rat):=by rw[Rat.intCast_mul];rfl
 have i:(m:Rat)*(d:Rat)=((m*(d:Int):Int):Rat):=by rw[Rat.intCast_mul];rfl
 rw[h,i,Rat.intCast_lt_intCast]
theorem Ams (q:G9 a) (hb:G9 b) (h:rq a=rq b):a=b:=by
 unfold rq at h;rw[Rat.mkRat_eq_iff (F2 _) (F2 _)]at h;rw[q,hb];have l:=F2 a;have k:=F2 b;generalize nv a=n at *;generalize dv a=d at *;generalize sv a=s at *;generalize nv b=m at *;generalize dv b=e at *;generalize sv b=t at *;have o:n*e=m*d/\(n≠0->s=t):=by
  have c:n≠0->0<n*e:=λh=>Nat.mul_pos ω ω;have f:m≠0->0<m*d:=λh=>Nat.mul_pos ω ω;have u:((n*e:Nat):Int)=(n:Int)*e:=ψ;have v:((m*d:Nat):Int)=(m:Int)*d:=ψ;cases s <;> cases t <;> simp only[sg,if_true,if_false,Bool.false_eq_true,Int.neg_mul]at h
  .exact⟨ω,λ_=>rfl⟩
  .have:n*e=0/\m*d=0:=ω;refine⟨ω,λg=>?_⟩;have:=c g;omega
  .have:n*e=0/\m*d=0:=ω;refine⟨ω,λg=>?_⟩;have:=c g;omega
  .exact⟨ω,λ_=>rfl⟩
 have j:=S8 s n d e k;have i:=S8 t m e d l;rw[<-j,<-i,Nat.mul_comm e n,o.1,Nat.mul_comm e d,Nat.mul_comm m d];refine Auo λr=>o.2 ?_;rintro rfl;rw[Nat.zero_mul]at o;have:=o.1;rw[Nat.mul_comm d m]at r;omega
theorem Ava (j:Bool) (c g:Nat) (i:Bool) (b f:Nat):sg (L0 j c g i b f) (Kn j c g i b f)=sg j c*f+sg i b*g:=by
 unfold L0 Kn sg;have d:((c*f:Nat):Int)=(c:Int)*f:=ψ;have e:((b*g:Nat):Int)=(b:Int)*g:=ψ;cases j <;> cases i <;> simp only[if_true,if_false,Bool.false_eq_true,Bool.true_eq_false,Int.neg_mul]
 .omega
 .by_cases h:b*g<=c*f
  .simp only[Au h];simp only[if_false,Bool.false_eq_true];omega
  .simp only[Ar h];simp only[if_true];omega
 .by_cases h:b*g<=c*f
  .simp only[Au h];simp only[if_true];omega
  .simp only[Ar h];simp only[if_false,Bool.false_eq_true];omega
 .omega
theorem Acx (d:RB j a) (hb:RB k b) (o:j<34359738000) (q:k<34359738000):∃c,Jj a b=some c/\R3 a b=some c/\RB (j+k+3) c/\G9 c/\rq c=rq a+rq b:=by
 obtain⟨c,h,r,s⟩:=A77 a b j k d hb o q;have e:=Ahf a b j k d hb ω ω;rw[h]at e;have e:=Eu e;have i:dv a*dv b≠0:=Nat.mul_ne_zero (F2 a) (F2 b);refine⟨c,h,r,s,?_,?_⟩
 .rw[e];exact P7 _ _ _ i
 .rw[e,Nz _ _ _ i,Ava,rq,rq,Rat.mkRat_add_mkRat _ _ (F2 a) (F2 b)]
theorem Avb (s t:Bool) (n m:Nat):sg (s != t) (n*m)=sg s n*sg t m:=by unfold sg;cases s <;> cases t <;> simp[Int.neg_mul,Int.mul_neg]
theorem Tb (d:RB j a) (hb:RB k b) (h:j<34359738000) (i:k<34359738000):∃c,E6 a b=some c/\RB (j+k+2) c/\G9 c/\rq c=rq a*rq b:=by have e:dv a*dv b≠0:=Nat.mul_ne_zero (F2 a) (F2 b);have o:=d.nv;have q:=d.dv;have r:=hb.nv;have s:=hb.dv;have g:=H5 (nv a) (nv b);have f:=H5 (dv a) (dv b);refine⟨_,X8 a b j k d hb ω ω,M4 _ _ _ _ ω ω ω,P7 _ _ _ e,?_⟩;rw[Nz _ _ _ e,Avb,rq,rq,Rat.mkRat_mul_mkRat]
theorem A79 (d:RB j a) (hb:RB k b) (o:j<34359738000) (q:k<34359738000):∃c,E6 a b=some c/\Ub a b=some c/\RB (j+k+2) c/\G9 c/\rq c=rq a*rq b:=by
 obtain⟨c,h,r,s⟩:=A76 a b j k d hb o q;have e:=X8 a b j k d hb ω ω;rw[h]at e;have e:=Eu e;have i:dv a*dv b≠0:=Nat.mul_ne_zero (F2 a) (F2 b);refine⟨c,h,r,s,?_,?_⟩
 .rw[e];exact P7 _ _ _ i
 .rw[e,Nz _ _ _ i,Avb,rq,rq,Rat.mkRat_mul_mkRat]
def N0 (x:Rat):Int:=if x<0 then -1 else if 0<x then 1 else 0
theorem A8a (a:Ao):rq a<0↔Lh (sv a) (nv a) = -1:=by have e:(0:Rat)=mkRat 0 1:=ψ;rw[rq,e,Au9 _ _ (F2 a) δ];unfold sg Lh;split <;> split <;> simp <;> omega
theorem A8b (a:Ao):0<rq a↔Lh (sv a) (nv a)=1:=by have e:(0:Rat)=mkRat 0 1:=ψ;rw[rq,e,Au9 _ _ δ (F2 a)];unfold sg Lh;split <;> split <;> simp <;> omega
theorem A8c (a:Ao):Lh (sv a) (nv a)=N0 (rq a):=by
 have i:=A8a a;have o:=A8b a;have d:Lh (sv a) (nv a) = -1\/Lh (sv a) (nv a)=0\/Lh (sv a) (nv a)=1:=by unfold Lh;split <;> (try split) <;> simp
 unfold N0;split
 .rename_i h;exact i.1 h
 .rename_i h;split
  .rename_i e;exact o.1 e
  .rename_i e;rcases d with d|d|d
   .exact (h (i.2 d)).elim
   .exact d
   .exact (e (o.2 d)).elim
theorem Ahp (h:RB k a) (d:k<34359738000):I1 a=some (N0 (rq a))/\True:=by rw[<-A8c];exact⟨Ahe a k h ω,trivial⟩
theorem A8d (h:RB k a) (d:k<34359738000):∃c,Kg a=some c/\Nl a=some c/\G9 c/\rq c=rq a/\RB (k+1) c := ⟨_,Ahd a k h ω,Yb a k h ω,P7 _ _ _ (F2 a),Nz _ _ _ (F2 a),Aut h⟩
structure Gi {α:Type} (S:α->Prop) (g:α->α->Int):Prop where
 zero:∀a b,S a->S b->(g a b=0↔a=b)
 anti:∀a b,S a->S b->g b a = - g a b
 trans:∀a b c,S a->S b->S c->g a b<0->g b c<0->g a c<0
theorem Gi.cmpI:Gi (λ_:Int=>True) Gg:=by
 refine⟨λa b _ _=>Kz,λa b _ _=>?_,λa b c _ _ _=>?_⟩
 .unfold Go.Ab.Gg;split <;> split <;> (try split) <;> (try split) <;> omega
 .unfold Go.Ab.Gg;intro h1 h2;split at h1 <;> (try split at h1) <;> split at h2 <;> (try split at h2) <;> first|omega | (rw[Au ω];decide)
theorem Avc:orI x y<0↔x<0\/(x=0/\y<0):=by unfold orI;split <;> omega
theorem Avd:orI x y=0↔x=0/\y=0:=by unfold orI;split <;> omega
theorem Gi.or {β γ:Type} {s:β->Prop} {l:γ->Prop} {j:β->β->Int} {i:γ->γ->Int} (p:α->β) (q:α->γ) (g:∀a b,p a=p b->q a=q b->a=b) (h1:Gi s j) (h2:Gi l i) (f:∀a,S a->s (p a)/\l (q a)) : Gi S (λa b=>orI (j (p a) (p b)) (i (q a) (q b))):=by
 refine⟨λa b ha hb=>?_,λa b ha hb=>?_,λa b c ha hb hc=>?_⟩
 .rw[Avd,h1.zero _ _ (f a ha).1 (f b hb).1,h2.zero _ _ (f a ha).2 (f b hb).2];exact⟨λh=>g a b h.1 h.2,λh=>by subst h;exact⟨rfl,rfl⟩⟩
 .show orI (j (p b) (p a)) (i (q b) (q a)) = - orI (j (p a) (p b)) (i (q a) (q b));have z:=h1.anti _ _ (f a ha).1 (f b hb).1;have y:=h2.anti _ _ (f a ha).2 (f b hb).2;rw[z,y];unfold orI;split <;> split <;> omega
 .show orI _ _<0->orI _ _<0->orI _ _<0;simp only[Avc];have u:=h1.zero _ _ (f a ha).1 (f b hb).1;have d:=h1.zero _ _ (f b hb).1 (f c hc).1;have t1:=h1.trans _ _ _ (f a ha).1 (f b hb).1 (f c hc).1;have t2:=h2.trans _ _ _ (f a ha).2 (f b hb).2 (f c hc).2;rintro (h|⟨h,h'⟩) (k|⟨k,x⟩)
  .exact .inl (t1 h k)
  .rw[<-d.1 k];exact .inl h
  .rw[u.1 h];exact .inl k
  .rw[<-d.1 k,h];exact .inr ⟨rfl,t2 h' x⟩
theorem Gi.mono {S':α->Prop} (h:Gi S g) (f:∀a,S' a->S a):Gi S' g := ⟨λa b ha hb=>h.zero a b (f a ha) (f b hb),λa b ha hb=>h.anti a b (f a ha) (f b hb),λa b c ha hb hc=>h.trans a b c (f a ha) (f b hb) (f c hc)⟩
theorem Gi.congr {c:α->α->Int} (h:Gi S g) (e:∀a b,c a b=g a b):Gi S c:=by have:c=g:=funext λa=>funext λb=>e a b;rw[this];exact h
def LL (g:α->α->Int) (l m:List α):Int:=if l.length=m.length then G3 g l m else Go.Ab.Gg l.length m.length
theorem Ave {α:Type} {S:α->Prop} {g:α->α->Int} (h:Gi S g):∀l m:List α,l.length=m.length->(∀x∈l,S x)->(∀x∈m,S x)->(G3 g l m=0↔l=m)
 | [],[],_,_,_=>by simp[G3]
 | x::xs,y::o,b,e,i=>by simp only[G3,Avd,h.zero x y (e x ψ) (i y ψ),Ave h xs o (by simpa using b) (λz d=>e z (by simp[d])) λz d=>i z (by simp[d]),List.cons.injEq]
 | [],_::_,b,_,_=>by simp at b
 | _::_,[],b,_,_=>by simp at b
theorem Avf {α:Type} {S:α->Prop} {g:α->α->Int} (h:Gi S g):∀l m:List α,l.length=m.length->(∀x∈l,S x)->(∀x∈m,S x)->G3 g m l = - G3 g l m
 | [],[],_,_,_=>by simp[G3]
 | x::xs,y::o,b,e,i=>by simp only[G3,h.anti x y (e x ψ) (i y ψ),Avf h xs o (by simpa using b) (λz d=>e z (by simp[d])) λz d=>i z (by simp[d])];unfold orI;split <;> split <;> omega
 | [],_::_,b,_,_=>by simp at b
 | _::_,[],b,_,_=>by simp at b
theorem Avg {α:Type} {S:α->Prop} {g:α->α->Int} (h:Gi S g):∀l m n:List α,l.length=m.length->m.length=n.length->(∀x∈l,S x)->(∀x∈m,S x)->(∀x∈n,S x)->G3 g l m<0->G3 g m n<0->G3 g l n<0
 | [],[],_,_,_,_,_,_=>by intro h;simp[G3]at h
 | x::xs,y::u,z::i,c,f,o,e,r=>by
  simp only[G3,Avc];have j:=h.zero x y (o x ψ) (e y ψ);have s:=h.zero y z (e y ψ) (r z ψ);have t1:=h.trans x y z (o x ψ) (e y ψ) (r z ψ);have t2:=Avg h xs u i (by simpa using c) (by simpa using f) (λz d=>o z (by simp[d])) (λz d=>e z (by simp[d])) λz d=>r z (by simp[d]);rintro (a|⟨a,q⟩) (b|⟨b,k⟩)
  .exact .inl (t1 a b)
  .rw[<-s.1 b];exact .inl a
  .rw[j.1 a];exact .inl b
  .rw[<-s.1 b,a];exact .inr ⟨rfl,t2 q k⟩
 | _::_,_::_,[],_,f,_,_,_=>by simp at f
 | [],_::_,_,c,_,_,_,_=>by simp at c
 | _::_,[],_,c,_,_,_,_=>by simp at c
theorem Gi.ll (h:Gi S g):Gi (λl=>∀x∈l,S x) (LL g):=by
 have c:=Gi.cmpI;refine⟨λa b ha hb=>?_,λa b ha hb=>?_,λx y z hx hy hz=>?_⟩
 .unfold LL;split
  .rename_i i;exact Ave h a b i ha hb
  .rename_i i;rw[Kz];exact⟨λe=>(i ω).elim,λe=>(i (by rw[e])).elim⟩
 .unfold LL;by_cases i:a.length=b.length
  .rw[Au i,Au i.symm];exact Avf h a b i ha hb
  .rw[Ar i,Ar λe=>i e.symm];exact c.anti _ _ trivial trivial
 .unfold LL;intro h1 h2;have neg:∀a b:Int,Go.Ab.Gg a b<0->a<b:=(by intro a b h;unfold Go.Ab.Gg at h;split at h <;> (try split at h) <;> omega);have f:∀a b:Int,a<b->Go.Ab.Gg a b<0:=(by intro a b h;unfold Go.Ab.Gg;rw[Au h];decide);by_cases k:x.length=y.length
  .rw[Au k]at h1;by_cases j:y.length=z.length
   .rw[Au j]at h2;rw[Au ω];exact Avg h x y z k j hx hy hz h1 h2
   .rw[Ar j]at h2;rw[Ar ω];have:=neg _ _ h2;exact f _ _ ω
  .rw[Ar k]at h1;have:=neg _ _ h1;by_cases j:y.length=z.length
   .rw[Ar ω];exact f _ _ ω
   .rw[Ar j]at h2;have:=neg _ _ h2;rw[Ar ω];exact f _ _ ω
theorem Avh (g:α->α->Int) (l m:List α) (y:Int):orI (LL g l m) y=if l.length=m.length then orI (G3 g l m) y else Go.Ab.Gg l.length m.length:=by
 unfold LL;by_cases h:l.length=m.length
 .rw[Au h,Au h]
 .rw[Ar h,Ar h];unfold orI;rw[Ar λe=>h (by have:=Kz.1 e;omega)]
theorem A8e:Gi (λ_=>True) Aci := (Gi.or (S:=λ_=>True) (λt:Bt=>t.v) (λt=>t.C) (λa b d e=>by cases a;cases b;cases d;cases e;rfl) Gi.cmpI Gi.cmpI λ_ _=>⟨trivial,trivial⟩).congr λ_ _=>rfl
theorem M7:Gi (λ_=>True) Ir := (Gi.or (S:=λ_=>True) (λt:Bg=>t.T) (λt=>t.Q) (λa b d e=>by cases a;cases b;cases d;cases e;rfl) A8e.ll Gi.cmpI λ_ _=>⟨λ_ _=>trivial,trivial⟩).congr λa b=>by show Ir a b=orI (LL Aci a.T b.T) (Go.Ab.Gg a.Q b.Q);rw[Avh];rfl
theorem A8f (i j:Ai):Hh i j=orI (Go.Ab.Gg i.U j.U) (LL Hh i.K j.K):=by
 rw[At9,Amc];unfold orI LL;by_cases h:i.U=j.U
 .rw[Au h,Au (Kz.2 h)]
 .rw[Ar h,Ar λe=>h (Kz.1 e)]
theorem Amt:∀n:Nat,Gi (λi=>Bw i<=n) Hh:=by intro n;induction n with| zero=>exact⟨λa _ d=>by have:=Ey a;omega,λa _ d=>by have:=Ey a;omega,λa _ _ d=>by have:=Ey a;omega⟩| succ n ih=>refine (Gi.or (S:=λi=>Bw i<=n+1) (λi:Ai=>i.U) (λi=>i.K) (λa b e h=>by cases a;cases b;cases e;cases h;rfl) Gi.cmpI ih.ll ?_).congr A8f;intro i q;refine⟨trivial,λx o=>?_⟩;have e:=Km o;have h:=Ey i;show Bw x<=n;omega
theorem Ahq:Gi (λ_=>True) Hh := ⟨λa b _ _=>(Amt (max (Bw a) (Bw b))).zero a b (by show Bw a<=_;omega) (by show Bw b<=_;omega),λa b _ _=>(Amt (max (Bw a) (Bw b))).anti a b (by show Bw a<=_;omega) (by show Bw b<=_;omega),
  λa b c _ _ _=>(Amt (max (Bw a) (max (Bw b) (Bw c)))).trans a b c (by show Bw a<=_;omega) (by show Bw b<=_;omega) (by show Bw c<=_;omega)⟩
theorem A8g:Gi (λ_=>True) X4 := (Gi.or (S:=λ_=>True) (λt:Bi=>t.v) (λt=>t.I) (λa b d e=>by cases a;cases b;cases d;cases e;rfl) Gi.cmpI Ahq λ_ _=>⟨trivial,trivial⟩).congr λ_ _=>rfl
theorem A8h:Gi (λ_=>True) Acj := (Gi.or (S:=λ_=>True) (λt:Bh=>t.L) (λt=>t.P) (λa b d e=>by cases a;cases b;cases d;cases e;rfl) M7 Gi.cmpI λ_ _=>⟨trivial,trivial⟩).congr λ_ _=>rfl
theorem Amu:Gi (λ_=>True) Fg := (Gi.or (S:=λ_=>True) (λt:A7=>t.F) (λt=>t.A) (λa b d e=>by cases a;cases b;cases d;cases e;rfl) A8g.ll A8h.ll λ_ _=>⟨λ_ _=>trivial,λ_ _=>trivial⟩).congr λa b=>by show Fg a b=orI (LL X4 a.F b.F) (LL Acj a.A b.A);rw[Avh];rfl
theorem Vq {a b:A7}:Fg a b=0↔a=b:=Amu.zero a b trivial trivial
theorem Yh (a b:A7):Fg b a = - Fg a b:=Amu.anti a b trivial trivial
theorem Ahr {a b c:A7} (h:Fg a b<0) (d:Fg b c<0):Fg a c<0:=Amu.trans a b c trivial trivial trivial h d
theorem Avi (m:A7):Fg m m=0:=Vq.2 rfl
theorem Avj {a b:A7}:0<Fg a b↔Fg b a<0:=by rw[Yh a b];omega
def cf:List An->A7->Rat
 | [],_=>0
 | t::p,m=>(if Fg t.M m=0 then rq t.C else 0)+cf p m
def ltT (t u:An):Prop:=Fg t.M u.M<0
structure CP (p:List An):Prop where
 srt:p.Pairwise ltT
 coe:∀t∈p,G9 t.C/\rq t.C≠0
theorem CP.tail (h:CP (t::p)):CP p:=⟨(pairwise_cons.1 h.srt).2,λu d=>h.coe u (by simp[d])⟩
theorem CP.head (h:CP (t::p)):∀u∈p,Fg t.M u.M<0:=(pairwise_cons.1 h.srt).1
theorem CP.nil:CP []:=⟨Pairwise.nil,λ_ h=>by cases h⟩
theorem CP.cons {t:An} {p:List An} (h:CP p) (h1:∀u∈p,Fg t.M u.M<0) (h2:G9 t.C) (h3:rq t.C≠0):CP (t::p) := ⟨pairwise_cons.2 ⟨h1,h.srt⟩,λu d=>by
  rcases Gl.1 d with rfl|d
  .exact⟨h2,h3⟩
  .exact h.coe u d⟩
theorem A8i (h:∀t∈p,Fg t.M m≠0):cf p m=0:=by induction p with| nil=>rfl| cons t p ih=>simp only[cf];rw[Ar (h t ψ),ih λu d=>h u (by simp[d])];grind
theorem A8j (h:∀t∈p,Fg m t.M<0):cf p m=0 := A8i λt d e=>by have:=h t d;rw[Yh,e]at this;omega
theorem A8k (h:CP (t::p)):cf (t::p) t.M=rq t.C:=by simp only[cf];rw[Au (Avi _),A8j h.head];grind
theorem A8l (h:Fg t.M m≠0):cf (t::p) m=cf p m:=by simp only[cf];rw[Ar h];grind
theorem Ahs (p q:List An) (m:A7):cf (p++q) m=cf p m+cf q m:=by induction p with| nil=>simp only[nil_append,cf];grind| cons t p ih=>simp only[D4,cf,ih];grind
theorem A8m (h:CP p) (ht:t∈p):cf p t.M=rq t.C:=by
 induction p with
 | nil=>cases ht
 | cons u p ih=>
  rcases Gl.1 ht with rfl|ht
  .exact A8k h
  .have:=h.head t ht;rw[A8l ω];exact ih h.tail ht
theorem Avk (c:Ao):Acs c=true↔G9 c/\rq c≠0:=by
 unfold Acs G9;rw[Cv,Auy];have h:(!(nv c==0))=true↔rq c≠0:=by have e:rq c=0↔nv c=0:=(by unfold rq;rw[Rat.mkRat_eq_zero (F2 c)];unfold sg;split <;> omega);rw[Ne,e];simp
 rw[h];exact⟨λ⟨a,b⟩=>⟨a.symm,b⟩,λ⟨a,b⟩=>⟨a.symm,b⟩⟩
theorem A8n {l:List An} (h:∀(j:Nat) (x y:An),l[j]? = some x->l[j+1]? = some y->Fg x.M y.M<0):l.Pairwise ltT:=by
 induction l with
 | nil=>exact Pairwise.nil
 | cons t l ih=>
  have ih:=ih λj x y i o=>h (j+1) x y (by simpa using i) (by simpa using o);refine pairwise_cons.2 ⟨?_,ih⟩;cases l with
  | nil=>intro u d;cases d
  | cons v l=>
   have e:=h 0 t v rfl rfl;intro u d;rcases Gl.1 d with rfl|d
   .exact e
   .exact Ahr e ((pairwise_cons.1 ih).1 u d)
theorem Acy:Jr data vars res p=true↔p.length<=1000/\CP p/\∀t∈p,Jw data vars res t.M=true:=by
 unfold Jr;rw[Cv,Dk];constructor
 .rintro⟨i,h⟩;have g:∀(j:Nat) (t:An),p[j]? = some t->Acs t.C=true/\Jw data vars res t.M=true/\Vn p t j=true:=(by intro j t d;have:=Jo h d;simp only[Yf,Cv]at this;exact⟨this.1.1,this.1.2,this.2⟩);refine⟨i,⟨A8n λj x y r s=>?_,λt o=>?_⟩,λt o=>?_⟩
  .have:=(g _ _ s).2.2;unfold Vn at this;rw[show j+1-1=j by omega,r]at this;simpa using this
  .obtain⟨j,d⟩:=Hu o;exact (Avk _).1 (g j t d).1
  .obtain⟨j,d⟩:=Hu o;exact (g j t d).2.1
 .rintro⟨i,h,u⟩;refine⟨i,Gt.2 λq e=>?_⟩;have e:=mem_zipIdx' e;have d:p[q.2]? = some q.1:=(Bq e.1).trans (congrArg some e.2.symm);have c:q.1∈p:=Bz d;simp only[Yf,Cv];refine⟨⟨(Avk _).2 (h.coe _ c),u _ c⟩,?_⟩;unfold Vn;by_cases v:q.2=0
  .rw[v];rfl
  .have b:q.2-1<p.length:=ω;rw[Bq b];have:=pairwise_iff_getElem.1 h.srt (q.2-1) q.2 b e.1 ω;rw[<-e.2]at this;simp only[Bool.or_eq_true,Dk];exact .inr this
theorem Avl:∀(k:Nat) (t:Ai),Bw t<=k->k<1099511627776->Qv k t=some t:=by
 intro k;induction k with
 | zero=>intro t h;have:=Ey t;omega
 | succ k ih=>
  intro t h q;have c:=Ey t;have b:=Px t.K;rw[Qv];refine Gd t.K (λj=>((j:Int),(t.K.take j))) rfl ω ?_ ?_
  .intro j x r d e i o;have:=Km (Bz d);simp only[e,i,o,Ak,Ad,ih x ω ω];rw[Dl ζ,Ad,Cz d]
  .intro e;exact⟨t.K,ψ,by cases t;rfl⟩
theorem A8o (m:A7) (h:MSz m):Aa3 m=some m:=by
 have f:=h.nf;have c:=h.na;unfold Aa3;refine Gd m.F (λj=>((j:Int),(m.F.take j))) rfl ω ?_ ?_
 .intro j x q d e i o;have b:=Bz d;have:=h.fi x b;simp only[e,i,o,Ak,Ad,Avl 4000000 x.I ω ω];rw[Dl ζ,Ad,Cz d]
 .intro e;refine⟨m.F,ψ,?_⟩;dsimp only;refine Gd m.A (λj=>((j:Int),(m.A.take j))) rfl ω ?_ ?_
  .intro j x q d e i o;have b:=Bz d;have:=h.al x b;simp only[e,i,o,Ak,Ad,Afq];rw[Dl ζ,Ad,Dl ζ,Ad,Cz d];rfl
  .intro e;exact⟨m.A,ψ,by cases m;rfl⟩
structure TB (k:Nat) (t:An):Prop where
 co:RB k t.C
 mo:MSz t.M
theorem TSz.tb (h:TSz t):TB 1048576 t:=⟨h.co,h.mo⟩
theorem TB.mono (h:TB j t) (hk:j<=k):TB k t:=⟨h.co.mono hk,h.mo⟩
theorem A8p (c:Ao):rq c=0↔nv c=0:=by unfold rq;rw[Rat.mkRat_eq_zero (F2 c)];unfold sg;split <;> omega
end Go.Ab
