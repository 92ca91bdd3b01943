/- Plain laws: what the plain functions answer. -/
import Derived.Test.YtpgmgplnkdhlbaaGreatDoorPtPl0
namespace Go.Ab
open Go
theorem Asz (x r:Nat):Bj (x % 1000000000+1000000000*r)<=Bj r+1:=by
 apply O9
 have:=M7 r
 rw [Nat.pow_succ]
 omega
set_option maxHeartbeats 1000000 in
theorem Ac2 (m n:Nat) (hm:Bj m<137438953472) (hn:Bj n<137438953472) (D:n≠0):Oe (Ag m) (Ag n)=some (Ag (m / n),Ag (m % n)):=by
 unfold Oe
 rw [Acz,Ue m n (by omega) (by omega),Ad]
 have ae:=hm
 have ad:=hn
 unfold Bj at hm hn
 by_cases l:m<n
 .rw [show E8 m n = -1 by rw [E8,if_pos l],Aj (by decide:(-1:Int)<0),cond_true,Pc _ (by omega),Ad,Ar6 (Rj m),Nat.div_eq_of_lt l,Nat.mod_eq_of_lt l,El]
 .rw [Ap (show ¬E8 m n<0 by rw [E8,if_neg l]; split <;> decide),cond_false]
  have a7:(Ag n).length≠0:=fun e=>G0 D (List.length_eq_zero_iff.1 e)
  by_cases h1:(Ag n).length=1
  .rw [Da (by omega:((Ag n).length:Int)=1),cond_true]
   have B:n<1000000000:=by
    have:=M7 n
    rw [show Bj n=1 from h1] at this
    simpa using this
   have X:Ag n = [(n:Int)]:=by
    rw [Kd D,Nat.div_eq_of_lt B,El,Nat.mod_eq_of_lt B]
   rw [X,show Ae [(n:Int)] 0=some (n:Int) from rfl,Ad,show A0 (n:Int)=n from Cs (by omega) (by omega),Asp m n (by omega) (by omega) (by omega),Ad]
   have a6:m % n<n:=Nat.mod_lt _ (by omega)
   rw [Ajc,Rk (m % n) (by omega),Ad]
  .rw [B2 (by omega:((Ag n).length:Int)≠1),cond_false]
   have hw:Ac (((Ag m).length:Int)-1)=((Ag m).length:Int)-1:=by rw [Ac,Bl] <;> omega
   rw [Kc rfl rfl (Nat.le_refl _) (by omega) (by omega),hw]
   simp only [Ad]
   have ha:=Ef m
   refine Gi (fun (r,i,q)=>∃(k R:Nat),r=Ag R/\i=(k:Int)-1/\k<=(Ag m).length/\R<n/\q.length=(Ag m).length/\Bp q/\Ak (q.drop k)*n+R=Ak ((Ag m).drop k))
    (fun (_,i,_)=>(i+1).toNat) (fun (r,q)=>∃R:Nat,r=Ag R/\R<n/\q.length=(Ag m).length/\Bp q/\Ak q*n+R=m)
    ⟨(Ag m).length,0,by rw [El],rfl,Nat.le_refl _,by omega,by simp,Bp.replicate _,by simp [Ak]⟩ ?_ ?_
   .rintro ⟨r,i,q⟩ ⟨k,R,rfl,rfl,hk,J,u,g,A⟩
    cases k with
    | zero=>exact .inr ⟨(Ag R,q),by simp,R,rfl,J,u,g,by simpa [Es] using A⟩
    | succ j=>
     have hj:j<(Ag m).length:=by omega
     have E:j<q.length:=by omega
     have hx:=ha.get hj
     obtain ⟨x,y⟩:∃x:Nat,(Ag m)[j]=(x:Int):=⟨(Ag m)[j].toNat,by omega⟩
     have L:x<1000000000:=by omega
     have e0:((j+1:Nat):Int)-1=(j:Int):=by omega
     have e1:decide ((j:Int)>=0)=true:=Aj (by omega)
     have Y:Bj R<=Bj n:=Lu (by omega)
     have ab:Bj (x+1000000000*R)<=Bj R+1:=by
      have:=Asz x R
      rwa [Nat.mod_eq_of_lt L] at this
     have ag:(Ag R).length<=(Ag n).length:=Y
     have G:Ik ((x:Int)::Ag R)=some (Ag (x+1000000000*R)):=by
      rw [Pc _ (by simp; omega)]
      congr 1
      refine Jh ?_ ?_
      .intro d hd
       rcases List.mem_cons.1 hd with rfl | hd
       .omega
       .exact Ef R d hd
      .simp only [Ak,Es]; omega
     obtain ⟨d0,S,af⟩:=Asy (x+1000000000*R) n (by unfold Bj; omega) (by omega) (by omega)
     generalize a1:x+1000000000*R=f at *
     have aa:f<1000000000*n:=by omega
     have s:∀d:Nat,d<18446744073709551616->Lm (d:Int)=some (Ag d)/\On (Ag n) (Ag d)=some (Ag (n*d)):=by
      intro d hd
      have:=Xu hd
      exact ⟨by rw [Ajc,Rk d hd],Asr n d (by omega) (by omega)⟩
     have I:∀d:Nat,d<18446744073709551616->Om (Ag (n*d)) (Ag f)=some (E8 (n*d) f):=by
      intro d hd
      have h3:=Xu hd
      have h4:=Acm n d
      rw [Acz,Ue _ _ (by omega) (by omega)]
     simp only [e0,e1,cond_true,Dp rfl hj,y,Ad,Ds (show ([(x:Int)].length+(Ag R).length)*4<=_ by simp; omega),List.singleton_append,G,S]
     refine .inl (Xp (Eb (fun d=>∃e:Nat,d=e/\e<=d0) (fun d=>d.toNat) (fun d=>∃e:Nat,d=e/\e<=d0/\n*e<=f) ⟨d0,rfl,Nat.le_refl _⟩ ?_ ?_))
     .rintro d ⟨e,rfl,he⟩
      by_cases V:e=0
      .subst V
       exact .inr ⟨0,rfl,0,rfl,by omega,by simp⟩
      .obtain ⟨m1,m2⟩:=s e (by omega)
       simp only [Aj (by omega:(e:Int)>0),cond_true,m1,m2,I e (by omega),Ad]
       by_cases hc:f<n*e
       .refine .inl ⟨((e-1:Nat):Int),?_,⟨e-1,rfl,by omega⟩,by simp; omega⟩
        rw [show E8 (n*e) f=1 by rw [E8,if_neg (by omega),if_pos hc],show decide ((1:Int)>0)=true from rfl,cond_true,show A0 ((e:Int)-1)=((e-1:Nat):Int) by rw [A0,Cs] <;> omega]
       .refine .inr ⟨(e:Int),?_,e,rfl,he,by omega⟩
        rw [Ap (show ¬E8 (n*e) f>0 by rw [E8,if_neg hc]; split <;> decide),cond_false]
     .rintro d ⟨e,rfl,he,M⟩
      obtain ⟨m1,m2⟩:=s e (by omega)
      simp only [m1,m2,Ad,Ajd f (n*e) (by omega) M]
      refine Eb (fun (r,d)=>∃(c b:Nat),r=Ag c/\d=b/\n*b+c=f) (fun (r,_)=>(Ak r).toNat) (fun (r,d)=>∃(c b:Nat),r=Ag c/\d=b/\n*b+c=f/\c<n) ⟨f-n*e,e,rfl,rfl,by omega⟩ ?_ ?_
      .rintro ⟨r,d⟩ ⟨c,b,rfl,rfl,hs⟩
       have a8:Bj c<=Bj f:=Lu (by omega)
       have U:b<1000000000:=by
        rcases Nat.lt_or_ge b 1000000000 with h | h
        .exact h
        .exfalso
         have:n*1000000000<=n*b:=Nat.mul_le_mul_left n h
         omega
       simp only [Acz,Ue c n (by omega) (by omega),Ad]
       by_cases hc:c<n
       .refine .inr ⟨(Ag c,(b:Int)),?_,c,b,rfl,rfl,hs,hc⟩
        rw [Ap (show ¬E8 c n>=0 by rw [E8,if_pos hc]; decide),cond_false]
       .refine .inl ⟨(Ag (c-n),((b+1:Nat):Int)),?_,⟨c-n,b+1,rfl,rfl,?_⟩,?_⟩
        .rw [Aj (show E8 c n>=0 by rw [E8,if_neg hc]; split <;> decide),cond_true,Ajd c n (by omega) (by omega),Ad,show A0 ((b:Int)+1)=((b+1:Nat):Int) by rw [A0,Cs] <;> omega]
        .rw [Nat.mul_add]; omega
        .simp only [Es]; omega
      .rintro ⟨r,d⟩ ⟨c,b,rfl,rfl,hs,Z⟩
       have U:b<1000000000:=by
        rcases Nat.lt_or_ge b 1000000000 with h | h
        .exact h
        .exfalso
         have:n*1000000000<=n*b:=Nat.mul_le_mul_left n h
         omega
       have w1:Cj (b:Int)=b:=Fw (by omega) (by omega)
       have w8:Ac ((j:Int)-1)=(j:Int)-1:=by rw [Ac,Bl] <;> omega
       refine ⟨_,by simp only [Dp rfl E,Ad,w1,w8,Hn rfl],(Ag c,(j:Int)-1,q.set j (b:Int)),rfl,⟨j,c,rfl,rfl,by omega,Z,by simpa using u,g.set _ (by omega) (by omega),?_⟩,by simp⟩
       have d1:(q.set j (b:Int)).drop j=(b:Int)::q.drop (j+1):=by
        rw [List.drop_eq_getElem_cons (by simpa using E),List.drop_set_of_lt (by omega)]; simp
       rw [d1,List.drop_eq_getElem_cons hj,y]
       simp only [Ak]
       rw [<-A]
       have:((n*b+c:Nat):Int)=((x+1000000000*R:Nat):Int):=by rw [hs,a1]
       simp only [Int.natCast_add,Int.natCast_mul] at this
       grind
   .rintro ⟨r,q⟩ ⟨R,rfl,J,u,g,A⟩
    dsimp only
    have ac:=Gc g.u32
    obtain ⟨Q,hQ⟩:∃Q:Nat,Ak q=Q:=⟨(Ak q).toNat,by omega⟩
    rw [hQ] at A
    have z:Q*n+R=m:=by
     have:((Q*n+R:Nat):Int)=(m:Int):=by simp only [Int.natCast_add,Int.natCast_mul]; exact A
     omega
    have hd:m / n=Q:=by rw [<-z,Nat.mul_comm,Nat.mul_add_div (by omega),Nat.div_eq_of_lt J]; rfl
    have N:m % n=R:=by rw [<-z,Nat.mul_comm,Nat.mul_add_mod,Nat.mod_eq_of_lt J]
    rw [Pc q (by omega),Ad,Jh g hQ,hd,N]
theorem As0 (m n:Nat) (h:Bj m<137438953472) (g:Bj n<137438953472):S5 (Ag m) (Ag n)=some (Ag (Nat.gcd m n)):=by
 unfold S5
 refine Gi (fun (a,b)=>∃x y:Nat,a=Ag x/\b=Ag y/\Bj x<137438953472/\Bj y<137438953472/\Nat.gcd x y=Nat.gcd m n) (fun (_,b)=>(Ak b).toNat)
  (fun r=>r=Ag (Nat.gcd m n)) ⟨m,n,rfl,rfl,h,g,rfl⟩ ?_ (by rintro e rfl; rfl)
 rintro ⟨a,b⟩ ⟨x,y,rfl,rfl,hx,hy,f⟩
 by_cases c:y=0
 .subst c
  refine .inr ⟨Ag x,by rw [El]; rfl,?_⟩
  rw [<-f,Nat.gcd_zero_right]
 .have i:(Ag y).length≠0:=fun e=>G0 c (List.length_eq_zero_iff.1 e)
  have j:decide (((Ag y).length:Int)>0)=true:=Aj (by omega)
  refine .inl ⟨(Ag y,Ag (x % y)),?_,⟨y,x % y,rfl,rfl,hy,by have:=Lu (Nat.mod_le x y); omega,?_⟩,?_⟩
  .simp only [j,cond_true,Ac2 x y hx hy c,Ad]
  .rw [<-f,Nat.gcd_comm y,<-Nat.gcd_rec,Nat.gcd_comm]
  .simp only [Es]
   have:=Nat.mod_lt x (by omega:y>0)
   omega
end Go.Ab
namespace Go.Ab
open Go
def Na (b:Bool) (n d:Nat):A4:=if d=0 then ⟨false,[],[1]⟩ else Bw b n d
theorem Ac3 {n:Nat} (h:n≠0):(Ag n).length≠0:=fun e=>G0 h (List.length_eq_zero_iff.1 e)
theorem Aje (c:Bool) (a b:List Int) (ha:Jf a) (hb:Jf b) (q:a.length<137438953400) (l:b.length<137438953400):Lk c a b=some (Na c (Ak a).toNat (Ak b).toNat):=by
 unfold Lk
 have h1:=Xz ha
 have h2:=Xz hb
 rw [Ajb a ha (by omega),Ad,Ajb b hb (by omega),Ad]
 generalize (Ak a).toNat=n at *
 generalize (Ak b).toNat=d at *
 by_cases g:n=0
 .subst g
  have:Na c 0 d=⟨false,[],[1]⟩:=by unfold Na; split <;> simp [Bw]
  rw [this,El]; rfl
 .have j:=Ac3 g
  by_cases hd:d=0
  .subst hd
   simp only [B2 (by omega:((Ag n).length:Int)≠0),cond_false,El,Ad]
   rfl
  .have k:=Ac3 hd
   have f:Nat.gcd n d≠0:=by have:=Nat.gcd_pos_of_pos_left d (by omega:0<n); omega
   have u:Bj (Nat.gcd n d)<=Bj n:=Lu (Nat.gcd_le_left d (by omega:0<n))
   simp only [B2 (by omega:((Ag n).length:Int)≠0),cond_false,B2 (by omega:((Ag d).length:Int)≠0),Ad,As0 n d (by omega) (by omega)]
   rw [Na,if_neg hd,Bw,if_neg g]
   have key:(bif (((Ag (Nat.gcd n d)).length:Int) != (1:Int)) then some true else ((Ae (Ag (Nat.gcd n d)) 0).bind fun i=>some (i != (1:Int))))=some (decide (Nat.gcd n d≠1)):=by
    have h3:=Xx (Nat.gcd n d)
    unfold Ln at h3
    by_cases s:(Ag (Nat.gcd n d)).length=1
    .rw [Da (by omega:((Ag (Nat.gcd n d)).length:Int)=1),cond_true] at h3
     rw [C4 (by omega:((Ag (Nat.gcd n d)).length:Int)=1),cond_false]
     cases hi:Ae (Ag (Nat.gcd n d)) 0 with
     | none=>rw [hi] at h3; cases h3
     | some v=>
      rw [hi] at h3
      simp only [Ad] at h3 ⊢
      have h3:=Option.some.inj h3
      congr 1
      rw [bne,h3]; simp
    .rw [B2 (by omega:((Ag (Nat.gcd n d)).length:Int)≠1),cond_false] at h3
     rw [Cy (by omega:((Ag (Nat.gcd n d)).length:Int)≠1),cond_true]
     have h3:=Option.some.inj h3
     have:Nat.gcd n d≠1:=by simpa using h3.symm
     rw [Aj this]
   rw [key,Ad]
   by_cases h:Nat.gcd n d=1
   .rw [Ap (by simpa using h),cond_false,h]; simp
   .rw [Aj h,cond_true,Ac2 n _ (by omega) (by omega) f,Ad,Ac2 d _ (by omega) (by omega) f,Ad]
theorem As1 (a:A4):Na a.Neg (Ak a.Num).toNat (Ak a.Den).toNat=Bw (sv a) (nv a) (dv a):=by
 unfold Na sv nv dv
 by_cases b:(Ak a.Num).toNat=0
 .simp [b,Bw]
 .by_cases hd:(Ak a.Den).toNat=0
  .simp [hd,Bw]
  .simp [b,hd]
theorem Ac4 (a:A4) (k:Nat) (h:RB k a) (hk:k<137438953400):Lj a=some (Bw (sv a) (nv a) (dv a)):=by
 unfold Lj
 have:=h.nl
 have:=h.dl
 rw [Aje _ _ _ h.num h.den (by omega) (by omega),Ad,As1]
theorem Ajf (s:Bool) (n d:Nat) (hd:d≠0):(Bw s n d).Num=Ag (nv (Bw s n d))/\(Bw s n d).Den=Ag (dv (Bw s n d))/\(Bw s n d).Neg=sv (Bw s n d):=by
 obtain ⟨h1,h2,h3,h4⟩:=Acx s n d hd
 rw [h1,h2]
 by_cases h0:n=0
 .subst h0
  rw [h4 rfl,Acv]
  have b:d / Nat.gcd 0 d=1:=by rw [Nat.gcd_zero_left]; exact Nat.div_self (by omega)
  rw [b,Nat.zero_div,El,Lw]; exact ⟨rfl,rfl,rfl⟩
 .rw [h3 h0]; simp [Bw,h0]
theorem As2 (a:A4):∃g:Nat,g≠0/\nv a=g*nv (Bw (sv a) (nv a) (dv a))/\dv a=g*dv (Bw (sv a) (nv a) (dv a))/\sv (Bw (sv a) (nv a) (dv a))=sv a:=by
 obtain ⟨h1,h2,h3,h4⟩:=Acx (sv a) (nv a) (dv a) (Gs a)
 have hd:=Gs a
 have b:0<Nat.gcd (nv a) (dv a):=Nat.gcd_pos_of_pos_right _ (by omega)
 refine ⟨Nat.gcd (nv a) (dv a),by omega,?_,?_,?_⟩
 .rw [h1]; exact (Nat.mul_div_cancel' (Nat.gcd_dvd_left _ _)).symm
 .rw [h2]; exact (Nat.mul_div_cancel' (Nat.gcd_dvd_right _ _)).symm
 .by_cases h0:nv a=0
  .rw [h4 h0]
   unfold nv at h0
   unfold sv
   split at h0
   .rename_i hc; rw [if_pos hc]
   .omega
  .exact h3 h0
theorem As3 (s:Bool) (n d:Nat) (h:d≠0):Na s n d=Bw s n d:=by rw [Na,if_neg h]
theorem As4 (b:Bool) (n d:Nat) (f:Bj n<137438953400) (hd:Bj d<137438953400) (c:d≠0):Lk b (Ag n) (Ag d)=some (Bw b n d):=by
 unfold Bj at f hd
 rw [Aje b _ _ (Ef n).u32 (Ef d).u32 f hd,Es,Es,Int.toNat_natCast,Int.toNat_natCast,As3 _ _ _ c]
theorem Ajg (a:A4) (k:Nat) (h:RB k a) (hk:k<137438953400):Qa a=some (Dt (sv a) (nv a)):=by
 unfold Qa
 rw [Ac4 a k h hk,Ad]
 obtain ⟨g,b,a1,a2,a3⟩:=As2 a
 obtain ⟨f1,f2,f3⟩:=Ajf (sv a) (nv a) (dv a) (Gs a)
 rw [f1,f3,a3,Dt]
 by_cases h0:nv a=0
 .have:nv (Bw (sv a) (nv a) (dv a))=0:=by
   rw [h0] at a1
   rcases Nat.mul_eq_zero.1 a1.symm with h | h
   .exact (b h).elim
   .rw [h0]; exact h
  rw [this,El,if_pos h0]; rfl
 .have:nv (Bw (sv a) (nv a) (dv a))≠0:=by
   intro e; rw [e,Nat.mul_zero] at a1; exact h0 a1
  have:=Ac3 this
  rw [B2 (by omega),cond_false,if_neg h0]
  cases sv a <;> rfl
end Go.Ab
namespace Go.Ab
open Go
theorem As5 (s:Bool) (n d:Nat) (hd:d≠0):∃g:Nat,g≠0/\n=g*nv (Bw s n d)/\d=g*dv (Bw s n d)/\(n≠0->sv (Bw s n d)=s)/\(n=0->sv (Bw s n d)=false):=by
 obtain ⟨h1,h2,h3,h4⟩:=Acx s n d hd
 have b:0<Nat.gcd n d:=Nat.gcd_pos_of_pos_right _ (by omega)
 exact ⟨Nat.gcd n d,by omega,by rw [h1]; exact (Nat.mul_div_cancel' (Nat.gcd_dvd_left _ _)).symm,by rw [h2]; exact (Nat.mul_div_cancel' (Nat.gcd_dvd_right _ _)).symm,h3,h4⟩
end Go.Ab
namespace Go.Ab
open Go
mutual
def A9:Af->Nat
 | ⟨_,_,l⟩=>1+Ce l
def Ce:List Af->Nat
 | []=>0
 | x::xs=>A9 x+Ce xs
end
theorem Fm (t:Af):A9 t=1+Ce t.Args:=by cases t; simp only [A9]
theorem Kz (t:Af):1<=A9 t:=by rw [Fm]; omega
theorem Fx {l:List Af} {a:Af} (h:a∈l):A9 a<=Ce l:=by
 induction l with
 | nil=>cases h
 | cons x xs ih=>
  simp only [Ce]
  rcases List.mem_cons.1 h with rfl | h
  .omega
  .have:=ih h; omega
theorem Hc (l:List Af):l.length<=Ce l:=by
 induction l with
 | nil=>simp
 | cons x xs ih=>simp only [Ce,List.length_cons]; have:=Kz x; omega
theorem X2 (l m:List Af):Ce (l++m)=Ce l+Ce m:=by
 induction l with
 | nil=>simp [Ce]
 | cons x xs ih=>simp only [List.cons_append,Ce,ih]; omega
def I3 (data:List Ao) (vars k n:Int) (len:Nat):Bool :=
 if k=1\/k=2\/k=3 then n==0&&len==0
 else if k=4 then decide (0<=n)&&decide (n<vars)&&len==0
 else if k=5 then decide (0<=n)&&(match data[n.toNat]? with | some d=>(len:Int)==d.Vars | none=>false)
 else if k=6 then n==0&&decide (2<=len)&&decide (len<=6)
 else if k=7\/k=8 then n==0&&len==1
 else if k=9 then n==0&&decide (1<=len)&&decide (len<=7)
 else false
mutual
def Em (data:List Ao) (vars:Int):Af->Bool
 | ⟨k,n,l⟩=>I3 data vars k n l.length&&Dx data vars l
def Dx (data:List Ao) (vars:Int):List Af->Bool
 | []=>true
 | x::xs=>Em data vars x&&Dx data vars xs
end
theorem X3 (data:List Ao) (vars:Int) (t:Af):Em data vars t=(I3 data vars t.Kind t.Num t.Args.length&&Dx data vars t.Args):=by cases t; simp only [Em]
theorem Ajh {α:Type} (l:List α) (n:Nat):((l.length:Int)==(n:Int))=(l.length==n):=by
 by_cases h:l.length=n
 .subst h; simp
 .rw [B2 (by omega)]; simp [h]
theorem As6 (k:Nat) (t:Af) (data:List Ao) (vars left:Int) (h1:1<=left) (h2:left<=1000) :
  J4 (k+1) t ⟨data,vars,left⟩=bif I3 data vars t.Kind t.Num t.Args.length then ((Re k t.Args ⟨data,vars,left-1⟩).bind fun v12=>some ((!v12.1),v12.2)) else some (false,⟨data,vars,left-1⟩):=by
 have c:Ac (left-1)=left-1:=Bl (by omega) (by omega)
 have b:¬left-1<0:=by omega
 rw [J4]
 simp only [c,Ap b,cond_false]
 generalize h:(Re k t.Args ⟨data,vars,left-1⟩).bind (fun v12=>some ((!v12.1),v12.2))=X
 generalize g:(some (false,⟨data,vars,left-1⟩):Option (Bool×E7))=Y
 unfold I3 Ae
 generalize t.Args.length=len
 generalize t.Kind=f
 generalize t.Num=n
 cases hd:data[n.toNat]? <;> simp only [Bool.cond_eq_ite,Acj,Ad,Option.bind_none,hd] <;> grind
theorem Ug {l:List Af} {j:Nat} (h:j<l.length):Ce (l.take (j+1))=Ce (l.take j)+A9 l[j]:=by
 rw [List.take_succ_eq_append_getElem h,X2]; simp [Ce]
theorem Aji (data:List Ao) (vars:Int) (l m:List Af):Dx data vars (l++m)=(Dx data vars l&&Dx data vars m):=by
 induction l with
 | nil=>simp [Dx]
 | cons x xs ih=>simp only [List.cons_append,Dx,ih,Bool.and_assoc]
theorem X4 (data:List Ao) (vars:Int) {l:List Af} {j:Nat} (h:j<l.length):Dx data vars (l.take (j+1))=(Dx data vars (l.take j)&&Em data vars l[j]):=by
 rw [List.take_succ_eq_append_getElem h,Aji]; simp [Dx]
theorem Uh (l:List Af) (j:Nat):Ce (l.take j)<=Ce l:=by
 have:=X2 (l.take j) (l.drop j)
 rw [List.take_append_drop] at this; omega
theorem Ajj (data:List Ao) (vars:Int) (l:List Af) (j:Nat) (h:Dx data vars l=true):Dx data vars (l.take j)=true:=by
 have:=Aji data vars (l.take j) (l.drop j)
 rw [List.take_append_drop,h] at this
 have:=this.symm
 simp only [C7] at this
 exact this.1
theorem As7 (data:List Ao) (vars:Int) (k:Nat) (l:List Af) (c:Nat) (G:l.length<1099511627776)
  (ih:∀(a:Af),a∈l->∀f:Nat,f<=c->∃g:Int,J4 k a ⟨data,vars,f⟩=some (Em data vars a&&decide (A9 a<=f),⟨data,vars,g⟩)/\((Em data vars a&&decide (A9 a<=f))=true->g=(f:Int)-A9 a)) :
  ∃p:Int×Int,T5 (k+2) l ⟨data,vars,c⟩=some (p.1,⟨data,vars,p.2⟩)/\((Dx data vars l&&decide (Ce l<=c))=true->p.1 = -1/\p.2=(c:Int)-Ce l)/\((Dx data vars l&&decide (Ce l<=c))=false->0<=p.1):=by
 rw [T5]
 refine Aci (fun p:Int×Int=>(p.1,E7.mk data vars p.2)) (Eb
  (fun (v3,v4,v5,s)=>∃j:Nat,v3=j/\j<=l.length/\v4=data/\v5=vars/\Dx data vars (l.take j)=true/\Ce (l.take j)<=c/\s=(c:Int)-Ce (l.take j))
  (fun (v3,_,_,_)=>l.length-v3.toNat)
  (fun z=>match z with | .inl (i,b)=>0<=i/\(∃g,b=⟨data,vars,g⟩)/\(Dx data vars l&&decide (Ce l<=c))=false | .inr (v4,v5,s)=>v4=data/\v5=vars/\(Dx data vars l&&decide (Ce l<=c))=true/\s=(c:Int)-Ce l)
  ⟨0,rfl,by omega,rfl,rfl,rfl,by simp [Ce],by simp [Ce]⟩ ?_ ?_)
 .rintro ⟨v3,v4,v5,s⟩ ⟨j,rfl,hj,rfl,rfl,x,A,rfl⟩
  rcases Nat.lt_or_ge j l.length with h | h
  .obtain ⟨u,y⟩:∃u:Nat,(c:Int)-Ce (l.take j)=u/\u<=c:=⟨c-Ce (l.take j),by omega,by omega⟩
   obtain ⟨g,E,D⟩:=ih l[j] (List.getElem_mem h) u y.2
   simp only [Aj (by omega:(j:Int)<(l.length:Int)),cond_true,Dp rfl h,Ad,S9,y.1,E]
   cases hb:(Em v4 v5 l[j]&&decide (A9 l[j]<=u)) with
   | true=>
    have I:=D hb
    simp only [C7,decide_eq_true_eq] at hb
    refine .inl ⟨(((j+1:Nat):Int),v4,v5,g),?_,⟨j+1,rfl,by omega,rfl,rfl,?_,?_,?_⟩,by simp; omega⟩
    .simp only [De,cond_false]
     rw [show Ac ((j:Int)+1)=((j+1:Nat):Int) by rw [Ac,Bl] <;> omega]
    .rw [X4 _ _ h,x,hb.1]; rfl
    .rw [Ug h]; omega
    .show g=_
     rw [Ug h]; omega
   | false=>
    refine .inr ⟨.inl ((j:Int),⟨v4,v5,g⟩),by simp,by omega,⟨g,rfl⟩,?_⟩
    cases q:(Dx v4 v5 l&&decide (Ce l<=c)) with
    | false=>rfl
    | true=>
     exfalso
     simp only [C7,decide_eq_true_eq] at q
     have a1:=Ajj v4 v5 l (j+1) q.1
     rw [X4 _ _ h] at a1
     simp only [C7] at a1
     have a2:=Uh l (j+1)
     rw [Ug h] at a2
     rw [a1.2,Bool.true_and,decide_eq_false_iff_not] at hb
     omega
  .have:j=l.length:=by omega
   subst this
   rw [List.take_length] at *
   refine .inr ⟨.inr (v4,v5,(c:Int)-Ce l),by simp,rfl,rfl,by simp [x,A],rfl⟩
 .rintro (⟨i,b⟩ | ⟨v4,v5,s⟩) B
  .obtain ⟨a1,⟨g,rfl⟩,a3⟩:=B
   exact ⟨_,rfl,(i,g),rfl,(fun h=>by rw [a3] at h; cases h),fun _=>a1⟩
  .obtain ⟨rfl,rfl,a3,rfl⟩:=B
   exact ⟨_,rfl,(-1,_),rfl,fun _=>⟨rfl,rfl⟩,fun h=>by rw [a3] at h; cases h⟩
theorem As8 (data:List Ao) (vars:Int):∀(left:Nat) (t:Af) (k:Nat),left<=200->4*left+4<=k->A9 t<1099511627776 ->
  ∃f:Int,J4 k t ⟨data,vars,left⟩=some (Em data vars t&&decide (A9 t<=left),⟨data,vars,f⟩)/\((Em data vars t&&decide (A9 t<=left))=true->f=(left:Int)-A9 t):=by
 intro left
 induction left using Nat.strongRecOn with
 | _ left s=>
  intro t k A hk ht
  have hp:=Kz t
  obtain ⟨g,rfl⟩:∃g,k=g+1:=⟨k-1,by omega⟩
  cases left with
  | zero=>
   refine ⟨-1,?_,fun h=>by simp at h; omega⟩
   rw [J4]
   have hd:decide (A9 t<=0)=false:=Ap (by omega)
   rw [hd,Bool.and_false]
   rfl
  | succ b=>
   rw [As6 g t data vars ((b+1:Nat):Int) (by omega) (by omega)]
   have y:((b+1:Nat):Int)-1=(b:Int):=by omega
   rw [y,X3]
   cases z:I3 data vars t.Kind t.Num t.Args.length with
   | false=>exact ⟨b,by simp,fun h=>by simp at h⟩
   | true=>
    obtain ⟨q,rfl⟩:∃q,g=q+3:=⟨g-3,by omega⟩
    have j:=Fm t
    have u:=Hc t.Args
    obtain ⟨⟨i,f⟩,h1,h2,h3⟩:=As7 data vars q t.Args b (by omega) (fun a ha c x=>by
     have:=Fx ha
     exact s c (by omega) a q (by omega) (by omega) (by omega))
    have l:decide (A9 t<=b+1)=decide (Ce t.Args<=b):=by
     rw [j]; congr 1; simp only [eq_iff_iff]; omega
    simp only [cond_true,Re,h1,Ad,Bool.true_and,l]
    refine ⟨f,?_,fun h=>?_⟩
    .cases hb:(Dx data vars t.Args&&decide (Ce t.Args<=b)) with
     | true=>
      have h4:i = -1:=(h2 hb).1
      rw [Ap (by omega:¬i>=0)]; rfl
     | false=>
      have h4:0<=i:=h3 hb
      rw [Aj (by omega:i>=0)]; rfl
    .have h4:f=(b:Int)-Ce t.Args:=(h2 h).2
     rw [h4,j]; omega
theorem X5 (data:List Ao) (t:Af) (vars:Int) (ht:A9 t<1099511627776):Lh data t vars=some (Em data vars t&&decide (A9 t<=200)):=by
 unfold Lh
 obtain ⟨b,h1,_⟩:=As8 data vars 200 t 4000000 (by decide) (by decide) ht
 have h1:J4 4000000 t ⟨data,vars,200⟩=_:=h1
 rw [h1]; rfl
theorem Ajk:∀(k:Nat) (t:Af),A9 t<=k->A9 t<1099511627776->Lp k t=some (A9 t:Int):=by
 intro k
 induction k with
 | zero=>intro t h; have:=Kz t; omega
 | succ k ih=>
  intro t h ht
  have c:=Fm t
  have f:=Hc t.Args
  rw [Lp]
  refine Gi (fun (n,i)=>∃j:Nat,i=j/\j<=t.Args.length/\n=1+(Ce (t.Args.take j):Int)) (fun (_,i)=>t.Args.length-i.toNat) (fun n=>n=(A9 t:Int)) ⟨0,rfl,by omega,by simp [Ce]⟩ ?_ (by rintro n rfl; rfl)
  rintro ⟨n,i⟩ ⟨j,rfl,hj,rfl⟩
  rcases Nat.lt_or_ge j t.Args.length with h' | h'
  .have l:=Fx (List.getElem_mem h')
   have g:=Uh t.Args j
   have b:=Uh t.Args (j+1)
   rw [Ug h'] at b
   refine .inl ⟨(1+(Ce (t.Args.take (j+1)):Int),((j+1:Nat):Int)),?_,⟨j+1,rfl,by omega,rfl⟩,by simp; omega⟩
   simp only [Aj (by omega:(j:Int)<(t.Args.length:Int)),cond_true,Dp rfl h',Ad,ih t.Args[j] (by omega) (by omega)]
   rw [show Ac ((j:Int)+1)=((j+1:Nat):Int) by rw [Ac,Bl] <;> omega,show Ac (1+(Ce (t.Args.take j):Int)+(A9 t.Args[j]:Int))=1+(Ce (t.Args.take (j+1)):Int) by rw [Ug h',Ac,Bl] <;> omega]
  .have:j=t.Args.length:=by omega
   subst this
   exact .inr ⟨1+(Ce t.Args:Int),by simp,by rw [c]; omega⟩
theorem As9 (data:List Ao) (vars:Int):∀(k:Nat) (t:Af),A9 t<=k->A9 t<1099511627776->Mt k data t vars=some (Em data vars t):=by
 intro k
 induction k with
 | zero=>intro t h; have:=Kz t; omega
 | succ k ih=>
  intro t h ht
  have A:=Fm t
  have l:=Hc t.Args
  have c:(An (S:=Int) (E:=(Bool⊕Unit)) (fun v8=>bif (decide (v8<(t.Args.length:Int))) then ((Ae t.Args v8).bind fun v9=>(Mt k data v9 vars).bind fun x=>bif (!x) then some (.inr (.inl false)) else some (.inl (Ac (v8+1)))) else some (.inr (.inr ()))) 0).bind (fun z=>match z with | .inl y=>some y | .inr _=>some true)=some (Dx data vars t.Args):=by
   refine Gi (fun i=>∃j:Nat,i=j/\j<=t.Args.length/\Dx data vars (t.Args.take j)=true) (fun i=>t.Args.length-i.toNat)
    (fun z=>match z with | .inl r=>r=Dx data vars t.Args | .inr _=>Dx data vars t.Args=true) ⟨0,rfl,by omega,by simp [Dx]⟩ ?_ ?_
   .rintro i ⟨j,rfl,hj,f⟩
    rcases Nat.lt_or_ge j t.Args.length with h' | h'
    .have I:=Fx (List.getElem_mem h')
     simp only [Aj (by omega:(j:Int)<(t.Args.length:Int)),cond_true,Dp rfl h',Ad,ih t.Args[j] (by omega) (by omega)]
     cases hb:Em data vars t.Args[j] with
     | true=>
      refine .inl ⟨((j+1:Nat):Int),?_,⟨j+1,rfl,by omega,by rw [X4 _ _ h',f,hb]; rfl⟩,by simp; omega⟩
      simp only [De,cond_false]
      rw [show Ac ((j:Int)+1)=((j+1:Nat):Int) by rw [Ac,Bl] <;> omega]
     | false=>
      refine .inr ⟨.inl false,by simp,?_⟩
      show false=_
      cases q:Dx data vars t.Args with
      | false=>rfl
      | true=>
       have a1:=Ajj data vars t.Args (j+1) q
       rw [X4 _ _ h',hb,Bool.and_false] at a1; cases a1
    .have:j=t.Args.length:=by omega
     subst this
     rw [List.take_length] at f
     exact .inr ⟨.inr (),by simp,f⟩
   .rintro (r | u) s
    .simp only at s ⊢; rw [s]
    .simp only at s ⊢; rw [s]
  rw [Mt,X3]
  refine Eq.trans (b:=Option.bind _ (fun z:Bool⊕Unit=>match z with | .inl D=>some D | .inr _=>some (Dx data vars t.Args))) (Ar0 ?_) ?_
  .rintro (r | u)
   .rfl
   .exact c
  have g:t.Args.length=0->Dx data vars t.Args=true:=by
   intro e; rw [List.length_eq_zero_iff.1 e]; rfl
  unfold I3 Ae
  clear c ih h ht A l
  generalize Dx data vars t.Args=X at *
  generalize t.Args.length=len at *
  generalize t.Kind=G
  generalize t.Num=n
  by_cases B:len=0
  .have hx:=g B
   subst B; subst hx
   cases hd:data[n.toNat]? <;> simp only [Bool.cond_eq_ite,Acj,Ad,Option.bind_none,hd] <;> grind
  .have h0:((len:Int)==0)=false:=B2 (by omega)
   have h1:(len==0)=false:=by simpa using B
   have h2:((len:Int) != 1)=(!(len==1)):=by
    by_cases h:len=1
    .subst h; rfl
    .rw [Cy (by omega)]; simp [h]
   cases hd:data[n.toNat]? <;> simp only [h0,h1,h2,Bool.cond_eq_ite,Acj,Ad,Option.bind_none,hd,Bool.and_false,Bool.false_and] <;> grind
theorem X6 (data:List Ao) (t:Af) (vars:Int) (ht:A9 t<=4000000):Ku data t vars=some (Em data vars t&&decide (A9 t<=200)):=by
 unfold Ku
 rw [Ajk 4000000 t ht (by omega),Ad,As9 data vars 4000000 t ht (by omega)]
 by_cases h:A9 t<=200
 .rw [Aj (by omega:(A9 t:Int)<=200),Aj h]; simp
 .rw [Ap (by omega:¬(A9 t:Int)<=200),Ap h]; simp
end Go.Ab
namespace Go.Ab
open Go
def Lx (a:Af) (i:Int):Bool:=a.Kind==4&&a.Num==i&&a.Args.length==0
def Ajl (l:List Af):Bool:=l.zipIdx.all fun q=>Lx q.1 q.2
def G1 (t:Af) (d vars:Int):Bool:=t.Kind==5&&t.Num==d&&(t.Args.length:Int)==vars&&Ajl t.Args
theorem Ajm (t:Af) (d vars:Int) (ht:t.Args.length<1099511627776):Ms t d vars=some (G1 t d vars):=by
 unfold Ms G1
 by_cases h1:t.Kind=5
 .by_cases h2:t.Num=d
  .by_cases h3:(t.Args.length:Int)=vars
   .simp only [C4 h1,C4 h2,C4 h3,cond_false,Ad,Da h1,Da h2,Da h3,Bool.true_and]
    refine (Pa t.Args (fun q=>Lx q.1 q.2) (fun j=>(j:Int)) rfl (by omega) (rt:=true) (rf:=false) ?_ ?_).trans (by rw [Lv]; rfl)
    .intro j x hx _ hd hi b
     simp only [hd,hi,b,cond_true,Ad,Lx]
     constructor
     .intro h
      simp only [C7,beq_iff_eq] at h
      simp [h.1.1,h.1.2,h.2]
     .intro h
      by_cases g1:x.Kind=4
      .by_cases g2:x.Num=j
       .by_cases g3:x.Args.length=0
        .simp [g1,g2,g3] at h
        .exact ⟨.inl false,by simp only [C4 g1,C4 g2,cond_false]; rw [Aj (by omega)]; rfl,rfl⟩
       .exact ⟨.inl false,by simp only [C4 g1,Cy g2,cond_false]; rfl,rfl⟩
      .exact ⟨.inl false,by simp only [Cy g1]; rfl,rfl⟩
    .intro hd _
     exact ⟨.inr (),by simp only [hd]; rfl,rfl⟩
   .simp only [C4 h1,C4 h2,Cy h3,cond_false,cond_true,Ad,B2 h3,Bool.and_false,Bool.false_and]
  .simp only [C4 h1,Cy h2,cond_false,cond_true,Ad,B2 h2,Bool.and_false,Bool.false_and]
 .simp only [Cy h1,cond_true,Ad,B2 h1,Bool.false_and]
def Fi (data:List Ao) (d c:Int):List Bool :=
 match Ae data d with
 | none=>[]
 | some x=>match Ae x.Cons c with
  | none=>[]
  | some y=>y.Args.map fun t=>G1 t d x.Vars
theorem E9 {α:Type} {l:List α} {i:Int} {x:α} (h:Ae l i=some x):0<=i/\i<l.length/\l[i.toNat]? = some x/\x∈l:=by
 unfold Ae at h
 split at h
 .have h1:i.toNat<l.length:=Fh h
  exact ⟨by assumption,by omega,h,Br h⟩
 .cases h
theorem Nb {α:Type} {l:List α} {i:Int} (h:Ae l i=none):i<0\/(l.length:Int)<=i:=by
 unfold Ae at h
 split at h
 .rw [List.getElem?_eq_none_iff] at h
  right; omega
 .left; omega
theorem Ajn {R:Type} (data:List Ao) (d c:Int) (F:Ao->Ka->Option R) (z:R) (X:Option R)
  (f:X=((bif (decide (d<(0:Int))) then some true else bif (decide (d>=(data.length:Int))) then some true else bif (decide (c<(0:Int))) then some true else
   (Ae data d).bind fun b=>some (decide (c>=(b.Cons.length:Int))):Option Bool).bind fun v2=>bif v2 then some z else (Ae data d).bind fun v3=>(Ae v3.Cons c).bind fun v4=>F v3 v4)) :
  X=match Ae data d with
   | none=>some z
   | some x=>match Ae x.Cons c with
    | none=>some z
    | some y=>F x y:=by
 subst f
 cases hx:Ae data d with
 | none=>
  rcases Nb hx with h | h
  .simp only [Aj h,cond_true,Ad]
  .by_cases h':d<0
   .simp only [Aj h',cond_true,Ad]
   .simp only [Ap h',Aj (show d>=(data.length:Int) from h),cond_true,cond_false,Ad]
 | some x=>
  obtain ⟨a1,a2,_,_⟩:=E9 hx
  simp only [Ap (by omega:¬d<0),Ap (by omega:¬d>=(data.length:Int)),cond_false,Ad]
  cases hy:Ae x.Cons c with
  | none=>
   rcases Nb hy with h | h
   .simp only [Aj h,cond_true,Ad]
   .by_cases h':c<0
    .simp only [Aj h',cond_true,Ad]
    .simp only [Ap h',Aj (show c>=(x.Cons.length:Int) from h),cond_true,cond_false,Ad]
  | some y=>
   obtain ⟨b1,b2,_,_⟩:=E9 hy
   simp only [Ap (by omega:¬c<0),Ap (by omega:¬c>=(x.Cons.length:Int)),cond_false,Ad]
def Ata (l:List Af):Prop:=l.length<=4194304/\∀a∈l,a.Args.length<=4194304
def He (data:List Ao):Prop:=∀x∈data,∀y∈x.Cons,Ata y.Args
theorem Atb (data:List Ao) (d c:Int) (hd:He data):Q6 data d c=some (Fi data d c):=by
 unfold Q6
 rw [Ajn data d c (fun v4 v5=>_) [] _ rfl]
 unfold Fi
 cases hx:Ae data d with
 | none=>rfl
 | some x=>
  cases hy:Ae x.Cons c with
  | none=>simp only [hy]
  | some y=>
   simp only [hy]
   have hs:=hd x (E9 hx).2.2.2 y (E9 hy).2.2.2
   refine Im y.Args (fun j=>((j:Int),(y.Args.take j).map fun t=>G1 t d x.Vars)) rfl (by have:=hs.1; omega) ?_ ?_
   .intro j t hj ht h1 h2 h3
    simp only [h1,h2,cond_true,Ad,Ajm t d x.Vars (by have:=hs.2 t (Br ht); omega)]
    rw [Ds (by simp; have:=hs.1; omega),Ad,h3,Dk ht,List.map_append]; rfl
   .intro h1
    exact ⟨_,by simp only [h1]; rfl,by simp⟩
theorem Atc (data:List Ao) (d c:Int) (hd:He data):Q6 data d c=some (Fi data d c):=Atb data d c hd
theorem Ac5 {α:Type} (l m:List α) (y x:α) (i:Int) (n:Nat) (h:i=n) (b:n=l.length):Cu (l++y::m) i x=l++x::m:=by
 rw [Hn h]; subst b; simp
theorem Ac6 {α:Type} (l m:List α) (y:α) (i:Int) (n:Nat) (h:i=n) (b:n=l.length):Ae (l++y::m) i=some y:=by
 rw [Bv h]; subst b; simp
theorem Atd (l:List Af) (k f:List Bool) (i:Int) (n:Nat) (b:Bool) (h:i=n) (u:n=k.length) (B:l.length<1099511627776) {R:Type} {J:Int×List Bool->Option R} {r:R}
  (A:J ((l.length:Int),k++(b&&Ajl l)::f)=some r) :
  (An (S:=(Int×(List Bool))) (E:=(Int×(List Bool))) (fun (c,g)=>
   bif (decide (c<(l.length:Int))) then (
   (Ae l c).bind fun s=>
   bif (s.Kind != (4:Int)) then (
   (Ae g i).bind fun v46=>
   some (.inl ((Ac (c+1)),(Cu g i false)))
   )
   else (
   bif (s.Num != c) then (
   (Ae g i).bind fun z=>
   some (.inl ((Ac (c+1)),(Cu g i false)))
   )
   else (
   bif (decide ((s.Args.length:Int)>(0:Int))) then (
   (Ae g i).bind fun y=>
   some (.inl ((Ac (c+1)),(Cu g i false)))
   )
   else (
   some (.inl ((Ac (c+1)),g))
   )
   )
   )
   )
   else (
   some (.inr (c,g))
   )
    ) (0,k++b::f)).bind J=some r:=by
 refine Im l (fun j=>((j:Int),k++(b&&(l.take j).zipIdx.all (fun q=>Lx q.1 q.2))::f)) (by simp) (by omega) ?_ ?_
 .intro j x hj hx h1 h2 h3
  have e:(l.take (j+1)).zipIdx.all (fun q=>Lx q.1 q.2)=((l.take j).zipIdx.all (fun q=>Lx q.1 q.2)&&Lx x j):=by
   rw [Dk hx,List.zipIdx_append,List.all_append]; simp [Nat.min_eq_left (Nat.le_of_lt hj)]
  simp only [h1,h2,h3,cond_true,Ad,Ac6 k f _ i n h u,Ac5 k f _ _ i n h u,e]
  unfold Lx
  by_cases g1:x.Kind=4
  .by_cases g2:x.Num=j
   .by_cases g3:x.Args.length=0
    .rw [Ap (by omega)]; simp [g1,g2,g3]
    .rw [Aj (by omega)]
     have:(x.Args.length==0)=false:=by simpa using g3
     simp [g1,g2,this]
   .simp [g1,g2,Cy g2]
  .simp [g1,Cy g1]
 .intro h1
  refine ⟨_,by simp only [h1]; rfl,?_⟩
  rw [List.take_length]
  exact A
theorem Ac7 (data:List Ao) (d c:Int) (hd:He data):Oq data d c=some (Fi data d c):=by
 unfold Oq
 rw [Ajn data d c (fun v3 v4=>_) [] _ rfl]
 unfold Fi
 cases hx:Ae data d with
 | none=>rfl
 | some x=>
  cases hy:Ae x.Cons c with
  | none=>simp only [hy]
  | some y=>
   simp only [hy]
   have hs:=hd x (E9 hx).2.2.2 y (E9 hy).2.2.2
   have b:=hs.1
   rw [Kc (n:=y.Args.length) (c:=y.Args.length) rfl rfl (by omega) (by omega) (by omega),Ad]
   refine Im y.Args (fun j=>((j:Int),((y.Args.take j).map fun t=>G1 t d x.Vars)++List.replicate (y.Args.length-j) false)) rfl (by omega) ?_ ?_
   .intro j t hj ht h1 h2 h3
    obtain ⟨m,f⟩:∃m,y.Args.length-j=m+1:=⟨y.Args.length-j-1,by omega⟩
    have g:y.Args.length-(j+1)=m:=by omega
    have ln:j=((y.Args.take j).map fun t=>G1 t d x.Vars).length:=by simp; omega
    simp only [h1,h2,cond_true,Ad,f,g,List.replicate_succ,Dk ht,List.map_append,List.map_cons,List.map_nil,List.append_assoc,List.cons_append,List.nil_append,
     Ac6 _ _ _ (j:Int) j rfl ln,Ac5 _ _ _ _ (j:Int) j rfl ln]
    have hb:(bif t.Kind==5 then bif t.Num==d then some (List.map (fun t=>G1 t d x.Vars) (List.take j y.Args)++((t.Args.length:Int)==x.Vars)::List.replicate m false)
       else some (List.map (fun t=>G1 t d x.Vars) (List.take j y.Args)++false::List.replicate m false)
      else some (List.map (fun t=>G1 t d x.Vars) (List.take j y.Args)++false::List.replicate m false))=some (List.map (fun t=>G1 t d x.Vars) (List.take j y.Args)++(t.Kind==5&&t.Num==d&&((t.Args.length:Int)==x.Vars))::List.replicate m false):=by
     cases t.Kind==5 <;> cases t.Num==d <;> simp
    rw [hb,Ad]
    refine Atd t.Args _ _ (j:Int) j _ rfl ln (by have:=hs.2 t (Br ht); omega) ?_
    rw [h3]; rfl
   .intro h1
    exact ⟨_,by simp only [h1]; rfl,by simp⟩
mutual
def mnt (d:Int):Af->Bool
 | ⟨k,n,l⟩=>(k==5&&n==d)||Ly d l
def Ly (d:Int):List Af->Bool
 | []=>false
 | x::xs=>mnt d x||Ly d xs
end
theorem Ate (d:Int) (t:Af):mnt d t=((t.Kind==5&&t.Num==d)||Ly d t.Args):=by cases t; simp only [mnt]
theorem Atf (d:Int) (l:List Af):Ly d l=l.any (mnt d):=by
 induction l with
 | nil=>rfl
 | cons x xs ih=>simp only [Ly,ih,List.any_cons]
theorem Atg (d:Int):∀(n:Nat) (t:Af) (k:Nat),A9 t<=n->4*n+4<=k->n<1099511627776->Ot k t d=some (mnt d t):=by
 intro n
 induction n with
 | zero=>intro t k h; have:=Kz t; omega
 | succ n ih=>
  intro t k h hk g
  obtain ⟨k,rfl⟩:∃c,k=c+4:=⟨k-4,by omega⟩
  have f:=Fm t
  have b:=Hc t.Args
  have key:Rc (k+3) t.Args d=some (Ly d t.Args):=by
   rw [Rc,Xk]
   rw [Atf]
   refine Uc (Ai2 t.Args (mnt d) (by omega) ?_ (fun h=>by simp only [h]; rfl) (fun _=>rfl) rfl) (fun i hi=>by rw [hi])
   intro j x hx h1 h2 h3
   have l:=Fx hx
   simp only [h1,h2,h3,cond_true,Ad,Tu,ih x k (by omega) (by omega) (by omega)]
  rw [Ot,key,Ate]
  cases t.Kind==5 <;> cases t.Num==d <;> simp
end Go.Ab
namespace Go.Ab
open Go
theorem Ath (data:List Ao) (v:Int) (l:List Af):Dx data v l=l.all (Em data v):=by
 induction l with
 | nil=>rfl
 | cons x xs ih=>simp only [Dx,ih,List.all_cons]
theorem Ati (data:List Ao) (d:Nat) (v k n:Int) (len:Nat):(I3 (data.take (d+1)) v k n len && !(k==5&&n==(d:Int)))=I3 (data.take d) v k n len:=by
 by_cases hk:k=5
 .subst hk
  unfold I3
  simp only [beq_self_eq_true,Bool.true_and,List.getElem?_take]
  by_cases b:n=d
  .subst b; simp
  .by_cases h0:0<=n
   .have e:(n==(d:Int))=false:=B2 b
    rcases Nat.lt_or_ge n.toNat d with h | h
    .simp [h,e,show n.toNat<d+1 by omega]
    .simp [e,show ¬n.toNat<d by omega,show ¬n.toNat<d+1 by omega]
   .simp [h0]
 .have e:(k==(5:Int))=false:=B2 hk
  simp only [e,Bool.false_and,Bool.not_false,Bool.and_true,I3,hk,if_false]
mutual
theorem Ajo (data:List Ao) (d:Nat) (v:Int):∀t:Af,(Em (data.take (d+1)) v t && !mnt d t)=Em (data.take d) v t
 | ⟨k,n,l⟩=>by
  have h1:=Ajp data d v l
  have h2:=Ati data d v k n l.length
  simp only [Em,mnt]
  rw [<-h1,<-h2]
  cases I3 (data.take (d+1)) v k n l.length <;> cases (k==5&&n==(d:Int)) <;> cases Dx (data.take (d+1)) v l <;> simp
theorem Ajp (data:List Ao) (d:Nat) (v:Int):∀l:List Af,(Dx (data.take (d+1)) v l && !Ly d l)=Dx (data.take d) v l
 | []=>by simp [Dx,Ly]
 | x::xs=>by
  have h1:=Ajo data d v x
  have h2:=Ajp data d v xs
  simp only [Dx,Ly]
  rw [<-h1,<-h2]
  cases Em (data.take (d+1)) v x <;> cases mnt d x <;> cases Dx (data.take (d+1)) v xs <;> simp
end
theorem Ajq:∀l:List Af,(∀a∈l,a.Args.length=0)->Ce l=l.length
 | [],_=>rfl
 | x::xs,h=>by
  have h1:=h x (by simp)
  simp only [Ce,List.length_cons]
  rw [Ajq xs (fun a ha=>h a (by simp [ha])),Fm,List.length_eq_zero_iff.1 h1]
  simp only [Ce]; omega
theorem Ajr {data:List Ao} {d:Nat} {x:Ao} (hx:data[d]? = some x) (c:x.Vars<=6) {t:Af} (h:G1 t d x.Vars=true):Em (data.take (d+1)) x.Vars t=true/\A9 t<=200:=by
 unfold G1 at h
 simp only [C7,beq_iff_eq] at h
 obtain ⟨⟨⟨h1,h2⟩,h3⟩,h4⟩:=h
 have ha:∀a∈t.Args,∃i:Nat,i<t.Args.length/\a.Kind=4/\a.Num=i/\a.Args.length=0:=by
  intro a ha
  obtain ⟨i,hi⟩:=List.getElem?_of_mem ha
  have:=Hb h4 hi
  simp only [Lx,C7,beq_iff_eq] at this
  exact ⟨i,Fh hi,this.1.1,this.1.2,this.2⟩
 refine ⟨?_,?_⟩
 .rw [X3,Ath,C7]
  constructor
  .rw [h1,h2]
   unfold I3
   simp [hx,h3]
  .rw [List.all_eq_true]
   intro a b
   obtain ⟨i,i1,i2,i3,i4⟩:=ha a b
   rw [X3,i2,i3,i4,List.length_eq_zero_iff.1 i4]
   unfold I3
   simp [Dx]; omega
 .rw [Fm,Ajq _ (fun a h=>(ha a h).choose_spec.2.2.2)]
  omega
def H9 (data:List Ao) (d:Nat) (v:Int) (t:Af):Bool:=G1 t d v||(Em (data.take d) v t&&decide (A9 t<=200))
theorem Atj {data:List Ao} {d:Nat} {x:Ao} (hx:data[d]? = some x) (b:x.Vars<=6) (t:Af):((Em (data.take (d+1)) x.Vars t&&decide (A9 t<=200))&&(G1 t d x.Vars || !mnt d t))=H9 data d x.Vars t:=by
 unfold H9
 cases h:G1 t d x.Vars with
 | true=>
  obtain ⟨h1,h2⟩:=Ajr hx b h
  rw [h1,Aj h2]; rfl
 | false=>
  rw [<-Ajo data d x.Vars t]
  cases Em (data.take (d+1)) x.Vars t <;> cases decide (A9 t<=200) <;> simp
def SzD (data:List Ao):Prop:=∀x∈data,x.Cons.length<=1048576/\∀y∈x.Cons,Ce y.Args<=1048576
theorem SzD.short {data:List Ao} (h:SzD data):He data:=fun x hx y hy=>by
 have h1:=(h x hx).2 y hy
 have h2:=Hc y.Args
 refine ⟨by omega,fun a ha=>?_⟩
 have h3:=Fx ha
 have h4:=Fm a
 have b:=Hc a.Args
 omega
theorem Atk {data:List Ao} (g:SzD data) (d c:Nat) {x:Ao} {y:Ka} (hx:data[d]? = some x) (hy:x.Cons[c]? = some y) (q:x.Vars<=6) (hd:data.length<=1048576) :
  Mq data d c=some (decide (y.Args.length<=6)&&y.Args.all (H9 data d x.Vars)):=by
 have b:=Fh hx
 have l:=(g x (Br hx)).2 y (Br hy)
 unfold Mq
 rw [Bv rfl hx,Ad,Bv rfl hy,Ad,Ac7 data d c g.short]
 by_cases k:y.Args.length<=6
 .rw [Ap (by omega:¬(y.Args.length:Int)>6),Aj k]
  simp only [cond_false,Bool.true_and,Ad]
  refine (M8 y.Args (H9 data d x.Vars) (fun j=>(j:Int)) rfl (by omega) (rt:=true) (rf:=false) ?_ ?_).trans (by rw [Lv])
  .intro j t ht h1 h2 h3
   have s:=Fx (Br ht)
   have u:Ae (Fi data d c) (j:Int)=some (G1 t d x.Vars):=by
    unfold Fi
    simp only [Bv rfl hx,Bv rfl hy]
    rw [Bv rfl]
    simp [ht]
   simp only [h1,h2,h3,cond_true,Ad,show Ac ((d:Int)+1)=((d+1:Nat):Int) from Di b (by omega),Xq rfl (show d+1<=data.length from b),Bv rfl hx,
    X5 (data.take (d+1)) t x.Vars (by omega),u]
   rw [<-Atj hx q t]
   cases i:(Em (data.take (d+1)) x.Vars t&&decide (A9 t<=200)) with
   | false=>exact ⟨(fun h=>by cases h),fun _=>⟨.inl false,rfl,rfl⟩⟩
   | true=>
    have f:A9 t<=200:=by simp only [C7,decide_eq_true_eq] at i; exact i.2
    simp only [De,cond_false,Bool.true_and]
    cases z:G1 t d x.Vars with
    | true=>exact ⟨fun _=>rfl,fun h=>by cases h⟩
    | false=>
     simp only [Bool.not_false,cond_true,Atg d 200 t 4000000 f (by omega) (by omega),Ad,Bool.false_or]
     cases mnt d t with
     | true=>exact ⟨(fun h=>by cases h),fun _=>⟨.inl false,rfl,rfl⟩⟩
     | false=>exact ⟨fun _=>rfl,fun h=>by cases h⟩
  .intro h
   exact ⟨.inr (),by simp only [h]; rfl,rfl⟩
 .rw [Aj (by omega:(y.Args.length:Int)>6),Ap k]; rfl
end Go.Ab
namespace Go.Ab
open Go
def bI (s:ByteArray) (i:Nat):Int:=if h:i<s.size then (s[i].toNat:Int) else 0
def loI (c:Int):Bool:=decide (97<=c)&&decide (c<=122)
def upI (c:Int):Bool:=decide (65<=c)&&decide (c<=90)
def diI (c:Int):Bool:=decide (48<=c)&&decide (c<=57)
def wiI (c:Int):Bool:=loI c||upI c||diI c||c==95
def D4 (s:ByteArray):Prop:=1<=s.size/\s.size<=24/\upI (bI s 0)=true/\∀i,i<s.size->wiI (bI s i)=true
theorem Gt {s:ByteArray} {i:Int} {n:Nat} (hi:i=n) (h:n<s.size):∃c:UInt8,Ee s i=some c/\(c.toNat:Int)=bI s n:=by
 subst hi
 refine ⟨s[n],?_,?_⟩
 .unfold Ee
  rw [if_pos (by omega),show ((n:Int)).toNat=n from rfl]
  simp [h]
 .unfold bI; simp [h]
theorem Pd {s:ByteArray} {a b j:Nat} (hb:b<=s.size) (h:a+j<b):bI (s.extract a b) j=bI s (a+j):=by
 unfold bI
 have h1:j<(s.extract a b).size:=by rw [ByteArray.size_extract]; omega
 rw [dif_pos h1,dif_pos (by omega),ByteArray.getElem_extract]
theorem K0 {s:ByteArray} {lo hi:Int} {a b:Nat} (h1:lo=a) (h2:hi=b) (h3:a<=b) (h4:b<=s.size):Df s lo hi=some (s.extract a b):=by
 subst h1; subst h2; unfold Df; rw [if_pos (by omega)]; rfl
theorem Ajs {a b:ByteArray} (h:a.toList=b.toList):a=b:=by
 rw [ByteArray.toList_eq,ByteArray.toList_eq] at h
 have:a.data=b.data:=Array.toList_inj.1 h
 cases a; cases b; simp at this; subst this; rfl
theorem Ui (a b:ByteArray):(a.toList==b.toList)=decide (a=b):=by
 by_cases h:a=b
 .subst h; simp
 .rw [Ap h]
  cases hb:(a.toList==b.toList) with
  | false=>rfl
  | true=>exact absurd (Ajs (by simpa using hb)) h
theorem Ac8 (c:Int):Q9 c=some (loI c):=by unfold Q9 loI; by_cases h:(97:Int)<=c <;> simp [h]
theorem Ac9 (c:Int):O3 c=some (upI c):=by unfold O3 upI; by_cases h:(65:Int)<=c <;> simp [h]
theorem Uj (c:Int):M1 c=some (diI c):=by unfold M1 diI; by_cases h:(48:Int)<=c <;> simp [h]
theorem Ajt (c:Int):Ra c=some (wiI c):=by
 unfold Ra wiI
 rw [Ac8,Ac9,Uj]
 simp only [Ad]
 cases loI c <;> cases upI c <;> cases diI c <;> rfl
theorem Atl (c:Int):Tv c=some (loI c):=Ac8 c
theorem Atm (c:Int):Q7 c=some (upI c):=Ac9 c
theorem Atn (c:Int):Q8 c=some (diI c):=Uj c
theorem Rn {S E:Type} {step:S->Option (S⊕E)} (s:ByteArray) (p:Int->Bool) (b:Nat->S) (f:Nat->E) (lo:Nat)
  (h1:∀j,lo<=j->j<s.size->p (bI s j)=true->step (b j)=some (.inl (b (j+1)))) (h2:∀j,lo<=j->j<s.size->p (bI s j)=false->step (b j)=some (.inr (f j))) (h3:step (b s.size)=some (.inr (f s.size))) :
  ∀(m i:Nat),lo<=i->i+m=s.size->∃n,i<=n/\n<=s.size/\(∀j,i<=j->j<n->p (bI s j)=true)/\(n<s.size->p (bI s n)=false)/\An step (b i)=some (f n):=by
 intro m
 induction m with
 | zero=>
  intro i _ hi
  have:i=s.size:=by omega
  subst this
  exact ⟨s.size,by omega,by omega,fun j _ _=>by omega,fun h=>by omega,E6 h3⟩
 | succ m ih=>
  intro i c hi
  cases hp:p (bI s i) with
  | true=>
   obtain ⟨n,a1,a2,a3,a4,a5⟩:=ih (i+1) (by omega) (by omega)
   refine ⟨n,by omega,a2,fun j b1 b2=>?_,a4,by rw [J1 (h1 i c (by omega) hp)]; exact a5⟩
   rcases Nat.lt_or_ge i j with h | h
   .exact a3 j h b2
   .have:j=i:=by omega
    subst this; exact hp
  | false=>exact ⟨i,by omega,by omega,fun j _ _=>by omega,fun _=>hp,E6 (h2 i c (by omega) hp)⟩
theorem Ato (s:ByteArray) (hs:s.size<1099511627776):∃n,n<=s.size/\(∀j,j<n->wiI (bI s j)=true)/\(n<s.size->wiI (bI s n)=false)/\T0 s=some (s.extract 0 n):=by
 have H:=Rn (step:=fun v3:Int=>bif (decide (v3<(s.size:Int))) then ((Ee s v3).bind fun h=>(Ra (h.toNat:Int)).bind fun v5=>bif v5 then some (.inl (Ac (v3+1))) else some (.inr v3)) else some (.inr v3))
  s wiI (fun j=>(j:Int)) (fun j=>(j:Int)) 0 (fun j _ hj hp=>by
   obtain ⟨c,g,f⟩:=Gt (s:=s) (i:=(j:Int)) rfl hj
   simp only [Aj (by omega:(j:Int)<(s.size:Int)),cond_true,g,Ad,f,Ajt,hp,Di hj (by omega)]) (fun j _ hj hp=>by
   obtain ⟨c,g,f⟩:=Gt (s:=s) (i:=(j:Int)) rfl hj
   simp only [Aj (by omega:(j:Int)<(s.size:Int)),cond_true,g,Ad,f,Ajt,hp,cond_false]) (by simp) s.size 0 (by omega) (by omega)
 obtain ⟨n,_,a2,a3,a4,a5⟩:=H
 refine ⟨n,a2,fun j hj=>a3 j (by omega) hj,a4,?_⟩
 unfold T0
 have a5:An _ (0:Int)=some (n:Int):=a5
 rw [a5,Ad,K0 (lo:=0) (a:=0) (b:=n) rfl rfl (by omega) a2]; rfl
theorem Atp (s:ByteArray) (hs:s.size<1099511627776):∃n,n<=s.size/\(∀j,j<n->diI (bI s j)=true)/\(n<s.size->diI (bI s n)=false)/\Xj s=some (s.extract 0 n):=by
 have H:=Rn (step:=fun v3:Int=>bif (decide (v3<(s.size:Int))) then ((Ee s v3).bind fun h=>(M1 (h.toNat:Int)).bind fun v5=>bif v5 then some (.inl (Ac (v3+1))) else some (.inr v3)) else some (.inr v3))
  s diI (fun j=>(j:Int)) (fun j=>(j:Int)) 0 (fun j _ hj hp=>by
   obtain ⟨c,g,f⟩:=Gt (s:=s) (i:=(j:Int)) rfl hj
   simp only [Aj (by omega:(j:Int)<(s.size:Int)),cond_true,g,Ad,f,Uj,hp,Di hj (by omega)]) (fun j _ hj hp=>by
   obtain ⟨c,g,f⟩:=Gt (s:=s) (i:=(j:Int)) rfl hj
   simp only [Aj (by omega:(j:Int)<(s.size:Int)),cond_true,g,Ad,f,Uj,hp,cond_false]) (by simp) s.size 0 (by omega) (by omega)
 obtain ⟨n,_,a2,a3,a4,a5⟩:=H
 refine ⟨n,a2,fun j hj=>a3 j (by omega) hj,a4,?_⟩
 unfold Xj
 have a5:An _ (0:Int)=some (n:Int):=a5
 rw [a5,Ad,K0 (lo:=0) (a:=0) (b:=n) rfl rfl (by omega) a2]; rfl
theorem K1 {R:Type} {c:Bool} {X Y:Option R} {Q:R->Prop} (h1:∃r,X=some r/\Q r) (h2:∃r,Y=some r/\Q r):∃r,(bif c then X else Y)=some r/\Q r:=by cases c <;> assumption
theorem Uk {A R:Type} {X:Option A} {f:A->Option R} {Q:R->Prop} (P:A->Prop) (h1:∃a,X=some a/\P a) (h2:∀a,P a->∃r,f a=some r/\Q r):∃r,X.bind f=some r/\Q r:=by
 obtain ⟨a,e,h⟩:=h1
 rw [e]; exact h2 a h
theorem Atq (s:ByteArray):∃b,T1 s=some b/\True:=by
 unfold T1
 repeat' first | refine K1 ?_ ?_ | exact ⟨_,rfl,trivial⟩
theorem Atr (s:ByteArray) (h1:1<=s.size):∃r,T3 s=some r/\(r.size<=s.size):=by
 have g:Df s 0 1=some (s.extract 0 1):=K0 rfl rfl (by omega) h1
 have c:(s.extract 0 1).size<=s.size:=by rw [ByteArray.size_extract]; omega
 unfold T3
 refine Uk (fun z=>∀r,z = .inl r->r.size<=s.size) ?_ ?_
 .by_cases h2:2<=s.size
  .have f:Df s 0 2=some (s.extract 0 2):=K0 rfl rfl (by omega) h2
   have b:∀r,(Sum.inl (s.extract 0 2):ByteArray⊕Unit) = .inl r->r.size<=s.size:=by rintro r ⟨⟩; rw [ByteArray.size_extract]; omega
   simp only [f,Ad]
   repeat' first | refine K1 ?_ ?_ | with_reducible exact ⟨_,rfl,b⟩ | exact ⟨_,rfl,fun r h=>by cases h⟩
  .rw [Ap (by omega)]
   exact ⟨_,rfl,fun r h=>by cases h⟩
 .rintro (r | u) i
  .exact ⟨_,rfl,i r rfl⟩
  .simp only [g,Ad]
   have h0:(ByteArray.mk #[]).size<=s.size:=Nat.zero_le _
   repeat' first | refine K1 ?_ ?_ | with_reducible exact ⟨_,rfl,c⟩ | with_reducible exact ⟨_,rfl,h0⟩
theorem Ats (s:ByteArray) (hs:s.size<1099511627776):∃b,T2 s=some b/\True:=by
 unfold T2
 refine Eb (fun (_,i)=>∃j:Nat,i=j/\j<=s.size) (fun (_,i)=>s.size-i.toNat) (fun _=>True) ⟨0,rfl,by omega⟩ ?_ ?_
 .rintro ⟨v,i⟩ ⟨j,rfl,hj⟩
  rcases Nat.lt_or_ge j s.size with h | h
  .obtain ⟨c,f,_⟩:=Gt (s:=s) (i:=(j:Int)) rfl h
   simp only [Aj (by omega:(j:Int)<(s.size:Int)),cond_true,f,Ad,Di h (by omega)]
   cases decide (Ac (Ac (v*10)+Ac (wu8 ((c.toNat:Int)-48)))>1000000) with
   | true=>exact .inr ⟨_,rfl,trivial⟩
   | false=>exact .inl ⟨_,rfl,⟨j+1,rfl,by omega⟩,by simp; omega⟩
  .have:j=s.size:=by omega
   subst this
   exact .inr ⟨.inr (),by simp,trivial⟩
 .rintro (r | u) _ <;> exact ⟨_,rfl,trivial⟩
theorem Att (s:ByteArray) (i:Nat) (hi:i<s.size) (hs:s.size<1099511627776) :
  ∃r,Tt s i=some r/\(r.2=0->1<=r.1.Text.size/\i+r.1.Text.size<=s.size/\(r.1.Kind=2->D4 r.1.Text))/\(D4 s->i=0->r=(⟨2,s,0⟩,0)):=by
 obtain ⟨c,N,M⟩:=Gt (s:=s) (i:=(i:Int)) rfl hi
 have u:Df s (i:Int) (s.size:Int)=some (s.extract i s.size):=K0 rfl rfl (by omega) (by omega)
 have J:(s.extract i s.size).size=s.size-i:=by rw [ByteArray.size_extract]; omega
 have x:bI (s.extract i s.size) 0=bI s i:=Pd (by omega) (by omega)
 unfold Tt
 simp only [N,Ad,M,Ac8,Ac9,Uj,u]
 have I:(bif loI (bI s i) then some true else some (upI (bI s i)))=some (loI (bI s i)||upI (bI s i)):=by cases loI (bI s i) <;> rfl
 rw [I]
 simp only [Ad]
 cases l:(loI (bI s i)||upI (bI s i)) with
 | true=>
  obtain ⟨n,G,D,y,n4⟩:=Ato (s.extract i s.size) (by omega)
  have A:1<=n:=by
   rcases Nat.eq_zero_or_pos n with h | h
   .subst h
    have:=y (by omega)
    rw [x] at this
    unfold wiI at this
    rw [l] at this; cases this
   .exact h
  have hx:(s.extract i s.size).extract 0 n=s.extract i (i+n):=by rw [ByteArray.extract_extract]; congr 1; omega
  have q:(s.extract i (i+n)).size=n:=by rw [ByteArray.size_extract]; omega
  rw [hx] at n4
  simp only [cond_true,n4,Ad,q]
  have g:D4 s->i=0->n=s.size:=by
   intro hu h0
   rcases Nat.lt_or_ge n s.size with h | h
   .have:=y (by omega)
    rw [Pd (by omega) (by omega),hu.2.2.2 _ (by omega)] at this; cases this
   .omega
  by_cases L:n<=24
  .rw [Ap (by omega)]
   cases k:upI (bI s i) with
   | true=>
    refine ⟨_,rfl,fun _=>⟨?_,?_,fun _=>⟨?_,?_,?_,?_⟩⟩,?_⟩
    .show 1<=(s.extract i (i+n)).size; omega
    .show i+(s.extract i (i+n)).size<=s.size; omega
    .show 1<=(s.extract i (i+n)).size; omega
    .show (s.extract i (i+n)).size<=24; omega
    .show upI (bI (s.extract i (i+n)) 0)=true
     rw [Pd (by omega) (by omega)]; exact k
    .show ∀j,j<(s.extract i (i+n)).size->wiI (bI (s.extract i (i+n)) j)=true
     intro j hj
     rw [Pd (by omega) (by omega)]
     have:=D j (by omega)
     rw [Pd (by omega) (by omega)] at this; exact this
    .intro hu h0
     have:=g hu h0
     subst h0; subst this
     rw [Nat.zero_add,ByteArray.extract_zero_size]; rfl
   | false=>
    obtain ⟨b,hb,_⟩:=Atq (s.extract i (i+n))
    simp only [cond_false,hb,Ad]
    have f:D4 s->i=0->False:=by
     intro hu h0
     subst h0
     rw [hu.2.2.1] at k; cases k
    cases b with
    | true=>exact ⟨_,rfl,fun _=>⟨by show 1<=(s.extract i (i+n)).size; omega,by show i+(s.extract i (i+n)).size<=s.size; omega,fun h=>by cases h⟩,fun hu h0=>(f hu h0).elim⟩
    | false=>exact ⟨_,rfl,fun _=>⟨by show 1<=(s.extract i (i+n)).size; omega,by show i+(s.extract i (i+n)).size<=s.size; omega,fun h=>by cases h⟩,fun hu h0=>(f hu h0).elim⟩
  .rw [Aj (by omega)]
   refine ⟨_,rfl,(fun h=>by cases h),fun hu h0=>?_⟩
   have:=g hu h0
   have:=hu.2.1
   omega
 | false=>
  have f:D4 s->i=0->False:=by
   intro hu h0
   subst h0
   rw [hu.2.2.1,Bool.or_true] at l; cases l
  simp only [cond_false]
  cases hd:diI (bI s i) with
  | true=>
   obtain ⟨n,G,D,y,n4⟩:=Atp (s.extract i s.size) (by omega)
   have A:1<=n:=by
    rcases Nat.eq_zero_or_pos n with h | h
    .subst h
     have:=y (by omega)
     rw [x,hd] at this; cases this
    .exact h
   have hx:(s.extract i s.size).extract 0 n=s.extract i (i+n):=by rw [ByteArray.extract_extract]; congr 1; omega
   have q:(s.extract i (i+n)).size=n:=by rw [ByteArray.size_extract]; omega
   rw [hx] at n4
   obtain ⟨b,hb,_⟩:=Ats (s.extract i (i+n)) (by omega)
   simp only [cond_true,n4,Ad,hb]
   refine Uk (fun _=>True) ?_ ?_
   .exact K1 ⟨_,rfl,trivial⟩ ⟨_,rfl,trivial⟩
   .intro v _
    refine K1 ⟨_,rfl,(fun h=>by cases h),fun hu h0=>(f hu h0).elim⟩ (K1 ⟨_,rfl,(fun h=>by cases h),fun hu h0=>(f hu h0).elim⟩ ⟨_,rfl,fun _=>⟨?_,?_,fun h=>by cases h⟩,fun hu h0=>(f hu h0).elim⟩)
    .show 1<=(s.extract i (i+n)).size; omega
    .show i+(s.extract i (i+n)).size<=s.size; omega
  | false=>
   obtain ⟨r,E,R⟩:=Atr (s.extract i s.size) (by omega)
   simp only [cond_false,E,Ad]
   rw [Ui]
   by_cases z:r=ByteArray.mk #[]
   .rw [Aj z]
    exact ⟨_,rfl,(fun h=>by cases h),fun hu h0=>(f hu h0).elim⟩
   .rw [Ap z]
    refine ⟨_,rfl,fun _=>⟨?_,?_,fun h=>by cases h⟩,fun hu h0=>(f hu h0).elim⟩
    .show 1<=r.size
     rcases Nat.eq_zero_or_pos r.size with h | h
     .have B:r.data.toList.length=0:=by simpa using h
      exact absurd (Ajs (by rw [ByteArray.toList_eq,List.length_eq_zero_iff.1 B,ByteArray.toList_eq])) z
     .exact h
    .show i+r.size<=s.size; omega
theorem Atu (c:Int):Ts c=some (c==9||c==10||c==13||c==32):=by
 unfold Ts
 cases c==9 <;> cases c==10 <;> cases c==13 <;> rfl
theorem Aju (s:ByteArray) (hs:s.size<1099511627776):∃b,Oh s=some b/\(b=true↔D4 s):=by
 unfold Oh W6
 by_cases A:(s.size:Int)>16384
 .rw [Aj A]
  refine ⟨false,rfl,by simp; rintro ⟨_,h,_⟩; omega⟩
 rw [Ap A]
 simp only [cond_false]
 refine Uk (fun r:List Ha×Int×Int=>(r.2.2≠0/\¬D4 s)\/(r.2.2=0/\∃o e,r.1=o++[e]/\(∀t∈o,t.Kind=2->D4 t.Text)/\(D4 s->o = [⟨2,s,0⟩]))) ?_ ?_
 .refine Eb (fun (B,g)=>∃i:Nat,B=i/\i<=s.size/\g.length<=i/\(∀t∈g,t.Kind=2->D4 t.Text)/\(D4 s->(i=0/\g = [])\/(i=s.size/\g = [⟨2,s,0⟩])))
   (fun (B,_)=>s.size-B.toNat)
   (fun z=>match z with | .inl o=>o.length<=16384/\(∀t∈o,t.Kind=2->D4 t.Text)/\(D4 s->o = [⟨2,s,0⟩]) | .inr (_,_,e)=>e≠0/\¬D4 s)
   ⟨0,rfl,by omega,by simp,by simp,fun _=>.inl ⟨rfl,rfl⟩⟩ ?_ ?_
  .rintro ⟨v,o⟩ ⟨i,rfl,hi,ho,hk,hu⟩
   rcases Nat.lt_or_ge i s.size with h | h
   .obtain ⟨c,I,G⟩:=Gt (s:=s) (i:=(i:Int)) rfl h
    have k:D4 s->i=0/\o = []:=fun u=>by
     rcases hu u with h' | h'
     .exact h'
     .omega
    simp only [Aj (by omega:(i:Int)<(s.size:Int)),cond_true,I,Ad,G,Atu]
    cases L:(bI s i==9||bI s i==10||bI s i==13||bI s i==32) with
    | true=>
     have q:¬D4 s:=by
      intro u
      have h0:=(k u).1
      subst h0
      have:=u.2.2.1
      simp only [upI,C7,decide_eq_true_eq] at this
      simp only [Bool.or_eq_true,beq_iff_eq] at L
      omega
     exact .inl ⟨(((i+1:Nat):Int),o),by simp only [cond_true]; rw [Di h (by omega)],⟨i+1,rfl,by omega,(by show o.length<=i+1; omega),hk,fun u=>(q u).elim⟩,by simp; omega⟩
    | false=>
     simp only [cond_false]
     cases D:(bI s i==35) with
     | true=>
      have q:¬D4 s:=by
       intro u
       have h0:=(k u).1
       subst h0
       have:=u.2.2.1
       simp only [upI,C7,decide_eq_true_eq] at this
       simp only [beq_iff_eq] at D
       omega
      simp only [cond_true]
      obtain ⟨n,n1,n2,n3,n4,J⟩:=Rn (step:=fun f:Int=>bif (decide (f<(s.size:Int))) then ((Ee s f).bind fun M=>bif ((M.toNat:Int)==(10:Int)) then some (.inr (.inl f)) else some (.inl (Ac (f+1)))) else some (.inr (.inr f)))
       s (fun c=>!(c==10)) (fun j=>(j:Int)) (fun j=>if j<s.size then Sum.inl (j:Int) else Sum.inr (j:Int)) 0 (fun j _ hj hp=>by
        obtain ⟨c,I,G⟩:=Gt (s:=s) (i:=(j:Int)) rfl hj
        simp only [Bool.not_eq_true'] at hp
        simp only [Aj (by omega:(j:Int)<(s.size:Int)),cond_true,I,Ad,G,hp,Di hj (by omega),cond_false]) (fun j _ hj hp=>by
        obtain ⟨c,I,G⟩:=Gt (s:=s) (i:=(j:Int)) rfl hj
        simp only [Bool.not_eq_false'] at hp
        simp only [Aj (by omega:(j:Int)<(s.size:Int)),cond_true,I,Ad,G,hp,if_pos hj]) (by simp) (s.size-i) i (by omega) (by omega)
      have V:i<n:=by
       rcases Nat.lt_or_ge i n with h' | h'
       .exact h'
       .have:n=i:=by omega
        subst this
        have:=n4 h
        simp only [beq_iff_eq] at D
        rw [D] at this; cases this
      have J:An _ (i:Int)=_:=J
      rw [J,Ad]
      rcases Nat.lt_or_ge n s.size with h' | h'
      .rw [if_pos h']
       exact .inl ⟨((n:Int),o),rfl,⟨n,rfl,by omega,(by show o.length<=n; omega),hk,fun u=>(q u).elim⟩,by simp; omega⟩
      .rw [if_neg (by omega)]
       exact .inr ⟨.inl o,rfl,by omega,hk,fun u=>(q u).elim⟩
     | false=>
      obtain ⟨r,U,S,N⟩:=Att s i h hs
      simp only [cond_false,U,Ad]
      by_cases E:r.2=0
      .obtain ⟨a1,a2,a3⟩:=S E
       simp only [C4 E,cond_false]
       rw [Ds (by simp; omega),Ad]
       refine .inl ⟨(((i+r.1.Text.size:Nat):Int),o++[r.1]),?_,⟨i+r.1.Text.size,rfl,a2,by simp; omega,?_,?_⟩,by simp; omega⟩
       .rw [show Ac ((i:Int)+(r.1.Text.size:Int))=((i+r.1.Text.size:Nat):Int) by rw [Ac,Bl] <;> omega]
       .intro t ht
        rcases List.mem_append.1 ht with h' | h'
        .exact hk t h'
        .simp at h'; subst h'; exact a3
       .intro u
        obtain ⟨b1,b2⟩:=k u
        have:=N u b1
        subst b1; subst b2; subst this
        exact .inr ⟨by simp,rfl⟩
      .simp only [Cy E,cond_true]
       refine .inr ⟨_,rfl,E,fun u=>?_⟩
       rw [N u (k u).1] at E
       exact E rfl
   .have:i=s.size:=by omega
    subst this
    refine .inr ⟨.inl o,by simp,by omega,hk,fun u=>?_⟩
    rcases hu u with ⟨h',_⟩ | ⟨_,h'⟩
    .have:=u.1; omega
    .exact h'
  .rintro (o | ⟨l,p,e⟩) R
   .obtain ⟨Z,z2,z3⟩:=R
    simp only
    rw [Ds (by simp; omega),Ad]
    exact ⟨_,rfl,.inr ⟨rfl,o,_,rfl,z2,z3⟩⟩
   .exact ⟨_,rfl,.inl R⟩
 .rintro ⟨l,p,e⟩ (⟨h1,h2⟩ | ⟨h1,o,t,h2,h3,h4⟩)
  .simp only at h1
   simp only [B2 h1,cond_false]
   exact ⟨_,rfl,by simp [h2]⟩
  .simp only at h1 h2
   subst h1; subst h2
   simp only [beq_self_eq_true,cond_true]
   match o,h3,h4 with
   | [],_,h4=>exact ⟨false,by simp,by simp; intro u; cases h4 u⟩
   | [x],h3,h4=>
    have Y:Ae ([x]++[t]) 0=some x:=rfl
    simp only [Y,Ad,Ui]
    have X:((([x]++[t]).length:Int)==2)=true:=rfl
    simp only [X,cond_true]
    by_cases hx:x.Kind=2
    .simp only [Da hx,cond_true]
     refine ⟨_,rfl,?_⟩
     rw [decide_eq_true_iff]
     constructor
     .intro h; rw [<-h]; exact h3 x (by simp) hx
     .intro u; have:=h4 u; simp at this; rw [this]
    .simp only [B2 hx,cond_false]
     refine ⟨_,rfl,?_⟩
     simp only [Bool.false_eq_true,false_iff]
     intro u; have:=h4 u; simp at this; rw [this] at hx; exact hx rfl
   | x::y::ys,_,h4=>
    refine ⟨false,?_,by simp; intro u; have:=h4 u; simp at this⟩
    rw [B2]
    .rfl
    .simp; omega
end Go.Ab
namespace Go.Ab
open Go
theorem Atv (s:ByteArray):∃b,Xc s=some b/\True:=by
 have key:∀(L:List ByteArray),L.length<1000->∃b,((An (S:=Int) (E:=(Bool⊕Unit)) (fun v2=>bif (decide (v2<(L.length:Int))) then ((Ae L v2).bind fun v3=>bif (v3.toList==s.toList) then some (.inr (.inl true)) else some (.inl (Ac (v2+1)))) else some (.inr (.inr ()))) 0).bind fun z=>match z with | .inl c=>some c | .inr _=>some false)=some b/\True:=by
  intro L f
  refine ⟨_,M8 L (fun v=>!(v.toList==s.toList)) (fun j=>(j:Int)) rfl (by omega) (rt:=false) (rf:=true) ?_ ?_,trivial⟩
  .intro j x hx h1 h2 h3
   simp only [h1,h2,h3,cond_true,Ad]
   cases (x.toList==s.toList) with
   | true=>exact ⟨(fun h=>by cases h),fun _=>⟨_,rfl,rfl⟩⟩
   | false=>exact ⟨fun _=>rfl,fun h=>by cases h⟩
  .intro h; exact ⟨.inr (),by simp only [h]; rfl,rfl⟩
 exact key _ (by decide)
theorem Atw (s:ByteArray) (h1:1<=s.size) (T:ByteArray) (x:T.size<1000):∃r,((An (S:=Int) (E:=(Int⊕Unit)) (fun b=>bif (decide (b<(T.size:Int))) then ((Ee s 0).bind fun l=>(Ee T b).bind fun k=>bif ((l.toNat:Int)==(k.toNat:Int)) then some (.inr (.inl 1)) else some (.inl (Ac (b+1)))) else some (.inr (.inr ()))) 0).bind fun z=>match z with | .inl f=>some f | .inr _=>some 0)=some r/\(r=0\/(1<=r/\r<=s.size)):=by
 refine Eb (fun i=>∃j:Nat,i=j/\j<=T.size) (fun i=>T.size-i.toNat) (fun z=>∀r,z = .inl r->r=1) ⟨0,rfl,by omega⟩ ?_ ?_
 .rintro i ⟨j,rfl,hj⟩
  rcases Nat.lt_or_ge j T.size with h | h
  .obtain ⟨c,q,_⟩:=Gt (s:=T) (i:=(j:Int)) rfl h
   obtain ⟨d,d1,_⟩:=Gt (s:=s) (i:=0) (n:=0) rfl h1
   simp only [Aj (by omega:(j:Int)<(T.size:Int)),cond_true,q,d1,Ad,Di h (by omega)]
   cases ((d.toNat:Int)==(c.toNat:Int)) with
   | true=>exact .inr ⟨_,rfl,fun r h=>by cases h; rfl⟩
   | false=>exact .inl ⟨_,rfl,⟨j+1,rfl,by omega⟩,by simp; omega⟩
  .have:j=T.size:=by omega
   subst this
   exact .inr ⟨.inr (),by simp,fun r h=>by cases h⟩
 .rintro (r | u) g
  .exact ⟨r,rfl,.inr (by have:=g r rfl; omega)⟩
  .exact ⟨0,rfl,.inl rfl⟩
theorem Atx (s:ByteArray) (h1:1<=s.size):∃r,Tx s=some r/\(r=0\/(1<=r/\r<=s.size)):=by
 unfold Tx
 refine Uk (fun b=>b=true->2<=s.size) ?_ ?_
 .by_cases h2:2<=s.size
  .have c:Df s 0 2=some (s.extract 0 2):=K0 rfl rfl (by omega) h2
   simp only [c,Ad]
   repeat' first | refine K1 ?_ ?_ | exact ⟨_,rfl,fun _=>h2⟩
  .rw [Ap (by omega)]
   exact ⟨_,rfl,fun h=>by cases h⟩
 .rintro b hb
  cases b with
  | true=>exact ⟨2,rfl,.inr ⟨by omega,by have:=hb rfl; omega⟩⟩
  | false=>exact Atw s h1 _ (by decide)
theorem Aty (s:ByteArray) (hs:s.size<1099511627776):∃b,Tw s=some b/\True:=by
 unfold Tw
 refine Eb (fun (_,i)=>∃j:Nat,i=j/\j<=s.size) (fun (_,i)=>s.size-i.toNat) (fun _=>True) ⟨0,rfl,by omega⟩ ?_ ?_
 .rintro ⟨v,i⟩ ⟨j,rfl,hj⟩
  rcases Nat.lt_or_ge j s.size with h | h
  .obtain ⟨c,f,_⟩:=Gt (s:=s) (i:=(j:Int)) rfl h
   simp only [Aj (by omega:(j:Int)<(s.size:Int)),cond_true,f,Ad,Di h (by omega)]
   cases decide (Ac (Ac (v*10)+Ac (wu8 ((c.toNat:Int)-48)))>1000000) with
   | true=>exact .inr ⟨_,rfl,trivial⟩
   | false=>exact .inl ⟨_,rfl,⟨j+1,rfl,by omega⟩,by simp; omega⟩
  .have:j=s.size:=by omega
   subst this
   exact .inr ⟨.inr v,by simp,trivial⟩
 .rintro (⟨r,g⟩ | u) _ <;> exact ⟨_,rfl,trivial⟩
theorem Ajv (s:ByteArray) (hs:s.size<1099511627776):∃b,Oj s=some b/\(b=true↔D4 s):=by
 unfold Oj Xa
 by_cases N:(s.size:Int)>16384
 .rw [Aj N]
  refine ⟨false,rfl,by simp; rintro ⟨_,h,_⟩; omega⟩
 rw [Ap N]
 simp only [cond_false]
 refine Uk (fun r:List H7×Int×Int=>(r.2.2≠0/\¬D4 s)\/(r.2.2=0/\∃o e,r.1=o++[e]/\(∀t∈o,t.Kind=2->D4 t.Text)/\(D4 s->o = [⟨2,s,0⟩]))) ?_ ?_
 .refine Eb (fun (S,M)=>∃i:Nat,S=i/\i<=s.size/\M.length<=i/\(∀t∈M,t.Kind=2->D4 t.Text)/\(D4 s->(i=0/\M = [])\/(i=s.size/\M = [⟨2,s,0⟩])))
   (fun (S,_)=>s.size-S.toNat)
   (fun z=>match z with | .inr o=>o.length<=16384/\(∀t∈o,t.Kind=2->D4 t.Text)/\(D4 s->o = [⟨2,s,0⟩]) | .inl (_,_,e)=>e≠0/\¬D4 s)
   ⟨0,rfl,by omega,by simp,by simp,fun _=>.inl ⟨rfl,rfl⟩⟩ ?_ ?_
  .rintro ⟨v,o⟩ ⟨i,rfl,hi,ho,hk,hu⟩
   rcases Nat.lt_or_ge i s.size with h | h
   .obtain ⟨c,E,D⟩:=Gt (s:=s) (i:=(i:Int)) rfl h
    have B:D4 s->i=0/\o = []:=fun u=>by
     rcases hu u with h' | h'
     .exact h'
     .omega
    have f:∀j:Nat,i<=j->j<=s.size->Ac ((i:Int)+((j:Int)-(i:Int)))=(j:Int):=fun j _ _=>by rw [Ac,Bl] <;> omega
    have Z:(bif bI s i==9 then some true else bif bI s i==10 then some true else bif bI s i==13 then some true else some (bI s i==32))=some (bI s i==9||bI s i==10||bI s i==13||bI s i==32):=by
     cases bI s i==9 <;> cases bI s i==10 <;> cases bI s i==13 <;> rfl
    have hw:(bif loI (bI s i) then some true else some (upI (bI s i)))=some (loI (bI s i)||upI (bI s i)):=by cases loI (bI s i) <;> rfl
    simp only [Aj (by omega:(i:Int)<(s.size:Int)),cond_true,E,Ad,D,Z,Atl,Atm,Atn,hw]
    cases Z:(bI s i==9||bI s i==10||bI s i==13||bI s i==32) with
    | true=>
     have k:¬D4 s:=by
      intro u
      have h0:=(B u).1
      subst h0
      have:=u.2.2.1
      simp only [upI,C7,decide_eq_true_eq] at this
      simp only [Bool.or_eq_true,beq_iff_eq] at Z
      omega
     exact .inl ⟨(((i+1:Nat):Int),o),by simp only [cond_true]; rw [Di h (by omega)],⟨i+1,rfl,by omega,(by show o.length<=i+1; omega),hk,fun u=>(k u).elim⟩,by simp; omega⟩
    | false=>
     simp only [cond_false]
     cases X:(bI s i==35) with
     | true=>
      have k:¬D4 s:=by
       intro u
       have h0:=(B u).1
       subst h0
       have:=u.2.2.1
       simp only [upI,C7,decide_eq_true_eq] at this
       simp only [beq_iff_eq] at X
       omega
      simp only [cond_true]
      obtain ⟨n,n1,J,n3,n4,I⟩:=Rn (step:=fun G:Int=>bif (decide (G<(s.size:Int))) then ((Ee s G).bind fun aj=>bif ((aj.toNat:Int) != (10:Int)) then some (.inl (Ac (G+1))) else some (.inr G)) else some (.inr G))
       s (fun c=>c != 10) (fun j=>(j:Int)) (fun j=>(j:Int)) 0 (fun j _ hj hp=>by
        obtain ⟨c,E,D⟩:=Gt (s:=s) (i:=(j:Int)) rfl hj
        simp only [Aj (by omega:(j:Int)<(s.size:Int)),cond_true,E,Ad,D,hp,Di hj (by omega)]) (fun j _ hj hp=>by
        obtain ⟨c,E,D⟩:=Gt (s:=s) (i:=(j:Int)) rfl hj
        simp only [Aj (by omega:(j:Int)<(s.size:Int)),cond_true,E,Ad,D,hp,cond_false]) (by simp) (s.size-i) i (by omega) (by omega)
      have ak:i<n:=by
       rcases Nat.lt_or_ge i n with h' | h'
       .exact h'
       .have:n=i:=by omega
        subst this
        have:=n4 h
        simp only [beq_iff_eq] at X
        rw [X] at this; cases this
      have I:An _ (i:Int)=_:=I
      rw [I,Ad]
      exact .inl ⟨((n:Int),o),rfl,⟨n,rfl,by omega,(by show o.length<=n; omega),hk,fun u=>(k u).elim⟩,by simp; omega⟩
     | false=>
      simp only [cond_false]
      cases Y:(loI (bI s i)||upI (bI s i)) with
      | true=>
       simp only [cond_true]
       obtain ⟨n,n1,J,n3,n4,I⟩:=Rn (step:=fun g:Int=>bif (decide ((Ac ((i:Int)+g))<(s.size:Int))) then ((Ee s (Ac ((i:Int)+g))).bind fun ai=>(some (loI (ai.toNat:Int))).bind fun ab=>
         bif ab then some (.inl (Ac (g+1))) else ((Ee s (Ac ((i:Int)+g))).bind fun ah=>(some (upI (ah.toNat:Int))).bind fun aa=>bif aa then some (.inl (Ac (g+1))) else
         ((Ee s (Ac ((i:Int)+g))).bind fun ag=>(some (diI (ag.toNat:Int))).bind fun a8=>bif a8 then some (.inl (Ac (g+1))) else ((Ee s (Ac ((i:Int)+g))).bind fun af=>bif ((af.toNat:Int)==(95:Int)) then some (.inl (Ac (g+1))) else some (.inr g))))) else some (.inr g))
        s wiI (fun j=>(j:Int)-(i:Int)) (fun j=>(j:Int)-(i:Int)) i (fun j A hj hp=>by
         obtain ⟨c,E,D⟩:=Gt (s:=s) (i:=(j:Int)) rfl hj
         have e1:Ac ((j:Int)-(i:Int)+1)=((j+1:Nat):Int)-(i:Int):=by rw [Ac,Bl] <;> omega
         simp only [f j A (by omega),Aj (by omega:(j:Int)<(s.size:Int)),cond_true,E,Ad,D,e1]
         unfold wiI at hp
         revert hp
         cases loI (bI s j) <;> cases upI (bI s j) <;> cases diI (bI s j) <;> cases (bI s j==95) <;> simp) (fun j A hj hp=>by
         obtain ⟨c,E,D⟩:=Gt (s:=s) (i:=(j:Int)) rfl hj
         simp only [f j A (by omega),Aj (by omega:(j:Int)<(s.size:Int)),cond_true,E,Ad,D]
         unfold wiI at hp
         revert hp
         cases loI (bI s j) <;> cases upI (bI s j) <;> cases diI (bI s j) <;> cases (bI s j==95) <;> simp) (by
         simp only [f s.size hi (by omega)]; simp) (s.size-(i+1)) (i+1) (by omega) (by omega)
       have e0:((i+1:Nat):Int)-(i:Int)=1:=by omega
       simp only [e0] at I
       simp only [Ad] at I
       rw [I,Ad]
       have q:Df s (i:Int) (Ac ((i:Int)+((n:Int)-(i:Int))))=some (s.extract i n):=by rw [f n (by omega) J]; exact K0 rfl rfl (by omega) J
       have a6:(s.extract i n).size=n-i:=by rw [ByteArray.size_extract]; omega
       have a7:∀j,i<=j->j<n->wiI (bI s j)=true:=fun j a1 a2=>by
        rcases Nat.lt_or_ge i j with h' | h'
        .exact n3 j h' a2
        .have:j=i:=by omega
         subst this; unfold wiI; rw [Y]; rfl
       have L:D4 s->n=s.size:=by
        intro u
        rcases Nat.lt_or_ge n s.size with h' | h'
        .have:=n4 h'
         rw [u.2.2.2 _ h'] at this; cases this
        .omega
       by_cases am:n-i<=24
       .rw [Ap (by omega)]
        simp only [cond_false]
        cases V:upI (bI s i) with
        | true=>
         simp only [cond_true,Ad,q]
         rw [Ds (by simp; omega),Ad,f n (by omega) J]
         refine .inl ⟨_,rfl,⟨n,rfl,J,by simp; omega,?_,?_⟩,by simp; omega⟩
         .intro t ht
          rcases List.mem_append.1 ht with h' | h'
          .exact hk t h'
          .simp only [List.mem_singleton] at h'
           subst h'
           intro _
           refine ⟨?_,?_,?_,?_⟩
           .show 1<=(s.extract i n).size; omega
           .show (s.extract i n).size<=24; omega
           .show upI (bI (s.extract i n) 0)=true
            rw [Pd (by omega) (by omega)]; exact V
           .show ∀j,j<(s.extract i n).size->wiI (bI (s.extract i n) j)=true
            intro j hj
            rw [Pd (by omega) (by omega)]
            exact a7 _ (by omega) (by omega)
         .intro u
          obtain ⟨b1,b2⟩:=B u
          have hf:=L u
          subst b1; subst b2; subst hf
          rw [ByteArray.extract_zero_size]
          exact .inr ⟨rfl,rfl⟩
        | false=>
         obtain ⟨b,hb,_⟩:=Atv (s.extract i n)
         have k:¬D4 s:=by
          intro u
          have h0:=(B u).1
          subst h0
          rw [u.2.2.1] at V; cases V
         have ad:∃U:Int,(bif b then some 4 else some 1:Option Int)=some U/\U≠2:=by cases b <;> exact ⟨_,rfl,by decide⟩
         obtain ⟨U,k1,k2⟩:=ad
         simp only [cond_false,Ad,q,hb,k1]
         rw [Ds (by simp; omega),Ad,f n (by omega) J]
         refine .inl ⟨_,rfl,⟨n,rfl,J,by simp; omega,?_,fun u=>(k u).elim⟩,by simp; omega⟩
         intro t ht
         rcases List.mem_append.1 ht with h' | h'
         .exact hk t h'
         .simp only [List.mem_singleton] at h'
          subst h'
          intro h'; exact absurd h' k2
       .rw [Aj (by omega)]
        refine .inr ⟨_,rfl,(by show (9:Int)≠0; decide),fun u=>?_⟩
        have:=L u
        have:=u.2.1
        have:=(B u).1
        omega
      | false=>
       have k:¬D4 s:=by
        intro u
        have h0:=(B u).1
        subst h0
        rw [u.2.2.1,Bool.or_true] at Y; cases Y
       have R:∀(n:Nat) (U:Int),i<n->n<=s.size->U≠2->∃s':Int×List H7,(B7 32 o [(H7.mk U (s.extract i n) i)]).bind (fun ac=>(some (Sum.inl ((n:Int),ac)):Option ((Int×List H7)⊕((List H7×Int×Int)⊕List H7))))=some (.inl s') /\
         (∃j:Nat,s'.1=j/\j<=s.size/\s'.2.length<=j/\(∀t∈s'.2,t.Kind=2->D4 t.Text)/\(D4 s->(j=0/\s'.2 = [])\/(j=s.size/\s'.2 = [⟨2,s,0⟩])))/\s.size-s'.1.toNat<s.size-i:=by
        intro n U a1 a2 a3
        rw [Ds (by simp; omega),Ad]
        refine ⟨_,rfl,⟨n,rfl,a2,by simp; omega,?_,fun u=>(k u).elim⟩,by simp; omega⟩
        intro t ht
        rcases List.mem_append.1 ht with h' | h'
        .exact hk t h'
        .simp only [List.mem_singleton] at h'
         subst h'
         intro h'; exact absurd h' a3
       simp only [cond_false]
       cases hd:diI (bI s i) with
       | true=>
        simp only [cond_true]
        obtain ⟨n,n1,J,n3,n4,I⟩:=Rn (step:=fun v85:Int=>bif (decide ((Ac ((i:Int)+v85))<(s.size:Int))) then ((Ee s (Ac ((i:Int)+v85))).bind fun ae=>(some (diI (ae.toNat:Int))).bind fun v87=>
          bif v87 then some (.inl (Ac (v85+1))) else some (.inr v85)) else some (.inr v85))
         s diI (fun j=>(j:Int)-(i:Int)) (fun j=>(j:Int)-(i:Int)) i (fun j A hj hp=>by
          obtain ⟨c,E,D⟩:=Gt (s:=s) (i:=(j:Int)) rfl hj
          have e1:Ac ((j:Int)-(i:Int)+1)=((j+1:Nat):Int)-(i:Int):=by rw [Ac,Bl] <;> omega
          simp only [f j A (by omega),Aj (by omega:(j:Int)<(s.size:Int)),cond_true,E,Ad,D,e1,hp]) (fun j A hj hp=>by
          obtain ⟨c,E,D⟩:=Gt (s:=s) (i:=(j:Int)) rfl hj
          simp only [f j A (by omega),Aj (by omega:(j:Int)<(s.size:Int)),cond_true,E,Ad,D,hp,cond_false]) (by
          simp only [f s.size hi (by omega)]; simp) (s.size-(i+1)) (i+1) (by omega) (by omega)
        have e0:((i+1:Nat):Int)-(i:Int)=1:=by omega
        simp only [e0] at I
        simp only [Ad] at I
        rw [I,Ad]
        have q:Df s (i:Int) (n:Int)=some (s.extract i n):=K0 rfl rfl (by omega) J
        have a6:(s.extract i n).size=n-i:=by rw [ByteArray.size_extract]; omega
        obtain ⟨b,hb,_⟩:=Aty (s.extract i n) (by omega)
        obtain ⟨b',hb'⟩:∃b':Bool,(bif decide ((n:Int)-(i:Int)>1) then some (bI s i==48) else some false)=some b':=by cases decide ((n:Int)-(i:Int)>1) <;> exact ⟨_,rfl⟩
        simp only [hb',Ad,q,hb,f n (by omega) J]
        cases b' with
        | true=>exact .inr ⟨_,rfl,(by show (2:Int)≠0; decide),k⟩
        | false=>
         simp only [cond_false]
         cases b.2 with
         | true=>exact .inl (R n 3 (by omega) J (by decide))
         | false=>exact .inr ⟨_,rfl,(by show (9:Int)≠0; decide),k⟩
       | false=>
        have q:Df s (i:Int) (s.size:Int)=some (s.extract i s.size):=K0 rfl rfl (by omega) (by omega)
        have a6:(s.extract i s.size).size=s.size-i:=by rw [ByteArray.size_extract]; omega
        obtain ⟨r,r1,r2⟩:=Atx (s.extract i s.size) (by omega)
        simp only [cond_false,q,Ad,r1]
        by_cases h0:r=0
        .subst h0
         exact .inr ⟨_,rfl,(by show (2:Int)≠0; decide),k⟩
        .simp only [B2 h0,cond_false]
         obtain ⟨m,hm⟩:∃m:Nat,r=m:=⟨r.toNat,by omega⟩
         subst hm
         have e1:Ac ((i:Int)+(m:Int))=((i+m:Nat):Int):=by rw [Ac,Bl] <;> omega
         rw [e1,K0 (s:=s) (lo:=(i:Int)) (hi:=((i+m:Nat):Int)) rfl rfl (by omega) (by omega),Ad]
         exact .inl (R (i+m) 5 (by omega) (by omega) (by decide))
   .have:i=s.size:=by omega
    subst this
    refine .inr ⟨.inr o,by simp,by omega,hk,fun u=>?_⟩
    rcases hu u with ⟨h',_⟩ | ⟨_,h'⟩
    .have:=u.1; omega
    .exact h'
  .rintro (⟨l,p,e⟩ | o) hz
   .exact ⟨_,rfl,.inl hz⟩
   .obtain ⟨z1,z2,z3⟩:=hz
    simp only
    rw [Ds (by simp; omega),Ad]
    exact ⟨_,rfl,.inr ⟨rfl,o,_,rfl,z2,z3⟩⟩
 .rintro ⟨l,p,e⟩ (⟨h1,h2⟩ | ⟨h1,o,t,h2,h3,h4⟩)
  .simp only at h1
   simp only [B2 h1,cond_false]
   exact ⟨_,rfl,by simp [h2]⟩
  .simp only at h1 h2
   subst h1; subst h2
   simp only [beq_self_eq_true,cond_true]
   match o,h3,h4 with
   | [],_,h4=>exact ⟨false,by simp,by simp; intro u; cases h4 u⟩
   | [x],h3,h4=>
    have e0:Ae ([x]++[t]) 0=some x:=rfl
    simp only [e0,Ad,Ui]
    have e1:((([x]++[t]).length:Int)==2)=true:=rfl
    simp only [e1,cond_true]
    by_cases hx:x.Kind=2
    .simp only [Da hx,cond_true]
     refine ⟨_,rfl,?_⟩
     rw [decide_eq_true_iff]
     constructor
     .intro h; rw [<-h]; exact h3 x (by simp) hx
     .intro u; have:=h4 u; simp at this; rw [this]
    .simp only [B2 hx,cond_false]
     refine ⟨_,rfl,?_⟩
     simp only [Bool.false_eq_true,false_iff]
     intro u; have:=h4 u; simp at this; rw [this] at hx; exact hx rfl
   | x::y::ys,_,h4=>
    refine ⟨false,?_,by simp; intro u; have:=h4 u; simp at this⟩
    rw [B2]
    .rfl
    .simp; omega
end Go.Ab
namespace Go.Ab
open Go
def Pe (data:List Ao) (d:Nat) (v:Int) (y:Ka):Prop:=D4 y.Name/\y.Args.length<=6/\y.Args.all (H9 data d v)=true
def Nc (data:List Ao) (d:Nat) (x:Ao):Prop:=0<=x.Vars/\x.Vars<=6/\1<=x.Cons.length/\x.Cons.length<=8/\D4 x.Name/\∀y∈x.Cons,Pe data d x.Vars y
def Ez (x:Ao):List ByteArray:=x.Cons.map (·.Name)
def Gu (data:List Ao):Prop:=data.length<=12/\(∀d x,data[d]? = some x->Nc data d x)/\(data.map (·.Name)).Nodup/\(data.flatMap Ez).Nodup
structure DSz (data:List Ao):Prop where
 len:data.length<=1048576
 sz:SzD data
 nm:∀x∈data,x.Name.size<=1048576
 cn:∀x∈data,∀y∈x.Cons,y.Name.size<=1048576
theorem Ada (a b:ByteArray):(a==b)=true↔a=b:=by
 constructor
 .intro h
  cases a with | mk a=>cases b with | mk b=>
  have:a=b:=by exact eq_of_beq h
  rw [this]
 .rintro rfl
  cases a with | mk a=>exact beq_self_eq_true a
def Ip (o:List (ByteArray×Bool)) (L:List ByteArray):Prop:=(∀p∈o,p.2=true)/\∀s,Ew o s=true↔s∈L
theorem Ip.nil:Ip [] []:=⟨by simp,by simp [Ew]⟩
theorem Ip.get {o:List (ByteArray×Bool)} {L:List ByteArray} (h:Ip o L) {s:ByteArray} (hs:Ew o s=true):H5 o s false=true:=by
 unfold H5
 unfold Ew at hs
 rw [List.any_eq_true] at hs
 obtain ⟨p,f,c⟩:=hs
 cases b:o.find? (fun p=>s==p.1) with
 | none=>exact absurd c (by have:=List.find?_eq_none.1 b p f; simpa using this)
 | some q=>exact h.1 q (List.mem_of_find?_eq_some b)
theorem Atz (o:List (ByteArray×Bool)) (s t:ByteArray) (v:Bool):Ew (Ey o s v) t=(Ew o t||t==s):=by
 induction o with
 | nil=>simp [Ey,Ew]
 | cons p o ih=>
  unfold Ey
  cases hp:(s==p.1) with
  | true=>
   have:s=p.1:=(Ada _ _).1 hp
   subst this
   simp only [cond_true,Ew,List.any_cons]
   cases t==p.1 <;> simp
  | false=>
   simp only [Ew,List.any_cons] at ih ⊢
   simp only [cond_false,List.any_cons,ih,Bool.or_assoc]
theorem Ip.put {o:List (ByteArray×Bool)} {L:List ByteArray} (h:Ip o L) (s:ByteArray):Ip (Ey o s true) (L++[s]):=by
 refine ⟨?_,fun t=>?_⟩
 .have:∀o:List (ByteArray×Bool),(∀p∈o,p.2=true)->∀p∈Ey o s true,p.2=true:=by
   intro o
   induction o with
   | nil=>intro _ p hp; simp [Ey] at hp; rw [hp]
   | cons q o ih=>
    intro b p hp
    unfold Ey at hp
    cases hq:(s==q.1) with
    | true=>
     rw [hq] at hp
     simp only [cond_true,List.mem_cons] at hp
     rcases hp with rfl | hp
     .rfl
     .exact b p (by simp [hp])
    | false=>
     rw [hq] at hp
     simp only [cond_false,List.mem_cons] at hp
     rcases hp with rfl | hp
     .exact b _ (by simp)
     .exact ih (fun p hp=>b p (by simp [hp])) p hp
  exact this o h.1
 .rw [Atz,Bool.or_eq_true,h.2 t,Ada]; simp
theorem At0 (x:Ao) {c:Nat} {y:Ka} (hy:x.Cons[c]? = some y):Ez x=(x.Cons.take c).map (·.Name)++y.Name::(x.Cons.drop (c+1)).map (·.Name):=by
 have h:=List.take_append_drop c x.Cons
 have hc:=Fh hy
 have e:x.Cons.drop c=y::x.Cons.drop (c+1):=by
  rw [List.drop_eq_getElem_cons hc]
  rw [B0 hc] at hy
  rw [Option.some.inj hy]
 unfold Ez
 conv=>lhs; rw [<-h,e]
 simp
theorem Ajw {L m:List ByteArray} {s:ByteArray} (h:(L++s::m).Nodup):s ∉ L:=by
 rw [List.nodup_append] at h
 intro hs
 exact h.2.2 s hs s (by simp) rfl
theorem Adb {L:List ByteArray} {s:ByteArray} (h:L.Nodup) (hs:s ∉ L):(L++[s]).Nodup:=by
 rw [List.nodup_append]
 refine ⟨h,by simp,?_⟩
 intro a ha b hb
 simp at hb; subst hb
 intro e; subst e; exact hs ha
theorem At1 {data:List Ao} (u:DSz data) {d:Nat} {x:Ao} (hx:data[d]? = some x) (M:x.Vars<=6) (o:List (ByteArray×Bool)) (L:List ByteArray) (N:Ip o L) (U:L.Nodup) :
  ∃z,An (S:=(Int×(List (ByteArray×Bool)))) (E:=(Bool⊕(Int×(List (ByteArray×Bool))))) (fun (f,g)=>
    bif (decide (f<(x.Cons.length:Int))) then (
    (Ae x.Cons f).bind fun i=>
    (Oh i.Name).bind fun D=>
    bif (!D) then some (.inr (.inl false))
    else (
    bif (Ew g i.Name) then (
    bif (H5 g i.Name (false:Bool)) then some (.inr (.inl false))
    else (
    (Mq data d f).bind fun B=>
    bif (!B) then some (.inr (.inl false))
    else some (.inl ((Ac (f+1)),(Ey g i.Name true)))))
    else (
    (Mq data d f).bind fun A=>
    bif (!A) then some (.inr (.inl false))
    else some (.inl ((Ac (f+1)),(Ey g i.Name true))))))
    else some (.inr (.inr (f,g)))) (0,o)=some z /\
   match z with
   | .inl r=>r=false/\¬((∀y∈x.Cons,Pe data d x.Vars y)/\(L++Ez x).Nodup)
   | .inr (_,o')=>(∀y∈x.Cons,Pe data d x.Vars y)/\(L++Ez x).Nodup/\Ip o' (L++Ez x):=by
 have hxm:=Br hx
 have R:=(u.sz x hxm).1
 refine P7 (fun (f,g)=>∃c:Nat,f=c/\c<=x.Cons.length/\(∀y∈x.Cons.take c,Pe data d x.Vars y)/\(L++(x.Cons.take c).map (·.Name)).Nodup/\Ip g (L++(x.Cons.take c).map (·.Name)))
  (fun (f,_)=>x.Cons.length-f.toNat) _ ?_ _ ⟨0,rfl,by omega,by simp,by simpa using U,by simpa using N⟩
 rintro ⟨v,g⟩ ⟨c,rfl,hc,h1,h2,h3⟩
 rcases Nat.lt_or_ge c x.Cons.length with h | h
 .have hy:x.Cons[c]? = some x.Cons[c]:=B0 h
  generalize x.Cons[c]=y at hy
  have q:=Br hy
  obtain ⟨b,b1,b2⟩:=Aju y.Name (by have:=u.cn x hxm y q; omega)
  have ht:=Dk hy
  have I:L++Ez x=(L++(x.Cons.take c).map (·.Name))++y.Name::(x.Cons.drop (c+1)).map (·.Name):=by rw [At0 x hy]; simp
  simp only [Aj (by omega:(c:Int)<(x.Cons.length:Int)),cond_true,Bv rfl hy,Ad,b1,Atk u.sz d c hx hy M u.len,Di h (by omega)]
  cases b with
  | false=>
   refine .inr ⟨.inl false,rfl,rfl,fun l=>?_⟩
   have:=b2.2 (l.1 y q).1; cases this
  | true=>
   simp only [De,cond_false]
   cases k:Ew g y.Name with
   | true=>
    simp only [cond_true,h3.get k]
    refine .inr ⟨.inl false,rfl,rfl,fun l=>?_⟩
    rw [I] at l
    exact Ajw l.2 ((h3.2 _).1 k)
   | false=>
    simp only [cond_false]
    cases j:(decide (y.Args.length<=6)&&y.Args.all (H9 data d x.Vars)) with
    | false=>
     refine .inr ⟨.inl false,rfl,rfl,fun l=>?_⟩
     have:=l.1 y q
     rw [this.2.2,Aj this.2.1] at j; cases j
    | true=>
     simp only [C7,decide_eq_true_eq] at j
     have G:y.Name ∉ L++(x.Cons.take c).map (·.Name):=fun l=>by rw [(h3.2 _).2 l] at k; cases k
     have e:L++(x.Cons.take (c+1)).map (·.Name)=(L++(x.Cons.take c).map (·.Name))++[y.Name]:=by rw [ht]; simp
     refine .inl ⟨_,rfl,⟨c+1,rfl,by omega,?_,?_,?_⟩,by simp; omega⟩
     .intro J s
      rw [ht] at s
      rcases List.mem_append.1 s with h' | h'
      .exact h1 J h'
      .simp at h'; subst h'; exact ⟨b2.1 rfl,j.1,j.2⟩
     .rw [e]; exact Adb h2 G
     .rw [e]; exact h3.put _
 .have:c=x.Cons.length:=by omega
  subst this
  rw [List.take_length] at h1 h2 h3
  exact .inr ⟨.inr ((x.Cons.length:Int),g),by simp,h1,h2,h3⟩
theorem At2 {data:List Ao} {d:Nat} {x:Ao} (hx:data[d]? = some x):data.flatMap Ez=((data.take d).flatMap Ez++Ez x)++(data.drop (d+1)).flatMap Ez/\data.map (·.Name)=(data.take d).map (·.Name)++x.Name::(data.drop (d+1)).map (·.Name):=by
 have h:=List.take_append_drop d data
 have hc:=Fh hx
 have e:data.drop d=x::data.drop (d+1):=by
  rw [List.drop_eq_getElem_cons hc]
  rw [B0 hc] at hx
  rw [Option.some.inj hx]
 constructor
 .conv=>lhs; rw [<-h,e]
  simp [List.flatMap_append]
 .conv=>lhs; rw [<-h,e]
  simp
theorem At3 {data:List Ao} (j:DSz data):∃b,Sz data=some b/\(b=true↔Gu data):=by
 have E:=j.len
 unfold Sz
 rcases Nat.lt_or_ge 12 data.length with h12 | h12
 .rw [Aj (by omega)]
  exact ⟨false,rfl,by simp; intro h; have:=h.1; omega⟩
 rw [Ap (by omega)]
 simp only [cond_false]
 refine Eb (fun (v31,f,g)=>∃d:Nat,v31=d/\d<=data.length/\(∀k x,k<d->data[k]? = some x->Nc data k x)/\((data.take d).map (·.Name)).Nodup/\((data.take d).flatMap Ez).Nodup/\Ip f ((data.take d).map (·.Name))/\Ip g ((data.take d).flatMap Ez))
  (fun (v31,_,_)=>data.length-v31.toNat) (fun z=>match z with | .inl r=>r=false/\¬Gu data | .inr _=>Gu data) ⟨0,rfl,by omega,by intro k x h; omega,by simp,by simp,by simpa using Ip.nil,by simpa using Ip.nil⟩ ?_ ?_
 .rintro ⟨v,f,g⟩ ⟨d,rfl,hd,h1,h2,h3,h4,V⟩
  rcases Nat.lt_or_ge d data.length with h | h
  .have hx:data[d]? = some data[d]:=B0 h
   generalize data[d]=x at hx
   have hxm:=Br hx
   obtain ⟨b,b1,b2⟩:=Aju x.Name (by have:=j.nm x hxm; omega)
   obtain ⟨f1,f2⟩:=At2 hx
   simp only [Aj (by omega:(d:Int)<(data.length:Int)),cond_true,Bv rfl hx,Ad,b1]
   have bad:∀(y:¬Nc data d x),∃e:Bool⊕((List (ByteArray×Bool))×(List (ByteArray×Bool))),(some (Sum.inr (Sum.inl false)):Option ((Int×(List (ByteArray×Bool))×(List (ByteArray×Bool)))⊕(Bool⊕((List (ByteArray×Bool))×(List (ByteArray×Bool))))))=some (.inr e)/\(match e with | .inl r=>r=false/\¬Gu data | .inr _=>Gu data) :=
    fun y=>⟨.inl false,rfl,rfl,fun c=>y (c.2.1 d x hx)⟩
   cases b with
   | false=>
    exact .inr (bad fun c=>by have:=b2.2 c.2.2.2.2.1; cases this)
   | true=>
    simp only [De,cond_false]
    cases i:Ew f x.Name with
    | true=>
     simp only [cond_true,h4.get i,Ad]
     refine .inr ⟨.inl false,rfl,rfl,fun c=>?_⟩
     have:=c.2.2.1
     rw [f2] at this
     exact Ajw this ((h4.2 _).1 i)
    | false=>
     simp only [cond_false]
     by_cases q:x.Vars<0
     .simp only [Aj q,cond_true,Ad]
      exact .inr (bad fun c=>by have:=c.1; omega)
     by_cases u:x.Vars>6
     .simp only [Ap q,Aj u,cond_true,cond_false,Ad]
      exact .inr (bad fun c=>by have:=c.2.1; omega)
     simp only [Ap q,Ap u,cond_false,Ad]
     by_cases s:(x.Cons.length:Int)<1
     .simp only [Aj s,cond_true,Ad]
      exact .inr (bad fun c=>by have:=c.2.2.1; omega)
     by_cases A:(x.Cons.length:Int)>8
     .simp only [Ap s,Aj A,cond_true,cond_false,Ad]
      exact .inr (bad fun c=>by have:=c.2.2.2.1; omega)
     simp only [Ap s,Ap A,cond_false,Ad]
     obtain ⟨z,J,z2⟩:=At1 j hx (by omega) g _ V h3
     rw [J,Ad]
     match z,z2 with
     | .inl r,z2=>
      obtain ⟨rfl,z2⟩:=z2
      refine .inr ⟨.inl false,rfl,rfl,fun c=>z2 ⟨(c.2.1 d x hx).2.2.2.2.2,?_⟩⟩
      have:=c.2.2.2
      rw [f1] at this
      exact (List.nodup_append.1 this).1
     | .inr (S,B),z2=>
      obtain ⟨N,M,L⟩:=z2
      have ht:=Dk hx
      have D:x.Name ∉ (data.take d).map (·.Name):=fun c=>by rw [(h4.2 _).2 c] at i; cases i
      have I:(data.take (d+1)).map (·.Name)=(data.take d).map (·.Name)++[x.Name]:=by rw [ht]; simp
      have G:(data.take (d+1)).flatMap Ez=(data.take d).flatMap Ez++Ez x:=by rw [ht]; simp [List.flatMap_append]
      refine .inl ⟨(((d+1:Nat):Int),Ey f x.Name true,B),by simp only [Di h (by omega)],⟨d+1,rfl,by omega,?_,?_,?_,?_,?_⟩,by simp; omega⟩
      .intro k R U l
       rcases Nat.lt_or_ge k d with h' | h'
       .exact h1 k R h' l
       .have:k=d:=by omega
        subst this
        rw [hx] at l; cases l
        exact ⟨by omega,by omega,by omega,by omega,b2.1 rfl,N⟩
      .rw [I]; exact Adb h2 D
      .rw [G]; exact M
      .rw [I]; exact h4.put _
      .rw [G]; exact L
  .have:d=data.length:=by omega
   subst this
   rw [List.take_length] at h2 h3
   exact .inr ⟨.inr (f,g),by simp,h12,fun d x hx=>h1 d x (Fh hx) hx,h2,h3⟩
 .rintro (r | ⟨o,o'⟩) j
  .obtain ⟨rfl,j⟩:=j
   exact ⟨false,rfl,by simp [j]⟩
  .exact ⟨true,rfl,by simpa using j⟩
theorem Ajx {data:List Ao} (c:DSz data):∃b,Qf data=some b/\(b=true↔Gu data):=by
 obtain ⟨b,h1,h2⟩:=At3 c
 refine ⟨b,?_,h2⟩
 unfold Qf
 rw [h1,Ad]
 cases b with
 | false=>rfl
 | true=>rfl
end Go.Ab
namespace Go.Ab
open Go
theorem At4 {l:List ByteArray} {j:Nat} {x:ByteArray} (h:l[j]? = some x) (b:l.Nodup):∀i y,i<j->l[i]? = some y->y≠x:=by
 intro i y hi hy e
 subst e
 have h1:=Fh h
 have h2:i<l.length:=by omega
 rw [B0 h1] at h
 rw [B0 h2] at hy
 have:=(List.nodup_iff_pairwise_ne.1 b)
 rw [List.pairwise_iff_getElem] at this
 exact this i j h2 h1 hi (by rw [Option.some.inj h,Option.some.inj hy])
theorem Ajy (l:List ByteArray) (N:l.length<1099511627776):∃b,Qx l=some b/\(b=false↔l.Nodup):=by
 unfold Qx
 refine Eb (fun v=>∃i:Nat,v=i/\i<=l.length/\(l.take i).Nodup) (fun v=>l.length-v.toNat) (fun z=>match z with | .inl r=>r=true/\¬l.Nodup | .inr _=>l.Nodup) ⟨0,rfl,by omega,by simp⟩ ?_ ?_
 .rintro v ⟨i,rfl,hi,A⟩
  rcases Nat.lt_or_ge i l.length with h | h
  .have hx:l[i]? = some l[i]:=B0 h
   generalize l[i]=x at hx
   have G:(l.take i).length=i:=by simp; omega
   have D:∃z,An (S:=Int) (E:=(Bool⊕Int)) (fun v4=>bif (decide (v4<(i:Int))) then ((Ae l (i:Int)).bind fun v5=>(Ae l v4).bind fun L=>bif (v5.toList==L.toList) then some (.inr (.inl true)) else some (.inl (Ac (v4+1)))) else some (.inr (.inr v4))) 0=some z/\(match z with | .inl r=>r=true/\x∈l.take i | .inr _=>x ∉ l.take i):=by
    refine P7 (fun v4:Int=>∃j:Nat,v4=j/\j<=i/\∀k y,k<j->l[k]? = some y->y≠x) (fun v4=>i-v4.toNat) _ ?_ _ ⟨0,rfl,by omega,fun k y hk=>by omega⟩
    rintro v4 ⟨j,rfl,hj,g⟩
    rcases Nat.lt_or_ge j i with h' | h'
    .have hy:l[j]? = some l[j]:=B0 (by omega)
     generalize l[j]=y at hy
     simp only [Aj (by omega:(j:Int)<(i:Int)),cond_true,Bv rfl hx,Bv rfl hy,Ad,Ui]
     by_cases c:x=y
     .rw [Aj c]
      refine .inr ⟨.inl true,rfl,rfl,?_⟩
      subst c
      exact Br (i:=j) (by rw [List.getElem?_take_of_lt h']; exact hy)
     .rw [Ap c]
      refine .inl ⟨((j+1:Nat):Int),by simp only [cond_false]; rw [Di h' (by omega)],⟨j+1,rfl,by omega,?_⟩,by simp; omega⟩
      intro k J hk f
      rcases Nat.lt_or_ge k j with h'' | h''
      .exact g k J h'' f
      .have:k=j:=by omega
       subst this
       rw [hy] at f; cases f
       exact fun e=>c e.symm
    .have:j=i:=by omega
     subst this
     refine .inr ⟨.inr (j:Int),by simp,?_⟩
     intro q
     obtain ⟨k,hk⟩:=List.getElem?_of_mem q
     have B:=Fh hk
     rw [List.getElem?_take_of_lt (by omega)] at hk
     exact g k x (by omega) hk rfl
   obtain ⟨z,I,z2⟩:=D
   simp only [Aj (by omega:(i:Int)<(l.length:Int)),cond_true]
   rw [I,Ad]
   match z,z2 with
   | .inl r,z2=>
    obtain ⟨rfl,z2⟩:=z2
    refine .inr ⟨.inl true,rfl,rfl,fun M=>?_⟩
    obtain ⟨k,hk⟩:=List.getElem?_of_mem z2
    have B:=Fh hk
    rw [List.getElem?_take_of_lt (by omega)] at hk
    exact At4 hx M k x (by omega) hk rfl
   | .inr v8,z2=>
    refine .inl ⟨((i+1:Nat):Int),by simp only [Di h (by omega)],⟨i+1,rfl,by omega,?_⟩,by simp; omega⟩
    rw [Dk hx]
    exact Adb A z2
  .have:i=l.length:=by omega
   subst this
   rw [List.take_length] at A
   exact .inr ⟨.inr (),by simp,A⟩
 .rintro (r | u) s
  .obtain ⟨rfl,s⟩:=s
   exact ⟨true,rfl,by simp [s]⟩
  .exact ⟨false,rfl,by simpa using s⟩
theorem SzD.args {data:List Ao} (h:SzD data) {x:Ao} (hx:x∈data) {y:Ka} (hy:y∈x.Cons) {t:Af} (ht:t∈y.Args):A9 t<=1048576/\t.Args.length<=1048576/\y.Args.length<=1048576:=by
 have h1:=(h x hx).2 y hy
 have h3:=Fx ht
 have h4:=Fm t
 have c:=Hc t.Args
 have b:=Hc y.Args
 omega
theorem At5 {data:List Ao} (q:DSz data) {d:Nat} {x:Ao} {y:Ka} (hx:data[d]? = some x) (hy:y∈x.Cons) :
  ∃z,An (S:=Int) (E:=(Bool⊕Int)) (fun b=>
    bif (decide (b<(y.Args.length:Int))) then (
    (Ae y.Args b).bind fun f=>
    (Ms f d x.Vars).bind fun k=>
    bif k then some (.inl (Ac (b+1)))
    else (
    (Ga data 0 d).bind fun v218=>
    (Ku v218 f x.Vars).bind fun i=>
    bif (!i) then some (.inr (.inl false))
    else some (.inl (Ac (b+1)))))
    else some (.inr (.inr b))) 0=some z/\(match z with | .inl r=>r=false/\y.Args.all (H9 data d x.Vars)=false | .inr _=>y.Args.all (H9 data d x.Vars)=true):=by
 have hxm:=Br hx
 have D:=Fh hx
 have u:=q.len
 have G:y.Args.length<=1048576:=by have:=(q.sz x hxm).2 y hy; have:=Hc y.Args; omega
 refine P7 (fun v:Int=>∃j:Nat,v=j/\j<=y.Args.length/\(y.Args.take j).all (H9 data d x.Vars)=true) (fun v=>y.Args.length-v.toNat) _ ?_ _ ⟨0,rfl,by omega,by simp⟩
 rintro v ⟨j,rfl,hj,c⟩
 rcases Nat.lt_or_ge j y.Args.length with h | h
 .have ht:y.Args[j]? = some y.Args[j]:=B0 h
  generalize y.Args[j]=t at ht
  have l:=Br ht
  obtain ⟨L,J,I⟩:=q.sz.args hxm hy l
  simp only [Aj (by omega:(j:Int)<(y.Args.length:Int)),cond_true,Bv rfl ht,Ad,Ajm t d x.Vars (by omega),Xq rfl (show d<=data.length by omega),X6 (data.take d) t x.Vars (by omega),Di h (by omega)]
  have g:H9 data d x.Vars t=true->(y.Args.take (j+1)).all (H9 data d x.Vars)=true:=fun B=>by
   rw [Dk ht,List.all_append,c]; simp [B]
  cases s:G1 t d x.Vars with
  | true=>exact .inl ⟨_,rfl,⟨j+1,rfl,by omega,g (by unfold H9; rw [s]; rfl)⟩,by simp; omega⟩
  | false=>
   simp only [cond_false]
   cases A:(Em (data.take d) x.Vars t&&decide (A9 t<=200)) with
   | true=>exact .inl ⟨_,rfl,⟨j+1,rfl,by omega,g (by unfold H9; rw [A,s]; rfl)⟩,by simp; omega⟩
   | false=>
    refine .inr ⟨.inl false,rfl,rfl,?_⟩
    rw [List.all_eq_false]
    exact ⟨t,l,by unfold H9; rw [A,s]; simp⟩
 .have:j=y.Args.length:=by omega
  subst this
  rw [List.take_length] at c
  exact .inr ⟨.inr (y.Args.length:Int),by simp,c⟩
theorem At6 {data:List Ao} (M:DSz data) {d:Nat} {x:Ao} (hx:data[d]? = some x) (Y:x.Cons.length<=8) (L:List ByteArray) (X:L.length<=1048576) :
  ∃z,An (S:=(Int×(List ByteArray))) (E:=(Bool⊕(Int×(List ByteArray)))) (fun (f,k)=>
   bif (decide (f<(x.Cons.length:Int))) then (
   (show Option Bool from
   (Ae x.Cons f).bind fun A=>
   (Oj A.Name).bind fun v203=>
   bif (!v203) then some true
   else (
   (Ae x.Cons f).bind fun u=>
   some (decide ((u.Args.length:Int)>(6:Int))))
   ).bind fun s=>
   bif s then some (.inr (.inl false))
   else (
   (Ae x.Cons f).bind fun v206=>
   (B7 16 k [v206.Name]).bind fun D=>
   (Ae x.Cons f).bind fun v208=>
   (An (S:=Int) (E:=(Bool⊕Int)) (fun g=>
   bif (decide (g<(v208.Args.length:Int))) then (
   (Ae v208.Args g).bind fun j=>
   (Ms j d x.Vars).bind fun q=>
   bif q then some (.inl (Ac (g+1)))
   else (
   (Ga data 0 d).bind fun v218=>
   (Ku v218 j x.Vars).bind fun l=>
   bif (!l) then some (.inr (.inl false))
   else some (.inl (Ac (g+1)))))
   else some (.inr (.inr g))) 0).bind fun z=>
   match z with
   | .inl B=>some (.inr (.inl B))
   | .inr J=>some (.inl ((Ac (f+1)),D))))
   else some (.inr (.inr (f,k)))) (0,L)=some z /\
   (match z with | .inl r=>r=false/\¬(∀y∈x.Cons,Pe data d x.Vars y) | .inr (_,o)=>(∀y∈x.Cons,Pe data d x.Vars y)/\o=L++Ez x):=by
 have hxm:=Br hx
 refine P7 (fun (v,o)=>∃c:Nat,v=c/\c<=x.Cons.length/\(∀y∈x.Cons.take c,Pe data d x.Vars y)/\o=L++(x.Cons.take c).map (·.Name)) (fun (v,_)=>x.Cons.length-v.toNat) _ ?_ _ ⟨0,rfl,by omega,by simp,by simp⟩
 rintro ⟨v,o⟩ ⟨c,rfl,hc,h1,V⟩
 subst V
 rcases Nat.lt_or_ge c x.Cons.length with h | h
 .have hy:x.Cons[c]? = some x.Cons[c]:=B0 h
  generalize x.Cons[c]=y at hy
  have i:=Br hy
  obtain ⟨b,b1,b2⟩:=Ajv y.Name (by have:=M.cn x hxm y i; omega)
  obtain ⟨z,R,z2⟩:=At5 M hx i
  simp only [Aj (by omega:(c:Int)<(x.Cons.length:Int)),cond_true,Bv rfl hy,Ad,b1,Di h (by omega)]
  rw [Ds (by simp; omega)]
  cases b with
  | false=>
   refine .inr ⟨.inl false,rfl,rfl,fun I=>?_⟩
   have:=b2.2 (I y i).1; cases this
  | true=>
   simp only [De,cond_false,Ad]
   by_cases N:(y.Args.length:Int)>6
   .rw [Aj N]
    refine .inr ⟨.inl false,rfl,rfl,fun I=>?_⟩
    have:=(I y i).2.1; omega
   .rw [Ap N]
    simp only [cond_false]
    rw [R,Ad]
    match z,z2 with
    | .inl r,z2=>
     obtain ⟨rfl,z2⟩:=z2
     refine .inr ⟨.inl false,rfl,rfl,fun I=>?_⟩
     have:=(I y i).2.2
     rw [z2] at this; cases this
    | .inr w,z2=>
     refine .inl ⟨_,rfl,⟨c+1,rfl,by omega,?_,?_⟩,by simp; omega⟩
     .intro U G
      rw [Dk hy] at G
      rcases List.mem_append.1 G with h' | h'
      .exact h1 U h'
      .simp at h'; subst h'; exact ⟨b2.1 rfl,by omega,z2⟩
     .rw [Dk hy]; simp
 .have:c=x.Cons.length:=by omega
  subst this
  rw [List.take_length] at h1
  exact .inr ⟨.inr ((x.Cons.length:Int),L++Ez x),by simp [Ez],h1,rfl⟩
theorem Ajz {data:List Ao} (D:DSz data):∃b,Qq data=some b/\(b=true↔Gu data):=by
 have J:=D.len
 unfold Qq
 rcases Nat.lt_or_ge 12 data.length with h12 | h12
 .rw [Aj (by omega)]
  exact ⟨false,rfl,by simp; intro h; have:=h.1; omega⟩
 rw [Ap (by omega)]
 simp only [cond_false]
 have l:∀d,d<=data.length->(∀f x,f<d->data[f]? = some x->Nc data f x)->((data.take d).flatMap Ez).length<=8*d:=by
  intro d
  induction d with
  | zero=>intro _ _; simp
  | succ d ih=>
   intro hd h1
   have hx:data[d]? = some data[d]:=B0 (by omega)
   have:=ih (by omega) (fun f x E=>h1 f x (by omega))
   have X:=(h1 d _ (by omega) hx).2.2.2.1
   rw [Dk hx,List.flatMap_append,List.length_append]
   simp only [List.flatMap_cons,List.flatMap_nil,List.append_nil,Ez,List.length_map]
   omega
 refine Eb (fun (v,k,j)=>∃d:Nat,v=d/\d<=data.length/\(∀f x,f<d->data[f]? = some x->Nc data f x)/\k=(data.take d).map (·.Name)/\j=(data.take d).flatMap Ez)
  (fun (v,_,_)=>data.length-v.toNat) (fun z=>match z with | .inl r=>r=false/\¬Gu data | .inr (k,j)=>(∀d x,data[d]? = some x->Nc data d x)/\k=data.map (·.Name)/\j=data.flatMap Ez) ⟨0,rfl,by omega,by intro f x h; omega,by simp,by simp⟩ ?_ ?_
 .rintro ⟨v,k,j⟩ ⟨d,rfl,hd,h1,h2,h3⟩
  rcases Nat.lt_or_ge d data.length with h | h
  .have hx:data[d]? = some data[d]:=B0 h
   generalize data[d]=x at hx
   have hxm:=Br hx
   obtain ⟨b,b1,b2⟩:=Ajv x.Name (by have:=D.nm x hxm; omega)
   simp only [Aj (by omega:(d:Int)<(data.length:Int)),cond_true,Bv rfl hx,Ad,b1]
   have bad:∀(u:¬Nc data d x),∃e:Bool⊕((List ByteArray)×(List ByteArray)),(some (Sum.inr (Sum.inl false)):Option ((Int×(List ByteArray)×(List ByteArray))⊕(Bool⊕((List ByteArray)×(List ByteArray)))))=some (.inr e)/\(match e with | .inl r=>r=false/\¬Gu data | .inr (k,j)=>(∀d x,data[d]? = some x->Nc data d x)/\k=data.map (·.Name)/\j=data.flatMap Ez) :=
    fun u=>⟨.inl false,rfl,rfl,fun c=>u (c.2.1 d x hx)⟩
   by_cases g:x.Vars<0
   .simp only [Aj g,cond_true,Ad]
    exact .inr (bad fun c=>by have:=c.1; omega)
   by_cases i:x.Vars>6
   .simp only [Ap g,Aj i,cond_true,cond_false,Ad]
    exact .inr (bad fun c=>by have:=c.2.1; omega)
   by_cases s:(x.Cons.length:Int)<1
   .simp only [Ap g,Ap i,Aj s,cond_false,cond_true,Ad]
    exact .inr (bad fun c=>by have:=c.2.2.1; omega)
   by_cases A:(x.Cons.length:Int)>8
   .simp only [Ap g,Ap i,Ap s,Aj A,cond_true,cond_false,Ad]
    exact .inr (bad fun c=>by have:=c.2.2.2.1; omega)
   simp only [Ap g,Ap i,Ap s,Ap A,cond_false,Ad]
   cases b with
   | false=>exact .inr (bad fun c=>by have:=b2.2 c.2.2.2.2.1; cases this)
   | true=>
    have y:=l d hd h1
    rw [h2,h3]
    simp only [De,cond_false]
    rw [Ds (by simp; omega),Ad]
    obtain ⟨z,L,z2⟩:=At6 D hx (by omega) ((data.take d).flatMap Ez) (by omega)
    erw [L,Ad]
    match z,z2 with
    | .inl r,z2=>
     obtain ⟨rfl,z2⟩:=z2
     exact .inr (bad fun c=>z2 c.2.2.2.2.2)
    | .inr (S,U),z2=>
     obtain ⟨N,M⟩:=z2
     subst M
     have ht:=Dk hx
     refine .inl ⟨(((d+1:Nat):Int),(data.take d).map (·.Name)++[x.Name],(data.take d).flatMap Ez++Ez x),by simp only [Di h (by omega)],⟨d+1,rfl,by omega,?_,?_,?_⟩,by simp; omega⟩
     .intro f R E q
      rcases Nat.lt_or_ge f d with h' | h'
      .exact h1 f R h' q
      .have:f=d:=by omega
       subst this
       rw [hx] at q; cases q
       exact ⟨by omega,by omega,by omega,by omega,b2.1 rfl,N⟩
     .rw [ht]; simp
     .rw [ht]; simp [List.flatMap_append]
  .have:d=data.length:=by omega
   subst this
   rw [List.take_length] at h2 h3
   exact .inr ⟨.inr (k,j),by simp,fun d x hx=>h1 d x (Fh hx) hx,h2,h3⟩
 .rintro (r | ⟨k,j⟩) hp
  .obtain ⟨rfl,hp⟩:=hp
   exact ⟨false,rfl,by simp [hp]⟩
  .obtain ⟨I,rfl,rfl⟩:=hp
   have y:=l data.length (by omega) (fun d x _=>I d x)
   rw [List.take_length] at y
   obtain ⟨b,b1,b2⟩:=Ajy (data.map (·.Name)) (by simp; omega)
   obtain ⟨V,G,B⟩:=Ajy (data.flatMap Ez) (by omega)
   simp only [b1,Ad,G]
   cases b with
   | true=>exact ⟨false,rfl,by simp; intro c; have:=b2.2 c.2.2.1; cases this⟩
   | false=>
    cases V with
    | true=>exact ⟨false,rfl,by simp; intro c; have:=B.2 c.2.2.2; cases this⟩
    | false=>exact ⟨true,rfl,by simp; exact ⟨h12,I,b2.1 rfl,B.1 rfl⟩⟩
end Go.Ab
namespace Go.Ab
open Go
def isV (σ:List Af) (k n:Int):Bool:=k==4&&decide (0<=n)&&decide (n<(σ.length:Int))
mutual
def Cr (σ:List Af):Af->Af
 | ⟨k,n,l⟩=>match (if isV σ k n then σ[n.toNat]? else none) with
  | some s=>s
  | none=>⟨k,n,Lz σ l⟩
def Lz (σ:List Af):List Af->List Af
 | []=>[]
 | x::xs=>Cr σ x::Lz σ xs
end
theorem At7 (σ l:List Af):Lz σ l=l.map (Cr σ):=by
 induction l with
 | nil=>rfl
 | cons x xs ih=>simp only [Lz,ih,List.map_cons]
theorem X7 {σ:List Af} {k n:Int} (h:isV σ k n=true):∃s,σ[n.toNat]? = some s/\Ae σ n=some s/\s∈σ:=by
 simp only [isV,C7,decide_eq_true_eq] at h
 have b:n.toNat < σ.length:=by omega
 refine ⟨σ[n.toNat],B0 b,?_,List.getElem_mem b⟩
 unfold Ae
 rw [if_pos (by omega),B0 b]
theorem X8 {σ:List Af} {t s:Af} (h:isV σ t.Kind t.Num=true) (hs:σ[t.Num.toNat]? = some s):Cr σ t=s:=by
 cases t; simp only [Cr] at *; simp [h,hs]
theorem Adc {σ:List Af} {t:Af} (h:isV σ t.Kind t.Num=false):Cr σ t=⟨t.Kind,t.Num,t.Args.map (Cr σ)⟩:=by
 cases t; simp only [Cr] at *; simp [h,At7]
mutual
theorem Aj0:∀t:Af,Cr [] t=t
 | ⟨k,n,l⟩=>by
  have hv:isV [] k n=false:=by
   unfold isV
   by_cases h:0<=n
   .rw [Ap (by simp; omega:¬n<(([]:List Af).length:Int))]; simp
   .rw [Ap h]; simp
  simp only [Cr,hv,Aj1 l]; rfl
theorem Aj1:∀l:List Af,Lz [] l=l
 | []=>rfl
 | x::xs=>by simp only [Lz,Aj0 x,Aj1 xs]
end
mutual
theorem Add (σ:List Af) (M:Nat) (hM:1<=M) (hσ:∀s∈σ,A9 s<=M):∀t:Af,A9 (Cr σ t)<=A9 t*M
 | ⟨k,n,l⟩=>by
  cases hv:isV σ k n with
  | true=>
   obtain ⟨s,h1,_,h3⟩:=X7 hv
   rw [X8 (t:=⟨k,n,l⟩) hv h1]
   have:=hσ s h3
   have h2:=Kz ⟨k,n,l⟩
   calc A9 s<=1*M:=by omega
    _<=_:=Nat.mul_le_mul_right M h2
  | false=>
   have:=Aj2 σ M hM hσ l
   simp only [Cr,hv,A9]
   simp only [Bool.false_eq_true,if_false,A9]
   rw [Nat.add_mul]; omega
theorem Aj2 (σ:List Af) (M:Nat) (hM:1<=M) (hσ:∀s∈σ,A9 s<=M):∀l:List Af,Ce (Lz σ l)<=Ce l*M
 | []=>by simp [Lz,Ce]
 | x::xs=>by
  have h1:=Add σ M hM hσ x
  have h2:=Aj2 σ M hM hσ xs
  simp only [Lz,Ce]
  rw [Nat.add_mul]; omega
end
theorem Ade (σ:List Af) (t:Af):(bif t.Kind==(4:Int) then bif decide (t.Num>=(0:Int)) then some (decide (t.Num<(σ.length:Int))) else some false else some false)=some (isV σ t.Kind t.Num):=by
 unfold isV
 cases t.Kind==4 <;> simp
 by_cases h:0<=t.Num <;> simp [h]
theorem At8:∀(k:Nat) (t:Af) (σ:List Af) (M:Nat),(∀s∈σ,A9 s<=M)->A9 t+M+1<=k->k<1099511627776->M0 k t σ=some (Cr σ t):=by
 intro k
 induction k with
 | zero=>intro t σ M _ h; omega
 | succ k ih=>
  intro t σ M c h hk
  have g:=Fm t
  have f:=Hc t.Args
  rw [M0]
  rw [show (show Option Bool from bif t.Kind==(4:Int) then bif decide (t.Num>=(0:Int)) then some (decide (t.Num<(σ.length:Int))) else some false else some false)=some (isV σ t.Kind t.Num) from Ade σ t,Ad]
  cases b:isV σ t.Kind t.Num with
  | true=>
   obtain ⟨s,h1,h2,h3⟩:=X7 b
   have:=c s h3
   simp only [cond_true,h2,Ad,X8 b h1,ih s [] 0 (by simp) (by omega) (by omega),Aj0]
  | false=>
   rw [Adc b]
   simp only [cond_false]
   refine Im t.Args (fun j=>((j:Int),(t.Args.take j).map (Cr σ))) rfl (by omega) ?_ ?_
   .intro j x hj hx h1 h2 h3
    have:=Fx (Br hx)
    simp only [h1,h2,h3,cond_true,Ad,ih x σ M c (by omega) (by omega)]
    rw [Ds (by simp; omega),Ad,Dk hx]; simp
   .intro h1
    exact ⟨t.Args.map (Cr σ),by simp,rfl⟩
theorem At9:∀(k:Nat) (t:Af),A9 t<=k->k<1099511627776->O2 k t=some t:=by
 intro k
 induction k with
 | zero=>intro t h; have:=Kz t; omega
 | succ k ih=>
  intro t h hk
  have c:=Fm t
  have b:=Hc t.Args
  rw [O2]
  refine Im t.Args (fun j=>((j:Int),(t.Args.take j))) rfl (by omega) ?_ ?_
  .intro j x hj hx h1 h2 h3
   have:=Fx (Br hx)
   simp only [h1,h2,h3,cond_true,Ad,ih x (by omega) (by omega)]
   rw [Ds (by simp; omega),Ad,Dk hx]
  .intro h1
   exact ⟨t.Args,by simp,by cases t; rfl⟩
theorem Aua:∀(k:Nat) (t:Af) (σ:List Af) (M:Nat),(∀s∈σ,A9 s<=M)->M<=4000000->A9 t<=k->k<1099511627776->My k t σ=some (Cr σ t):=by
 intro k
 induction k with
 | zero=>intro t σ M _ _ h; have:=Kz t; omega
 | succ k ih=>
  intro t σ M c i h hk
  have g:=Fm t
  have f:=Hc t.Args
  rw [My]
  rw [show (show Option Bool from bif t.Kind==(4:Int) then bif decide (t.Num>=(0:Int)) then some (decide (t.Num<(σ.length:Int))) else some false else some false)=some (isV σ t.Kind t.Num) from Ade σ t,Ad]
  cases b:isV σ t.Kind t.Num with
  | true=>
   obtain ⟨s,h1,h2,h3⟩:=X7 b
   have:=c s h3
   simp only [cond_true,h2,Ad,X8 b h1,At9 4000000 s (by omega) (by omega)]
  | false=>
   rw [Adc b]
   simp only [cond_false]
   refine Im t.Args (fun j=>((j:Int),(t.Args.take j).map (Cr σ))) rfl (by omega) ?_ ?_
   .intro j x hj hx h1 h2 h3
    have:=Fx (Br hx)
    simp only [h1,h2,h3,cond_true,Ad,ih x σ M c i (by omega) (by omega)]
    rw [Ds (by simp; omega),Ad,Dk hx]; simp
   .intro h1
    exact ⟨t.Args.map (Cr σ),by simp,rfl⟩
theorem Aub:∀(k:Nat) (t:Af),A9 t<=k->A9 t<1099511627776->O0 k t=some (A9 t:Int):=by
 intro k
 induction k with
 | zero=>intro t h; have:=Kz t; omega
 | succ k ih=>
  intro t h ht
  have b:=Fm t
  have c:=Hc t.Args
  rw [O0]
  refine Im t.Args (fun j=>(1+(Ce (t.Args.take j):Int),(j:Int))) rfl (by omega) ?_ ?_
  .intro j x hj hx h1 h2 h3
   have g:=Fx (Br hx)
   have f:=Uh t.Args (j+1)
   have e:Ce (t.Args.take (j+1))=Ce (t.Args.take j)+A9 x:=by rw [Dk hx,X2]; simp [Ce]
   simp only [h1,h2,h3,cond_true,Ad,ih x (by omega) (by omega)]
   rw [show Ac (1+(Ce (t.Args.take j):Int)+(A9 x:Int))=1+(Ce (t.Args.take (j+1)):Int) by rw [e,Ac,Bl] <;> omega]
  .intro h1
   exact ⟨1+(Ce t.Args:Int),by simp,by rw [b]; simp⟩
theorem Auc (σ:List Af) (M:Nat) (E:1<=M) (u:M<=1048576) (A:∀s∈σ,A9 s<=M):∀(k:Nat) (t:Af),A9 t<=k->A9 t<=1048576 ->
  ∃v:Nat,O1 k t (σ.map fun s=>(A9 s:Int))=some (v:Int)/\v<=A9 (Cr σ t)/\((v=A9 (Cr σ t))\/200<v):=by
 intro k
 induction k with
 | zero=>intro t h; have:=Kz t; omega
 | succ k ih=>
  intro t h ht
  have B:=Fm t
  have z:=Hc t.Args
  have l:∀x,A9 x<=1048576->A9 (Cr σ x)<=1099511627776:=fun x hx=>by
   have:=Add σ M E A x
   have:A9 x*M<=1048576*1048576:=Nat.mul_le_mul hx u
   omega
  rw [O1]
  rw [show (show Option Bool from bif t.Kind==(4:Int) then bif decide (t.Num>=(0:Int)) then some (decide (t.Num<((σ.map fun s=>(A9 s:Int)).length:Int))) else some false else some false)=some (isV σ t.Kind t.Num) by rw [List.length_map]; exact Ade σ t,Ad]
  cases f:isV σ t.Kind t.Num with
  | true=>
   obtain ⟨s,h1,h2,h3⟩:=X7 f
   have hi:Ae (σ.map fun s=>(A9 s:Int)) t.Num=some (A9 s:Int):=by
    have:=E9 h2
    rw [Bv (n:=t.Num.toNat) (by omega)]
    simp [h1]
   simp only [cond_true,hi,Ad,X8 f h1]
   exact ⟨A9 s,rfl,Nat.le_refl _,.inl rfl⟩
  | false=>
   have y:=l t ht
   rw [Adc f] at y ⊢
   simp only [cond_false]
   have g:A9 ⟨t.Kind,t.Num,t.Args.map (Cr σ)⟩=1+Ce (t.Args.map (Cr σ)):=by simp only [A9]
   rw [g] at y ⊢
   refine Aci (fun v:Nat=>(v:Int)) (Eb (fun (n,i)=>∃j:Nat,i=j/\j<=t.Args.length/\n=1+(Ce ((t.Args.map (Cr σ)).take j):Int)) (fun (_,i)=>t.Args.length-i.toNat)
    (fun n=>∃v:Nat,n=v/\v<=1+Ce (t.Args.map (Cr σ))/\(v=1+Ce (t.Args.map (Cr σ))\/200<v)) ⟨0,rfl,by omega,by simp [Ce]⟩ ?_ ?_)
   .rintro ⟨n,i⟩ ⟨j,rfl,hj,q⟩
    have q:n=_:=q
    subst q
    rcases Nat.lt_or_ge j t.Args.length with h' | h'
    .have hx:t.Args[j]? = some t.Args[j]:=B0 h'
     generalize t.Args[j]=x at hx
     have I:=Fx (Br hx)
     obtain ⟨v,b,v2,v3⟩:=ih x (by omega) (by omega)
     have c:(t.Args.map (Cr σ))[j]? = some (Cr σ x):=by simp [hx]
     have e:Ce ((t.Args.map (Cr σ)).take (j+1))=Ce ((t.Args.map (Cr σ)).take j)+A9 (Cr σ x):=by rw [Dk c,X2]; simp [Ce]
     have D:=Uh (t.Args.map (Cr σ)) (j+1)
     have G:Ac (1+(Ce ((t.Args.map (Cr σ)).take j):Int)+(v:Int))=((1+Ce ((t.Args.map (Cr σ)).take j)+v:Nat):Int):=by rw [Ac,Bl] <;> omega
     simp only [Aj (by omega:(j:Int)<(t.Args.length:Int)),cond_true,Bv rfl hx,Ad,b,Di h' (by omega),G]
     by_cases hb:1+Ce ((t.Args.map (Cr σ)).take j)+v>200
     .rw [Aj (by omega)]
      exact .inr ⟨_,rfl,_,rfl,by omega,.inr hb⟩
     .rw [Ap (by omega)]
      refine .inl ⟨_,rfl,⟨j+1,rfl,by omega,?_⟩,by simp; omega⟩
      have:v=A9 (Cr σ x):=by omega
      subst this
      rw [e]; omega
    .have:j=t.Args.length:=by omega
     subst this
     refine .inr ⟨_,by simp; rfl,1+Ce (t.Args.map (Cr σ)),?_,by omega,.inl rfl⟩
     rw [List.take_of_length_le (by simp)]; omega
   .rintro n ⟨v,rfl,b,v2⟩
    exact ⟨_,rfl,v,rfl,b,v2⟩
def Iq (data:List Ao) (t:Af) (c:Int):Option (List Af) :=
 if t.Kind=5 then
  match Ae data t.Num with
  | none=>none
  | some x=>if (t.Args.length:Int)=x.Vars then
    match Ae x.Cons c with
    | none=>none
    | some y=>if (y.Args.map (Cr t.Args)).all (fun a=>decide (A9 a<=200)) then some (y.Args.map (Cr t.Args)) else none
   else none
 else none
def okL (o:Option (List Af)):List Af×Bool:=match o with | none=>([],false) | some l=>(l,true)
theorem Aud {R:Type} (data:List Ao) (t:Af) (c:Int) (F:Ao->Ka->Option R) (z:R) (X:Option R)
  (b:X=(match Ae data t.Num with
   | none=>some z
   | some x=>match Ae x.Cons c with
    | none=>some z
    | some y=>if t.Kind=5/\(t.Args.length:Int)=x.Vars then F x y else some z)):X=if t.Kind=5 then
  match Ae data t.Num with
  | none=>some z
  | some x=>if (t.Args.length:Int)=x.Vars then
    match Ae x.Cons c with
    | none=>some z
    | some y=>F x y
   else some z
 else some z:=by
 subst b
 by_cases h:t.Kind=5
 .rw [if_pos h]
  cases Ae data t.Num with
  | none=>rfl
  | some x=>
   simp only
   by_cases h':(t.Args.length:Int)=x.Vars
   .rw [if_pos h']
    cases Ae x.Cons c with
    | none=>rfl
    | some y=>simp [h,h']
   .rw [if_neg h']
    cases Ae x.Cons c with
    | none=>rfl
    | some y=>simp [h']
 .rw [if_neg h]
  cases Ae data t.Num with
  | none=>rfl
  | some x=>
   simp only
   cases Ae x.Cons c with
   | none=>rfl
   | some y=>simp [h]
def Szv (data:List Ao):Prop:=∀x∈data,∀y∈x.Cons,y.Args.length<=6/\∀a∈y.Args,A9 a<=200
theorem Gu.szv {data:List Ao} (h:Gu data):Szv data:=by
 intro x hx y hy
 obtain ⟨d,hd⟩:=List.getElem?_of_mem hx
 have h1:=h.2.1 d x hd
 obtain ⟨_,c,b⟩:=h1.2.2.2.2.2 y hy
 refine ⟨c,fun a ha=>?_⟩
 have:=List.all_eq_true.1 b a ha
 unfold H9 at this
 rw [Bool.or_eq_true] at this
 rcases this with h' | h'
 .exact (Ajr hd h1.2.1 h').2
 .simp only [C7,decide_eq_true_eq] at h'; exact h'.2
theorem Aue {t a:Af} (ht:A9 t<=200) (ha:A9 a<=200):A9 (Cr t.Args a)<=40000:=by
 have h1:=Add t.Args 200 (by omega) (fun s hs=>by have:=Fx hs; have:=Fm t; omega) a
 have:A9 a*200<=200*200:=Nat.mul_le_mul_right 200 ha
 omega
theorem Aj3 {data:List Ao} (D:Szv data) (t:Af) (ht:A9 t<=200) (c:Int):Oo data t c=some (okL (Iq data t c)):=by
 have G:Oo data t c=_:=Aud data t c (fun x y=>(An (S:=(Int×(List Af))) (E:=(((List Af)×Bool)⊕(List Af))) (fun (v22,g)=>
   bif (decide (v22<(y.Args.length:Int))) then (
   (Ae y.Args v22).bind fun v24=>
   (My (4000000) v24 t.Args).bind fun f=>
   (Lp (4000000) f).bind fun v28=>
   bif (decide (v28>(200:Int))) then some (.inr (.inl ([],false)))
   else (
   (B7 40 g [f]).bind fun A=>
   some (.inl ((Ac (v22+1)),A))))
   else some (.inr (.inr g))) (0,[])).bind fun z=>
   match z with
   | .inl (q,l)=>some (q,l)
   | .inr u=>some (u,true)) ([],false) _ (by
  unfold Oo
  by_cases hk:t.Kind=5
  .simp only [C4 hk,cond_false]
   cases hx:Ae data t.Num with
   | none=>
    rcases Nb hx with h | h
    .simp only [Aj h,cond_true,Ad]
    .by_cases h':t.Num<0
     .simp only [Aj h',cond_true,Ad]
     .simp only [Ap h',Aj (show t.Num>=(data.length:Int) from h),cond_true,cond_false,Ad]
   | some x=>
    obtain ⟨a1,a2,_,_⟩:=E9 hx
    simp only [Ap (by omega:¬t.Num<0),Ap (by omega:¬t.Num>=(data.length:Int)),cond_false,Ad]
    by_cases b:(t.Args.length:Int)=x.Vars
    .simp only [C4 b,cond_false]
     cases hy:Ae x.Cons c with
     | none=>
      rcases Nb hy with h | h
      .simp only [Aj h,cond_true,Ad]
      .by_cases h':c<0
       .simp only [Aj h',cond_true,Ad]
       .simp only [Ap h',Aj (show c>=(x.Cons.length:Int) from h),cond_true,cond_false,Ad]
     | some y=>
      obtain ⟨b1,b2,_,_⟩:=E9 hy
      simp only [Ap (by omega:¬c<0),Ap (by omega:¬c>=(x.Cons.length:Int)),cond_false,Ad,hk,b,and_self,if_true]
      rfl
    .simp only [Cy b,cond_true,Ad]
     cases hy:Ae x.Cons c with
     | none=>rfl
     | some y=>simp [b]
  .simp only [Cy hk,cond_true,Ad]
   cases hx:Ae data t.Num with
   | none=>rfl
   | some x=>
    simp only
    cases hy:Ae x.Cons c with
    | none=>rfl
    | some y=>simp [hk])
 rw [G]
 unfold Iq
 by_cases hk:t.Kind=5
 .rw [if_pos hk,if_pos hk]
  cases hx:Ae data t.Num with
  | none=>rfl
  | some x=>
   simp only
   by_cases b:(t.Args.length:Int)=x.Vars
   .rw [if_pos b,if_pos b]
    cases hy:Ae x.Cons c with
    | none=>rfl
    | some y=>
     simp only
     obtain ⟨I,k⟩:=D x (E9 hx).2.2.2 y (E9 hy).2.2.2
     refine (M8 (rt:=(y.Args.map (Cr t.Args),true)) (rf:=([],false)) y.Args (fun a=>decide (A9 (Cr t.Args a)<=200)) (fun j=>((j:Int),(y.Args.take j).map (Cr t.Args))) rfl (by omega) ?_ ?_).trans ?_
     .intro j a ha h1 h2 h3
      have hj:=Fh ha
      have B:=k a (Br ha)
      have J:=Aue ht B
      simp only [h1,h2,h3,cond_true,Ad,Aua 4000000 a t.Args 200 (fun s hs=>by have:=Fx hs; have:=Fm t; omega) (by omega) (by omega) (by omega),Ajk 4000000 (Cr t.Args a) (by omega) (by omega)]
      by_cases hb:A9 (Cr t.Args a)<=200
      .rw [Aj hb,Ap (by omega)]
       refine ⟨fun _=>?_,fun h=>by cases h⟩
       rw [Ds (by simp; omega)]
       simp only [cond_false,Ad]
       rw [Dk ha]; simp
      .rw [Ap hb,Aj (by omega)]
       exact ⟨(fun h=>by cases h),fun _=>⟨_,rfl,rfl⟩⟩
     .intro h1
      exact ⟨.inr (y.Args.map (Cr t.Args)),by simp,rfl⟩
     .rw [List.all_map]
      cases i:y.Args.all ((fun a=>decide (A9 a<=200)) ∘ Cr t.Args) with
      | true=>rw [if_pos rfl]; rw [show (y.Args.all fun a=>decide (A9 (Cr t.Args a)<=200))=true from i]; rfl
      | false=>rw [show (y.Args.all fun a=>decide (A9 (Cr t.Args a)<=200))=false from i]; rfl
   .rw [if_neg b,if_neg b]; rfl
 .rw [if_neg hk,if_neg hk]; rfl
end Go.Ab
