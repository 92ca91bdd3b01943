/- Plain laws: what the plain functions answer. -/
import Derived.Test.YtjjkmepjaemceaaGreatDoorBcPl3
import Derived.KernelRfl
namespace Go.Ab
open Go
theorem Y8 (k:Nat):RB k ⟨false,[],[]⟩:=⟨(fun _ h=>by cases h),(fun _ h=>by cases h),by simp,by simp⟩
theorem Av6 (x:Cp) (hz:CSz x) (p:List B2) (hp:∀t∈p,TSz t) (k:List Da) (hc:k.length<=1048576) :
  ∃r:A1×Int,Ry x p k=some r/\Rz x p k=some r/\RB 2000000000 r.1:=by
 obtain ⟨b,b1,b2,b3⟩:=Akj x hz p hp
 unfold Ry Rz
 rw [b1,b2]
 simp only [Ap]
 cases b with
 | false=>exact ⟨_,rfl,rfl,Y8 _⟩
 | true=>
  obtain ⟨hf,be,bd⟩:=b3 rfl
  obtain ⟨bi,aw⟩:=Aki be
  simp only [Dr,cond_false]
  cases hr:k.all (fun c=>decide (0<=c.N/\c.N<=5000)) with
  | false=>
   refine ⟨(⟨false,[],[]⟩,8),?_,?_,Y8 _⟩
   .refine Q2 (Q:=fun z=>z = .inl (⟨false,[],[]⟩,8)) ?_ (fun z hz=>by rw [hz])
    have:=Adb k hc (J:=fun z=>some z) (rt:=.inr ()) (rf:=.inl (⟨false,[],[]⟩,8)) rfl rfl
    rw [hr] at this
    rw [Option.bind_fun_some] at this
    exact ⟨_,this,rfl⟩
   .refine Q2 (Q:=fun z=>z = .inl (⟨false,[],[]⟩,8)) ?_ (fun z hz=>by rw [hz])
    have:=Adb k hc (J:=fun z=>some z) (rt:=.inr ()) (rf:=.inl (⟨false,[],[]⟩,8)) rfl rfl
    rw [hr] at this
    rw [Option.bind_fun_some] at this
    exact ⟨_,this,rfl⟩
  | true=>
   have ag:=List.all_eq_true.1 hr
   have ba:=Adb k hc (J:=fun z=>some z) (rt:=.inr ()) (rf:=.inl (⟨false,[],[]⟩,8)) rfl rfl
   rw [hr,Option.bind_fun_some] at ba
   rw [ba]
   simp only [cond_true,Ap]
   have af:=Av1 k hc (J:=fun z=>some z) (rt:=.inr (Iv k)) (rf:=.inl (⟨false,[],[]⟩,4)) rfl rfl
   have ae:=Av2 k hc (J:=fun z=>some z) (rt:=.inr ()) (rf:=.inl (⟨false,[],[]⟩,4)) rfl rfl
   rw [Option.bind_fun_some] at af ae
   cases av:Ty k with
   | false=>
    rw [av] at af ae
    refine ⟨(⟨false,[],[]⟩,4),?_,?_,Y8 _⟩
    .erw [af]; rfl
    .erw [ae]; rfl
   | true=>
    rw [av] at af ae
    erw [af,ae]
    simp only [cond_true,Ap]
    have z1:G5 0=some (Bp false 0 1):=X8 0 (by decide) (by decide)
    have z2:Gs 0=some (Bp false 0 1):=Vn 0 (by decide) (by decide)
    have z3:RB 1 (Bp false 0 1):=Ib _ _ _ _ (by simp [Vg]) (by rw [Is]; decide) (by decide)
    rw [z1,z2]
    simp only [Ap]
    obtain ⟨r1,r2,q1,q2,rfl,q3⟩:=Y7 (R1:=A1×Int) (R2:=A1×Int)
     (s1:=(fun (ap,az,v59,ay)=>
      bif (decide (ap<(p.length:Int))) then (
      (Au p ap).bind fun Y=>
      (Bc (S:=(Int×Bool×(List Int)×(List Int))) (E:=((A1×Int)⊕(Int×Bool×(List Int)×(List Int)))) (fun (v72,X,V,v75)=>
      bif (decide (v72<(Y.Mono.Factors.length:Int))) then (
      (Au Y.Mono.Factors v72).bind fun v76=>
      (I3 x v76).bind fun U=>
      (show Option (Int×Bool) from
      bif (Hb Gy (Iv k) (F5.mk v76.Var U.1)) then some ((Ij Gy (Iv k) (F5.mk v76.Var U.1) (0:Int)),true)
      else some (0,false)).bind fun (ao,v80)=>
      bif (!v80) then some (.inr (.inl ((A1.mk false [] []),14)))
      else (
      (Nm ao U.2.1).bind fun am=>
      (Ll (A1.mk X V v75) am.1).bind fun R=>
      some (.inl ((Al (v72+1)),R.Neg,R.Num,R.Den))))
      else some (.inr (.inr (v72,X,V,v75)))) (0,Y.Coef.Neg,Y.Coef.Num,Y.Coef.Den)).bind fun z=>
      match z with
      | .inl (ar,aq)=>some (.inr (.inl (ar,aq)))
      | .inr (bl,v87,ak,aj)=>
       (Lm (A1.mk az v59 ay) (A1.mk v87 ak aj)).bind fun M=>
       some (.inl ((Al (ap+1)),M.Neg,M.Num,M.Den)))
      else some (.inr (.inr (az,v59,ay))):Int×Bool×List Int×List Int->Option ((Int×Bool×List Int×List Int)⊕((A1×Int)⊕(Bool×List Int×List Int)))))
     (s2:=(fun (ab,v107,ah,v109)=>
      bif (decide (ab<(p.length:Int))) then (
      (Au p ab).bind fun L=>
      (Bc (S:=(Int×Bool×(List Int)×(List Int))) (E:=((A1×Int)⊕(Int×Bool×(List Int)×(List Int)))) (fun (v138,v139,I,v141)=>
      bif (decide (v138<(L.Mono.Factors.length:Int))) then (
      (Au L.Mono.Factors v138).bind fun B=>
      (Jm x B.Var B.Index).bind fun G=>
      (Bc (S:=(Bool×Int×Bool×(List Int)×(List Int))) (E:=(Bool×Int×Bool×(List Int)×(List Int))) (fun (D,v152,A,v154,y)=>
      bif (decide (v152<(k.length:Int))) then (
      (Au k v152).bind fun q=>
      (show Option Bool from
      bif (q.Var==B.Var) then some (q.Con==G.1)
      else some false).bind fun aa=>
      bif aa then (
      (J8 q.N G.2.1).bind fun v159=>
      (I4 (A1.mk A v154 y) v159.1).bind fun l=>
      some (.inl (true,(Al (v152+1)),l.Neg,l.Num,l.Den)))
      else some (.inl (D,(Al (v152+1)),A,v154,y)))
      else some (.inr (D,v152,A,v154,y))) (false,0,v139,I,v141)).bind fun (v162,b7,v164,a8,a7)=>
      bif (!v162) then some (.inr (.inl ((A1.mk false [] []),14)))
      else some (.inl ((Al (v138+1)),v164,a8,a7)))
      else some (.inr (.inr (v138,v139,I,v141)))) (0,L.Coef.Neg,L.Coef.Num,L.Coef.Den)).bind fun z=>
      match z with
      | .inl (ad,ac)=>some (.inr (.inl (ad,ac)))
      | .inr (b6,a6,v171,a1)=>
       (J9 (A1.mk v107 ah v109) (A1.mk a6 v171 a1)).bind fun v173=>
       some (.inl ((Al (ab+1)),v173.Neg,v173.Num,v173.Den)))
      else some (.inr (.inr (v107,ah,v109))):Int×Bool×List Int×List Int->Option ((Int×Bool×List Int×List Int)⊕((A1×Int)⊕(Bool×List Int×List Int)))))
     (J1:=(fun z=>match z with | .inl (bn,bm)=>some (bn,bm) | .inr (v93,bk,bj)=>some ((A1.mk v93 bk bj),0):((A1×Int)⊕(Bool×List Int×List Int))->Option (A1×Int)))
     (J2:=(fun z=>match z with | .inl (b9,b8)=>some (b9,b8) | .inr (b5,b4,b0)=>some ((A1.mk b5 b4 b0),0):((A1×Int)⊕(Bool×List Int×List Int))->Option (A1×Int)))
     (fun s t=>s=t/\∃(j:Nat) (a:A1),s=((j:Int),a.Neg,a.Num,a.Den)/\j<=p.length/\RB (1+j*1050000) a) (fun s=>p.length-s.1.toNat)
     (fun r1 r2=>r1=r2/\RB 2000000000 r1.1) (by
      rintro s t ⟨rfl,j,a,rfl,hj,ha⟩
      rcases Nat.lt_or_ge j p.length with h | h
      .have hu:p[j]? = some p[j]:=Cv h
       generalize p[j]=u at hu
       have au:=Cq hu
       obtain ⟨_,bq⟩:=Akh (aw u au)
       simp only [A4 (by omega:(j:Int)<(p.length:Int)),cond_true,Cs rfl hu,Ap,D3 h (by omega)]
       obtain ⟨w1,w2,e1,e2,e3⟩:=Y7 (R1:=(Int×Bool×List Int×List Int)⊕((A1×Int)⊕(Bool×List Int×List Int))) (R2:=(Int×Bool×List Int×List Int)⊕((A1×Int)⊕(Bool×List Int×List Int)))
        (s1:=(fun (v72,X,V,v75)=>
         bif (decide (v72<(u.Mono.Factors.length:Int))) then (
         (Au u.Mono.Factors v72).bind fun v76=>
         (I3 x v76).bind fun U=>
         (show Option (Int×Bool) from
         bif (Hb Gy (Iv k) (F5.mk v76.Var U.1)) then some ((Ij Gy (Iv k) (F5.mk v76.Var U.1) (0:Int)),true)
         else some (0,false)).bind fun (ao,v80)=>
         bif (!v80) then some (.inr (.inl ((A1.mk false [] []),14)))
         else (
         (Nm ao U.2.1).bind fun am=>
         (Ll (A1.mk X V v75) am.1).bind fun R=>
         some (.inl ((Al (v72+1)),R.Neg,R.Num,R.Den))))
         else some (.inr (.inr (v72,X,V,v75))):Int×Bool×List Int×List Int->Option ((Int×Bool×List Int×List Int)⊕((A1×Int)⊕(Int×Bool×List Int×List Int)))))
        (s2:=(fun (v138,v139,I,v141)=>
         bif (decide (v138<(u.Mono.Factors.length:Int))) then (
         (Au u.Mono.Factors v138).bind fun B=>
         (Jm x B.Var B.Index).bind fun G=>
         (Bc (S:=(Bool×Int×Bool×(List Int)×(List Int))) (E:=(Bool×Int×Bool×(List Int)×(List Int))) (fun (D,v152,A,v154,y)=>
         bif (decide (v152<(k.length:Int))) then (
         (Au k v152).bind fun q=>
         (show Option Bool from
         bif (q.Var==B.Var) then some (q.Con==G.1)
         else some false).bind fun aa=>
         bif aa then (
         (J8 q.N G.2.1).bind fun v159=>
         (I4 (A1.mk A v154 y) v159.1).bind fun l=>
         some (.inl (true,(Al (v152+1)),l.Neg,l.Num,l.Den)))
         else some (.inl (D,(Al (v152+1)),A,v154,y)))
         else some (.inr (D,v152,A,v154,y))) (false,0,v139,I,v141)).bind fun (v162,b7,v164,a8,a7)=>
         bif (!v162) then some (.inr (.inl ((A1.mk false [] []),14)))
         else some (.inl ((Al (v138+1)),v164,a8,a7)))
         else some (.inr (.inr (v138,v139,I,v141))):Int×Bool×List Int×List Int->Option ((Int×Bool×List Int×List Int)⊕((A1×Int)⊕(Int×Bool×List Int×List Int)))))
        (J1:=(fun z=>match z with
         | .inl (ar,aq)=>some (.inr (.inl (ar,aq)))
         | .inr (bl,v87,ak,aj)=>(Lm (A1.mk a.Neg a.Num a.Den) (A1.mk v87 ak aj)).bind fun M=>some (.inl (((j+1:Nat):Int),M.Neg,M.Num,M.Den)):((A1×Int)⊕(Int×Bool×List Int×List Int))->Option ((Int×Bool×List Int×List Int)⊕((A1×Int)⊕(Bool×List Int×List Int)))))
        (J2:=(fun z=>match z with
         | .inl (ad,ac)=>some (.inr (.inl (ad,ac)))
         | .inr (b6,a6,v171,a1)=>(J9 (A1.mk a.Neg a.Num a.Den) (A1.mk a6 v171 a1)).bind fun v173=>some (.inl (((j+1:Nat):Int),v173.Neg,v173.Num,v173.Den)):((A1×Int)⊕(Int×Bool×List Int×List Int))->Option ((Int×Bool×List Int×List Int)⊕((A1×Int)⊕(Bool×List Int×List Int)))))
        (fun s t=>s=t/\∃(i:Nat) (g:A1),s=((i:Int),g.Neg,g.Num,g.Den)/\i<=u.Mono.Factors.length/\RB (1048576+i*67) g) (fun s=>u.Mono.Factors.length-s.1.toNat)
        (fun r1 r2=>r1=r2/\(r1 = .inr (.inl (⟨false,[],[]⟩,14))\/∃g:A1,r1 = .inl (((j+1:Nat):Int),g.Neg,g.Num,g.Den)/\RB (1+(j+1)*1050000) g)) (by
         rintro s t ⟨rfl,i,g,rfl,hi,hg⟩
         rcases Nat.lt_or_ge i u.Mono.Factors.length with h' | h'
         .have ax:u.Mono.Factors[i]? = some u.Mono.Factors[i]:=Cv h'
          generalize u.Mono.Factors[i]=f at ax
          obtain ⟨sm,s1,s2,s3⟩:=bd u au f (Cq ax)
          simp only [A4 (by omega:(i:Int)<(u.Mono.Factors.length:Int)),cond_true,Cs rfl ax,Ap,s1,s2,D3 h' (by omega),Akk]
          cases ai:k.any (Fh f.Var sm.1) with
          | false=>
           refine .inr ⟨.inl (⟨false,[],[]⟩,14),.inl (⟨false,[],[]⟩,14),_,_,rfl,?_,rfl,rfl,rfl,.inl rfl⟩
           exact Av3 k hc f.Var sm.1 sm.2.1 g ai rfl
          | true=>
           obtain ⟨i0,c0,bf,bo,bc⟩:=Av5 k f.Var sm.1 ai
           have hN:=ag c0 (Cq bf)
           rw [decide_eq_true_eq] at hN
           obtain ⟨n,hn⟩:∃n:Nat,c0.N=n:=⟨c0.N.toNat,by omega⟩
           obtain ⟨ch,bb,bh,bg,bp⟩:=As7 n sm.2.1 (by omega)
           rw [<-hn] at bh bg
           obtain ⟨m,m1,m2,m3⟩:=Avz g ch (1048576+i*67) 65 hg bp (by omega) (by omega)
           simp only [cond_true,Ap,Dr,cond_false,bc,bh,m1]
           refine .inl ⟨_,_,rfl,Av4 k hc f.Var sm.1 sm.2.1 g m (ch,bb) av bf bo bg m2 (r:=(Sum.inl (((i+1:Nat):Int),m.Neg,m.Num,m.Den):(Int×Bool×List Int×List Int)⊕((A1×Int)⊕(Int×Bool×List Int×List Int)))) rfl,⟨rfl,i+1,m,rfl,by omega,m3.mono (by omega)⟩,by simp; omega⟩
         .have:i=u.Mono.Factors.length:=by omega
          subst this
          obtain ⟨m,m1,m2,m3⟩:=Av0 a g _ _ ha hg (by omega) (by omega)
          refine .inr ⟨.inr ((u.Mono.Factors.length:Int),g.Neg,g.Num,g.Den),.inr ((u.Mono.Factors.length:Int),g.Neg,g.Num,g.Den),.inl (((j+1:Nat):Int),m.Neg,m.Num,m.Den),.inl (((j+1:Nat):Int),m.Neg,m.Num,m.Den),by simp,by simp,?_,?_,rfl,.inr ⟨m,rfl,m3.mono (by omega)⟩⟩
          .show (Lm a g).bind _=_
           rw [m1]; rfl
          .show (J9 a g).bind _=_
           rw [m2]; rfl)
        (s:=((0:Int),u.Coef.Neg,u.Coef.Num,u.Coef.Den)) (t:=((0:Int),u.Coef.Neg,u.Coef.Num,u.Coef.Den)) ⟨rfl,0,u.Coef,rfl,by omega,((hp u au).co).mono (by omega)⟩
       obtain ⟨rfl,e3⟩:=e3
       erw [e1,e2]
       rcases e3 with rfl | ⟨g,rfl,hg⟩
       .exact .inr ⟨.inl (⟨false,[],[]⟩,14),.inl (⟨false,[],[]⟩,14),_,_,rfl,rfl,rfl,rfl,rfl,Y8 _⟩
       .exact .inl ⟨_,_,rfl,rfl,⟨rfl,j+1,g,rfl,by omega,hg⟩,by simp; omega⟩
      .have:j=p.length:=by omega
       subst this
       exact .inr ⟨.inr (a.Neg,a.Num,a.Den),.inr (a.Neg,a.Num,a.Den),(a,0),(a,0),by simp,by simp,rfl,rfl,rfl,ha.mono (by omega)⟩)
     (s:=((0:Int),(Bp false 0 1).Neg,(Bp false 0 1).Num,(Bp false 0 1).Den)) (t:=((0:Int),(Bp false 0 1).Neg,(Bp false 0 1).Num,(Bp false 0 1).Den)) ⟨rfl,0,Bp false 0 1,rfl,by omega,z3.mono (by omega)⟩
    exact ⟨r1,q1,q2,q3⟩
end Go.Ab
namespace Go.Ab
open Go
theorem Av7:∀(k:Nat) (v:Bl) (a:Int),Dt v<=k->k<1099511627776->∃r,Lk k v a=some r/\True:=by
 intro k
 induction k with
 | zero=>intro v a h _; have:=O4 v; omega
 | succ k ih=>
  intro v a h hk
  have f:=M6 v
  have i:=O5 v.Kids
  simp only [Lk]
  refine E3 (fun s=>∃j:Nat,s.2=j/\j<=v.Kids.length) (fun s=>v.Kids.length-s.2.toNat) (fun _=>True) ⟨0,rfl,by omega⟩ ?_ ?_
  .rintro ⟨c,_⟩ ⟨j,rfl,hj⟩
   rcases Nat.lt_or_ge j v.Kids.length with h' | h'
   .simp only [A4 (by omega:(j:Int)<(v.Kids.length:Int)),cond_true,Df rfl h',Ap]
    cases decide (c>a) with
    | true=>exact .inr ⟨_,rfl,trivial⟩
    | false=>
     have g:=Mf (List.getElem_mem h')
     obtain ⟨r,b,_⟩:=ih v.Kids[j] (Al (a-c)) (by omega) (by omega)
     simp only [b,cond_false,Ap,D3 h' (by omega)]
     exact .inl ⟨_,rfl,⟨j+1,rfl,by omega⟩,by simp; omega⟩
   .simp only [A8 (by omega:¬(j:Int)<(v.Kids.length:Int)),cond_false]
    exact .inr ⟨_,rfl,trivial⟩
  .rintro (r | r) _
   .exact ⟨_,rfl,trivial⟩
   .exact ⟨_,rfl,trivial⟩
theorem Av8:∀(k:Nat) (v:Be) (a:Int),isz v<=k->k<1099511627776->∃r,Lr k v a=some r/\True:=by
 intro k
 induction k with
 | zero=>intro v a h _; have:=Gj v; omega
 | succ k ih=>
  intro v a h hk
  have f:=Gj v
  have i:=Kv v.Kids
  simp only [Lr]
  refine E3 (fun s=>∃j:Nat,s.2=j/\j<=v.Kids.length) (fun s=>v.Kids.length-s.2.toNat) (fun _=>True) ⟨0,rfl,by omega⟩ ?_ ?_
  .rintro ⟨c,_⟩ ⟨j,rfl,hj⟩
   rcases Nat.lt_or_ge j v.Kids.length with h' | h'
   .simp only [A4 (by omega:(j:Int)<(v.Kids.length:Int)),cond_true,Df rfl h',Ap]
    cases decide (c>a) with
    | true=>exact .inr ⟨_,rfl,trivial⟩
    | false=>
     have g:=L8 (List.getElem_mem h')
     obtain ⟨r,b,_⟩:=ih v.Kids[j] (Al (a-c)) (by omega) (by omega)
     simp only [b,cond_false,Ap,D3 h' (by omega)]
     exact .inl ⟨_,rfl,⟨j+1,rfl,by omega⟩,by simp; omega⟩
   .simp only [A8 (by omega:¬(j:Int)<(v.Kids.length:Int)),cond_false]
    exact .inr ⟨_,rfl,trivial⟩
  .rintro (r | r) _
   .exact ⟨_,rfl,trivial⟩
   .exact ⟨_,rfl,trivial⟩
theorem Av9 (l:List Bl) (i:l.length<=1048576) (h:∀v∈l,Dt v<=1048576):∃b,Rv l=some b/\True:=by
 unfold Rv
 refine E3 (fun s=>∃j:Nat,s.2=j/\j<=l.length) (fun s=>l.length-s.2.toNat) (fun _=>True) ⟨0,rfl,by omega⟩ ?_ ?_
 .rintro ⟨c,_⟩ ⟨j,rfl,hj⟩
  rcases Nat.lt_or_ge j l.length with h' | h'
  .have g:=h _ (List.getElem_mem h')
   obtain ⟨r,f,_⟩:=Av7 4000000 l[j] (Al (61-c)) (by omega) (by omega)
   simp only [A4 (by omega:(j:Int)<(l.length:Int)),cond_true,Df rfl h',Ap,f,D3 h' (by omega)]
   cases decide (Al (c+r)>60) with
   | true=>exact .inr ⟨_,rfl,trivial⟩
   | false=>exact .inl ⟨_,rfl,⟨j+1,rfl,by omega⟩,by simp; omega⟩
  .simp only [A8 (by omega:¬(j:Int)<(l.length:Int)),cond_false]
   exact .inr ⟨_,rfl,trivial⟩
 .rintro (r | r) _
  .exact ⟨_,rfl,trivial⟩
  .exact ⟨_,rfl,trivial⟩
theorem Awa (m:C8) (c:MSz m):∃b,R8 m=some b/\True:=by
 have h1:=c.nf
 have h2:=c.na
 unfold R8
 cases decide ((m.Factors.length:Int)>4) with
 | true=>exact ⟨_,rfl,trivial⟩
 | false=>
  cases decide ((m.Atoms.length:Int)>4) with
  | true=>exact ⟨_,rfl,trivial⟩
  | false=>
   simp only [cond_false,Ap]
   refine E3 (fun s=>∃j:Nat,s=j/\j<=m.Factors.length) (fun s=>m.Factors.length-s.toNat) (fun _=>True) ⟨0,rfl,by omega⟩ ?_ ?_
   .rintro _ ⟨j,rfl,hj⟩
    rcases Nat.lt_or_ge j m.Factors.length with h' | h'
    .have c:=c.fi _ (List.getElem_mem h')
     obtain ⟨r,f,_⟩:=Av8 4000000 m.Factors[j].Index 13 (by omega) (by omega)
     simp only [A4 (by omega:(j:Int)<(m.Factors.length:Int)),cond_true,Df rfl h',Ap,f,D3 h' (by omega)]
     cases decide (r>12) with
     | true=>exact .inr ⟨_,rfl,trivial⟩
     | false=>exact .inl ⟨_,rfl,⟨j+1,rfl,by omega⟩,by simp; omega⟩
    .simp only [A8 (by omega:¬(j:Int)<(m.Factors.length:Int)),cond_false]
     exact .inr ⟨_,rfl,trivial⟩
   .rintro (r | r) _
    .exact ⟨_,rfl,trivial⟩
    .refine E3 (fun s=>∃j:Nat,s=j/\j<=m.Atoms.length) (fun s=>m.Atoms.length-s.toNat) (fun _=>True) ⟨0,rfl,by omega⟩ ?_ ?_
     .rintro _ ⟨j,rfl,hj⟩
      rcases Nat.lt_or_ge j m.Atoms.length with h' | h'
      .simp only [A4 (by omega:(j:Int)<(m.Atoms.length:Int)),cond_true,Df rfl h',Ap,D3 h' (by omega)]
       cases decide ((m.Atoms[j].Lin.Terms.length:Int)>4) with
       | true=>exact .inr ⟨_,rfl,trivial⟩
       | false=>exact .inl ⟨_,rfl,⟨j+1,rfl,by omega⟩,by simp; omega⟩
      .simp only [A8 (by omega:¬(j:Int)<(m.Atoms.length:Int)),cond_false]
       exact .inr ⟨_,rfl,trivial⟩
     .rintro (r | r) _
      .exact ⟨_,rfl,trivial⟩
      .exact ⟨_,rfl,trivial⟩
theorem Awb (a:A1):∃b,R7 a=some b:=by
 unfold R7
 cases decide ((a.Num.length:Int)<=2) <;> exact ⟨_,rfl⟩
theorem Akm (p:List B2) (n:Int) (g:p.length<=1048576) (h:∀t∈p,TSz t):∃b,Po p n=some b/\True:=by
 unfold Po
 cases decide ((p.length:Int)>n) with
 | true=>exact ⟨_,rfl,trivial⟩
 | false=>
  refine E3 (fun s=>∃j:Nat,s=j/\j<=p.length) (fun s=>p.length-s.toNat) (fun _=>True) ⟨0,rfl,by omega⟩ ?_ ?_
  .rintro _ ⟨j,rfl,hj⟩
   rcases Nat.lt_or_ge j p.length with h' | h'
   .obtain ⟨c,hc⟩:=Awb p[j].Coef
    obtain ⟨m,f,_⟩:=Awa p[j].Mono (h _ (List.getElem_mem h')).mo
    simp only [A4 (by omega:(j:Int)<(p.length:Int)),cond_true,Df rfl h',Ap,hc,f,D3 h' (by omega)]
    cases c with
    | false=>exact .inr ⟨_,rfl,trivial⟩
    | true=>
     cases m with
     | false=>exact .inr ⟨_,rfl,trivial⟩
     | true=>exact .inl ⟨_,rfl,⟨j+1,rfl,by omega⟩,by simp; omega⟩
   .simp only [A8 (by omega:¬(j:Int)<(p.length:Int)),cond_false]
    exact .inr ⟨_,rfl,trivial⟩
  .rintro (r | r) _
   .exact ⟨_,rfl,trivial⟩
   .exact ⟨_,rfl,trivial⟩
theorem Awc (x:Cp) (p q:List B2) (h:p.length<=1048576) (hp:∀t∈p,TSz t) (f:q.length<=1048576) (g:∀t∈q,TSz t):∃b,Ru x p q=some b:=by
 obtain ⟨b,hb⟩:∃b,R0 x=some b:=by
  unfold R0
  cases decide ((x.Data.length:Int)<=2) <;> exact ⟨_,rfl⟩
 obtain ⟨c,hc,_⟩:=Akm p 6 h hp
 obtain ⟨d,hd,_⟩:=Akm q 6 f g
 unfold Ru
 rw [hb]
 cases b with
 | false=>exact ⟨_,rfl⟩
 | true=>
  simp only [Ap,cond_true,hc]
  cases c with
  | false=>exact ⟨_,rfl⟩
  | true=>simp only [cond_true,hd]; exact ⟨_,rfl⟩
theorem Awd:Um=some true:=by kernel_rfl
theorem Awe (x:Cp) (p:List B2) (v:Int) (w:Bl) (f:List Da) (g:CSz x) (y:p.length<=1048576) (hp:∀t∈p,TSz t) (q:Dt w<=1048576) :
  Ul x p v w f=some true:=by
 unfold Ul
 rw [Awd]
 obtain ⟨b,hb⟩:=Awc x p [] y hp (by simp) (by simp)
 obtain ⟨c,hc,_⟩:=Av9 [w] (by simp) (by simpa using q)
 simp only [Ap,Dr,cond_false,hb]
 cases b with
 | false=>rfl
 | true=>
  simp only [Dr,cond_false,hc,Ap]
  cases c with
  | false=>rfl
  | true=>
   simp only [Dr,cond_false,Ap]
   by_cases h:(f.length:Int)>6
   .rw [A4 h]; rfl
   .rw [A8 h]
    obtain ⟨r,r1,r2,z⟩:=Avw x g v w (by omega)
    obtain ⟨s,s1,s2,l⟩:=Av6 x g p hp f (by omega)
    obtain ⟨u,k,i,_⟩:=Akj x g p hp
    have hc:=As1 s.1 _ l (by decide)
    simp only [cond_false,r1,r2,s1,s2,k,i,Ap,bne_self_eq_false,hc]
    refine F6 r.1 (fun j=>(j:Int)) rfl (by omega) ?_ ?_
    .intro j e hj A h1 h2 h3
     simp only [h1,h2,h3,cond_true,Ap,beq_self_eq_true,Bool.and_self,Dr,cond_false]
    .intro h1
     exact ⟨.inr (),by simp only [h1,cond_false],by simp⟩
end Go.Ab
