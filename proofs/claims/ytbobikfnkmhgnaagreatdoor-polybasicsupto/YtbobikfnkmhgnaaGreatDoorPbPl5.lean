/- Plain laws: what the plain functions answer. -/
import Derived.Test.YtbobikfnkmhgnaaGreatDoorPbPl4
namespace Go.Ab
open Go
theorem cp1 (m:A8):CP [⟨cR 1,m⟩] :=
 ⟨List.pairwise_singleton _ _,fun t ht=>by simp only [List.mem_singleton] at ht; subst ht; exact ⟨Ag1 1,by show rq (cR 1)≠0; rw [R7]; decide⟩⟩
theorem cf1 (m a:A8):cf [⟨cR 1,m⟩] a=if Cr m a=0 then 1 else 0:=by
 simp only [cf,R7]; grind
open Classical in
theorem A15 {l:Ca} {n:Nat} {B:List Ef} (r2:IsE [⟨l,(n:Int)⟩] B) (h1:Fm l=true) (hn:n<=6) (hl:l.Terms.length<=1048576) :
  ∃S,N6 [⟨cR 1,⟨[],[]⟩⟩] l (n:Int)=some S/\CP S/\∀a,cf S a=(ec B a:Rat):=by
 have hB:=A14 r2
 by_cases n0:n=0
 .subst n0
  have hB1:B = [([],1)]:=by
   rw [hB]
   have:bc l.Const.toNat 0=1:=Jr _
   simp [this,atO]
  refine ⟨[⟨cR 1,⟨[],[]⟩⟩],by unfold N6; rfl,cp1 _,fun a=>?_⟩
  rw [cf1,hB1]
  simp only [ec]
  split <;> rfl
 .by_cases ht:l.Terms.length=0
  .rw [if_pos ht] at hB
   obtain ⟨z,y,z1,z2,z3,z4⟩:=A13 l.Const n (Uv h1).2 (by omega)
   obtain ⟨c,_,c1,c2,c3,c4⟩:=Ayl No z4 (by decide) (by decide)
   obtain ⟨n',o,p1,p2,p3,p4⟩:=Aon (Apq 0) c2 Ab6 (by decide) (by simp)
   refine ⟨o.take n',?_,p3.cp,fun a=>?_⟩
   .unfold N6
    rw [Cm (by omega),cond_false]
    refine bnd (a:=(n',o)) ?_ (by dsimp only; rw [A12 p3.le]; rfl)
    refine (Hm (s':=(n',1,o)) ?_).trans (Ds (by rfl))
    have it:Af [(⟨cR 1,⟨[],[]⟩⟩:Aj)] 0=some ⟨cR 1,⟨[],[]⟩⟩:=rfl
    have w1:Ac (0+1)=1:=by rw [Ac,Bp] <;> omega
    dsimp only
    rw [Ak (by simp),cond_true,it,Ad,Ea (by omega),cond_true,z1,Ad,z2,Ad,c1,Ad,p1,Ad,w1]
   .rw [p4,c4,R7,z3,hB]
    have e0:cf (List.take 0 ([]:List Aj)) a=0:=rfl
    rw [e0]
    by_cases h0:bc l.Const.toNat n=0
    .rw [if_pos h0,h0]
     have:((0:Nat):Rat)=0:=rfl
     simp only [ec,this]
     split <;> grind
    .rw [if_neg h0]
     simp only [ec]
     by_cases e:(⟨[],[]⟩:A8)=a
     .rw [if_pos e,if_pos (Hx.2 e),Nat.add_zero]; grind
     .rw [if_neg e,if_neg (fun h=>e (Hx.1 h))]
      have:((0+0:Nat):Rat)=0:=rfl
      rw [this]; grind
  .rw [if_neg ht] at hB
   have hms:MSz ⟨[],[]++[⟨l,(n:Int)⟩]⟩:=⟨by simp,by simp,(fun f h=>by cases h),(fun f h=>by cases h),fun a h=>by simp only [List.nil_append,List.mem_singleton] at h; subst h; exact hl⟩
   refine ⟨_,A11 hms (by omega) ht (fun a h=>by cases h) (by simp),cp1 _,fun a=>?_⟩
   rw [cf1,hB]
   have:atO l n = [⟨l,(n:Int)⟩]:=by unfold atO; rw [if_neg n0]
   simp only [ec,this,List.nil_append]
   split <;> rfl
theorem A16 {x:Ce} (i:CSz x) (q:Ig x) {l:Ca} {k:Int} (h1:Fm l=true) (h2:0<=k) (h3:k<=6) (hi:G5 x.Vars x.Res l=true) (j:l.Terms.length<=1048576) :
  ∃R B,I9 x l k=some (R,0)/\Kg x l k=some (R,0)/\IsE [⟨l,k⟩] B/\IP x 1 4900 (fun m=>(ec B m:Rat)) R/\∀t∈R,NoF x k.toNat t.Mono/\t.Mono.Atoms.length<=1:=by
 obtain ⟨b,b1,b2⟩:=Agb x i
 have hb:b=true:=b2.2 q
 subst hb
 obtain ⟨R,B,A,h,f,z⟩:=A1u i q h1 h2 h3 hi
 obtain ⟨n,rfl⟩:∃n:Nat,k=(n:Int):=⟨k.toNat,by omega⟩
 have c:Hn 1=some (cR 1):=Rj 1 (by decide) (by decide)
 obtain ⟨S,y,u,s⟩:=A15 h h1 (by omega) j
 have g:R=S:=CP.ext f.cp u fun a=>by rw [f.val,s]
 subst g
 refine ⟨R,B,A,?_,h,f,z⟩
 unfold Kg
 rw [b1]
 simp only [Ad,Dm,cond_false,Af8,h1,Ap (by omega:¬(n:Int)<0),Ap (by omega:¬(n:Int)>6),Am7 x l j,hi,c,Apt,y]
open Classical in
theorem A17 {x:Ce} (hz:CSz x) (l:Ca) (k:Int) (hl:l.Terms.length<=1048576) :
  ∃R S e,I9 x l k=some (R,e)/\Kg x l k=some (S,e)/\Ja R S=some true:=by
 obtain ⟨b,b1,b2⟩:=Agb x hz
 have hbad:∀e:Int,(I9 x l k=some ([],e))->(Kg x l k=some ([],e))->∃R S e,I9 x l k=some (R,e)/\Kg x l k=some (S,e)/\Ja R S=some true:=fun e h1 h2=>⟨[],[],e,h1,h2,Aou⟩
 cases b with
 | false=>
  have hnf:¬(Ig x/\∀p∈([]:List (List Aj)),I4 x.Data x.Vars x.Res p=true):=fun h=>by have:=b2.2 h.1; cases this
  have he:=Aot hz (ps:=[]) (fun p hp=>by cases hp) (by simp) hnf
  refine hbad 1 ?_ ?_
  .unfold I9
   rw [he]; rfl
  .unfold Kg
   rw [b1]; rfl
 | true=>
  have hf:=b2.1 rfl
  obtain ⟨b',hb,_⟩:=Agz hz (ps:=[]) (fun p hp=>by cases hp) (by simp) ⟨hf,fun p hp=>by cases hp⟩
  have hP:∀e:Int,(Fm l=true->0<=k->k<=6->False)->e=8->I9 x l k=some ([],e)/\Kg x l k=some ([],e):=by
   rintro e hno rfl
   unfold I9 Kg
   rw [hb,b1]
   simp only [Ad,Dm,cond_false,Xp,Af8]
   cases h1:Fm l with
   | false=>exact ⟨rfl,rfl⟩
   | true=>
    by_cases h2:k<0
    .simp only [Ak h2,Dm,cond_true,cond_false,Ad]; exact ⟨by first | rfl | trivial,by first | rfl | trivial⟩
    .by_cases h3:k>6
     .simp only [Ap h2,Ak h3,Dm,cond_true,cond_false,Ad]; exact ⟨by first | rfl | trivial,by first | rfl | trivial⟩
     .exact (hno h1 (by omega) (by omega)).elim
  by_cases hv:Fm l=true/\0<=k/\k<=6
  .obtain ⟨h1,h2,h3⟩:=hv
   cases hi:G5 x.Vars x.Res l with
   | false=>
    refine hbad 6 ?_ ?_
    .unfold I9
     rw [hb]
     simp only [Ad,Dm,cond_false,Xp,h1,Ap (by omega:¬k<0),Ap (by omega:¬k>6)]
     rw [Aga b' [] x.Data x.Vars x.Res l hl,Ad,hi]; rfl
    .unfold Kg
     rw [b1]
     simp only [Ad,Dm,cond_false,Af8,h1,Ap (by omega:¬k<0),Ap (by omega:¬k>6),Am7 x l hl,hi]
     rfl
   | true=>
    obtain ⟨R,B,r1,r1',r2,r3,_⟩:=A16 hz hf h1 h2 h3 hi hl
    exact ⟨R,R,0,r1,r1',Aha (k:=4901) (by have:=r3.len; omega) (fun t ht=>⟨(r3.mo t ht).2,(r3.px.rb t ht)⟩) (by decide)⟩
  .obtain ⟨g1,g2⟩:=hP 8 (fun a b c=>hv ⟨a,b,c⟩) rfl
   exact hbad 8 g1 g2
theorem A18 (f:Bh):Oh [f]=some [f]:=by
 obtain ⟨R,h1,h2,h3⟩:=Ag5 (cmp:=Oi) A1k [f] (fun x hx y hy=>by
  simp only [List.mem_singleton] at hx hy
  subst hx hy
  unfold Oi
  have e:y.Var-y.Var=0:=by omega
  rw [e]
  have w:Ac 0=0:=by rw [Ac,Bp] <;> omega
  rw [w]) (by simp)
 have b:R = [f]:=List.perm_singleton.1 h2
 subst b
 unfold Oh
 have e:Wm ((([f]:List Bh).length:Nat):Int) [f]=X7 Oi ((([f]:List Bh).length:Nat):Int) [f]:=rfl
 rw [e,h1,Ad,Nm rfl]; rfl
def Js (x:Ce) (f:Bh):List Bh:=if D4 x.Data x.Vars x.Res f=0 then [] else [f]
theorem A19 (x:Ce) (f:Bh):(Js x f).length<=1:=by unfold Js; split <;> simp
theorem A2a {x:Ce} (R:CSz x) (U:Ig x) {f:Bh} (h1:I64 f.Var/\iR f.Index/\C4 f.Index<=1048576) (h2:(tyX x.Vars x.Res f.Var).isSome=true) {b1:List (ByteArray×Int)} (N:Ft x.Data x.Vars x.Res b1) :
  ∃w D B,Qd (cR 1) ⟨[f],[]⟩ b1 [] x.Data x.Vars x.Res.Kind x.Res.Num x.Res.Args=some ([w],0,D,B)/\w.Mono=⟨Js x f,[]⟩/\rq w.Coef=1/\RB 3000 w.Coef:=by
 have l:=U.ctx R
 obtain ⟨s,M,p2⟩:=A1l (b1:=b1) (data:=x.Data) h1 h2 (b2:=[]) (fun p hp=>by cases hp)
 obtain ⟨g,L,q2⟩:=Xq (b2:=s) l N f h1.1 h1.2.1 h1.2.2 h2
 have k:V6 f.Var f.Index b1 s x.Data x.Vars x.Res.Kind x.Res.Num x.Res.Args=some (Js x f,g):=by
  unfold V6 Js
  rw [L,Ad]
  dsimp only
  by_cases h0:D4 x.Data x.Vars x.Res f=0
  .rw [Ea h0,cond_true,if_pos h0]
  .rw [Cm h0,cond_false,if_neg h0]
 have y:=A19 x f
 generalize Js x f=G at k y
 obtain ⟨c,Z,Y,_,X⟩:=Ang No No (by decide) (by decide)
 have hu:Lm ⟨cR 1,⟨[],[]⟩⟩ (cR 1) ⟨G,[]⟩=some ⟨c,⟨G,[]⟩⟩:=by
  unfold Lm
  rw [Z,Ad,Apa _ _ (by simp; omega) (by simp)]; rfl
 have E:Ac (0+1)=1:=by rw [Ac,Bp] <;> omega
 have u:rq c=1:=by rw [X,R7]; grind
 obtain ⟨gs,out,g1,g2,g3,g4⟩:=Ape (F:=⟨G,by omega⟩) (c:=1) 0 [] [⟨c,⟨G,[]⟩⟩] [([],1)] 8 0 (Nat.le_refl _) List.Pairwise.nil ⟨(fun a h=>by cases h),(fun a h=>by cases h),by simp [C1],by simp⟩ (.cons rfl (by rw [u]; show (1:Rat)=1*((1:Nat):Rat); rw [show ((1:Nat):Rat)=1 from rfl]; grind) Y .nil) (fun b hb=>by simp only [List.mem_singleton] at hb; subst hb; simp) (by simp) (by simp) (by simp [C1])
 have z:=g2.nil_of rfl
 subst z
 have g3:F2 ⟨G,by omega⟩ 1 (8+202*0) out [([],1)]:=g3
 cases g3 with
 | @cons w _ ts _ a1 a2 a3 a4=>
  cases a4
  refine ⟨w,g,s,?_,a1,by rw [a2]; show (1:Rat)*((1:Nat):Rat)=1; rw [show ((1:Nat):Rat)=1 from rfl]; grind,a3.mono (by decide)⟩
  have A:Qo []=some ([],[]):=rfl
  have q:Qm [f]=some ([],[f]):=by
   unfold Qm Sx
   rw [Cy (by simp)]; rfl
  obtain ⟨S,J,I,_⟩:=Ao8 [] (fun a h=>by cases h) (by simp)
  have V:S = []:=List.Perm.eq_nil I
  subst V
  unfold Qd
  rw [(Nl No (by decide)).1,Ad,R7,Cm (by decide),cond_false,q,Ad]
  dsimp only
  rw [A18,Ad,Nm rfl,Ad]
  refine bnd (a:=.inr ([⟨c,⟨G,[]⟩⟩],g,s)) ?_ ?_
  .refine (Hm (s':=([⟨c,⟨G,[]⟩⟩],[],g,s)) ?_).trans (Ds (by rfl))
   have i0:Af [f] 0=some f:=rfl
   have j:E7 [f] 0 1=some [f]:=rfl
   have i:E7 [f] 1 (([f].length:Nat):Int)=some []:=rfl
   dsimp only
   rw [Ak (by simp),cond_true,i0,Ad]
   refine bnd (a:=1) (Ds (by rfl)) ?_
   rw [j,Ad,M,Ad]
   dsimp only
   rw [Dj rfl,cond_false]
   refine bnd (a:=(1,g,[⟨c,⟨G,[]⟩⟩])) ?_ (by dsimp only; rw [i]; rfl)
   refine (Hm (s':=(1,g,[⟨c,⟨G,[]⟩⟩])) ?_).trans (Ds (by rfl))
   dsimp only
   rw [Ak (by simp),cond_true,show Af [(⟨cR 1,⟨[],[]⟩⟩:Aj)] 0=some ⟨cR 1,⟨[],[]⟩⟩ from rfl,Ad]
   refine bnd (a:=(1,g,[⟨c,⟨G,[]⟩⟩])) ?_ (by dsimp only; rw [E])
   refine (Hm (s':=(1,g,[⟨c,⟨G,[]⟩⟩])) ?_).trans (Ds (by rfl))
   dsimp only
   rw [Ak (by simp),cond_true,show Af ([⟨f.Index,cR 1⟩]:List Co) 0=some ⟨f.Index,cR 1⟩ from rfl,Ad]
   dsimp only
   rw [k,Ad]
   dsimp only
   rw [hu,Ad,Cy (by simp),Ad,E]; rfl
  .dsimp only
   rw [A,Ad]
   dsimp only
   rw [J,Ad,Nm rfl,Ad]
   exact bnd g1 rfl
theorem A2b {x:Ce} {f:Bh} (h1:I64 f.Var/\iR f.Index/\C4 f.Index<=1048576) (h0:0<=D4 x.Data x.Vars x.Res f):Hi x ⟨Js x f,[]⟩:=by
 have j:=(Am8 x.Data x.Vars x.Res f).2
 unfold Js
 by_cases h:D4 x.Data x.Vars x.Res f=0
 .rw [if_pos h]
  exact ⟨rfl,Ab6⟩
 .rw [if_neg h]
  refine ⟨?_,⟨by simp,by simp,fun g b=>?_,fun g b=>?_,fun a ha=>by cases ha⟩⟩
  .have e:Fu x.Data x.Vars x.Res [f]=D4 x.Data x.Vars x.Res f:=by simp [Fu]
   have i:Pc x.Data x.Vars x.Res [f] f 0=true:=by
    unfold Pc Ku
    rw [Ak (by omega)]; rfl
   show (([f]:List Bh).zipIdx.all (fun q=>Pc x.Data x.Vars x.Res [f] q.1 q.2)&&([]:List Ba).zipIdx.all (fun q=>Ml x.Vars x.Res [] q.1 q.2)&&decide (Fu x.Data x.Vars x.Res [f]+Dq []<=6))=true
   have c:Dq []=0:=rfl
   rw [e,c,Ak (by omega)]
   simp [List.zipIdx,i]
  .simp only [List.mem_singleton] at b; subst b; exact h1.2.2
  .simp only [List.mem_singleton] at b; subst b; exact ⟨h1.2.1,h1.1⟩
open Classical in
theorem A2c {x:Ce} (hz:CSz x) (v:Int) (i:A9) (h1:I64 v/\iR i/\C4 i<=1048576) :
  ∃R S e,L5 x v i=some (R,e)/\L6 x v i=some (S,e)/\Ja R S=some true:=by
 obtain ⟨b,b1,b2⟩:=Agb x hz
 have hbad:∀e:Int,(L5 x v i=some ([],e))->(L6 x v i=some ([],e))->∃R S e,L5 x v i=some (R,e)/\L6 x v i=some (S,e)/\Ja R S=some true:=fun e h1 h2=>⟨[],[],e,h1,h2,Aou⟩
 cases b with
 | false=>
  have hnf:¬(Ig x/\∀p∈([]:List (List Aj)),I4 x.Data x.Vars x.Res p=true):=fun h=>by have:=b2.2 h.1; cases this
  have he:=Aot hz (ps:=[]) (fun p hp=>by cases hp) (by simp) hnf
  refine hbad 1 ?_ ?_
  .unfold L5
   rw [he]; rfl
  .unfold L6
   rw [b1]; rfl
 | true=>
  have hf:=b2.1 rfl
  have hctx:=hf.ctx hz
  obtain ⟨b',hb,hmm⟩:=Agz hz (ps:=[]) (fun p hp=>by cases hp) (by simp) ⟨hf,fun p hp=>by cases hp⟩
  have hv1:Mw v b' [] x.Data x.Vars x.Res.Kind x.Res.Num x.Res.Args=some (tyX x.Vars x.Res v).isSome:=by apply Af9
  cases ht:tyX x.Vars x.Res v with
  | none=>
   refine hbad 8 ?_ ?_
   .unfold L5
    rw [hb]
    simp only [Ad,Dm,cond_false,hv1,ht]
    rfl
   .unfold L6
    rw [b1]
    simp only [Ad,Dm,cond_false,Un,ht]
    rfl
  | some t=>
   have hsome:(tyX x.Vars x.Res v).isSome=true:=by rw [ht]; rfl
   obtain ⟨d',q1,q2⟩:=Xq (b2:=[]) hctx hmm ⟨v,i⟩ h1.1 h1.2.1 h1.2.2 hsome
   have q1:J1 v i b' [] x.Data x.Vars x.Res.Kind x.Res.Num x.Res.Args=some (D4 x.Data x.Vars x.Res ⟨v,i⟩,d'):=q1
   have hfd:D4 x.Data x.Vars x.Res ⟨v,i⟩=Gb (Gy x.Data i t):=by
    unfold D4
    rw [show (⟨v,i⟩:Bh).Var=v from rfl,ht]
   have hrd:P8 x.Data t i=some (D4 x.Data x.Vars x.Res ⟨v,i⟩):=by
    rw [Amo hctx.vd hctx.sh t i (hctx.sz v t ht) h1.2.2,hfd]
   by_cases h0:D4 x.Data x.Vars x.Res ⟨v,i⟩<0
   .refine hbad 6 ?_ ?_
    .unfold L5
     rw [hb]
     simp only [Ad,Dm,cond_false,hv1,ht,Option.isSome_some,q1,Ak h0,cond_true]
    .unfold L6
     rw [b1]
     simp only [Ad,Dm,cond_false,Un,ht,hrd,Ak h0,cond_true]
   .obtain ⟨w,c1,c2,e1,e2,e3,e4⟩:=A2a hz hf (f:=⟨v,i⟩) h1 hsome q2
    have hm:=A2b (x:=x) (f:=⟨v,i⟩) h1 (by omega)
    obtain ⟨u,v1,v2,v3,v4⟩:=Aoc (k0:=3000) (k:=3000) (P:=Hi x) (fun m h=>h.cmo) [w] [] (Col.nil _ _) (fun t ht=>by
     simp only [List.mem_singleton] at ht
     subst ht
     exact ⟨e4,by rw [e2]; exact hm⟩) (Nat.le_refl _) (by simp) (by simp)
    have hcv:∀a,cf u a=if (⟨Js x ⟨v,i⟩,[]⟩:A8)=a then (1:Rat) else 0:=fun a=>by
     rw [v4]
     simp only [cf,e2,e3]
     by_cases e:(⟨Js x ⟨v,i⟩,[]⟩:A8)=a
     .rw [if_pos e,if_pos (Hx.2 e)]; grind
     .rw [if_neg e,if_neg (fun h=>e (Hx.1 h))]; grind
    obtain ⟨R,s1,s2⟩:=A1p (x:=x) v2 (by simp) (by simp at v3; omega) (fun a=>by
     rw [hcv]
     split
     .exact ⟨1,rfl⟩
     .exact ⟨0,rfl⟩)
    have hR:R = [⟨cR 1,⟨Js x ⟨v,i⟩,[]⟩⟩]:=App s2.cp fun a=>by rw [s2.val,hcv]
    have hone:Hn 1=some (cR 1):=Rj 1 (by decide) (by decide)
    have hS:P9 x [⟨cR 1,⟨[],[]⟩⟩] v i=some R:=by
     rw [hR]
     by_cases hd:D4 x.Data x.Vars x.Res ⟨v,i⟩=0
     .unfold P9
      rw [Un,ht,Ad]
      dsimp only
      rw [hrd,Ad,Ea hd,cond_true]
      unfold Js
      rw [if_pos hd]
     .have hk:Js x ⟨v,i⟩ = []++[⟨v,i⟩]:=by unfold Js; rw [if_neg hd]; rfl
      rw [hk]
      exact A10 hz hf (by rw [<-hk]; exact hm.2) (by omega) (fun f h=>by cases h) (by simp)
    refine ⟨R,R,0,?_,?_,Aha (k:=3) (by rw [hR]; simp) (fun t ht=>by
     rw [hR] at ht
     simp only [List.mem_singleton] at ht
     subst ht
     exact ⟨hm.2,No⟩) (by decide)⟩
    .unfold L5 P6
     rw [hb]
     simp only [Ad,Dm,cond_false,hv1,ht,Option.isSome_some,q1,Ap h0,Uq,e1,bne_self_eq_false,S4]
     rw [show N7 [w] [] []=some (plc u,u) from v1,Ad,s1]; rfl
    .unfold L6
     rw [b1]
     simp only [Ad,Dm,cond_false,Un,ht,hrd,Ap h0,hone,Apt,hS]
theorem A2d (x:Ce) (r:Aq) (v:Int) (i:A9) (l:Ca) (k:Int) (f:CSz x) (y:RB 1048576 r) (hi:I64 v/\iR i/\C4 i<=1048576) (z:l.Terms.length<=1048576):Zk x r v i l k=some true:=by
 obtain ⟨a,a1,_⟩:=A0g x f [] (by simp) (fun p hp=>by cases hp)
 obtain ⟨b,b1⟩:=A0l r
 obtain ⟨c,A⟩:=Aoi i hi.2.2
 have hd:∃d,Sz l=some d:=⟨_,rfl⟩
 obtain ⟨d,d1⟩:=hd
 unfold Zk
 rw [a1,b1,A,d1]
 cases a with
 | false=>rfl
 | true=>
  cases b with
  | false=>rfl
  | true=>
   cases c with
   | false=>rfl
   | true=>
    cases d with
    | false=>rfl
    | true=>
     obtain ⟨R,S,e,u,s,q⟩:=A2c f v i hi
     obtain ⟨D,B,e',j,h,g⟩:=A17 f l k z
     obtain ⟨C,t1,t2,t3,t4⟩:=Aps r y (Nat.le_refl _)
     have t5:=Aha (by omega) t3 (by decide)
     simp only [Ad,Dm,cond_false,u,s,j,h,t1,t2,t5,cond_true,beq_self_eq_true,q,g,Az2]
end Go.Ab
