/- Plain laws: what the plain functions answer. -/
import Derived.Test.YtpedagkdpokpkaaGreatDoorWaPl4
namespace Go.Ab
open Go
theorem A21 {x:Bj} (g:CSz x) {m:Ba} (h:Ef x m):FOk x.Data x.Vars x.Res m.Factors:=by
 have c:∀f∈m.Factors,(tyX x.Vars x.Res f.Var).isSome=true:=fun f b=>by
  have h1:=h.f.fac f b
  unfold E8 at h1
  cases ht:tyX x.Vars x.Res f.Var with
  | none=>rw [ht] at h1; exact absurd (show (1:Int)<=-1 from h1) (by decide)
  | some t=>rfl
 refine ⟨h.f.asc,fun f b=>⟨⟨(h.2.fr f b).2,(h.2.fr f b).1,h.2.fi f b⟩,c f b,h.f.fac f b⟩,h.cmo.nf,fun f b=>?_⟩
 have h1:=c f b
 rw [Amz,decide_eq_true_eq] at h1
 have:=g.nv
 omega
theorem A22 {x:Bj} {m:Ba} (hm:Ef x m) {L:List A6} (h:Xs x.Vars x.Res L) (b:Dt x.Data x.Vars x.Res m.Factors+Ch L<=6):Ef x ⟨m.Factors,L⟩:=by
 have h0:=hm.f.fsum0
 obtain ⟨g1,g2⟩:=Ao5 h (by omega)
 have hc:=hm.1
 unfold H8 at hc g1
 rw [C9,C9] at hc g1
 refine ⟨?_,⟨hm.2.nf,g2.na,hm.2.fi,hm.2.fr,g2.al⟩⟩
 unfold H8
 rw [C9,C9]
 exact ⟨⟨hc.1.1,g1.1.2⟩,decide_eq_true b⟩
theorem IsE.goods {x:Bj} {A:List A6} {B:List Ds} (h:IsE A B) (g:∀a∈A,Cd a.Lin=true/\D3 x.Vars x.Res a.Lin=true):∀b∈B,Xs x.Vars x.Res b.1/\Ch b.1<=(Cb A:Nat):=by
 intro b hb
 obtain ⟨gs,j,c,i,f,rfl⟩:=h
 obtain ⟨h1,h2⟩:=Agw (vars:=x.Vars) (res:=x.Res) f (fun a ha=>g a (c.mem_iff.1 ha)) [([],1)] 0 (fun b hb=>by
  simp only [List.mem_singleton] at hb
  subst hb
  exact ⟨⟨List.Pairwise.nil,fun _ h=>by cases h⟩,by simp [Ch],fun _ h=>by cases h⟩) b hb
 rw [Nu c] at h2
 exact ⟨h1,by omega⟩
noncomputable def Aby (x:Bj) (t:Ah) (q:List Ah):(Int×List (ByteArray×Int)×List (ByteArray×List B4)×List (ByteArray×Int)×List Ah)->Option ((Int×List (ByteArray×Int)×List (ByteArray×List B4)×List (ByteArray×Int)×List Ah)⊕((List Ah×Int)⊕(Int×List (ByteArray×Int)×List (ByteArray×List B4)×List (ByteArray×Int)×List Ah))):=fun (c,j,i,h,g)=>
 bif (decide (c<(q.length:Int))) then (
 (Ag q c).bind fun f=>
 (Gi t.Coef f.Coef).bind fun v127=>
 (Mk t.Mono f.Mono).bind fun k=>
 (Ni v127 k j i x.Data x.Vars x.Res.Kind x.Res.Num x.Res.Args).bind fun b=>
 bif (b.2.1 != (0:Int)) then (
 some (.inr (.inl ([],b.2.1)))
 )
 else (
 (Hc b.1 h g).bind fun v130=>
 some (.inl ((Ac (c+1)),b.2.2.1,b.2.2.2,v130.1,v130.2))
 )
 )
 else (
 some (.inr (.inr (c,j,i,h,g)))
 )
theorem A23 {x:Bj} (hz:CSz x) (hf:Fj x) {m:Ba} (hm:Ef x m) {M:Ak} (h1:rq M=1) (R:RB 3 M) {f:Ba->Rat} {q:List Ah} (hq:IP x 17 13010 f q) (nq:∀u∈q,u.Mono.Factors = []) (hG:∀u∈q,Jp x m+Jp x u.Mono<=6) {b1:List (ByteArray×Int)} (X:Dq x.Data x.Vars x.Res b1) :
  ∃(A:List (ByteArray×Int)) (l:List (ByteArray×List B4)) (ts L:List Ah),Am (Aby x ⟨M,m⟩ q) (0,b1,[],[],[])=some (.inr ((q.length:Int),A,l,Dr ts,ts))/\Col 3000000 (Ef x) ts/\ts.length<=136/\L.length<=136/\(∀t∈L,∃z:Int,rq t.Coef=(z:Rat)/\Bd z.natAbs<=15480)/\∀a,cf ts a=cf L a:=by
 have G:=hf.ctx hz
 have a6:=hq.len
 obtain ⟨e,Z,A,l,ts,L,rfl,J⟩:=I2 (step:=Aby x ⟨M,m⟩ q)
  (fun s=>∃(j:Nat) (A:List (ByteArray×Int)) (l:List (ByteArray×List B4)) (ts L:List Ah),s=((j:Int),A,l,Dr ts,ts)/\j<=q.length/\Dq x.Data x.Vars x.Res A/\Pb l/\Col (15475+j*8*15500) (Ef x) ts/\ts.length<=8*j/\L.length<=8*j/\(∀t∈L,∃z:Int,rq t.Coef=(z:Rat)/\Bd z.natAbs<=15480)/\∀a,cf ts a=cf L a)
  (fun s=>q.length-s.1.toNat)
  (fun e=>∃(A:List (ByteArray×Int)) (l:List (ByteArray×List B4)) (ts L:List Ah),e = .inr ((q.length:Int),A,l,Dr ts,ts)/\Col 3000000 (Ef x) ts/\ts.length<=136/\L.length<=136/\(∀t∈L,∃z:Int,rq t.Coef=(z:Rat)/\Bd z.natAbs<=15480)/\∀a,cf ts a=cf L a)
  (by
   rintro _ ⟨j,A,l,ts,L,rfl,hj,k1,k2,I,k4,k5,k6,k7⟩
   unfold Aby
   dsimp only
   rcases Nat.lt_or_ge j q.length with h | h
   .left
    have hx:q[j]? = some q[j]:=B7 h
    generalize q[j]=u at hx
    have g:=Ct hx
    have hu:=hq.mo u g
    obtain ⟨z,z1,z2⟩:=hq.int u g
    have N:=Xu (hq.cp.coe u g).1 z1 z2
    obtain ⟨c,m1,m2,m3,m4⟩:=Ri R N (by decide) (by decide)
    have V:rq c≠0:=by
     rw [m4,h1]
     have:=(hq.cp.coe u g).2
     grind
    have E:=hG u g
    have am:=hm.f.as
    have au:=hu.f.as
    have f0:=hm.f.fsum0
    have f1:=hu.f.fsum0
    have a8:Cb (m.Atoms++u.Mono.Atoms)=Cb m.Atoms+Cb u.Mono.Atoms:=L1 _ _
    unfold Jp at E
    have a1:Cb (m.Atoms++u.Mono.Atoms)<=6:=by omega
    have k:∀a∈m.Atoms++u.Mono.Atoms,1<=a.Deg/\Cd a.Lin=true/\a.Lin.Terms.length≠0/\D3 x.Vars x.Res a.Lin=true:=fun a ha=>by
     rcases List.mem_append.1 ha with h | h
     .exact hm.f.atm a h
     .exact hu.f.atm a h
    have hA:Atk (m.Atoms++u.Mono.Atoms):=⟨fun a ha=>by have:=(k a ha).1; omega,fun a ha=>(k a ha).2.1,by omega,by rw [List.length_append]; omega⟩
    have U:Mk m u.Mono=some ⟨m.Factors,m.Atoms++u.Mono.Atoms⟩:=by
     have n1:=hm.cmo.nf
     rw [Abo _ _ (by rw [nq u g]; simp; omega) (by omega),nq u g,List.append_nil]
    obtain ⟨out,B,d1,d2,Z,J,Y,e4,e5,e6,_⟩:=A1p G m2 (by decide) V (A21 hz hm) hA k1 k2
    have a7:out.length<=8:=by
     rw [Y.len]
     exact Nat.le_trans (J.cnt hm.f.srt hu.f.srt) (Nat.le_trans (Nat.pow_le_pow_right (by decide) (by omega:_<=3)) (by decide))
    have D:=J.goods (x:=x) fun a ha=>⟨(k a ha).2.1,(k a ha).2.2.2⟩
    have S:∀w∈out,RB 15470 w.Coef/\Ef x w.Mono:=fun w hw=>by
     obtain ⟨i,hi⟩:=List.getElem?_of_mem hw
     obtain ⟨b,b1,b2,b3,b4⟩:=Y.get hi
     obtain ⟨g1,g2⟩:=D b (Ct b1)
     refine ⟨b4.mono (by decide),?_⟩
     rw [b2]
     exact A22 hm g1 (by omega)
    obtain ⟨v,v1,v2,v3,v4⟩:=Pa (P:=Ef x) (fun m h=>h.cmo) out ts I S (by omega) (by omega) (by omega)
    refine ⟨(((j+1:Nat):Int),d1,d2,Dr v,v),?_,⟨j+1,d1,d2,v,L++out,rfl,by omega,e5,e6,⟨v2.dst,fun t ht=>(v2.tb t ht).mono (by omega),v2.mo⟩,by omega,by rw [List.length_append]; omega,fun t ht=>?_,fun a=>?_⟩,by simp; omega⟩
    .rw [Al (by omega),cond_true,Cj rfl hx,Ad,m1,Ad,U,Ad,Z,Ad]
     dsimp only
     rw [Fc rfl,cond_false,v1,Ad,Db h (by omega)]
    .rcases List.mem_append.1 ht with ht | ht
     .exact k6 t ht
     .obtain ⟨y,y1,y2⟩:=Y.listI (z:=z) (by rw [m4,h1,z1]; grind) t ht
      exact ⟨y,y1,by omega⟩
    .rw [v4,k7,Rl]
   .right
    have:j=q.length:=by omega
    subst this
    exact ⟨_,by rw [Aq (by omega),cond_false],A,l,ts,L,rfl,⟨I.dst,fun t ht=>(I.tb t ht).mono (by omega),I.mo⟩,by omega,by omega,k6,k7⟩)
  (0,b1,[],[],[]) ⟨0,b1,[],[],[],rfl,by omega,X,fun p hp=>(by cases hp),Col.nil _ _,by simp,by simp,fun t ht=>(by cases ht),fun a=>rfl⟩
 exact ⟨A,l,ts,L,Z,J⟩
theorem A24 {x:Bj} {m:Ba} (hm:Ef x m) {b:Ak} (hc:Hh b) (h1:rq b=1) (c:RB 3 b):F3 x [⟨b,m⟩] :=
 F3.of ⟨List.pairwise_singleton _ _,fun t ht=>by simp only [List.mem_singleton] at ht; subst ht; exact ⟨hc,by show rq b≠0; rw [h1]; decide⟩⟩
  (fun t ht=>by simp only [List.mem_singleton] at ht; subst ht; exact hm) (fun t ht=>by simp only [List.mem_singleton] at ht; subst ht; exact c.mono (by decide)) (by simp)
theorem A25 {x:Bj} (J:CSz x) (N:Fj x) {m:Ba} (hm:Ef x m) {b:Ak} (hc:Hh b) (h1:rq b=1) (y:RB 3 b) {f:Ba->Rat} {q:List Ah} (hq:IP x 17 13010 f q) (nq:∀u∈q,u.Mono.Factors = []) :
  ∃R e,Me x [⟨b,m⟩] q=some (R,e)/\(e=0->IP x 136 16000 (cf R) R):=by
 have k:=N.ctx J
 have a1:=hq.len
 have hp:=A24 hm hc h1 y
 have B:=hq.can (by decide) (by decide)
 obtain ⟨b',hb,D⟩:=Agi J (ps:=[[⟨b,m⟩],q]) (fun r A=>by
  simp only [List.mem_cons,List.not_mem_nil,or_false] at A
  rcases A with rfl | rfl
  .exact hp.sz
  .exact B.sz) (by simp) ⟨N,fun r A=>by
  simp only [List.mem_cons,List.not_mem_nil,or_false] at A
  rcases A with rfl | rfl
  .exact hp.can
  .exact B.can⟩
 have Z:Ac (0+1)=1:=by rw [Ac,Bx] <;> omega
 have it:Ag [(⟨b,m⟩:Ah)] 0=some ⟨b,m⟩:=rfl
 unfold Me
 rw [hb]
 simp only [Ad,D6,cond_false,Hz]
 rw [Al (by simp),cond_true]
 have fin:∀c:List (ByteArray×Int),Dq x.Data x.Vars x.Res c->(∀u∈q,Jp x m+Jp x u.Mono<=6)->∃j i ts R,Am (Aby x ⟨b,m⟩ q) (0,c,[],[],[])=some (.inr ((q.length:Int),j,i,Dr ts,ts))/\Ie (Dr ts) ts=some (R,0)/\IP x 136 16000 (cf R) R:=by
  intro c S E
  obtain ⟨j,i,ts,L,s,l2,l3,l4,l5,l6⟩:=A23 J N hm h1 y hq nq E S
  have hint:∀a,∃z:Int,cf ts a=(z:Rat)/\Bd z.natAbs<=16000:=fun a=>by
   obtain ⟨z,I,z2⟩:=Agy a L l5
   exact ⟨z,by rw [l6]; exact I,by omega⟩
  obtain ⟨R,l,g⟩:=Agz (x:=x) l2 (by decide) (by omega) fun a=>⟨(hint a).choose,(hint a).choose_spec.1⟩
  refine ⟨j,i,ts,R,s,l,g.cp,fun _=>rfl,g.mo,by have:=g.len; omega,fun w hw=>?_⟩
  obtain ⟨z,I,z2⟩:=hint w.Mono
  exact ⟨z,by rw [<-Lz g.cp hw,g.val,I],z2⟩
 by_cases M:q.length=0
 .have:q = []:=List.length_eq_zero_iff.1 M
  subst this
  obtain ⟨j,i,ts,R,s,l,g⟩:=fin b' D fun u hu=>by cases hu
  refine ⟨R,0,?_,fun _=>g⟩
  rw [Aq (by simp),cond_false]
  simp only [Ad,cond_false]
  refine bnd (a:=.inr (j,i,Dr ts,ts)) ?_ (by simp only [l,Ad])
  refine (Ha (s':=(1,j,i,Dr ts,ts)) ?_).trans (D0 ?_)
  .simp only [it,Ad]
   rw [Al (by simp),cond_true]
   exact bnd s (by simp only [Z])
  .rfl
 .obtain ⟨G,c,g1,g2,g3,g4,g5⟩:=Ap1 [] k D [⟨b,m⟩] (by simp) (fun u hu=>by simp only [List.mem_singleton] at hu; subst hu; exact hm)
  obtain ⟨Y,c',X,V,a7,a6,U⟩:=Ap1 [] k g2 q (by omega) hq.mo
  have wG:Ac (G+Y)=G+Y:=by rw [Ac,Bx] <;> omega
  rw [Al (by omega),cond_true,g1,Ad]
  dsimp only
  rw [X,Ad]
  dsimp only
  rw [wG,Ad]
  by_cases E:G+Y>6
  .rw [Al E]
   exact ⟨[],13,rfl,fun h=>absurd h (by decide)⟩
  .rw [Aq E]
   simp only [cond_false,Ad]
   obtain ⟨j,i,ts,R,s,l,g⟩:=fin c' V fun u hu=>by
    have h1:=g5 ⟨b,m⟩ (by simp)
    have h2:=U u hu
    have h1:Jp x m<=G:=h1
    omega
   refine ⟨R,0,?_,fun _=>g⟩
   refine bnd (a:=.inr (j,i,Dr ts,ts)) ?_ (by simp only [l,Ad])
   refine (Ha (s':=(1,j,i,Dr ts,ts)) ?_).trans (D0 ?_)
   .simp only [it,Ad]
    rw [Al (by simp),cond_true]
    exact bnd s (by simp only [Z])
   .rfl
end Go.Ab
namespace Go.Ab
open Go
structure PX (x:Bj) (n k:Nat) (R:List Ah):Prop where
 cp:CP R
 mo:∀t∈R,Ef x t.Mono
 rb:∀t∈R,RB k t.Coef
 len:R.length<=n
theorem PX.can {x:Bj} {n k:Nat} {R:List Ah} (h:PX x n k R) (b:n<=1000) (hk:k<=1048576):F3 x R :=
 F3.of h.cp h.mo (fun t ht=>(h.rb t ht).mono hk) (Nat.le_trans h.len b)
theorem PX.up {x:Bj} {n b k c:Nat} {R:List Ah} (h:PX x n k R) (f:n<=b) (hk:k<=c):PX x b c R:=⟨h.cp,h.mo,fun t ht=>(h.rb t ht).mono hk,Nat.le_trans h.len f⟩
theorem IP.px {x:Bj} {n L:Nat} {f:Ba->Rat} {R:List Ah} (h:IP x n L f R):PX x n (L+1) R:=⟨h.cp,h.mo,fun t ht=>by
 obtain ⟨z,b,z2⟩:=h.int t ht
 exact Xu (h.cp.coe t ht).1 b z2,h.len⟩
theorem Xx {p:List Ah} {k:Nat} (hc:CP p) (h:∀t∈p,RB k t.Coef) (hk:3<=k) (m:Ba):∃a,RB k a/\rq a=cf p m:=by
 by_cases hm:∃t∈p,Da t.Mono m=0
 .obtain ⟨t,ht,e⟩:=hm
  exact ⟨t.Coef,h t ht,by rw [<-Lz hc ht,Jl.1 e]⟩
 .obtain ⟨y,g,c,f,b⟩:=Agl 0 (by omega) (by omega)
  exact ⟨y,c.mono hk,by rw [b,Aa7 fun t ht e=>hm ⟨t,ht,e⟩]; rfl⟩
theorem Ap2 {x:Bj} (h:CSz x) (u:Fj x) {n m k l:Nat} {p q:List Ah} (hp:PX x n k p) (hq:PX x m l q) (D:n+m<=1000) (h3:3<=k) (y:3<=l) (hk:k<=1048576) (s:l<=1048576) :
  ∃R,Kn x p q=some (R,0)/\PX x (n+m) (k+l+3) R/\∀a,cf R a=cf p a-cf q a:=by
 have j:=hp.len
 have i:=hq.len
 obtain ⟨R,g,f⟩:=Aoj h u (hp.can (by omega) hk) (hq.can (by omega) s) (by omega)
 refine ⟨R,g,⟨f.cp,fun t ht=>(f.tb t ht).1,fun t ht=>?_,by have:=f.len; omega⟩,f.val⟩
 obtain ⟨a,a1,a2⟩:=Xx hp.cp hp.rb h3 t.Mono
 obtain ⟨b,b1,b2⟩:=Xx hq.cp hq.rb y t.Mono
 obtain ⟨c,E,B,A,z⟩:=Aok a1 b1 (by omega) (by omega)
 have e:t.Coef=c:=W9 (f.cp.coe t ht).1 A (by rw [<-Lz f.cp ht,f.val,z,a2,b2])
 rw [e]; exact B
theorem Ap3 {x:Bj} (h:CSz x) (u:Fj x) {n m k l:Nat} {p q:List Ah} (hp:PX x n k p) (hq:PX x m l q) (D:n+m<=1000) (h3:3<=k) (y:3<=l) (hk:k<=1048576) (s:l<=1048576) :
  ∃R,Pz x p q=some (R,0)/\PX x (n+m) (k+l+3) R/\∀a,cf R a=cf p a+cf q a:=by
 have j:=hp.len
 have i:=hq.len
 obtain ⟨R,g,f⟩:=A0j h u (hp.can (by omega) hk) (hq.can (by omega) s) (by omega)
 refine ⟨R,g,⟨f.cp,fun t ht=>(f.tb t ht).1,fun t ht=>?_,by have:=f.len; omega⟩,f.val⟩
 obtain ⟨a,a1,a2⟩:=Xx hp.cp hp.rb h3 t.Mono
 obtain ⟨b,b1,b2⟩:=Xx hq.cp hq.rb y t.Mono
 obtain ⟨c,E,_,B,A,z⟩:=Anc a1 b1 (by omega) (by omega)
 have e:t.Coef=c:=W9 (f.cp.coe t ht).1 A (by rw [<-Lz f.cp ht,f.val,z,a2,b2])
 rw [e]; exact B
theorem A26 {x:Bj} (h:CSz x) (l:Fj x) {n k j:Nat} {p:List Ah} {r:Ak} (hp:PX x n k p) (f:RB j r) (y:n<=1000) (h3:3<=k) (hk:k<=1048576) (hj:j<=1048576) :
  ∃R,P4 x p r=some (R,0)/\PX x n (j+k+2) R/\∀a,cf R a=rq r*cf p a:=by
 have i:=hp.len
 obtain ⟨R,g,b⟩:=A0k h l (hp.can (by omega) hk) (f.mono hj) (by omega)
 refine ⟨R,g,⟨b.cp,fun t ht=>(b.tb t ht).1,fun t ht=>?_,by have:=b.len; omega⟩,b.val⟩
 obtain ⟨a,a1,a2⟩:=Xx hp.cp hp.rb h3 t.Mono
 obtain ⟨c,z,u,s,q⟩:=Ri f a1 (by omega) (by omega)
 have e:t.Coef=c:=W9 (b.cp.coe t ht).1 s (by rw [<-Lz b.cp ht,b.val,q,a2])
 rw [e]; exact u
theorem Xy {m:Ba} (hm:m.Factors≠[]):∀B:List Ds,ec B m=0
 | []=>rfl
 | b::B=>by
  have h:Da ⟨[],b.1⟩ m≠0:=fun h=>hm (by rw [<-Jl.1 h])
  simp only [ec,if_neg h,Xy hm B]
theorem A27 {m:Ba} (hm:m.Factors≠[]) (p q:List Ah):Rt p q m=0:=by
 cases p with
 | nil=>rfl
 | cons t p=>
  cases q with
  | nil=>rfl
  | cons u q=>
   simp only [Rt,Xy hm]
   show _*(((0:Nat):Rat))=0
   rw [show (((0:Nat):Rat))=0 from rfl]; grind
theorem Ap4 {f:Nat->Rat} (h:∀j,f j=0):∀n,sq n f=0
 | 0=>rfl
 | n+1=>by simp only [sq,Ap4 h n,h]; grind
theorem IP.noF {x:Bj} {n L:Nat} {f:Ba->Rat} {R:List Ah} (h:IP x n L f R) (b:∀m:Ba,m.Factors≠[]->f m=0):∀u∈R,u.Mono.Factors = []:=fun u hu=>by
 rcases Classical.em (u.Mono.Factors = []) with e | e
 .exact e
 .exact absurd (b _ e) (by rw [<-h.val,Lz h.cp hu]; exact (h.cp.coe u hu).2)
theorem A28 {x:Bj} (b:CSz x) (a:Gj) (z:a.E.Terms.length<=6) (y:a.F.Terms.length<=6) :
  ∃R e,P0 x a=some (R,e)/\(e=0->Fj x/\IP x 17 13010 (cf R) R/\∀u∈R,u.Mono.Factors = []):=by
 obtain ⟨k,E,F,K⟩:=a
 have z:E.Terms.length<=6:=z
 have y:F.Terms.length<=6:=y
 by_cases D:k=1
 .subst D
  obtain ⟨R,v,f,i,_,_,_,L⟩:=A2f b E F K z y
  refine ⟨R,_,i,fun h=>?_⟩
  obtain ⟨c,_,_,_,_,_,_,s,_,h2⟩:=L h
  refine ⟨c,h2.up (Nat.le_refl _) (Nat.le_refl _) fun m=>(h2.val m).symm,h2.noF fun m hm=>?_⟩
  unfold shF
  rw [Xy hm,Ap4 fun j=>A27 hm _ _,show ((0:Nat):Rat)=0 from rfl]
  grind
 .obtain ⟨v,G,v2⟩:=Ag0 ⟨k,E,F,K⟩ (by show E.Terms.length+F.Terms.length<=12; omega)
  obtain ⟨f,f1,f2⟩:=Rh x b [] (fun t ht=>by cases ht)
  have Y:=b.nv
  have J:=Abu x E (by omega) (by omega)
  have I:=Abu x F (by omega) (by omega)
  unfold P0
  rw [G,f1,J,I]
  cases v with
  | false=>exact ⟨[],1,rfl,fun h=>absurd h (by decide)⟩
  | true=>
   cases f with
   | false=>exact ⟨[],1,rfl,fun h=>absurd h (by decide)⟩
   | true=>
    cases Z:D3 x.Vars x.Res E with
    | false=>exact ⟨[],6,rfl,fun h=>absurd h (by decide)⟩
    | true=>
     cases hj:D3 x.Vars x.Res F with
     | false=>exact ⟨[],6,rfl,fun h=>absurd h (by decide)⟩
     | true=>
      obtain ⟨X,V,k0,A,hk⟩:=v2.1 rfl
      rcases hk with ⟨h,_⟩ | ⟨q,_⟩
      .exact (D h).elim
      .have q:k=2:=q
       subst q
       have c:=(f2.1 rfl).1
       obtain ⟨P,B,U,p2,S,_⟩:=Ag1 b c (l:=E) (k:=K) X k0 A Z
       obtain ⟨Q,C,N,q2,M,_⟩:=Ag1 b c (l:=F) (k:=K) V k0 A hj
       obtain ⟨R,i,g⟩:=Apa b c S M (by decide) (by decide)
       refine ⟨R,0,?_,fun _=>⟨c,g.up (by decide) (by decide) fun m=>(g.val m).symm,g.noF fun m hm=>?_⟩⟩
       .simp only [D6,Ad,cond_false,beq_self_eq_true,cond_true]
        unfold Zf
        simp only [U,N,i,Ad,bne_self_eq_false,cond_false]
       .rw [Xy hm,Xy hm,show ((0:Nat):Rat)=0 from rfl]; grind
end Go.Ab
namespace Go.Ab
open Go
def K4 (fs:List Ar) (g:Ar) (ps:List Ak):Prop:=fs.all Cd=true/\Cd g=true/\Jo fs ps=true/\Ug fs g ps
theorem K4.len {fs:List Ar} {g:Ar} {ps:List Ak} (h:K4 fs g ps):fs.length=ps.length:=by
 have:=h.2.2.1
 unfold Jo at this
 rw [C9,decide_eq_true_eq] at this
 exact this.1
open Classical in
theorem Xz {fs:List Ar} {g:Ar} {ps:List Ak}:(fs.all Cd&&(Cd g&&(Jo fs ps&&decide (Ug fs g ps))))=true↔K4 fs g ps:=by
 unfold K4
 simp only [C9,decide_eq_true_eq]
def Nv (fs:List Ar) (l:List Ar) (p q:List Ak):Prop :=
 match l with
 | [g]=>K4 fs g p/\q = []
 | [g,b]=>K4 fs g p/\K4 fs b q
 | _=>False
end Go.Ab
namespace Go.Ab
open Go
theorem A29:∀(k:Nat) (i:Bs) (a:Int),Dm i<=k->k<1099511627776->∃r,Md k i a=some r/\True:=by
 intro k
 induction k with
 | zero=>intro i a h; have:=Hg i; omega
 | succ k ih=>
  intro i a h hk
  have f:=Hg i
  have g:=Tz i.Kids
  rw [Md]
  refine Fb (fun (_,v)=>∃j:Nat,v=j/\j<=i.Kids.length) (fun (_,v)=>i.Kids.length-v.toNat) (fun _=>True) ⟨0,rfl,by omega⟩ ?_ ?_
  .rintro ⟨b,v⟩ ⟨j,rfl,hj⟩
   rcases Nat.lt_or_ge j i.Kids.length with h' | h'
   .have hx:i.Kids[j]? = some i.Kids[j]:=B7 h'
    generalize i.Kids[j]=x at hx
    have hm:=Ra (Ct hx)
    obtain ⟨y,c,_⟩:=ih x (Ac (a-b)) (by omega) (by omega)
    simp only [Al (by omega:(j:Int)<(i.Kids.length:Int)),cond_true,Cj rfl hx,Ad,c,Db h' (by omega)]
    cases decide (b>a) with
    | true=>exact .inr ⟨_,rfl,trivial⟩
    | false=>exact .inl ⟨_,rfl,⟨j+1,rfl,by omega⟩,by simp only [Int.toNat_natCast]; omega⟩
   .have:j=i.Kids.length:=by omega
    subst this
    exact .inr ⟨.inr b,by simp,trivial⟩
  .rintro (e | e) _
   .exact ⟨_,rfl,trivial⟩
   .exact ⟨_,rfl,trivial⟩
theorem Ap5 (m:Ba) (h:MSz m):∃b,Kl m=some b:=by
 have q:=h.nf
 have l:=h.na
 unfold Kl
 have g0:∃b,(bif (decide ((m.Factors.length:Int)>(4:Int))) then (some true) else (some (decide ((m.Atoms.length:Int)>(4:Int)))):Option Bool)=some b:=by
  cases decide ((m.Factors.length:Int)>(4:Int)) <;> exact ⟨_,rfl⟩
 obtain ⟨k,g⟩:=g0
 erw [g]
 cases k with
 | true=>exact ⟨_,rfl⟩
 | false=>
  simp only [Ad,cond_false]
  let sz:Bz->Int:=fun f=>(Md 4000000 f.Index 13).getD 0
  have c:∀f∈m.Factors,Md 4000000 f.Index 13=some (sz f):=fun f i=>by
   obtain ⟨r,h1,_⟩:=A29 4000000 f.Index 13 (by have:=h.fi f i; omega) (by decide)
   show _=some ((Md 4000000 f.Index 13).getD 0)
   rw [h1]; rfl
  clear_value sz
  refine ⟨_,Ig m.Factors (fun f=>!decide (sz f>12)) (fun j=>(j:Int)) rfl (by omega) (rt:=m.Atoms.all fun a=>!decide ((a.Lin.Terms.length:Int)>4)) (rf:=false) ?_ ?_⟩
  .intro j x hx h1 h2 h3
   simp only [h1,h2,h3,cond_true,Ad,c x (Ct hx)]
   cases decide (sz x>12) with
   | true=>exact ⟨(fun h=>by cases h),fun _=>⟨_,rfl,rfl⟩⟩
   | false=>exact ⟨(fun _=>rfl),fun h=>by cases h⟩
  .intro h1
   refine ⟨.inr (),by simp only [h1]; rfl,?_⟩
   dsimp only
   refine (Ig m.Atoms (fun a=>!decide ((a.Lin.Terms.length:Int)>4)) (fun j=>(j:Int)) rfl (by omega) (rt:=true) (rf:=false) ?_ ?_).trans (by rw [Kv])
   .intro j x hx h1 h2 h3
    simp only [h1,h2,h3,cond_true,Ad]
    cases decide ((x.Lin.Terms.length:Int)>4) with
    | true=>exact ⟨(fun h=>by cases h),fun _=>⟨_,rfl,rfl⟩⟩
    | false=>exact ⟨(fun _=>rfl),fun h=>by cases h⟩
   .intro h1
    exact ⟨.inr (),by simp only [h1]; rfl,rfl⟩
theorem Ap6 (a:Ak):M5 a=some (decide (a.Num.length<=2)&&decide (a.Den.length<=2)):=by
 unfold M5
 by_cases h1:a.Num.length<=2
 .rw [Al (by omega),cond_true,Al h1]
  by_cases h2:a.Den.length<=2
  .rw [Al (by omega),Al h2]; rfl
  .rw [Aq (by omega),Aq h2]; rfl
 .rw [Aq (by omega),Aq h1]; rfl
theorem RB.of2 {a:Ak} {k:Nat} (h:RB k a) (hk:(decide (a.Num.length<=2)&&decide (a.Den.length<=2))=true):RB 3 a:=by
 rw [C9,decide_eq_true_eq,decide_eq_true_eq] at hk
 exact ⟨h.num,h.den,by omega,by omega⟩
theorem Ap7 (p:List Ah) (n:Int) (g:p.length<=1048576) (hp:∀t∈p,TSz t):∃b,Sn p n=some b/\(b=true->(p.length:Int)<=n/\∀t∈p,RB 3 t.Coef):=by
 unfold Sn
 by_cases h:(p.length:Int)>n
 .rw [Al h]
  exact ⟨false,rfl,fun h=>by cases h⟩
 .rw [Aq h,cond_false]
  let c:Ah->Bool:=fun t=>(Kl t.Mono).getD false
  have f:∀t∈p,Kl t.Mono=some (c t):=fun t ht=>by
   obtain ⟨b,hb⟩:=Ap5 t.Mono (hp t ht).mo
   show _=some ((Kl t.Mono).getD false)
   rw [hb]; rfl
  clear_value c
  refine ⟨p.all fun t=>(decide (t.Coef.Num.length<=2)&&decide (t.Coef.Den.length<=2))&&c t,(Ig p (fun t=>(decide (t.Coef.Num.length<=2)&&decide (t.Coef.Den.length<=2))&&c t) (fun j=>(j:Int)) rfl (by omega) (rt:=true) (rf:=false) ?_ ?_).trans (by rw [Kv]),fun h'=>⟨by omega,fun t ht=>?_⟩⟩
  .intro j x hx h1 h2 h3
   simp only [h1,h2,h3,cond_true,Ad,Ap6,f x (Ct hx)]
   cases (decide (x.Coef.Num.length<=2)&&decide (x.Coef.Den.length<=2)) with
   | false=>exact ⟨(fun h=>by cases h),fun _=>⟨_,rfl,rfl⟩⟩
   | true=>
    cases c x with
    | false=>exact ⟨(fun h=>by cases h),fun _=>⟨_,rfl,rfl⟩⟩
    | true=>exact ⟨(fun _=>rfl),fun h=>by cases h⟩
  .intro h1
   exact ⟨.inr (),by simp only [h1]; rfl,rfl⟩
  .have:=List.all_eq_true.1 h' t ht
   rw [C9] at this
   exact (hp t ht).co.of2 this.1
structure USz (u:D2):Prop where
 ef:u.Axiom.E.Terms.length<=1048576/\u.Axiom.F.Terms.length<=1048576
 co:RB 1048576 u.Coef
 pa:MSz u.Passive
 fi:u.First.length<=1048576/\∀r∈u.First,RB 1048576 r
 se:u.Second.length<=1048576/\∀r∈u.Second,RB 1048576 r
structure USm (u:D2):Prop where
 sz:USz u
 e4:u.Axiom.E.Terms.length<=4
 f4:u.Axiom.F.Terms.length<=4
 co:RB 3 u.Coef
theorem Ap8 (l:List D2) (n:Int) (y:l.length<=1048576) (hp:∀u∈l,USz u):∃b,Sl l n=some b/\(b=true->(l.length:Int)<=n/\∀u∈l,USm u):=by
 unfold Sl
 by_cases h:(l.length:Int)>n
 .rw [Al h]
  exact ⟨false,rfl,fun h=>by cases h⟩
 .rw [Aq h,cond_false]
  let c:D2->Bool:=fun t=>(Kl t.Passive).getD false
  have i:∀t∈l,Kl t.Passive=some (c t):=fun t ht=>by
   obtain ⟨b,hb⟩:=Ap5 t.Passive (hp t ht).pa
   show _=some ((Kl t.Passive).getD false)
   rw [hb]; rfl
  let g:D2->Bool:=fun t=>(Kk t.First 12).getD false
  have q:∀t∈l,Kk t.First 12=some (g t):=fun t ht=>by
   obtain ⟨b,hb⟩:=Apz t.First 12 (hp t ht).fi.1
   show _=some ((Kk t.First 12).getD false)
   rw [hb]; rfl
  let f:D2->Bool:=fun t=>(Kk t.Second 12).getD false
  have k:∀t∈l,Kk t.Second 12=some (f t):=fun t ht=>by
   obtain ⟨b,hb⟩:=Apz t.Second 12 (hp t ht).se.1
   show _=some ((Kk t.Second 12).getD false)
   rw [hb]; rfl
  clear_value c g f
  let P:D2->Bool:=fun u=>!decide ((u.Axiom.E.Terms.length:Int)>4)&&(!decide ((u.Axiom.F.Terms.length:Int)>4)&&((decide (u.Coef.Num.length<=2)&&decide (u.Coef.Den.length<=2))&&(c u&&(g u&&f u))))
  have s:P=fun u=>!decide ((u.Axiom.E.Terms.length:Int)>4)&&(!decide ((u.Axiom.F.Terms.length:Int)>4)&&((decide (u.Coef.Num.length<=2)&&decide (u.Coef.Den.length<=2))&&(c u&&(g u&&f u)))):=rfl
  refine ⟨l.all P,(Ig l P (fun j=>(j:Int)) rfl (by omega) (rt:=true) (rf:=false) ?_ ?_).trans (by rw [Kv]),fun h'=>⟨by omega,fun u hu=>?_⟩⟩
  .intro j x hx h1 h2 h3
   have hm:=Ct hx
   simp only [s,h1,h2,h3,cond_true,Ad,Ap6,i x hm,q x hm,k x hm]
   cases decide ((x.Axiom.E.Terms.length:Int)>4) with
   | true=>exact ⟨(fun h=>by cases h),fun _=>⟨_,rfl,rfl⟩⟩
   | false=>
    cases decide ((x.Axiom.F.Terms.length:Int)>4) with
    | true=>exact ⟨(fun h=>by cases h),fun _=>⟨_,rfl,rfl⟩⟩
    | false=>
     cases (decide (x.Coef.Num.length<=2)&&decide (x.Coef.Den.length<=2)) with
     | false=>exact ⟨(fun h=>by cases h),fun _=>⟨_,rfl,rfl⟩⟩
     | true=>
      cases c x with
      | false=>exact ⟨(fun h=>by cases h),fun _=>⟨_,rfl,rfl⟩⟩
      | true=>
       cases g x with
       | false=>exact ⟨(fun h=>by cases h),fun _=>⟨_,rfl,rfl⟩⟩
       | true=>
        cases f x with
        | false=>exact ⟨(fun h=>by cases h),fun _=>⟨_,rfl,rfl⟩⟩
        | true=>exact ⟨(fun _=>rfl),fun h=>by cases h⟩
  .intro h1
   exact ⟨.inr (),by simp only [h1]; rfl,rfl⟩
  .have:=List.all_eq_true.1 h' u hu
   simp only [s,C9,Bool.not_eq_true',decide_eq_false_iff_not] at this
   obtain ⟨a1,a2,a3,_⟩:=this
   exact ⟨hp u hu,by omega,by omega,(hp u hu).co.of2 (by rw [C9]; exact a3)⟩
end Go.Ab
namespace Go.Ab
open Go
noncomputable def Ru (a:Gj):List Ar:=(N9 a).getD []
theorem A3a (a:Gj) (f:a.E.Terms.length+a.F.Terms.length<=12):N9 a=some (Ru a)/\(∀g,Ru a = [g]->a.Kind≠1)/\(∀g c,Ru a = [g,c]->a.Kind=1):=by
 obtain ⟨b,hb,_⟩:=Ag0 a f
 obtain ⟨r,i⟩:=Ape a.E a.F f
 have key:∃l,N9 a=some l/\(∀g,l = [g]->a.Kind≠1)/\(∀g c,l = [g,c]->a.Kind=1):=by
  unfold N9
  rw [Ap0 a.E (by omega),Ap0 a.F (by omega),hb,i]
  cases b with
  | false=>exact ⟨[],rfl,fun _ h=>(by cases h),fun _ _ h=>(by cases h)⟩
  | true=>
   simp only [Ad,D6,cond_false]
   by_cases hk:a.Kind=1
   .rw [Es hk]
    exact ⟨_,rfl,fun _ h=>(by cases h),fun _ _ _=>hk⟩
   .rw [Cv hk]
    exact ⟨_,rfl,fun _ _=>hk,fun _ _ h=>(by cases h)⟩
 obtain ⟨l,h1,h2⟩:=key
 have e:Ru a=l:=by unfold Ru; rw [h1]; rfl
 rw [e]
 exact ⟨h1,h2⟩
def Rv (fs:List Ar) (u:D2):Prop:=Nv fs (Ru u.Axiom) u.First u.Second
open Classical in
theorem A3b (fs:List Ar) (u:D2) (hn:fs.length<=5) (h4:∀f∈fs,f.Terms.length<=4) (hu:USm u):Oa fs u=some (decide (Rv fs u)):=by
 have he:=hu.e4
 have hf:=hu.f4
 obtain ⟨l1,_,_⟩:=A3a u.Axiom (by omega)
 have hp:=hu.sz.fi
 have hq:=hu.sz.se
 unfold Oa U4 Rv
 rw [l1,Ad]
 generalize Ru u.Axiom=l
 match l with
 | []=>rw [decide_eq_false (fun h:Nv fs [] u.First u.Second=>h)]; rfl
 | [g]=>
  have i0:Ag [g] 0=some g:=rfl
  rw [Es (by simp),cond_true,i0,Ad,Abx fs g u.First hn h4 hp.1 hp.2,Ad]
  by_cases hc:K4 fs g u.First
  .rw [Xz.2 hc,cond_true]
   by_cases h0:u.Second = []
   .rw [decide_eq_true (show Nv fs [g] u.First u.Second from ⟨hc,h0⟩),h0]; rfl
   .rw [decide_eq_false (fun h:Nv fs [g] u.First u.Second=>h0 h.2),Cv (fun h=>h0 (List.length_eq_zero_iff.1 (by omega)))]; rfl
  .rw [decide_eq_false (fun h:Nv fs [g] u.First u.Second=>hc h.1)]
   cases h:(fs.all Cd&&(Cd g&&(Jo fs u.First&&decide (Ug fs g u.First)))) with
   | true=>exact (hc (Xz.1 h)).elim
   | false=>rfl
 | [g,g']=>
  have i0:Ag [g,g'] 0=some g:=rfl
  have i1:Ag [g,g'] 1=some g':=rfl
  rw [Cv (by simp),cond_false,Es (by simp),cond_true,i0,i1,Ad,Ad,Abx fs g u.First hn h4 hp.1 hp.2,Abx fs g' u.Second hn h4 hq.1 hq.2,Ad,Ad]
  have e1:(fs.all Cd&&(Cd g&&(Jo fs u.First&&decide (Ug fs g u.First))))=decide (K4 fs g u.First):=by rw [Bool.eq_iff_iff,decide_eq_true_eq]; exact Xz
  have e2:(fs.all Cd&&(Cd g' && (Jo fs u.Second&&decide (Ug fs g' u.Second))))=decide (K4 fs g' u.Second):=by rw [Bool.eq_iff_iff,decide_eq_true_eq]; exact Xz
  rw [e1,e2]
  by_cases hc:K4 fs g u.First
  .by_cases hd:K4 fs g' u.Second
   .rw [decide_eq_true hc,decide_eq_true hd,decide_eq_true (show Nv fs [g,g'] u.First u.Second from ⟨hc,hd⟩)]; rfl
   .rw [decide_eq_true hc,decide_eq_false hd,decide_eq_false (fun h:Nv fs [g,g'] u.First u.Second=>hd h.2)]; rfl
  .rw [decide_eq_false hc,decide_eq_false (fun h:Nv fs [g,g'] u.First u.Second=>hc h.1)]; rfl
 | g::g' :: g'' :: t=>
  rw [Cv (by simp; omega),cond_false,Cv (by simp; omega),cond_false,decide_eq_false (fun h:Nv fs (g::g' :: g'' :: t) u.First u.Second=>h)]; rfl
theorem A3c {x:Bj} (f:CSz x) (u:D2) (hu:USm u):∃R e,M9 x u=some (R,e)/\(e=0->PX x 136 16001 R):=by
 have B:=hu.e4
 have A:=hu.f4
 have c:RB 3 (cR 1):=(Abi (k:=1) (by rw [Mr]; decide) (by decide)).mono (by decide)
 have h1:rq (cR 1)=1:=by rw [Abl]; rfl
 obtain ⟨b,b1,b2⟩:=Rh x f [⟨cR 1,u.Passive⟩] (fun t ht=>by
  simp only [List.mem_singleton] at ht
  subst ht
  exact ⟨c.mono (by decide),hu.sz.pa⟩)
 obtain ⟨R,e,y,s⟩:=A28 f u.Axiom (by omega) (by omega)
 unfold M9 Zh
 rw [T9,Ad,Ad,b1,Ad,y]
 cases b with
 | false=>exact ⟨[],7,rfl,fun h=>absurd h (by decide)⟩
 | true=>
  simp only [D6,cond_false,Ad]
  by_cases h0:e=0
  .rw [Fc h0,cond_false]
   obtain ⟨i,z,g⟩:=s h0
   obtain ⟨_,j⟩:=b2.1 rfl
   have hm:Ef x u.Passive:=⟨(Xa.1 j).2.2 ⟨cR 1,u.Passive⟩ (by simp),hu.sz.pa⟩
   obtain ⟨S,e',q,l⟩:=A25 f i hm (A0n 1) h1 c z g
   rw [q]
   exact ⟨S,e',rfl,fun h=>(l h).px⟩
  .rw [Et h0,cond_true]
   exact ⟨[],e,rfl,fun h=>(h0 h).elim⟩
noncomputable def X0 (x:Bj) (u:D2):List Ah:=match M9 x u with | some r=>r.1 | none=>[]
noncomputable def L2 (x:Bj) (u:D2):Int:=match M9 x u with | some r=>r.2 | none=>0
theorem A3d {x:Bj} (b:CSz x) (u:D2) (hu:USm u):M9 x u=some (X0 x u,L2 x u)/\(L2 x u=0->PX x 136 16001 (X0 x u)):=by
 obtain ⟨R,e,h1,h2⟩:=A3c b u hu
 have f:X0 x u=R:=by unfold X0; rw [h1]
 have c:L2 x u=e:=by unfold L2; rw [h1]
 rw [f,c]
 exact ⟨h1,h2⟩
noncomputable def usV (x:Bj):List D2->Ba->Rat
 | [],_=>0
 | u::l,m=>rq u.Coef*cf (X0 x u) m+usV x l m
theorem Ap9 (x:Bj) (l b:List D2) (m:Ba):usV x (l++b) m=usV x l m+usV x b m:=by
 induction l with
 | nil=>simp only [List.nil_append,usV]; grind
 | cons u l ih=>simp only [List.cons_append,usV,ih]; grind
theorem PX.tsz {x:Bj} {n k:Nat} {p:List Ah} (h:PX x n k p) (hk:k<=1048576):∀t∈p,TSz t:=fun t ht=>⟨(h.rb t ht).mono hk,(h.mo t ht).2⟩
theorem A3e {x:Bj} (k:CSz x) (z:Fj x) {p q:List Ah} (hp:PX x 12 9 p) (hq:PX x 12 9 q) (f:List D2) (hl:f.length<=6) (hu:∀u∈f,USm u) :
  ∃R e,Ob x p q f=some (R,e)/\(e=0↔∀u∈f,L2 x u=0)/\(e=0->PX x 1000 1048576 R/\∀a,cf R a=cf p a-cf q a-usV x f a):=by
 obtain ⟨b,b1,b2⟩:=Rh x k p (hp.tsz (by decide))
 obtain ⟨c,c1,c2⟩:=Rh x k q (hq.tsz (by decide))
 have hb:b=true:=b2.2 ⟨z,(hp.can (by decide) (by decide)).can⟩
 have hc:c=true:=c2.2 ⟨z,(hq.can (by decide) (by decide)).can⟩
 subst hb hc
 obtain ⟨D,d1,d2,d3⟩:=Ap2 k z hp hq (by decide) (by decide) (by decide) (by decide) (by decide)
 unfold Ob
 rw [b1,c1,d1]
 simp only [Ad,D6,cond_false,bne_self_eq_false]
 obtain ⟨e,J,e2⟩:=I2 (step:=(fun (y,v12)=>
   bif (decide (v12<(f.length:Int))) then (
   (Ag f v12).bind fun l=>
   (M9 x l).bind fun i=>
   bif (i.2 != (0:Int)) then (
   some (.inr (.inl ([],i.2)))
   )
   else (
   (P4 x i.1 l.Coef).bind fun g=>
   bif (g.2 != (0:Int)) then (
   some (.inr (.inl ([],g.2)))
   )
   else (
   (Kn x y g.1).bind fun v17=>
   bif (v17.2 != (0:Int)) then (
   some (.inr (.inl ([],v17.2)))
   )
   else (
   some (.inl (v17.1,(Ac (v12+1))))
   )))
   )
   else (
   some (.inr (.inr y))
   ):List Ah×Int->Option ((List Ah×Int)⊕((List Ah×Int)⊕List Ah))))
  (fun s=>∃(j:Nat) (R:List Ah),s=(R,(j:Int))/\j<=f.length/\PX x (24+136*j) (21+16020*j) R/\(∀a,cf R a=cf p a-cf q a-usV x (f.take j) a)/\∀u∈f.take j,L2 x u=0)
  (fun s=>f.length-s.2.toNat)
  (fun e=>(∃A,e = .inl ([],A)/\A≠0/\∃u∈f,L2 x u≠0)\/(∃R,e = .inr R/\PX x 1000 1048576 R/\(∀a,cf R a=cf p a-cf q a-usV x f a)/\∀u∈f,L2 x u=0))
  (by
   rintro _ ⟨j,R,rfl,hj,I,E,B⟩
   dsimp only
   rcases Nat.lt_or_ge j f.length with h | h
   .have hx:f[j]? = some f[j]:=B7 h
    generalize f[j]=u at hx
    have hm:=Ct hx
    obtain ⟨Z,Y⟩:=A3d k u (hu u hm)
    rw [Al (by omega),cond_true,Cj rfl hx,Ad,Z,Ad]
    dsimp only
    by_cases h0:L2 x u=0
    .left
     rw [Fc h0,cond_false]
     obtain ⟨S,N,M,L⟩:=A26 k z (Y h0) (hu u hm).co (by decide) (by decide) (by decide) (by decide)
     obtain ⟨T,t1,t2,t3⟩:=Ap2 k z I M (by omega) (by omega) (by decide) (by omega) (by decide)
     rw [N,Ad]
     dsimp only
     rw [Fc rfl,cond_false,t1,Ad]
     dsimp only
     rw [Fc rfl,cond_false,Db h (by omega)]
     refine ⟨_,rfl,⟨j+1,T,rfl,by omega,t2.up (by omega) (by omega),fun a=>?_,fun w hw=>?_⟩,by simp; omega⟩
     .rw [t3,E,L,Dk hx,Ap9]
      simp only [usV]
      grind
     .rw [Dk hx] at hw
      rcases List.mem_append.1 hw with hw | hw
      .exact B w hw
      .rw [List.mem_singleton] at hw
       subst hw; exact h0
    .right
     rw [Et h0,cond_true]
     exact ⟨_,rfl,.inl ⟨_,rfl,h0,u,hm,h0⟩⟩
   .right
    have:j=f.length:=by omega
    subst this
    rw [List.take_length] at E B
    exact ⟨_,by rw [Aq (by omega),cond_false],.inr ⟨R,rfl,I.up (by omega) (by omega),E,B⟩⟩)
  (D,0) ⟨0,D,rfl,by omega,d2.up (by omega) (by omega),fun a=>by rw [d3,List.take_zero]; simp only [usV]; grind,fun u hu=>by simp at hu⟩
 rcases e2 with ⟨A,rfl,h0,u,hm,G⟩ | ⟨R,rfl,X,V,U⟩
 .exact ⟨[],A,bnd J rfl,⟨fun h=>(h0 h).elim,fun h=>(G (h u hm)).elim⟩,fun h=>(h0 h).elim⟩
 .exact ⟨R,0,bnd J rfl,⟨fun _=>U,fun _=>rfl⟩,fun _=>⟨X,V⟩⟩
structure PSm (p:List Ah):Prop where
 len:p.length<=12
 rb:∀t∈p,RB 9 t.Coef
 sz:∀t∈p,TSz t
theorem PSm.px {x:Bj} {p:List Ah} (h:PSm p) (hc:Hr x.Data x.Vars x.Res p=true):PX x 12 9 p :=
 have hp:F3 x p:=⟨hc,h.sz⟩
 ⟨hp.cp,hp.mo,h.rb,h.len⟩
theorem PX.sm {x:Bj} {p:List Ah} (h:PX x 12 9 p):PSm p:=⟨h.len,h.rb,h.tsz (by decide)⟩
structure OkW (x:Bj) (fs:List Ar) (p q:List Ah) (us:List D2):Prop where
 fx:Fj x
 cp:Hr x.Data x.Vars x.Res p=true
 cq:Hr x.Data x.Vars x.Res q=true
 fl:fs.all Cd=true
 ju:∀u∈us,Rv fs u/\(u.Axiom.Kind=1\/0<=rq u.Coef)
 pr:∀u∈us,L2 x u=0
 va:∀a,0<=cf p a-cf q a-usV x us a
open Classical in
theorem Ag9 {x:Bj} (hz:CSz x) (fs:List Ar) (hn:fs.length<=5) (h4:∀f∈fs,f.Terms.length<=4) {p q:List Ah} (hp:PSm p) (hq:PSm q) (us:List D2) (hl:us.length<=6) (hu:∀u∈us,USm u) :
  ∃e,I4 x fs p q us=some e/\(e=0↔OkW x fs p q us):=by
 obtain ⟨b,b1,b2⟩:=Rh x hz p hp.sz
 obtain ⟨c,c1,c2⟩:=Rh x hz q hq.sz
 unfold I4
 rw [b1,c1,(Apr fs hn h4).1]
 cases b with
 | false=>exact ⟨1,rfl,⟨fun h=>absurd h (by decide),fun h=>absurd (b2.2 ⟨h.fx,h.cp⟩) (by decide)⟩⟩
 | true=>
  cases c with
  | false=>exact ⟨1,rfl,⟨fun h=>absurd h (by decide),fun h=>absurd (c2.2 ⟨h.fx,h.cq⟩) (by decide)⟩⟩
  | true=>
   cases hfs:fs.all Cd with
   | false=>exact ⟨1,rfl,⟨fun h=>absurd h (by decide),fun h=>absurd h.fl (by rw [hfs]; decide)⟩⟩
   | true=>
    simp only [Ad,D6,cond_false]
    obtain ⟨hf,hcp⟩:=b2.1 rfl
    obtain ⟨_,hcq⟩:=c2.1 rfl
    obtain ⟨R,e,r1,r2,r3⟩:=A3e hz hf (hp.px hcp) (hq.px hcq) us hl hu
    let P:D2->Bool:=fun u=>decide (Rv fs u)&&(decide (u.Axiom.Kind=1)||decide (0<=rq u.Coef))
    have hP:∀u,P u=(decide (Rv fs u)&&(decide (u.Axiom.Kind=1)||decide (0<=rq u.Coef))):=fun _=>rfl
    have hall:us.all P=true↔∀u∈us,Rv fs u/\(u.Axiom.Kind=1\/0<=rq u.Coef):=by
     rw [List.all_eq_true]
     refine forall_congr' fun u=>imp_congr_right fun _=>?_
     rw [hP,C9,Bool.or_eq_true,decide_eq_true_eq,decide_eq_true_eq,decide_eq_true_eq]
    have hfin:∃e',(Ob x p q us).bind (fun v16=>
      bif (v16.2 != (0:Int)) then (some v16.2)
      else (
      (Oc v16.1).bind fun v17=>
      bif (!v17) then (some (15:Int)) else (some (0:Int))))=some e'/\(e'=0↔(∀u∈us,L2 x u=0)/\∀a,0<=cf p a-cf q a-usV x us a):=by
     rw [r1,Ad]
     dsimp only
     by_cases h0:e=0
     .obtain ⟨g1,g2⟩:=r3 h0
      have g3:=r2.1 h0
      have hlen:=g1.len
      rw [Fc h0,cond_false,Az2 R g1.rb (by decide) (by omega),Ad]
      have hd:Dst R:=CP.dst g1.cp
      have hnn:=Az4 hd
      cases hcs:(R.all fun t=>decide (0<=rq t.Coef)) with
      | true=>exact ⟨0,rfl,⟨fun _=>⟨g3,fun a=>by rw [<-g2]; exact hnn.1 hcs a⟩,fun _=>rfl⟩⟩
      | false=>exact ⟨15,rfl,⟨fun h=>absurd h (by decide),fun h=>absurd (hnn.2 fun a=>by rw [g2]; exact h.2 a) (by rw [hcs]; decide)⟩⟩
     .rw [Et h0,cond_true]
      exact ⟨e,rfl,⟨fun h=>(h0 h).elim,fun h=>(h0 (r2.2 h.1)).elim⟩⟩
    obtain ⟨e',f1,f2⟩:=hfin
    have key:=Ig (step:=(fun v10=>
      bif (decide (v10<(us.length:Int))) then (
      (Ag us v10).bind fun v11=>
      (Oa fs v11).bind fun v13=>
      bif (!v13) then (
      some (.inr (.inl 23))
      )
      else (
      bif (v11.Axiom.Kind != (1:Int)) then (
      (F7 v11.Coef).bind fun v14=>
      bif (decide (v14<(0:Int))) then (
      some (.inr (.inl 23))
      )
      else (
      some (.inl (Ac (v10+1)))
      )
      )
      else (
      some (.inl (Ac (v10+1)))
      )))
      else (
      some (.inr (.inr ()))
      ):Int->Option (Int⊕(Int⊕Unit)))) (s0:=0) (J:=fun z=>match z with
       | .inl r15=>some r15
       | .inr _=>(Ob x p q us).bind (fun v16=>
        bif (v16.2 != (0:Int)) then (some v16.2)
        else (
        (Oc v16.1).bind fun v17=>
        bif (!v17) then (some (15:Int)) else (some (0:Int))))) us P (fun j=>(j:Int)) rfl (by omega) (rt:=e') (rf:=23) (by
     intro j u hx h1 h2 h3
     have hm:=Ct hx
     rw [h1,cond_true,h2,Ad,A3b fs u hn h4 (hu u hm),Ad,h3,hP]
     cases hj:decide (Rv fs u) with
     | false=>exact ⟨(fun h=>by cases h),fun _=>⟨_,rfl,rfl⟩⟩
     | true=>
      by_cases hk:u.Axiom.Kind=1
      .rw [Fc hk,decide_eq_true hk]
       exact ⟨(fun _=>rfl),fun h=>by cases h⟩
      .rw [Et hk,decide_eq_false hk,(Mx (hu u hm).co (by decide)).1,Ad]
       by_cases h0:0<=rq u.Coef
       .rw [decide_eq_true h0,Aq (fun h=>by rw [Xw] at h; grind)]
        exact ⟨(fun _=>rfl),fun h=>by cases h⟩
       .rw [decide_eq_false h0,Al ((Xw _).2 (by grind))]
        exact ⟨(fun h=>by cases h),fun _=>⟨_,rfl,rfl⟩⟩) (by
     intro h1
     exact ⟨.inr (),by rw [h1,cond_false],f1⟩)
    refine ⟨_,key,?_⟩
    cases ha:us.all P with
    | true=>
     rw [cond_true,f2]
     exact ⟨fun h=>⟨hf,hcp,hcq,hfs,hall.1 ha,h.1,h.2⟩,fun h=>⟨h.pr,h.va⟩⟩
    | false=>
     rw [cond_false]
     exact ⟨fun h=>absurd h (by decide),fun h=>absurd (hall.2 h.ju) (by rw [ha]; decide)⟩
end Go.Ab
namespace Go.Ab
open Go
def sX:Bj:=⟨[],[⟨1,0,[]⟩],⟨1,0,[]⟩⟩
def sM:Ar:=⟨-1,[⟨0,1⟩]⟩
def sO:Ak:=⟨false,[1],[1]⟩
def sP:List Ah:=[⟨sO,⟨[],[⟨⟨0,[⟨0,1⟩]⟩,1⟩]⟩⟩]
def sQ:List Ah:=[⟨sO,⟨[],[]⟩⟩,⟨sO,⟨[],[⟨sM,1⟩]⟩⟩]
def sU:D2:=⟨⟨1,sM,⟨1,[]⟩,1⟩,sO,⟨[],[]⟩,[sO],[⟨false,[],[]⟩]⟩
theorem Aha:rq sO=1:=by decide
theorem A3f:RB 1048576 sO:=by
 have h:J5 [1]:=fun x hx=>by simp only [List.mem_singleton] at hx; subst hx; decide
 exact ⟨h,h,by decide,by decide⟩
theorem A3g:M6 [sM] sM [sO]=some true:=by
 rw [Abx [sM] sM [sO] (by decide) (fun f b=>by simp only [List.mem_singleton] at b; subst b; decide) (by decide) (fun p hp=>by simp only [List.mem_singleton] at hp; subst hp; exact A3f)]
 have hm:Jo [sM] [sO]=true:=by
  unfold Jo
  simp only [List.length_singleton,List.all_cons,List.all_nil,Bool.and_true,decide_true,Aha]
  decide
 rw [Xz.2 ⟨by decide,by decide,hm,.inl ⟨fun v=>by simp only [dq,Aha]; grind,by simp only [dq,Aha]; grind⟩⟩]
theorem A3h:Oa [sM] sU=some true:=by
 have h1:N9 sU.Axiom=some [sM,⟨1,[]⟩]:=by kernel_rfl
 have h2:M6 [sM] ⟨1,[]⟩ [⟨false,[],[]⟩]=some true:=by kernel_rfl
 have i0:Ag [sM,(⟨1,[]⟩:Ar)] 0=some sM:=rfl
 have i1:Ag [sM,(⟨1,[]⟩:Ar)] 1=some ⟨1,[]⟩:=rfl
 have c:sU.First = [sO]:=rfl
 have b:sU.Second = [⟨false,[],[]⟩]:=rfl
 unfold Oa U4
 rw [h1,Ad,Cv (by simp),cond_false,Es (by simp),cond_true,i0,i1,c,b,Ad,A3g,Ad,cond_true,Ad,h2]; rfl
theorem A3i:U5=some true:=by
 have h0:Zd 1=some sO:=by kernel_rfl
 have h1:Jz sX sP=some true:=by kernel_rfl
 have h2:Jz sX sQ=some true:=by kernel_rfl
 have h3:P3 [sM]=some true:=by kernel_rfl
 have i:Ob sX sP sQ [sU]=some ([],0):=by kernel_rfl
 have h:Oc []=some true:=by kernel_rfl
 have g:I4 sX [sM] sP sQ []=some 15:=by kernel_rfl
 have b:Ac (0+1)=1:=by kernel_rfl
 have f:I4 sX [sM] sP sQ [sU]=some 0:=by
  unfold I4
  rw [h1,h2,h3,i]
  simp only [Ad,D6,cond_false]
  refine bnd (a:=.inr ()) ?_ (by simp only [bne_self_eq_false,cond_false,h,Ad,D6])
  refine (Ha (s':=1) ?_).trans (D0 ?_)
  .have i0:Ag [sU] 0=some sU:=rfl
   have c:sU.Axiom.Kind=1:=rfl
   simp only [List.length_singleton,i0,Ad,A3h,D6,cond_false,c,bne_self_eq_false,b]
   rfl
  .rfl
 unfold U5
 rw [h0,Ad]
 show (I4 sX [sM] sP sQ [sU]).bind _=_
 rw [f,Ad]
 show (I4 sX [sM] sP sQ []).bind _=_
 rw [g]; rfl
theorem Aqa (x:Bj) (fs:List Ar) (p q:List Ah) (g:fs.length<=1048576) (ht:∀f∈fs,f.Terms.length<=1048576) (hp:p.length<=1048576/\∀t∈p,TSz t) (hq:q.length<=1048576/\∀t∈q,TSz t) :
  ∃b,Sk x fs p q=some b/\(b=true->(fs.length<=5/\∀f∈fs,f.Terms.length<=4)/\(p.length<=6/\∀t∈p,RB 3 t.Coef)/\(q.length<=6/\∀t∈q,RB 3 t.Coef)):=by
 obtain ⟨a,a1,a2⟩:=A2w fs 5 4 g ht
 obtain ⟨b,b1,b2⟩:=Ap7 p 6 hp.1 hp.2
 obtain ⟨c,l,k⟩:=Ap7 q 6 hq.1 hq.2
 have hk:∃d,U6 x=some d:=by
  unfold U6
  cases decide ((x.Data.length:Int)<=2) <;> exact ⟨_,rfl⟩
 obtain ⟨d,d1⟩:=hk
 unfold Sk
 rw [d1,a1,b1,l]
 cases d with
 | false=>exact ⟨false,rfl,fun h=>by cases h⟩
 | true=>
  cases a with
  | false=>exact ⟨false,rfl,fun h=>by cases h⟩
  | true=>
   cases b with
   | false=>exact ⟨false,rfl,fun h=>by cases h⟩
   | true=>
    refine ⟨c,rfl,fun h=>?_⟩
    obtain ⟨y,j⟩:=a2 rfl
    obtain ⟨u,e4⟩:=b2 rfl
    obtain ⟨s,i⟩:=k h
    exact ⟨⟨by omega,fun f g=>by have:=j f g; omega⟩,⟨by omega,e4⟩,⟨by omega,i⟩⟩
theorem Abz {p:List Ah} (h:p.length<=6/\∀t∈p,RB 3 t.Coef) (ht:∀t∈p,TSz t):PSm p:=⟨by omega,fun t ht=>(h.2 t ht).mono (by decide),ht⟩
def z0:Ak:=⟨false,[],[]⟩
end Go.Ab
namespace Go.Ab
open Go
theorem A3j {c b:List D2} (h1:∀u∈c,USm u) (h2:∀u∈b,USm u):∀u∈c++b,USm u:=fun u hu=>by
 rcases List.mem_append.1 hu with h | h
 .exact h1 u h
 .exact h2 u h
theorem A3k (x:Bj) (fs:List Ar) (p q r s:List Ah) (j i:List D2) (D:CSz x) (hf:fs.length<=1048576) (L:∀f∈fs,f.Terms.length<=1048576)
  (hp:p.length<=1048576/\∀t∈p,TSz t) (hq:q.length<=1048576/\∀t∈q,TSz t) (I:r.length<=1048576/\∀t∈r,TSz t) (G:s.length<=1048576/\∀t∈s,TSz t) (h1:j.length<=1048576/\∀u∈j,USz u) (h2:i.length<=1048576/\∀u∈i,USz u) :
  Zc x fs p q r s j i=some true:=by
 obtain ⟨a,a1,a2⟩:=Aqa x fs p q hf L hp hq
 obtain ⟨c,c1,c2⟩:=Aqa x [] r s (by simp) (fun f h=>by cases h) I G
 obtain ⟨b,b1,b2⟩:=Ap8 j 3 h1.1 h1.2
 obtain ⟨d,d1,d2⟩:=Ap8 i 3 h2.1 h2.2
 unfold Zc
 rw [A3i,Ad,D6,cond_false,a1,c1,b1,d1]
 cases a with
 | false=>rfl
 | true=>
  cases c with
  | false=>rfl
  | true=>
   cases b with
   | false=>rfl
   | true=>
    cases d with
    | false=>rfl
    | true=>
     obtain ⟨⟨N,M⟩,V,e4⟩:=a2 rfl
     obtain ⟨e5,U⟩:=b2 rfl
     obtain ⟨_,S,R⟩:=c2 rfl
     obtain ⟨e9,E⟩:=d2 rfl
     have sp:=Abz V hp.2
     have sq:=Abz e4 hq.2
     have sr:=Abz S I.2
     have Z:=Abz R G.2
     obtain ⟨g,g1,g2⟩:=Ag9 D fs N M sp sq j (by omega) U
     obtain ⟨k,k1,k2⟩:=Ag9 D fs N M sr Z i (by omega) E
     simp only [Ad,D6,cond_false,g1,k1]
     by_cases J:g=0
     .rw [Fc J,cond_false]
      by_cases hk:k=0
      .rw [Fc hk]
       have y:=g2.1 J
       have z:=k2.1 hk
       have l:∀{p:List Ah},(p.length<=6/\∀t∈p,RB 3 t.Coef)->(∀t∈p,TSz t)->Hr x.Data x.Vars x.Res p=true->PX x 6 3 p:=fun {p} h ht hc=>by
        have hp:F3 x p:=⟨hc,ht⟩
        exact ⟨hp.cp,hp.mo,h.2,h.1⟩
       obtain ⟨A,A1,Y,A3⟩:=Ap3 D y.fx (l V hp.2 y.cp) (l S I.2 z.cp) (by decide) (by decide) (by decide) (by decide) (by decide)
       obtain ⟨B,B1,X,B3⟩:=Ap3 D y.fx (l e4 hq.2 y.cq) (l R G.2 z.cq) (by decide) (by decide) (by decide) (by decide) (by decide)
       obtain ⟨m,m1,m2⟩:=Ag9 D fs N M Y.sm X.sm (j++i) (by simp; omega) (A3j U E)
       have hm:m=0:=m2.2 ⟨y.fx,(Y.can (by decide) (by decide)).can,(X.can (by decide) (by decide)).can,y.fl,fun u hu=>by
        rcases List.mem_append.1 hu with h | h
        .exact y.ju u h
        .exact z.ju u h,fun u hu=>by
        rcases List.mem_append.1 hu with h | h
        .exact y.pr u h
        .exact z.pr u h,fun a=>by
        have v1:=y.va a
        have v2:=z.va a
        rw [Ap9,A3,B3]; grind⟩
       simp only [Ad,cond_false,A1,B1,beq_self_eq_true,cond_true]
       rw [Dj (by simp; omega),Ad,List.nil_append,Dj (by omega),Ad,m1,hm]; rfl
      .rw [Et hk]; rfl
     .rw [Et J]; rfl
end Go.Ab
