/- Plain laws: what the plain functions answer. -/
import Derived.Test.YtpedagkdpokpkaaGreatDoorWgPl4
namespace Go.Ab
open Go
theorem A20 {x:Bj} (g:CSz x) {m:Ba} (h:Ek x m):FOk x.Data x.Vars x.Res m.Factors:=by
 have c:∀f∈m.Factors,(tyX x.Vars x.Res f.Var).isSome=true:=fun f b=>by
  have h1:=h.f.fac f b
  unfold E4 at h1
  cases ht:tyX x.Vars x.Res f.Var with
  | none=>rw [ht] at h1; exact absurd (show (1:Int)<=-1 from h1) (by decide)
  | some t=>rfl
 refine ⟨h.f.asc,fun f b=>⟨⟨(h.2.fr f b).2,(h.2.fr f b).1,h.2.fi f b⟩,c f b,h.f.fac f b⟩,h.cmo.nf,fun f b=>?_⟩
 have h1:=c f b
 rw [Amv,decide_eq_true_eq] at h1
 have:=g.nv
 omega
theorem A21 {x:Bj} {m:Ba} (hm:Ek x m) {L:List A6} (h:Xs x.Vars x.Res L) (b:Dq x.Data x.Vars x.Res m.Factors+Ce L<=6):Ek x ⟨m.Factors,L⟩:=by
 have h0:=hm.f.fsum0
 obtain ⟨g1,g2⟩:=Ao2 h (by omega)
 have hc:=hm.1
 unfold Hz at hc g1
 rw [C2,C2] at hc g1
 refine ⟨?_,⟨hm.2.nf,g2.na,hm.2.fi,hm.2.fr,g2.al⟩⟩
 unfold Hz
 rw [C2,C2]
 exact ⟨⟨hc.1.1,g1.1.2⟩,decide_eq_true b⟩
theorem IsE.goods {x:Bj} {A:List A6} {B:List Dp} (h:IsE A B) (g:∀a∈A,B5 a.Lin=true/\Dz x.Vars x.Res a.Lin=true):∀b∈B,Xs x.Vars x.Res b.1/\Ce b.1<=(B9 A:Nat):=by
 intro b hb
 obtain ⟨gs,j,c,i,f,rfl⟩:=h
 obtain ⟨h1,h2⟩:=Agp (vars:=x.Vars) (res:=x.Res) f (fun a ha=>g a (c.mem_iff.1 ha)) [([],1)] 0 (fun b hb=>by
  simp only [List.mem_singleton] at hb
  subst hb
  exact ⟨⟨List.Pairwise.nil,fun _ h=>by cases h⟩,by simp [Ce],fun _ h=>by cases h⟩) b hb
 rw [Nv c] at h2
 exact ⟨h1,by omega⟩
noncomputable def Ab0 (x:Bj) (t:Ah) (q:List Ah):(Int×List (ByteArray×Int)×List (ByteArray×List Bz)×List (ByteArray×Int)×List Ah)->Option ((Int×List (ByteArray×Int)×List (ByteArray×List Bz)×List (ByteArray×Int)×List Ah)⊕((List Ah×Int)⊕(Int×List (ByteArray×Int)×List (ByteArray×List Bz)×List (ByteArray×Int)×List Ah))):=fun (c,j,i,h,g)=>
 bif (decide (c<(q.length:Int))) then (
 (Ag q c).bind fun f=>
 (Gc t.Coef f.Coef).bind fun v127=>
 (Mh t.Mono f.Mono).bind fun k=>
 (Nj v127 k j i x.Data x.Vars x.Res.Kind x.Res.Num x.Res.Args).bind fun b=>
 bif (b.2.1 != (0:Int)) then (
 some (.inr (.inl ([],b.2.1)))
 )
 else (
 (H9 b.1 h g).bind fun v130=>
 some (.inl ((Ac (c+1)),b.2.2.1,b.2.2.2,v130.1,v130.2))
 )
 )
 else (
 some (.inr (.inr (c,j,i,h,g)))
 )
theorem A22 {x:Bj} (hz:CSz x) (hf:Fm x) {m:Ba} (hm:Ek x m) {M:Ak} (h1:rq M=1) (R:RB 3 M) {f:Ba->Rat} {q:List Ah} (hq:IP x 17 13010 f q) (nq:∀u∈q,u.Mono.Factors = []) (hG:∀u∈q,Jl x m+Jl x u.Mono<=6) {b1:List (ByteArray×Int)} (X:Dn x.Data x.Vars x.Res b1) :
  ∃(A:List (ByteArray×Int)) (l:List (ByteArray×List Bz)) (ts L:List Ah),Am (Ab0 x ⟨M,m⟩ q) (0,b1,[],[],[])=some (.inr ((q.length:Int),A,l,Dr ts,ts))/\Col 3000000 (Ek x) ts/\ts.length<=136/\L.length<=136/\(∀t∈L,∃z:Int,rq t.Coef=(z:Rat)/\Bb z.natAbs<=15480)/\∀a,cf ts a=cf L a:=by
 have G:=hf.ctx hz
 have a6:=hq.len
 obtain ⟨e,Z,A,l,ts,L,rfl,J⟩:=Ip (step:=Ab0 x ⟨M,m⟩ q)
  (fun s=>∃(j:Nat) (A:List (ByteArray×Int)) (l:List (ByteArray×List Bz)) (ts L:List Ah),s=((j:Int),A,l,Dr ts,ts)/\j<=q.length/\Dn x.Data x.Vars x.Res A/\Pb l/\Col (15475+j*8*15500) (Ek x) ts/\ts.length<=8*j/\L.length<=8*j/\(∀t∈L,∃z:Int,rq t.Coef=(z:Rat)/\Bb z.natAbs<=15480)/\∀a,cf ts a=cf L a)
  (fun s=>q.length-s.1.toNat)
  (fun e=>∃(A:List (ByteArray×Int)) (l:List (ByteArray×List Bz)) (ts L:List Ah),e = .inr ((q.length:Int),A,l,Dr ts,ts)/\Col 3000000 (Ek x) ts/\ts.length<=136/\L.length<=136/\(∀t∈L,∃z:Int,rq t.Coef=(z:Rat)/\Bb z.natAbs<=15480)/\∀a,cf ts a=cf L a)
  (by
   rintro _ ⟨j,A,l,ts,L,rfl,hj,k1,k2,I,k4,k5,k6,k7⟩
   unfold Ab0
   dsimp only
   rcases Nat.lt_or_ge j q.length with h | h
   .left
    have hx:q[j]? = some q[j]:=B3 h
    generalize q[j]=u at hx
    have g:=Cp hx
    have hu:=hq.mo u g
    obtain ⟨z,z1,z2⟩:=hq.int u g
    have N:=Xu (hq.cp.coe u g).1 z1 z2
    obtain ⟨c,m1,m2,m3,m4⟩:=Rh R N (by decide) (by decide)
    have V:rq c≠0:=by
     rw [m4,h1]
     have:=(hq.cp.coe u g).2
     grind
    have E:=hG u g
    have am:=hm.f.as
    have au:=hu.f.as
    have f0:=hm.f.fsum0
    have f1:=hu.f.fsum0
    have a8:B9 (m.Atoms++u.Mono.Atoms)=B9 m.Atoms+B9 u.Mono.Atoms:=Lz _ _
    unfold Jl at E
    have a1:B9 (m.Atoms++u.Mono.Atoms)<=6:=by omega
    have k:∀a∈m.Atoms++u.Mono.Atoms,1<=a.Deg/\B5 a.Lin=true/\a.Lin.Terms.length≠0/\Dz x.Vars x.Res a.Lin=true:=fun a ha=>by
     rcases List.mem_append.1 ha with h | h
     .exact hm.f.atm a h
     .exact hu.f.atm a h
    have hA:Atk (m.Atoms++u.Mono.Atoms):=⟨fun a ha=>by have:=(k a ha).1; omega,fun a ha=>(k a ha).2.1,by omega,by rw [List.length_append]; omega⟩
    have U:Mh m u.Mono=some ⟨m.Factors,m.Atoms++u.Mono.Atoms⟩:=by
     have n1:=hm.cmo.nf
     rw [Abp _ _ (by rw [nq u g]; simp; omega) (by omega),nq u g,List.append_nil]
    obtain ⟨out,B,d1,d2,Z,J,Y,e4,e5,e6,_⟩:=A1o G m2 (by decide) V (A20 hz hm) hA k1 k2
    have a7:out.length<=8:=by
     rw [Y.len]
     exact Nat.le_trans (J.cnt hm.f.srt hu.f.srt) (Nat.le_trans (Nat.pow_le_pow_right (by decide) (by omega:_<=3)) (by decide))
    have D:=J.goods (x:=x) fun a ha=>⟨(k a ha).2.1,(k a ha).2.2.2⟩
    have S:∀w∈out,RB 15470 w.Coef/\Ek x w.Mono:=fun w hw=>by
     obtain ⟨i,hi⟩:=List.getElem?_of_mem hw
     obtain ⟨b,b1,b2,b3,b4⟩:=Y.get hi
     obtain ⟨g1,g2⟩:=D b (Cp b1)
     refine ⟨b4.mono (by decide),?_⟩
     rw [b2]
     exact A21 hm g1 (by omega)
    obtain ⟨v,v1,v2,v3,v4⟩:=T3 (P:=Ek x) (fun m h=>h.cmo) out ts I S (by omega) (by omega) (by omega)
    refine ⟨(((j+1:Nat):Int),d1,d2,Dr v,v),?_,⟨j+1,d1,d2,v,L++out,rfl,by omega,e5,e6,⟨v2.dst,fun t ht=>(v2.tb t ht).mono (by omega),v2.mo⟩,by omega,by rw [List.length_append]; omega,fun t ht=>?_,fun a=>?_⟩,by simp; omega⟩
    .rw [Al (by omega),cond_true,Cd rfl hx,Ad,m1,Ad,U,Ad,Z,Ad]
     dsimp only
     rw [Fb rfl,cond_false,v1,Ad,C7 h (by omega)]
    .rcases List.mem_append.1 ht with ht | ht
     .exact k6 t ht
     .obtain ⟨y,y1,y2⟩:=Y.listI (z:=z) (by rw [m4,h1,z1]; grind) t ht
      exact ⟨y,y1,by omega⟩
    .rw [v4,k7,Rk]
   .right
    have:j=q.length:=by omega
    subst this
    exact ⟨_,by rw [Ar (by omega),cond_false],A,l,ts,L,rfl,⟨I.dst,fun t ht=>(I.tb t ht).mono (by omega),I.mo⟩,by omega,by omega,k6,k7⟩)
  (0,b1,[],[],[]) ⟨0,b1,[],[],[],rfl,by omega,X,fun p hp=>(by cases hp),Col.nil _ _,by simp,by simp,fun t ht=>(by cases ht),fun a=>rfl⟩
 exact ⟨A,l,ts,L,Z,J⟩
theorem A23 {x:Bj} {m:Ba} (hm:Ek x m) {b:Ak} (hc:Hc b) (h1:rq b=1) (c:RB 3 b):Gl x [⟨b,m⟩] :=
 Gl.of ⟨List.pairwise_singleton _ _,fun t ht=>by simp only [List.mem_singleton] at ht; subst ht; exact ⟨hc,by show rq b≠0; rw [h1]; decide⟩⟩
  (fun t ht=>by simp only [List.mem_singleton] at ht; subst ht; exact hm) (fun t ht=>by simp only [List.mem_singleton] at ht; subst ht; exact c.mono (by decide)) (by simp)
theorem A24 {x:Bj} (I:CSz x) (M:Fm x) {m:Ba} (hm:Ek x m) {b:Ak} (hc:Hc b) (h1:rq b=1) (y:RB 3 b) {f:Ba->Rat} {q:List Ah} (hq:IP x 17 13010 f q) (nq:∀u∈q,u.Mono.Factors = []) :
  ∃R e,Mb x [⟨b,m⟩] q=some (R,e)/\(e=0->IP x 136 16000 (cf R) R):=by
 have k:=M.ctx I
 have a1:=hq.len
 have hp:=A23 hm hc h1 y
 have A:=hq.can (by decide) (by decide)
 obtain ⟨b',hb,B⟩:=Agd I (ps:=[[⟨b,m⟩],q]) (fun r hr=>by
  simp only [List.mem_cons,List.not_mem_nil,or_false] at hr
  rcases hr with rfl | rfl
  .exact hp.sz
  .exact A.sz) (by simp) ⟨M,fun r hr=>by
  simp only [List.mem_cons,List.not_mem_nil,or_false] at hr
  rcases hr with rfl | rfl
  .exact hp.can
  .exact A.can⟩
 have Y:Ac (0+1)=1:=by rw [Ac,Bw] <;> omega
 have it:Ag [(⟨b,m⟩:Ah)] 0=some ⟨b,m⟩:=rfl
 unfold Mb
 rw [hb]
 simp only [Ad,D2,cond_false,Iq]
 rw [Al (by simp),cond_true]
 have fin:∀c:List (ByteArray×Int),Dn x.Data x.Vars x.Res c->(∀u∈q,Jl x m+Jl x u.Mono<=6)->∃j i ts R,Am (Ab0 x ⟨b,m⟩ q) (0,c,[],[],[])=some (.inr ((q.length:Int),j,i,Dr ts,ts))/\Ir (Dr ts) ts=some (R,0)/\IP x 136 16000 (cf R) R:=by
  intro c N D
  obtain ⟨j,i,ts,L,s,l2,l3,l4,l5,l6⟩:=A22 I M hm h1 y hq nq D N
  have hint:∀a,∃z:Int,cf ts a=(z:Rat)/\Bb z.natAbs<=16000:=fun a=>by
   obtain ⟨z,E,z2⟩:=Agr a L l5
   exact ⟨z,by rw [l6]; exact E,by omega⟩
  obtain ⟨R,l,g⟩:=Ags (x:=x) l2 (by decide) (by omega) fun a=>⟨(hint a).choose,(hint a).choose_spec.1⟩
  refine ⟨j,i,ts,R,s,l,g.cp,fun _=>rfl,g.mo,by have:=g.len; omega,fun w hw=>?_⟩
  obtain ⟨z,E,z2⟩:=hint w.Mono
  exact ⟨z,by rw [<-Mv g.cp hw,g.val,E],z2⟩
 by_cases J:q.length=0
 .have:q = []:=List.length_eq_zero_iff.1 J
  subst this
  obtain ⟨j,i,ts,R,s,l,g⟩:=fin b' B fun u hu=>by cases hu
  refine ⟨R,0,?_,fun _=>g⟩
  rw [Ar (by simp),cond_false]
  simp only [Ad,cond_false]
  refine bnd (a:=.inr (j,i,Dr ts,ts)) ?_ (by simp only [l,Ad])
  refine (G6 (s':=(1,j,i,Dr ts,ts)) ?_).trans (Dx ?_)
  .simp only [it,Ad]
   rw [Al (by simp),cond_true]
   exact bnd s (by simp only [Y])
  .rfl
 .obtain ⟨G,c,g1,g2,g3,g4,g5⟩:=Apx [] k B [⟨b,m⟩] (by simp) (fun u hu=>by simp only [List.mem_singleton] at hu; subst hu; exact hm)
  obtain ⟨X,c',V,U,a7,a6,S⟩:=Apx [] k g2 q (by omega) hq.mo
  have Z:Ac (G+X)=G+X:=by rw [Ac,Bw] <;> omega
  rw [Al (by omega),cond_true,g1,Ad]
  dsimp only
  rw [V,Ad]
  dsimp only
  rw [Z,Ad]
  by_cases D:G+X>6
  .rw [Al D]
   exact ⟨[],13,rfl,fun h=>absurd h (by decide)⟩
  .rw [Ar D]
   simp only [cond_false,Ad]
   obtain ⟨j,i,ts,R,s,l,g⟩:=fin c' U fun u hu=>by
    have h1:=g5 ⟨b,m⟩ (by simp)
    have h2:=S u hu
    have h1:Jl x m<=G:=h1
    omega
   refine ⟨R,0,?_,fun _=>g⟩
   refine bnd (a:=.inr (j,i,Dr ts,ts)) ?_ (by simp only [l,Ad])
   refine (G6 (s':=(1,j,i,Dr ts,ts)) ?_).trans (Dx ?_)
   .simp only [it,Ad]
    rw [Al (by simp),cond_true]
    exact bnd s (by simp only [Y])
   .rfl
end Go.Ab
namespace Go.Ab
open Go
structure PX (x:Bj) (n k:Nat) (R:List Ah):Prop where
 cp:CP R
 mo:∀t∈R,Ek x t.Mono
 rb:∀t∈R,RB k t.Coef
 len:R.length<=n
theorem PX.can {x:Bj} {n k:Nat} {R:List Ah} (h:PX x n k R) (b:n<=1000) (hk:k<=1048576):Gl x R :=
 Gl.of h.cp h.mo (fun t ht=>(h.rb t ht).mono hk) (Nat.le_trans h.len b)
theorem PX.up {x:Bj} {n b k c:Nat} {R:List Ah} (h:PX x n k R) (f:n<=b) (hk:k<=c):PX x b c R:=⟨h.cp,h.mo,fun t ht=>(h.rb t ht).mono hk,Nat.le_trans h.len f⟩
theorem IP.px {x:Bj} {n L:Nat} {f:Ba->Rat} {R:List Ah} (h:IP x n L f R):PX x n (L+1) R:=⟨h.cp,h.mo,fun t ht=>by
 obtain ⟨z,b,z2⟩:=h.int t ht
 exact Xu (h.cp.coe t ht).1 b z2,h.len⟩
theorem Ag2 {p:List Ah} {k:Nat} (hc:CP p) (h:∀t∈p,RB k t.Coef) (hk:3<=k) (m:Ba):∃a,RB k a/\rq a=cf p m:=by
 by_cases hm:∃t∈p,C8 t.Mono m=0
 .obtain ⟨t,ht,e⟩:=hm
  exact ⟨t.Coef,h t ht,by rw [<-Mv hc ht,Ji.1 e]⟩
 .obtain ⟨y,g,c,f,b⟩:=Agf 0 (by omega) (by omega)
  exact ⟨y,c.mono hk,by rw [b,Aa7 fun t ht e=>hm ⟨t,ht,e⟩]; rfl⟩
theorem Apy {x:Bj} (h:CSz x) (u:Fm x) {n m k l:Nat} {p q:List Ah} (hp:PX x n k p) (hq:PX x m l q) (D:n+m<=1000) (h3:3<=k) (y:3<=l) (hk:k<=1048576) (s:l<=1048576) :
  ∃R,Kn x p q=some (R,0)/\PX x (n+m) (k+l+3) R/\∀a,cf R a=cf p a-cf q a:=by
 have j:=hp.len
 have i:=hq.len
 obtain ⟨R,g,f⟩:=Aog h u (hp.can (by omega) hk) (hq.can (by omega) s) (by omega)
 refine ⟨R,g,⟨f.cp,fun t ht=>(f.tb t ht).1,fun t ht=>?_,by have:=f.len; omega⟩,f.val⟩
 obtain ⟨a,a1,a2⟩:=Ag2 hp.cp hp.rb h3 t.Mono
 obtain ⟨b,b1,b2⟩:=Ag2 hq.cp hq.rb y t.Mono
 obtain ⟨c,E,B,A,z⟩:=Aoh a1 b1 (by omega) (by omega)
 have e:t.Coef=c:=Aa6 (f.cp.coe t ht).1 A (by rw [<-Mv f.cp ht,f.val,z,a2,b2])
 rw [e]; exact B
theorem A25 {x:Bj} (g:CSz x) (i:Fm x) {n k j:Nat} {p:List Ah} {r:Ak} (hp:PX x n k p) (hr:RB j r) (u:n<=1000) (h3:3<=k) (hk:k<=1048576) (hj:j<=1048576) :
  ∃R,P3 x p r=some (R,0)/\PX x n (j+k+2) R/\∀a,cf R a=rq r*cf p a:=by
 have h:=hp.len
 obtain ⟨R,f,b⟩:=A0j g i (hp.can (by omega) hk) (hr.mono hj) (by omega)
 refine ⟨R,f,⟨b.cp,fun t ht=>(b.tb t ht).1,fun t ht=>?_,by have:=b.len; omega⟩,b.val⟩
 obtain ⟨a,a1,a2⟩:=Ag2 hp.cp hp.rb h3 t.Mono
 obtain ⟨c,y,s,q,l⟩:=Rh hr a1 (by omega) (by omega)
 have e:t.Coef=c:=Aa6 (b.cp.coe t ht).1 q (by rw [<-Mv b.cp ht,b.val,l,a2])
 rw [e]; exact s
theorem Xx {m:Ba} (hm:m.Factors≠[]):∀B:List Dp,ec B m=0
 | []=>rfl
 | b::B=>by
  have h:C8 ⟨[],b.1⟩ m≠0:=fun h=>hm (by rw [<-Ji.1 h])
  simp only [ec,if_neg h,Xx hm B]
theorem A26 {m:Ba} (hm:m.Factors≠[]) (p q:List Ah):Rs p q m=0:=by
 cases p with
 | nil=>rfl
 | cons t p=>
  cases q with
  | nil=>rfl
  | cons u q=>
   simp only [Rs,Xx hm]
   show _*(((0:Nat):Rat))=0
   rw [show (((0:Nat):Rat))=0 from rfl]; grind
theorem Apz {f:Nat->Rat} (h:∀j,f j=0):∀n,sq n f=0
 | 0=>rfl
 | n+1=>by simp only [sq,Apz h n,h]; grind
theorem IP.noF {x:Bj} {n L:Nat} {f:Ba->Rat} {R:List Ah} (h:IP x n L f R) (b:∀m:Ba,m.Factors≠[]->f m=0):∀u∈R,u.Mono.Factors = []:=fun u hu=>by
 rcases Classical.em (u.Mono.Factors = []) with e | e
 .exact e
 .exact absurd (b _ e) (by rw [<-h.val,Mv h.cp hu]; exact (h.cp.coe u hu).2)
theorem A27 {x:Bj} (b:CSz x) (a:Gd) (z:a.E.Terms.length<=6) (y:a.F.Terms.length<=6) :
  ∃R e,Py x a=some (R,e)/\(e=0->Fm x/\IP x 17 13010 (cf R) R/\∀u∈R,u.Mono.Factors = []):=by
 obtain ⟨k,E,F,K⟩:=a
 have z:E.Terms.length<=6:=z
 have y:F.Terms.length<=6:=y
 by_cases D:k=1
 .subst D
  obtain ⟨R,v,f,i,_,_,_,L⟩:=A2e b E F K z y
  refine ⟨R,_,i,fun h=>?_⟩
  obtain ⟨c,_,_,_,_,_,_,s,_,h2⟩:=L h
  refine ⟨c,h2.up (Nat.le_refl _) (Nat.le_refl _) fun m=>(h2.val m).symm,h2.noF fun m hm=>?_⟩
  unfold shF
  rw [Xx hm,Apz fun j=>A26 hm _ _,show ((0:Nat):Rat)=0 from rfl]
  grind
 .obtain ⟨v,G,v2⟩:=Agt ⟨k,E,F,K⟩ (by show E.Terms.length+F.Terms.length<=12; omega)
  obtain ⟨f,f1,f2⟩:=Rg x b [] (fun t ht=>by cases ht)
  have Y:=b.nv
  have J:=Abv x E (by omega) (by omega)
  have I:=Abv x F (by omega) (by omega)
  unfold Py
  rw [G,f1,J,I]
  cases v with
  | false=>exact ⟨[],1,rfl,fun h=>absurd h (by decide)⟩
  | true=>
   cases f with
   | false=>exact ⟨[],1,rfl,fun h=>absurd h (by decide)⟩
   | true=>
    cases Z:Dz x.Vars x.Res E with
    | false=>exact ⟨[],6,rfl,fun h=>absurd h (by decide)⟩
    | true=>
     cases hj:Dz x.Vars x.Res F with
     | false=>exact ⟨[],6,rfl,fun h=>absurd h (by decide)⟩
     | true=>
      obtain ⟨X,V,k0,A,hk⟩:=v2.1 rfl
      rcases hk with ⟨h,_⟩ | ⟨q,_⟩
      .exact (D h).elim
      .have q:k=2:=q
       subst q
       have c:=(f2.1 rfl).1
       obtain ⟨P,B,U,p2,S,_⟩:=Agu b c (l:=E) (k:=K) X k0 A Z
       obtain ⟨Q,C,N,q2,M,_⟩:=Agu b c (l:=F) (k:=K) V k0 A hj
       obtain ⟨R,i,g⟩:=Ao7 b c S M (by decide) (by decide)
       refine ⟨R,0,?_,fun _=>⟨c,g.up (by decide) (by decide) fun m=>(g.val m).symm,g.noF fun m hm=>?_⟩⟩
       .simp only [D2,Ad,cond_false,beq_self_eq_true,cond_true]
        unfold Ze
        simp only [U,N,i,Ad,bne_self_eq_false,cond_false]
       .rw [Xx hm,Xx hm,show ((0:Nat):Rat)=0 from rfl]; grind
end Go.Ab
namespace Go.Ab
open Go
theorem Ap0 {P:Ap->Int}:∀(fs:List Ap) (b:List Ak),(∀z∈b,rq z=0)->dq P fs b=0
 | [],_,_=>by simp only [dq]
 | f::fs,[],_=>by simp only [dq]
 | f::fs,z::b,h=>by
  simp only [dq,h z (by simp),Ap0 fs b fun y hy=>h y (by simp [hy])]
  grind
theorem Ag3 {P:Ap->Int} (b:List Ap) {c:List Ak} (g:∀z∈c,rq z=0):∀(fs:List Ap) (ps:List Ak),fs.length=ps.length->dq P (fs++b) (ps++c)=dq P fs ps
 | [],[],_=>by
  rw [List.nil_append,List.nil_append,Ap0 b c g]; simp only [dq]
 | f::fs,p::ps,h=>by
  simp only [List.cons_append,dq,Ag3 b g fs ps (by simpa using h)]
 | [],p::ps,h=>by simp at h
 | f::fs,[],h=>by simp at h
def H5 (fs:List Ap) (g:Ap) (ps:List Ak):Prop:=fs.all B5=true/\B5 g=true/\Ig fs ps=true/\Rt fs g ps
theorem H5.pad {fs c:List Ap} {g:Ap} {ps f:List Ak} (h:H5 fs g ps) (ha:(fs++c).all B5=true) (l:c.length=f.length) (i:∀z∈f,rq z=0):H5 (fs++c) g (ps++f):=by
 obtain ⟨_,h2,h3,k⟩:=h
 unfold Ig at h3
 rw [C2,decide_eq_true_eq] at h3
 have j:∀g,Mx fs g ps->Mx (fs++c) g (ps++f):=fun g h v=>by rw [Ag3 c i fs ps h3.1]; exact h v
 refine ⟨ha,h2,?_,?_⟩
 .unfold Ig
  rw [C2,decide_eq_true_eq,List.length_append,List.length_append,List.all_append,h3.2,Bool.true_and,List.all_eq_true]
  refine ⟨by omega,fun z h=>?_⟩
  rw [i z h]; decide
 .unfold Rt Aby at *
  rw [Ag3 c i fs ps h3.1]
  rcases k with ⟨a,b⟩ | ⟨a,b⟩
  .exact .inl ⟨j _ a,b⟩
  .exact .inr ⟨j _ a,b⟩
theorem H5.len {fs:List Ap} {g:Ap} {ps:List Ak} (h:H5 fs g ps):fs.length=ps.length:=by
 have:=h.2.2.1
 unfold Ig at this
 rw [C2,decide_eq_true_eq] at this
 exact this.1
open Classical in
theorem Xy {fs:List Ap} {g:Ap} {ps:List Ak}:(fs.all B5&&(B5 g&&(Ig fs ps&&decide (Rt fs g ps))))=true↔H5 fs g ps:=by
 unfold H5
 simp only [C2,decide_eq_true_eq]
def My (fs:List Ap) (l:List Ap) (p q:List Ak):Prop :=
 match l with
 | [g]=>H5 fs g p/\q = []
 | [g,b]=>H5 fs g p/\H5 fs b q
 | _=>False
end Go.Ab
namespace Go.Ab
open Go
theorem A28:∀(k:Nat) (i:Br) (a:Int),Dj i<=k->k<1099511627776->∃r,Ma k i a=some r/\True:=by
 intro k
 induction k with
 | zero=>intro i a h; have:=Hb i; omega
 | succ k ih=>
  intro i a h hk
  have f:=Hb i
  have g:=Tu i.Kids
  rw [Ma]
  refine E7 (fun (_,v)=>∃j:Nat,v=j/\j<=i.Kids.length) (fun (_,v)=>i.Kids.length-v.toNat) (fun _=>True) ⟨0,rfl,by omega⟩ ?_ ?_
  .rintro ⟨b,v⟩ ⟨j,rfl,hj⟩
   rcases Nat.lt_or_ge j i.Kids.length with h' | h'
   .have hx:i.Kids[j]? = some i.Kids[j]:=B3 h'
    generalize i.Kids[j]=x at hx
    have hm:=Q9 (Cp hx)
    obtain ⟨y,c,_⟩:=ih x (Ac (a-b)) (by omega) (by omega)
    simp only [Al (by omega:(j:Int)<(i.Kids.length:Int)),cond_true,Cd rfl hx,Ad,c,C7 h' (by omega)]
    cases decide (b>a) with
    | true=>exact .inr ⟨_,rfl,trivial⟩
    | false=>exact .inl ⟨_,rfl,⟨j+1,rfl,by omega⟩,by simp only [Int.toNat_natCast]; omega⟩
   .have:j=i.Kids.length:=by omega
    subst this
    exact .inr ⟨.inr b,by simp,trivial⟩
  .rintro (e | e) _
   .exact ⟨_,rfl,trivial⟩
   .exact ⟨_,rfl,trivial⟩
theorem Ap1 (m:Ba) (h:MSz m):∃b,Kl m=some b:=by
 have q:=h.nf
 have l:=h.na
 unfold Kl
 have g0:∃b,(bif (decide ((m.Factors.length:Int)>(4:Int))) then (some true) else (some (decide ((m.Atoms.length:Int)>(4:Int)))):Option Bool)=some b:=by
  cases decide ((m.Factors.length:Int)>(4:Int)) <;> exact ⟨_,rfl⟩
 obtain ⟨k,g⟩:=g0
 erw [g]
 cases k with
 | true=>exact ⟨_,rfl⟩
 | false=>
  simp only [Ad,cond_false]
  let sz:Bx->Int:=fun f=>(Ma 4000000 f.Index 13).getD 0
  have c:∀f∈m.Factors,Ma 4000000 f.Index 13=some (sz f):=fun f i=>by
   obtain ⟨r,h1,_⟩:=A28 4000000 f.Index 13 (by have:=h.fi f i; omega) (by decide)
   show _=some ((Ma 4000000 f.Index 13).getD 0)
   rw [h1]; rfl
  clear_value sz
  refine ⟨_,Ia m.Factors (fun f=>!decide (sz f>12)) (fun j=>(j:Int)) rfl (by omega) (rt:=m.Atoms.all fun a=>!decide ((a.Lin.Terms.length:Int)>4)) (rf:=false) ?_ ?_⟩
  .intro j x hx h1 h2 h3
   simp only [h1,h2,h3,cond_true,Ad,c x (Cp hx)]
   cases decide (sz x>12) with
   | true=>exact ⟨(fun h=>by cases h),fun _=>⟨_,rfl,rfl⟩⟩
   | false=>exact ⟨(fun _=>rfl),fun h=>by cases h⟩
  .intro h1
   refine ⟨.inr (),by simp only [h1]; rfl,?_⟩
   dsimp only
   refine (Ia m.Atoms (fun a=>!decide ((a.Lin.Terms.length:Int)>4)) (fun j=>(j:Int)) rfl (by omega) (rt:=true) (rf:=false) ?_ ?_).trans (by rw [Kv])
   .intro j x hx h1 h2 h3
    simp only [h1,h2,h3,cond_true,Ad]
    cases decide ((x.Lin.Terms.length:Int)>4) with
    | true=>exact ⟨(fun h=>by cases h),fun _=>⟨_,rfl,rfl⟩⟩
    | false=>exact ⟨(fun _=>rfl),fun h=>by cases h⟩
   .intro h1
    exact ⟨.inr (),by simp only [h1]; rfl,rfl⟩
theorem Ap2 (a:Ak):M6 a=some (decide (a.Num.length<=2)&&decide (a.Den.length<=2)):=by
 unfold M6
 by_cases h1:a.Num.length<=2
 .rw [Al (by omega),cond_true,Al h1]
  by_cases h2:a.Den.length<=2
  .rw [Al (by omega),Al h2]; rfl
  .rw [Ar (by omega),Ar h2]; rfl
 .rw [Ar (by omega),Ar h1]; rfl
theorem RB.of2 {a:Ak} {k:Nat} (h:RB k a) (hk:(decide (a.Num.length<=2)&&decide (a.Den.length<=2))=true):RB 3 a:=by
 rw [C2,decide_eq_true_eq,decide_eq_true_eq] at hk
 exact ⟨h.num,h.den,by omega,by omega⟩
theorem Ap3 (p:List Ah) (n:Int) (g:p.length<=1048576) (hp:∀t∈p,TSz t):∃b,Sj p n=some b/\(b=true->(p.length:Int)<=n/\∀t∈p,RB 3 t.Coef):=by
 unfold Sj
 by_cases h:(p.length:Int)>n
 .rw [Al h]
  exact ⟨false,rfl,fun h=>by cases h⟩
 .rw [Ar h,cond_false]
  let c:Ah->Bool:=fun t=>(Kl t.Mono).getD false
  have f:∀t∈p,Kl t.Mono=some (c t):=fun t ht=>by
   obtain ⟨b,hb⟩:=Ap1 t.Mono (hp t ht).mo
   show _=some ((Kl t.Mono).getD false)
   rw [hb]; rfl
  clear_value c
  refine ⟨p.all fun t=>(decide (t.Coef.Num.length<=2)&&decide (t.Coef.Den.length<=2))&&c t,(Ia p (fun t=>(decide (t.Coef.Num.length<=2)&&decide (t.Coef.Den.length<=2))&&c t) (fun j=>(j:Int)) rfl (by omega) (rt:=true) (rf:=false) ?_ ?_).trans (by rw [Kv]),fun h'=>⟨by omega,fun t ht=>?_⟩⟩
  .intro j x hx h1 h2 h3
   simp only [h1,h2,h3,cond_true,Ad,Ap2,f x (Cp hx)]
   cases (decide (x.Coef.Num.length<=2)&&decide (x.Coef.Den.length<=2)) with
   | false=>exact ⟨(fun h=>by cases h),fun _=>⟨_,rfl,rfl⟩⟩
   | true=>
    cases c x with
    | false=>exact ⟨(fun h=>by cases h),fun _=>⟨_,rfl,rfl⟩⟩
    | true=>exact ⟨(fun _=>rfl),fun h=>by cases h⟩
  .intro h1
   exact ⟨.inr (),by simp only [h1]; rfl,rfl⟩
  .have:=List.all_eq_true.1 h' t ht
   rw [C2] at this
   exact (hp t ht).co.of2 this.1
structure USz (u:C9):Prop where
 ef:u.Axiom.E.Terms.length<=1048576/\u.Axiom.F.Terms.length<=1048576
 co:RB 1048576 u.Coef
 pa:MSz u.Passive
 fi:u.First.length<=1048576/\∀r∈u.First,RB 1048576 r
 se:u.Second.length<=1048576/\∀r∈u.Second,RB 1048576 r
structure USm (u:C9):Prop where
 sz:USz u
 e4:u.Axiom.E.Terms.length<=4
 f4:u.Axiom.F.Terms.length<=4
 co:RB 3 u.Coef
theorem A29 (l:List C9) (n:Int) (y:l.length<=1048576) (hp:∀u∈l,USz u):∃b,U3 l n=some b/\(b=true->(l.length:Int)<=n/\∀u∈l,USm u):=by
 unfold U3
 by_cases h:(l.length:Int)>n
 .rw [Al h]
  exact ⟨false,rfl,fun h=>by cases h⟩
 .rw [Ar h,cond_false]
  let c:C9->Bool:=fun t=>(Kl t.Passive).getD false
  have i:∀t∈l,Kl t.Passive=some (c t):=fun t ht=>by
   obtain ⟨b,hb⟩:=Ap1 t.Passive (hp t ht).pa
   show _=some ((Kl t.Passive).getD false)
   rw [hb]; rfl
  let g:C9->Bool:=fun t=>(Kk t.First 12).getD false
  have q:∀t∈l,Kk t.First 12=some (g t):=fun t ht=>by
   obtain ⟨b,hb⟩:=Apv t.First 12 (hp t ht).fi.1
   show _=some ((Kk t.First 12).getD false)
   rw [hb]; rfl
  let f:C9->Bool:=fun t=>(Kk t.Second 12).getD false
  have k:∀t∈l,Kk t.Second 12=some (f t):=fun t ht=>by
   obtain ⟨b,hb⟩:=Apv t.Second 12 (hp t ht).se.1
   show _=some ((Kk t.Second 12).getD false)
   rw [hb]; rfl
  clear_value c g f
  let P:C9->Bool:=fun u=>!decide ((u.Axiom.E.Terms.length:Int)>4)&&(!decide ((u.Axiom.F.Terms.length:Int)>4)&&((decide (u.Coef.Num.length<=2)&&decide (u.Coef.Den.length<=2))&&(c u&&(g u&&f u))))
  have s:P=fun u=>!decide ((u.Axiom.E.Terms.length:Int)>4)&&(!decide ((u.Axiom.F.Terms.length:Int)>4)&&((decide (u.Coef.Num.length<=2)&&decide (u.Coef.Den.length<=2))&&(c u&&(g u&&f u)))):=rfl
  refine ⟨l.all P,(Ia l P (fun j=>(j:Int)) rfl (by omega) (rt:=true) (rf:=false) ?_ ?_).trans (by rw [Kv]),fun h'=>⟨by omega,fun u hu=>?_⟩⟩
  .intro j x hx h1 h2 h3
   have hm:=Cp hx
   simp only [s,h1,h2,h3,cond_true,Ad,Ap2,i x hm,q x hm,k x hm]
   cases decide ((x.Axiom.E.Terms.length:Int)>4) with
   | true=>exact ⟨(fun h=>by cases h),fun _=>⟨_,rfl,rfl⟩⟩
   | false=>
    cases decide ((x.Axiom.F.Terms.length:Int)>4) with
    | true=>exact ⟨(fun h=>by cases h),fun _=>⟨_,rfl,rfl⟩⟩
    | false=>
     cases (decide (x.Coef.Num.length<=2)&&decide (x.Coef.Den.length<=2)) with
     | false=>exact ⟨(fun h=>by cases h),fun _=>⟨_,rfl,rfl⟩⟩
     | true=>
      cases c x with
      | false=>exact ⟨(fun h=>by cases h),fun _=>⟨_,rfl,rfl⟩⟩
      | true=>
       cases g x with
       | false=>exact ⟨(fun h=>by cases h),fun _=>⟨_,rfl,rfl⟩⟩
       | true=>
        cases f x with
        | false=>exact ⟨(fun h=>by cases h),fun _=>⟨_,rfl,rfl⟩⟩
        | true=>exact ⟨(fun _=>rfl),fun h=>by cases h⟩
  .intro h1
   exact ⟨.inr (),by simp only [h1]; rfl,rfl⟩
  .have:=List.all_eq_true.1 h' u hu
   simp only [s,C2,Bool.not_eq_true',decide_eq_false_iff_not] at this
   obtain ⟨a1,a2,a3,_⟩:=this
   exact ⟨hp u hu,by omega,by omega,(hp u hu).co.of2 (by rw [C2]; exact a3)⟩
end Go.Ab
namespace Go.Ab
open Go
noncomputable def Nw (a:Gd):List Ap:=(Oa a).getD []
theorem Ap4 (a:Gd) (f:a.E.Terms.length+a.F.Terms.length<=12):Oa a=some (Nw a)/\(∀g,Nw a = [g]->a.Kind≠1)/\(∀g c,Nw a = [g,c]->a.Kind=1):=by
 obtain ⟨b,hb,_⟩:=Agt a f
 obtain ⟨r,hr⟩:=Apb a.E a.F f
 have key:∃l,Oa a=some l/\(∀g,l = [g]->a.Kind≠1)/\(∀g c,l = [g,c]->a.Kind=1):=by
  unfold Oa
  rw [Apw a.E (by omega),Apw a.F (by omega),hb,hr]
  cases b with
  | false=>exact ⟨[],rfl,fun _ h=>(by cases h),fun _ _ h=>(by cases h)⟩
  | true=>
   simp only [Ad,D2,cond_false]
   by_cases hk:a.Kind=1
   .rw [Ej hk]
    exact ⟨_,rfl,fun _ h=>(by cases h),fun _ _ _=>hk⟩
   .rw [Cq hk]
    exact ⟨_,rfl,fun _ _=>hk,fun _ _ h=>(by cases h)⟩
 obtain ⟨l,h1,h2⟩:=key
 have e:Nw a=l:=by unfold Nw; rw [h1]; rfl
 rw [e]
 exact ⟨h1,h2⟩
def Mz (fs:List Ap) (u:C9):Prop:=My fs (Nw u.Axiom) u.First u.Second
open Classical in
theorem A3a (fs:List Ap) (u:C9) (hn:fs.length<=5) (h4:∀f∈fs,f.Terms.length<=4) (hu:USm u):Ob fs u=some (decide (Mz fs u)):=by
 have he:=hu.e4
 have hf:=hu.f4
 obtain ⟨l1,_,_⟩:=Ap4 u.Axiom (by omega)
 have hp:=hu.sz.fi
 have hq:=hu.sz.se
 unfold Ob Uz Mz
 rw [l1,Ad]
 generalize Nw u.Axiom=l
 match l with
 | []=>rw [decide_eq_false (fun h:My fs [] u.First u.Second=>h)]; rfl
 | [g]=>
  have i0:Ag [g] 0=some g:=rfl
  rw [Ej (by simp),cond_true,i0,Ad,Abz fs g u.First hn h4 hp.1 hp.2,Ad]
  by_cases hc:H5 fs g u.First
  .rw [Xy.2 hc,cond_true]
   by_cases h0:u.Second = []
   .rw [decide_eq_true (show My fs [g] u.First u.Second from ⟨hc,h0⟩),h0]; rfl
   .rw [decide_eq_false (fun h:My fs [g] u.First u.Second=>h0 h.2),Cq (fun h=>h0 (List.length_eq_zero_iff.1 (by omega)))]; rfl
  .rw [decide_eq_false (fun h:My fs [g] u.First u.Second=>hc h.1)]
   cases h:(fs.all B5&&(B5 g&&(Ig fs u.First&&decide (Rt fs g u.First)))) with
   | true=>exact (hc (Xy.1 h)).elim
   | false=>rfl
 | [g,g']=>
  have i0:Ag [g,g'] 0=some g:=rfl
  have i1:Ag [g,g'] 1=some g':=rfl
  rw [Cq (by simp),cond_false,Ej (by simp),cond_true,i0,i1,Ad,Ad,Abz fs g u.First hn h4 hp.1 hp.2,Abz fs g' u.Second hn h4 hq.1 hq.2,Ad,Ad]
  have e1:(fs.all B5&&(B5 g&&(Ig fs u.First&&decide (Rt fs g u.First))))=decide (H5 fs g u.First):=by rw [Bool.eq_iff_iff,decide_eq_true_eq]; exact Xy
  have e2:(fs.all B5&&(B5 g' && (Ig fs u.Second&&decide (Rt fs g' u.Second))))=decide (H5 fs g' u.Second):=by rw [Bool.eq_iff_iff,decide_eq_true_eq]; exact Xy
  rw [e1,e2]
  by_cases hc:H5 fs g u.First
  .by_cases hd:H5 fs g' u.Second
   .rw [decide_eq_true hc,decide_eq_true hd,decide_eq_true (show My fs [g,g'] u.First u.Second from ⟨hc,hd⟩)]; rfl
   .rw [decide_eq_true hc,decide_eq_false hd,decide_eq_false (fun h:My fs [g,g'] u.First u.Second=>hd h.2)]; rfl
  .rw [decide_eq_false hc,decide_eq_false (fun h:My fs [g,g'] u.First u.Second=>hc h.1)]; rfl
 | g::g' :: g'' :: t=>
  rw [Cq (by simp; omega),cond_false,Cq (by simp; omega),cond_false,decide_eq_false (fun h:My fs (g::g' :: g'' :: t) u.First u.Second=>h)]; rfl
theorem A3b {x:Bj} (f:CSz x) (u:C9) (hu:USm u):∃R e,Na x u=some (R,e)/\(e=0->PX x 136 16001 R):=by
 have B:=hu.e4
 have A:=hu.f4
 have c:RB 3 (cR 1):=(Abi (k:=1) (by rw [Mo]; decide) (by decide)).mono (by decide)
 have h1:rq (cR 1)=1:=by rw [Abl]; rfl
 obtain ⟨b,b1,b2⟩:=Rg x f [⟨cR 1,u.Passive⟩] (fun t ht=>by
  simp only [List.mem_singleton] at ht
  subst ht
  exact ⟨c.mono (by decide),hu.sz.pa⟩)
 obtain ⟨R,e,y,s⟩:=A27 f u.Axiom (by omega) (by omega)
 unfold Na Zg
 rw [T5,Ad,Ad,b1,Ad,y]
 cases b with
 | false=>exact ⟨[],7,rfl,fun h=>absurd h (by decide)⟩
 | true=>
  simp only [D2,cond_false,Ad]
  by_cases h0:e=0
  .rw [Fb h0,cond_false]
   obtain ⟨i,z,g⟩:=s h0
   obtain ⟨_,j⟩:=b2.1 rfl
   have hm:Ek x u.Passive:=⟨(Xa.1 j).2.2 ⟨cR 1,u.Passive⟩ (by simp),hu.sz.pa⟩
   obtain ⟨S,e',q,l⟩:=A24 f i hm (A0m 1) h1 c z g
   rw [q]
   exact ⟨S,e',rfl,fun h=>(l h).px⟩
  .rw [Ev h0,cond_true]
   exact ⟨[],e,rfl,fun h=>(h0 h).elim⟩
noncomputable def Ru (x:Bj) (u:C9):List Ah:=match Na x u with | some r=>r.1 | none=>[]
noncomputable def L0 (x:Bj) (u:C9):Int:=match Na x u with | some r=>r.2 | none=>0
theorem A3c {x:Bj} (b:CSz x) (u:C9) (hu:USm u):Na x u=some (Ru x u,L0 x u)/\(L0 x u=0->PX x 136 16001 (Ru x u)):=by
 obtain ⟨R,e,h1,h2⟩:=A3b b u hu
 have f:Ru x u=R:=by unfold Ru; rw [h1]
 have c:L0 x u=e:=by unfold L0; rw [h1]
 rw [f,c]
 exact ⟨h1,h2⟩
noncomputable def usV (x:Bj):List C9->Ba->Rat
 | [],_=>0
 | u::l,m=>rq u.Coef*cf (Ru x u) m+usV x l m
theorem A3d (x:Bj) (l b:List C9) (m:Ba):usV x (l++b) m=usV x l m+usV x b m:=by
 induction l with
 | nil=>simp only [List.nil_append,usV]; grind
 | cons u l ih=>simp only [List.cons_append,usV,ih]; grind
theorem PX.tsz {x:Bj} {n k:Nat} {p:List Ah} (h:PX x n k p) (hk:k<=1048576):∀t∈p,TSz t:=fun t ht=>⟨(h.rb t ht).mono hk,(h.mo t ht).2⟩
theorem A3e {x:Bj} (k:CSz x) (z:Fm x) {p q:List Ah} (hp:PX x 12 9 p) (hq:PX x 12 9 q) (f:List C9) (hl:f.length<=6) (hu:∀u∈f,USm u) :
  ∃R e,Oc x p q f=some (R,e)/\(e=0↔∀u∈f,L0 x u=0)/\(e=0->PX x 1000 1048576 R/\∀a,cf R a=cf p a-cf q a-usV x f a):=by
 obtain ⟨b,b1,b2⟩:=Rg x k p (hp.tsz (by decide))
 obtain ⟨c,c1,c2⟩:=Rg x k q (hq.tsz (by decide))
 have hb:b=true:=b2.2 ⟨z,(hp.can (by decide) (by decide)).can⟩
 have hc:c=true:=c2.2 ⟨z,(hq.can (by decide) (by decide)).can⟩
 subst hb hc
 obtain ⟨D,d1,d2,d3⟩:=Apy k z hp hq (by decide) (by decide) (by decide) (by decide) (by decide)
 unfold Oc
 rw [b1,c1,d1]
 simp only [Ad,D2,cond_false,bne_self_eq_false]
 obtain ⟨e,J,e2⟩:=Ip (step:=(fun (y,v12)=>
   bif (decide (v12<(f.length:Int))) then (
   (Ag f v12).bind fun l=>
   (Na x l).bind fun i=>
   bif (i.2 != (0:Int)) then (
   some (.inr (.inl ([],i.2)))
   )
   else (
   (P3 x i.1 l.Coef).bind fun g=>
   bif (g.2 != (0:Int)) then (
   some (.inr (.inl ([],g.2)))
   )
   else (
   (Kn x y g.1).bind fun v17=>
   bif (v17.2 != (0:Int)) then (
   some (.inr (.inl ([],v17.2)))
   )
   else (
   some (.inl (v17.1,(Ac (v12+1))))
   )))
   )
   else (
   some (.inr (.inr y))
   ):List Ah×Int->Option ((List Ah×Int)⊕((List Ah×Int)⊕List Ah))))
  (fun s=>∃(j:Nat) (R:List Ah),s=(R,(j:Int))/\j<=f.length/\PX x (24+136*j) (21+16020*j) R/\(∀a,cf R a=cf p a-cf q a-usV x (f.take j) a)/\∀u∈f.take j,L0 x u=0)
  (fun s=>f.length-s.2.toNat)
  (fun e=>(∃A,e = .inl ([],A)/\A≠0/\∃u∈f,L0 x u≠0)\/(∃R,e = .inr R/\PX x 1000 1048576 R/\(∀a,cf R a=cf p a-cf q a-usV x f a)/\∀u∈f,L0 x u=0))
  (by
   rintro _ ⟨j,R,rfl,hj,I,E,B⟩
   dsimp only
   rcases Nat.lt_or_ge j f.length with h | h
   .have hx:f[j]? = some f[j]:=B3 h
    generalize f[j]=u at hx
    have hm:=Cp hx
    obtain ⟨Z,Y⟩:=A3c k u (hu u hm)
    rw [Al (by omega),cond_true,Cd rfl hx,Ad,Z,Ad]
    dsimp only
    by_cases h0:L0 x u=0
    .left
     rw [Fb h0,cond_false]
     obtain ⟨S,N,M,L⟩:=A25 k z (Y h0) (hu u hm).co (by decide) (by decide) (by decide) (by decide)
     obtain ⟨T,t1,t2,t3⟩:=Apy k z I M (by omega) (by omega) (by decide) (by omega) (by decide)
     rw [N,Ad]
     dsimp only
     rw [Fb rfl,cond_false,t1,Ad]
     dsimp only
     rw [Fb rfl,cond_false,C7 h (by omega)]
     refine ⟨_,rfl,⟨j+1,T,rfl,by omega,t2.up (by omega) (by omega),fun a=>?_,fun w hw=>?_⟩,by simp; omega⟩
     .rw [t3,E,L,De hx,A3d]
      simp only [usV]
      grind
     .rw [De hx] at hw
      rcases List.mem_append.1 hw with hw | hw
      .exact B w hw
      .rw [List.mem_singleton] at hw
       subst hw; exact h0
    .right
     rw [Ev h0,cond_true]
     exact ⟨_,rfl,.inl ⟨_,rfl,h0,u,hm,h0⟩⟩
   .right
    have:j=f.length:=by omega
    subst this
    rw [List.take_length] at E B
    exact ⟨_,by rw [Ar (by omega),cond_false],.inr ⟨R,rfl,I.up (by omega) (by omega),E,B⟩⟩)
  (D,0) ⟨0,D,rfl,by omega,d2.up (by omega) (by omega),fun a=>by rw [d3,List.take_zero]; simp only [usV]; grind,fun u hu=>by simp at hu⟩
 rcases e2 with ⟨A,rfl,h0,u,hm,G⟩ | ⟨R,rfl,X,V,U⟩
 .exact ⟨[],A,bnd J rfl,⟨fun h=>(h0 h).elim,fun h=>(G (h u hm)).elim⟩,fun h=>(h0 h).elim⟩
 .exact ⟨R,0,bnd J rfl,⟨fun _=>U,fun _=>rfl⟩,fun _=>⟨X,V⟩⟩
structure PSm (p:List Ah):Prop where
 len:p.length<=12
 rb:∀t∈p,RB 9 t.Coef
 sz:∀t∈p,TSz t
theorem PSm.px {x:Bj} {p:List Ah} (h:PSm p) (hc:H3 x.Data x.Vars x.Res p=true):PX x 12 9 p :=
 have hp:Gl x p:=⟨hc,h.sz⟩
 ⟨hp.cp,hp.mo,h.rb,h.len⟩
structure OkW (x:Bj) (fs:List Ap) (p q:List Ah) (us:List C9):Prop where
 fx:Fm x
 cp:H3 x.Data x.Vars x.Res p=true
 cq:H3 x.Data x.Vars x.Res q=true
 fl:fs.all B5=true
 ju:∀u∈us,Mz fs u/\(u.Axiom.Kind=1\/0<=rq u.Coef)
 pr:∀u∈us,L0 x u=0
 va:∀a,0<=cf p a-cf q a-usV x us a
open Classical in
theorem Ap5 {x:Bj} (hz:CSz x) (fs:List Ap) (hn:fs.length<=5) (h4:∀f∈fs,f.Terms.length<=4) {p q:List Ah} (hp:PSm p) (hq:PSm q) (us:List C9) (hl:us.length<=6) (hu:∀u∈us,USm u) :
  ∃e,Jw x fs p q us=some e/\(e=0↔OkW x fs p q us):=by
 obtain ⟨b,b1,b2⟩:=Rg x hz p hp.sz
 obtain ⟨c,c1,c2⟩:=Rg x hz q hq.sz
 unfold Jw
 rw [b1,c1,(Ag1 fs hn h4).1]
 cases b with
 | false=>exact ⟨1,rfl,⟨fun h=>absurd h (by decide),fun h=>absurd (b2.2 ⟨h.fx,h.cp⟩) (by decide)⟩⟩
 | true=>
  cases c with
  | false=>exact ⟨1,rfl,⟨fun h=>absurd h (by decide),fun h=>absurd (c2.2 ⟨h.fx,h.cq⟩) (by decide)⟩⟩
  | true=>
   cases hfs:fs.all B5 with
   | false=>exact ⟨1,rfl,⟨fun h=>absurd h (by decide),fun h=>absurd h.fl (by rw [hfs]; decide)⟩⟩
   | true=>
    simp only [Ad,D2,cond_false]
    obtain ⟨hf,hcp⟩:=b2.1 rfl
    obtain ⟨_,hcq⟩:=c2.1 rfl
    obtain ⟨R,e,r1,r2,r3⟩:=A3e hz hf (hp.px hcp) (hq.px hcq) us hl hu
    let P:C9->Bool:=fun u=>decide (Mz fs u)&&(decide (u.Axiom.Kind=1)||decide (0<=rq u.Coef))
    have hP:∀u,P u=(decide (Mz fs u)&&(decide (u.Axiom.Kind=1)||decide (0<=rq u.Coef))):=fun _=>rfl
    have hall:us.all P=true↔∀u∈us,Mz fs u/\(u.Axiom.Kind=1\/0<=rq u.Coef):=by
     rw [List.all_eq_true]
     refine forall_congr' fun u=>imp_congr_right fun _=>?_
     rw [hP,C2,Bool.or_eq_true,decide_eq_true_eq,decide_eq_true_eq,decide_eq_true_eq]
    have hfin:∃e',(Oc x p q us).bind (fun v16=>
      bif (v16.2 != (0:Int)) then (some v16.2)
      else (
      (Od v16.1).bind fun v17=>
      bif (!v17) then (some (15:Int)) else (some (0:Int))))=some e'/\(e'=0↔(∀u∈us,L0 x u=0)/\∀a,0<=cf p a-cf q a-usV x us a):=by
     rw [r1,Ad]
     dsimp only
     by_cases h0:e=0
     .obtain ⟨g1,g2⟩:=r3 h0
      have g3:=r2.1 h0
      have hlen:=g1.len
      rw [Fb h0,cond_false,Az2 R g1.rb (by decide) (by omega),Ad]
      have hd:Dst R:=CP.dst g1.cp
      have hnn:=Az4 hd
      cases hcs:(R.all fun t=>decide (0<=rq t.Coef)) with
      | true=>exact ⟨0,rfl,⟨fun _=>⟨g3,fun a=>by rw [<-g2]; exact hnn.1 hcs a⟩,fun _=>rfl⟩⟩
      | false=>exact ⟨15,rfl,⟨fun h=>absurd h (by decide),fun h=>absurd (hnn.2 fun a=>by rw [g2]; exact h.2 a) (by rw [hcs]; decide)⟩⟩
     .rw [Ev h0,cond_true]
      exact ⟨e,rfl,⟨fun h=>(h0 h).elim,fun h=>(h0 (r2.2 h.1)).elim⟩⟩
    obtain ⟨e',f1,f2⟩:=hfin
    have key:=Ia (step:=(fun v10=>
      bif (decide (v10<(us.length:Int))) then (
      (Ag us v10).bind fun v11=>
      (Ob fs v11).bind fun v13=>
      bif (!v13) then (
      some (.inr (.inl 23))
      )
      else (
      bif (v11.Axiom.Kind != (1:Int)) then (
      (F1 v11.Coef).bind fun v14=>
      bif (decide (v14<(0:Int))) then (
      some (.inr (.inl 23))
      )
      else (
      some (.inl (Ac (v10+1)))
      )
      )
      else (
      some (.inl (Ac (v10+1)))
      )))
      else (
      some (.inr (.inr ()))
      ):Int->Option (Int⊕(Int⊕Unit)))) (s0:=0) (J:=fun z=>match z with
       | .inl r15=>some r15
       | .inr _=>(Oc x p q us).bind (fun v16=>
        bif (v16.2 != (0:Int)) then (some v16.2)
        else (
        (Od v16.1).bind fun v17=>
        bif (!v17) then (some (15:Int)) else (some (0:Int))))) us P (fun j=>(j:Int)) rfl (by omega) (rt:=e') (rf:=23) (by
     intro j u hx h1 h2 h3
     have hm:=Cp hx
     rw [h1,cond_true,h2,Ad,A3a fs u hn h4 (hu u hm),Ad,h3,hP]
     cases hj:decide (Mz fs u) with
     | false=>exact ⟨(fun h=>by cases h),fun _=>⟨_,rfl,rfl⟩⟩
     | true=>
      by_cases hk:u.Axiom.Kind=1
      .rw [Fb hk,decide_eq_true hk]
       exact ⟨(fun _=>rfl),fun h=>by cases h⟩
      .rw [Ev hk,decide_eq_false hk,(Mu (hu u hm).co (by decide)).1,Ad]
       by_cases h0:0<=rq u.Coef
       .rw [decide_eq_true h0,Ar (fun h=>by rw [Xw] at h; grind)]
        exact ⟨(fun _=>rfl),fun h=>by cases h⟩
       .rw [decide_eq_false h0,Al ((Xw _).2 (by grind))]
        exact ⟨(fun h=>by cases h),fun _=>⟨_,rfl,rfl⟩⟩) (by
     intro h1
     exact ⟨.inr (),by rw [h1,cond_false],f1⟩)
    refine ⟨_,key,?_⟩
    cases ha:us.all P with
    | true=>
     rw [cond_true,f2]
     exact ⟨fun h=>⟨hf,hcp,hcq,hfs,hall.1 ha,h.1,h.2⟩,fun h=>⟨h.pr,h.va⟩⟩
    | false=>
     rw [cond_false]
     exact ⟨fun h=>absurd h (by decide),fun h=>absurd (hall.2 h.ju) (by rw [ha]; decide)⟩
end Go.Ab
namespace Go.Ab
open Go
def sX:Bj:=⟨[],[⟨1,0,[]⟩],⟨1,0,[]⟩⟩
def sM:Ap:=⟨-1,[⟨0,1⟩]⟩
def sO:Ak:=⟨false,[1],[1]⟩
def sP:List Ah:=[⟨sO,⟨[],[⟨⟨0,[⟨0,1⟩]⟩,1⟩]⟩⟩]
def sQ:List Ah:=[⟨sO,⟨[],[]⟩⟩,⟨sO,⟨[],[⟨sM,1⟩]⟩⟩]
def sU:C9:=⟨⟨1,sM,⟨1,[]⟩,1⟩,sO,⟨[],[]⟩,[sO],[⟨false,[],[]⟩]⟩
theorem Ag4:rq sO=1:=by decide
theorem A3f:RB 1048576 sO:=by
 have h:J3 [1]:=fun x hx=>by simp only [List.mem_singleton] at hx; subst hx; decide
 exact ⟨h,h,by decide,by decide⟩
theorem A3g:M7 [sM] sM [sO]=some true:=by
 rw [Abz [sM] sM [sO] (by decide) (fun f b=>by simp only [List.mem_singleton] at b; subst b; decide) (by decide) (fun p hp=>by simp only [List.mem_singleton] at hp; subst hp; exact A3f)]
 have hm:Ig [sM] [sO]=true:=by
  unfold Ig
  simp only [List.length_singleton,List.all_cons,List.all_nil,Bool.and_true,decide_true,Ag4]
  decide
 rw [Xy.2 ⟨by decide,by decide,hm,.inl ⟨fun v=>by simp only [dq,Ag4]; grind,by simp only [dq,Ag4]; grind⟩⟩]
theorem A3h:Ob [sM] sU=some true:=by
 have h1:Oa sU.Axiom=some [sM,⟨1,[]⟩]:=by kernel_rfl
 have h2:M7 [sM] ⟨1,[]⟩ [⟨false,[],[]⟩]=some true:=by kernel_rfl
 have i0:Ag [sM,(⟨1,[]⟩:Ap)] 0=some sM:=rfl
 have i1:Ag [sM,(⟨1,[]⟩:Ap)] 1=some ⟨1,[]⟩:=rfl
 have c:sU.First = [sO]:=rfl
 have b:sU.Second = [⟨false,[],[]⟩]:=rfl
 unfold Ob Uz
 rw [h1,Ad,Cq (by simp),cond_false,Ej (by simp),cond_true,i0,i1,c,b,Ad,A3g,Ad,cond_true,Ad,h2]; rfl
theorem A3i:U1=some true:=by
 have h0:Zc 1=some sO:=by kernel_rfl
 have h1:Jx sX sP=some true:=by kernel_rfl
 have h2:Jx sX sQ=some true:=by kernel_rfl
 have h3:P0 [sM]=some true:=by kernel_rfl
 have i:Oc sX sP sQ [sU]=some ([],0):=by kernel_rfl
 have h:Od []=some true:=by kernel_rfl
 have g:Jw sX [sM] sP sQ []=some 15:=by kernel_rfl
 have b:Ac (0+1)=1:=by kernel_rfl
 have f:Jw sX [sM] sP sQ [sU]=some 0:=by
  unfold Jw
  rw [h1,h2,h3,i]
  simp only [Ad,D2,cond_false]
  refine bnd (a:=.inr ()) ?_ (by simp only [bne_self_eq_false,cond_false,h,Ad,D2])
  refine (G6 (s':=1) ?_).trans (Dx ?_)
  .have i0:Ag [sU] 0=some sU:=rfl
   have c:sU.Axiom.Kind=1:=rfl
   simp only [List.length_singleton,i0,Ad,A3h,D2,cond_false,c,bne_self_eq_false,b]
   rfl
  .rfl
 unfold U1
 rw [h0,Ad]
 show (Jw sX [sM] sP sQ [sU]).bind _=_
 rw [f,Ad]
 show (Jw sX [sM] sP sQ []).bind _=_
 rw [g]; rfl
theorem A3j (x:Bj) (fs:List Ap) (p q:List Ah) (g:fs.length<=1048576) (ht:∀f∈fs,f.Terms.length<=1048576) (hp:p.length<=1048576/\∀t∈p,TSz t) (hq:q.length<=1048576/\∀t∈q,TSz t) :
  ∃b,U2 x fs p q=some b/\(b=true->(fs.length<=5/\∀f∈fs,f.Terms.length<=4)/\(p.length<=6/\∀t∈p,RB 3 t.Coef)/\(q.length<=6/\∀t∈q,RB 3 t.Coef)):=by
 obtain ⟨a,a1,a2⟩:=A2v fs 5 4 g ht
 obtain ⟨b,b1,b2⟩:=Ap3 p 6 hp.1 hp.2
 obtain ⟨c,l,k⟩:=Ap3 q 6 hq.1 hq.2
 have hk:∃d,U4 x=some d:=by
  unfold U4
  cases decide ((x.Data.length:Int)<=2) <;> exact ⟨_,rfl⟩
 obtain ⟨d,d1⟩:=hk
 unfold U2
 rw [d1,a1,b1,l]
 cases d with
 | false=>exact ⟨false,rfl,fun h=>by cases h⟩
 | true=>
  cases a with
  | false=>exact ⟨false,rfl,fun h=>by cases h⟩
  | true=>
   cases b with
   | false=>exact ⟨false,rfl,fun h=>by cases h⟩
   | true=>
    refine ⟨c,rfl,fun h=>?_⟩
    obtain ⟨y,j⟩:=a2 rfl
    obtain ⟨u,e4⟩:=b2 rfl
    obtain ⟨s,i⟩:=k h
    exact ⟨⟨by omega,fun f g=>by have:=j f g; omega⟩,⟨by omega,e4⟩,⟨by omega,i⟩⟩
theorem Ap6 {p:List Ah} (h:p.length<=6/\∀t∈p,RB 3 t.Coef) (ht:∀t∈p,TSz t):PSm p:=⟨by omega,fun t ht=>(h.2 t ht).mono (by decide),ht⟩
def z0:Ak:=⟨false,[],[]⟩
theorem A3k:rq z0=0:=by decide
theorem A3l:RB 1048576 z0:=⟨(fun _ h=>by cases h),(fun _ h=>by cases h),by simp [z0],by simp [z0]⟩
def Kc (n:Nat) (l:List Ak):List Ak:=l++List.replicate (n-l.length) z0
theorem Ap7 (l:List Ak) (n:Nat) (k:l.length<=1048576) (i:n<=1048576):Si l (n:Int)=some (Kc n l):=by
 unfold Si
 rw [Da (by simp; omega),Ad,List.nil_append]
 obtain ⟨e,g,rfl⟩:=Ip (step:=(fun b=>
   bif (decide (((b.length:Nat):Int)<(n:Int))) then (
   (B7 56 b [(Ak.mk false [] [])]).bind fun f=>
   some (.inl f)
   )
   else (
   some (.inr b)
   ):List Ak->Option (List Ak⊕List Ak)))
  (fun s=>∃j:Nat,s=l++List.replicate j z0/\j<=n-l.length) (fun s=>n-s.length)
  (fun e=>e=Kc n l)
  (by
   rintro _ ⟨j,rfl,hj⟩
   have c:(l++List.replicate j z0).length=l.length+j:=by simp
   by_cases h:l.length+j<n
   .left
    rw [Al (by omega),cond_true,Da (by simp; omega),Ad]
    refine ⟨_,rfl,⟨j+1,?_,by omega⟩,by simp; omega⟩
    rw [List.append_assoc]
    congr 1
    rw [List.replicate_succ',z0]
   .right
    rw [Ar (by omega),cond_false]
    have:j=n-l.length:=by omega
    subst this
    exact ⟨_,rfl,rfl⟩)
  l ⟨0,by simp,by omega⟩
 exact bnd g rfl
def Ih (n:Nat) (u:C9):C9:=⟨u.Axiom,u.Coef,u.Passive,Kc n u.First,if u.Axiom.Kind=1 then Kc n u.Second else u.Second⟩
theorem Ap8 {n:Nat} {l:List Ak} (h:l.length<=1048576/\∀r∈l,RB 1048576 r) (b:n<=1048576):(Kc n l).length<=1048576/\∀r∈Kc n l,RB 1048576 r:=by
 unfold Kc
 refine ⟨by rw [List.length_append,List.length_replicate]; omega,fun r hr=>?_⟩
 rcases List.mem_append.1 hr with hr | hr
 .exact h.2 r hr
 .rw [(List.mem_replicate.1 hr).2]; exact A3l
theorem A3m {n:Nat} {u:C9} (h:USm u) (b:n<=1048576):USm (Ih n u) :=
 ⟨⟨h.sz.ef,h.sz.co,h.sz.pa,Ap8 h.sz.fi b,by
  show (if u.Axiom.Kind=1 then Kc n u.Second else u.Second).length<=1048576/\∀r∈(if u.Axiom.Kind=1 then Kc n u.Second else u.Second),RB 1048576 r
  split
  .exact Ap8 h.sz.se b
  .exact h.sz.se⟩,h.e4,h.f4,h.co⟩
theorem Ag5 {fs b:List Ap} {g:Ap} {ps:List Ak} (h:H5 fs g ps) (ha:(fs++b).all B5=true):H5 (fs++b) g (Kc (fs++b).length ps):=by
 have f:=h.len
 unfold Kc
 refine h.pad ha ?_ fun z c=>by rw [(List.mem_replicate.1 c).2]; exact A3k
 rw [List.length_replicate,List.length_append]; omega
theorem A3n {fs b:List Ap} {u:C9} (hu:USm u) (h:Mz fs u) (ha:(fs++b).all B5=true):Mz (fs++b) (Ih (fs++b).length u):=by
 have k:=hu.e4
 have j:=hu.f4
 obtain ⟨_,f,c⟩:=Ap4 u.Axiom (by omega)
 unfold Mz at *
 show My (fs++b) (Nw u.Axiom) (Kc (fs++b).length u.First) (if u.Axiom.Kind=1 then Kc (fs++b).length u.Second else u.Second)
 generalize Nw u.Axiom=l at *
 match l,h with
 | [g],h=>
  rw [if_neg (f g rfl)]
  exact ⟨Ag5 h.1 ha,h.2⟩
 | [g,i],h=>
  rw [if_pos (c g i rfl)]
  exact ⟨Ag5 h.1 ha,Ag5 h.2 ha⟩
theorem A3o (x:Bj) (n:Nat) (b:List C9) (m:Ba):usV x (b.map (Ih n)) m=usV x b m:=by
 induction b with
 | nil=>rfl
 | cons u b ih=>
  have e:Ru x (Ih n u)=Ru x u:=rfl
  simp only [List.map_cons,usV,ih,e]
  rfl
theorem A3p {α:Type} (A R:List α) (x y:α):(A++x::R).set A.length y=A++y::R:=by
 induction A with
 | nil=>rfl
 | cons a A ih=>simp only [List.cons_append,List.length_cons,List.set_cons_succ,ih]
theorem A3q (fs:List Ap) (b:fs.length<=5) (hb:∀f∈fs,f.Terms.length<=4):Sh fs=some (fs.all B5):=(Ag1 fs b hb).2
theorem A3r (x:Bj) (fs g:List Ap) (p q:List Ah) (i:List C9) (R:CSz x) (hf:fs.length<=1048576) (I:∀f∈fs,f.Terms.length<=1048576) (G:∀f∈g,f.Terms.length<=1048576)
  (X:fs.length+g.length<=1048576) (hp:p.length<=1048576/\∀t∈p,TSz t) (hq:q.length<=1048576/\∀t∈q,TSz t) (hu:i.length<=1048576/\∀u∈i,USz u):Zb x fs g p q i=some true:=by
 obtain ⟨a,a1,a2⟩:=A3j x (fs++g) p q (by simp; omega) (fun f h=>by
  rcases List.mem_append.1 h with h | h
  .exact I f h
  .exact G f h) hp hq
 obtain ⟨b,b1,b2⟩:=A29 i 4 hu.1 hu.2
 unfold Zb
 rw [A3i,Ad,D2,cond_false,Da (by simp; omega),Ad,List.nil_append,Da (by omega),Ad,a1,b1]
 cases a with
 | false=>rfl
 | true=>
  cases b with
  | false=>rfl
  | true=>
   obtain ⟨⟨U,M⟩,Z,e4⟩:=a2 rfl
   obtain ⟨e5,E⟩:=b2 rfl
   simp only [Ad,D2,cond_false]
   rw [A3q _ U M]
   cases s:(fs++g).all B5 with
   | false=>rfl
   | true=>
    simp only [Ad,D2,cond_false]
    have S:(fs++g).length=fs.length+g.length:=List.length_append
    have N:=Ap6 Z hp.2
    have sq:=Ap6 e4 hq.2
    obtain ⟨c,c1,c2⟩:=Ap5 R fs (by omega) (fun f h=>M f (List.mem_append_left _ h)) N sq i (by omega) E
    rw [c1,Ad]
    by_cases h0:c=0
    .rw [Fb h0,cond_false,Da (by simp; omega),Ad,List.nil_append]
     have ok:=c2.1 h0
     obtain ⟨d,d1,d2⟩:=Ap5 R (fs++g) U M N sq (i.map (Ih (fs++g).length)) (by simp; omega) (fun u h=>by
      obtain ⟨w,hw,rfl⟩:=List.mem_map.1 h
      exact A3m (E w hw) (by omega))
     have hd:d=0:=d2.2 ⟨ok.fx,ok.cp,ok.cq,s,fun u h=>by
      obtain ⟨w,hw,rfl⟩:=List.mem_map.1 h
      exact ⟨A3n (E w hw) (ok.ju w hw).1 s,(ok.ju w hw).2⟩,fun u h=>by
      obtain ⟨w,hw,rfl⟩:=List.mem_map.1 h
      exact ok.pr w hw,fun m=>by rw [A3o]; exact ok.va m⟩
     subst hd
     generalize hn:(fs++g).length=n at *
     refine Gu i.length (fun j=>((j:Int),(i.take j).map (Ih n)++i.drop j)) (by simp) ?_ ⟨i.map (Ih n),?_,by rw [d1]; rfl⟩
     .intro j hj
      have hx:i[j]? = some i[j]:=B3 hj
      have l:=List.getElem_mem hj
      generalize i[j]=u at hx l
      have D:=(E u l).sz
      have L:(i.take j).map (Ih n)++i.drop j=(i.take j).map (Ih n)++u::i.drop (j+1):=by rw [Ic hx]
      have k:((i.take j).map (Ih n)).length=j:=by simp; omega
      have J:(i.take (j+1)).map (Ih n)++i.drop (j+1)=(i.take j).map (Ih n)++Ih n u::i.drop (j+1):=by
       rw [De hx,List.map_append,List.append_assoc]; rfl
      generalize (i.take j).map (Ih n)=A at L k J
      generalize i.drop (j+1)=B at L J
      rw [L,J]
      have Y:∀y:C9,Ag (A++y::B) (j:Int)=some y:=fun y=>Cd rfl (by rw [<-k]; exact Abm A B y)
      have V:∀y z:C9,Cg (A++y::B) (j:Int) z=A++z::B:=fun y z=>by
       rw [Fh (n:=j) rfl,<-k,A3p]
      simp only [Al (by omega:(j:Int)<((i.length:Nat):Int)),cond_true,Y,V,Ad,Ap7 u.First n D.fi.1 (by omega),Ap7 u.Second n D.se.1 (by omega),C7 hj (by omega)]
      by_cases hk:u.Axiom.Kind=1
      .rw [Ej hk,cond_true]
       unfold Ih
       rw [if_pos hk]
      .rw [Cq hk,cond_false]
       unfold Ih
       rw [if_neg hk]
     .simp
    .rw [Ev h0,cond_true]
end Go.Ab
namespace Go.Ab
open Go
end Go.Ab
