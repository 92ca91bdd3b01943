/- Plain laws: what the plain functions answer. -/
import Derived.Test.YtpedagkdpokpkaaGreatDoorWcPl4
namespace Go.Ab
open Go
theorem A2t {x:Bj} (g:CSz x) {m:A9} (h:Eh x m):FOk x.Data x.Vars x.Res m.Factors:=by
 have c:∀f∈m.Factors,(tyX x.Vars x.Res f.Var).isSome=true:=fun f b=>by
  have h1:=h.f.fac f b
  unfold E4 at h1
  cases ht:tyX x.Vars x.Res f.Var with
  | none=>rw [ht] at h1; exact absurd (show (1:Int)<=-1 from h1) (by decide)
  | some t=>rfl
 refine ⟨h.f.asc,fun f b=>⟨⟨(h.2.fr f b).2,(h.2.fr f b).1,h.2.fi f b⟩,c f b,h.f.fac f b⟩,h.cmo.nf,fun f b=>?_⟩
 have h1:=c f b
 rw [Amt,decide_eq_true_eq] at h1
 have:=g.nv
 omega
theorem A2u {x:Bj} {m:A9} (hm:Eh x m) {L:List A5} (h:Xm x.Vars x.Res L) (b:Dn x.Data x.Vars x.Res m.Factors+Cd L<=6):Eh x ⟨m.Factors,L⟩:=by
 have h0:=hm.f.fsum0
 obtain ⟨g1,g2⟩:=Ao0 h (by omega)
 have hc:=hm.1
 unfold Hy at hc g1
 rw [C5,C5] at hc g1
 refine ⟨?_,⟨hm.2.nf,g2.na,hm.2.fi,hm.2.fr,g2.al⟩⟩
 unfold Hy
 rw [C5,C5]
 exact ⟨⟨hc.1.1,g1.1.2⟩,decide_eq_true b⟩
theorem IsE.goods {x:Bj} {A:List A5} {B:List Dm} (h:IsE A B) (g:∀a∈A,B8 a.Lin=true/\Dz x.Vars x.Res a.Lin=true):∀b∈B,Xm x.Vars x.Res b.1/\Cd b.1<=(B7 A:Nat):=by
 intro b hb
 obtain ⟨gs,j,c,i,f,rfl⟩:=h
 obtain ⟨h1,h2⟩:=Agm (vars:=x.Vars) (res:=x.Res) f (fun a ha=>g a (c.mem_iff.1 ha)) [([],1)] 0 (fun b hb=>by
  simp only [List.mem_singleton] at hb
  subst hb
  exact ⟨⟨List.Pairwise.nil,fun _ h=>by cases h⟩,by simp [Cd],fun _ h=>by cases h⟩) b hb
 rw [Nq c] at h2
 exact ⟨h1,by omega⟩
noncomputable def Abs (x:Bj) (t:Ah) (q:List Ah):(Int×List (ByteArray×Int)×List (ByteArray×List Bz)×List (ByteArray×Int)×List Ah)->Option ((Int×List (ByteArray×Int)×List (ByteArray×List Bz)×List (ByteArray×Int)×List Ah)⊕((List Ah×Int)⊕(Int×List (ByteArray×Int)×List (ByteArray×List Bz)×List (ByteArray×Int)×List Ah))):=fun (c,j,i,h,g)=>
 bif (decide (c<(q.length:Int))) then (
 (Ag q c).bind fun f=>
 (Gc t.Coef f.Coef).bind fun v127=>
 (Me t.Mono f.Mono).bind fun k=>
 (Nd v127 k j i x.Data x.Vars x.Res.Kind x.Res.Num x.Res.Args).bind fun b=>
 bif (b.2.1 != (0:Int)) then (
 some (.inr (.inl ([],b.2.1)))
 )
 else (
 (H7 b.1 h g).bind fun v130=>
 some (.inl ((Ac (c+1)),b.2.2.1,b.2.2.2,v130.1,v130.2))
 )
 )
 else (
 some (.inr (.inr (c,j,i,h,g)))
 )
theorem A2v {x:Bj} (hz:CSz x) (hf:Fm x) {m:A9} (hm:Eh x m) {M:Ak} (h1:rq M=1) (R:RB 3 M) {f:A9->Rat} {q:List Ah} (hq:IP x 17 13010 f q) (nq:∀u∈q,u.Mono.Factors = []) (hG:∀u∈q,Jk x m+Jk x u.Mono<=6) {b1:List (ByteArray×Int)} (X:Dl x.Data x.Vars x.Res b1) :
  ∃(A:List (ByteArray×Int)) (l:List (ByteArray×List Bz)) (ts L:List Ah),Am (Abs x ⟨M,m⟩ q) (0,b1,[],[],[])=some (.inr ((q.length:Int),A,l,Dp ts,ts))/\Col 3000000 (Eh x) ts/\ts.length<=136/\L.length<=136/\(∀t∈L,∃z:Int,rq t.Coef=(z:Rat)/\Bb z.natAbs<=15480)/\∀a,cf ts a=cf L a:=by
 have G:=hf.ctx hz
 have a6:=hq.len
 obtain ⟨e,Z,A,l,ts,L,rfl,J⟩:=Iy (step:=Abs x ⟨M,m⟩ q)
  (fun s=>∃(j:Nat) (A:List (ByteArray×Int)) (l:List (ByteArray×List Bz)) (ts L:List Ah),s=((j:Int),A,l,Dp ts,ts)/\j<=q.length/\Dl x.Data x.Vars x.Res A/\O6 l/\Col (15475+j*8*15500) (Eh x) ts/\ts.length<=8*j/\L.length<=8*j/\(∀t∈L,∃z:Int,rq t.Coef=(z:Rat)/\Bb z.natAbs<=15480)/\∀a,cf ts a=cf L a)
  (fun s=>q.length-s.1.toNat)
  (fun e=>∃(A:List (ByteArray×Int)) (l:List (ByteArray×List Bz)) (ts L:List Ah),e = .inr ((q.length:Int),A,l,Dp ts,ts)/\Col 3000000 (Eh x) ts/\ts.length<=136/\L.length<=136/\(∀t∈L,∃z:Int,rq t.Coef=(z:Rat)/\Bb z.natAbs<=15480)/\∀a,cf ts a=cf L a)
  (by
   rintro _ ⟨j,A,l,ts,L,rfl,hj,k1,k2,I,k4,k5,k6,k7⟩
   unfold Abs
   dsimp only
   rcases Nat.lt_or_ge j q.length with h | h
   .left
    have hx:q[j]? = some q[j]:=B2 h
    generalize q[j]=u at hx
    have g:=Cp hx
    have hu:=hq.mo u g
    obtain ⟨z,z1,z2⟩:=hq.int u g
    have N:=Xo (hq.cp.coe u g).1 z1 z2
    obtain ⟨c,m1,m2,m3,m4⟩:=Rb R N (by decide) (by decide)
    have V:rq c≠0:=by
     rw [m4,h1]
     have:=(hq.cp.coe u g).2
     grind
    have E:=hG u g
    have am:=hm.f.as
    have au:=hu.f.as
    have f0:=hm.f.fsum0
    have f1:=hu.f.fsum0
    have a8:B7 (m.Atoms++u.Mono.Atoms)=B7 m.Atoms+B7 u.Mono.Atoms:=Lw _ _
    unfold Jk at E
    have a1:B7 (m.Atoms++u.Mono.Atoms)<=6:=by omega
    have k:∀a∈m.Atoms++u.Mono.Atoms,1<=a.Deg/\B8 a.Lin=true/\a.Lin.Terms.length≠0/\Dz x.Vars x.Res a.Lin=true:=fun a ha=>by
     rcases List.mem_append.1 ha with h | h
     .exact hm.f.atm a h
     .exact hu.f.atm a h
    have hA:Atk (m.Atoms++u.Mono.Atoms):=⟨fun a ha=>by have:=(k a ha).1; omega,fun a ha=>(k a ha).2.1,by omega,by rw [List.length_append]; omega⟩
    have U:Me m u.Mono=some ⟨m.Factors,m.Atoms++u.Mono.Atoms⟩:=by
     have n1:=hm.cmo.nf
     rw [Abi _ _ (by rw [nq u g]; simp; omega) (by omega),nq u g,List.append_nil]
    obtain ⟨out,B,d1,d2,Z,J,Y,e4,e5,e6,_⟩:=A1h G m2 (by decide) V (A2t hz hm) hA k1 k2
    have a7:out.length<=8:=by
     rw [Y.len]
     exact Nat.le_trans (J.cnt hm.f.srt hu.f.srt) (Nat.le_trans (Nat.pow_le_pow_right (by decide) (by omega:_<=3)) (by decide))
    have D:=J.goods (x:=x) fun a ha=>⟨(k a ha).2.1,(k a ha).2.2.2⟩
    have S:∀w∈out,RB 15470 w.Coef/\Eh x w.Mono:=fun w hw=>by
     obtain ⟨i,hi⟩:=List.getElem?_of_mem hw
     obtain ⟨b,b1,b2,b3,b4⟩:=Y.get hi
     obtain ⟨g1,g2⟩:=D b (Cp b1)
     refine ⟨b4.mono (by decide),?_⟩
     rw [b2]
     exact A2u hm g1 (by omega)
    obtain ⟨v,v1,v2,v3,v4⟩:=Tx (P:=Eh x) (fun m h=>h.cmo) out ts I S (by omega) (by omega) (by omega)
    refine ⟨(((j+1:Nat):Int),d1,d2,Dp v,v),?_,⟨j+1,d1,d2,v,L++out,rfl,by omega,e5,e6,⟨v2.dst,fun t ht=>(v2.tb t ht).mono (by omega),v2.mo⟩,by omega,by rw [List.length_append]; omega,fun t ht=>?_,fun a=>?_⟩,by simp; omega⟩
    .rw [Al (by omega),cond_true,Cf rfl hx,Ad,m1,Ad,U,Ad,Z,Ad]
     dsimp only
     rw [E8 rfl,cond_false,v1,Ad,C7 h (by omega)]
    .rcases List.mem_append.1 ht with ht | ht
     .exact k6 t ht
     .obtain ⟨y,y1,y2⟩:=Y.listI (z:=z) (by rw [m4,h1,z1]; grind) t ht
      exact ⟨y,y1,by omega⟩
    .rw [v4,k7,Rg]
   .right
    have:j=q.length:=by omega
    subst this
    exact ⟨_,by rw [Aq (by omega),cond_false],A,l,ts,L,rfl,⟨I.dst,fun t ht=>(I.tb t ht).mono (by omega),I.mo⟩,by omega,by omega,k6,k7⟩)
  (0,b1,[],[],[]) ⟨0,b1,[],[],[],rfl,by omega,X,fun p hp=>(by cases hp),Col.nil _ _,by simp,by simp,fun t ht=>(by cases ht),fun a=>rfl⟩
 exact ⟨A,l,ts,L,Z,J⟩
theorem A2w {x:Bj} {m:A9} (hm:Eh x m) {b:Ak} (hc:Hb b) (h1:rq b=1) (c:RB 3 b):Gl x [⟨b,m⟩] :=
 Gl.of ⟨List.pairwise_singleton _ _,fun t ht=>by simp only [List.mem_singleton] at ht; subst ht; exact ⟨hc,by show rq b≠0; rw [h1]; decide⟩⟩
  (fun t ht=>by simp only [List.mem_singleton] at ht; subst ht; exact hm) (fun t ht=>by simp only [List.mem_singleton] at ht; subst ht; exact c.mono (by decide)) (by simp)
theorem A2x {x:Bj} (J:CSz x) (N:Fm x) {m:A9} (hm:Eh x m) {b:Ak} (hc:Hb b) (h1:rq b=1) (y:RB 3 b) {f:A9->Rat} {q:List Ah} (hq:IP x 17 13010 f q) (nq:∀u∈q,u.Mono.Factors = []) :
  ∃R e,L9 x [⟨b,m⟩] q=some (R,e)/\(e=0->IP x 136 16000 (cf R) R):=by
 have k:=N.ctx J
 have a1:=hq.len
 have hp:=A2w hm hc h1 y
 have B:=hq.can (by decide) (by decide)
 obtain ⟨b',hb,D⟩:=Af9 J (ps:=[[⟨b,m⟩],q]) (fun r A=>by
  simp only [List.mem_cons,List.not_mem_nil,or_false] at A
  rcases A with rfl | rfl
  .exact hp.sz
  .exact B.sz) (by simp) ⟨N,fun r A=>by
  simp only [List.mem_cons,List.not_mem_nil,or_false] at A
  rcases A with rfl | rfl
  .exact hp.can
  .exact B.can⟩
 have Z:Ac (0+1)=1:=by rw [Ac,Bw] <;> omega
 have it:Ag [(⟨b,m⟩:Ah)] 0=some ⟨b,m⟩:=rfl
 unfold L9
 rw [hb]
 simp only [Ad,D5,cond_false,Ij]
 rw [Al (by simp),cond_true]
 have fin:∀c:List (ByteArray×Int),Dl x.Data x.Vars x.Res c->(∀u∈q,Jk x m+Jk x u.Mono<=6)->∃j i ts R,Am (Abs x ⟨b,m⟩ q) (0,c,[],[],[])=some (.inr ((q.length:Int),j,i,Dp ts,ts))/\Ik (Dp ts) ts=some (R,0)/\IP x 136 16000 (cf R) R:=by
  intro c S E
  obtain ⟨j,i,ts,L,s,l2,l3,l4,l5,l6⟩:=A2v J N hm h1 y hq nq E S
  have hint:∀a,∃z:Int,cf ts a=(z:Rat)/\Bb z.natAbs<=16000:=fun a=>by
   obtain ⟨z,I,z2⟩:=Ago a L l5
   exact ⟨z,by rw [l6]; exact I,by omega⟩
  obtain ⟨R,l,g⟩:=Agp (x:=x) l2 (by decide) (by omega) fun a=>⟨(hint a).choose,(hint a).choose_spec.1⟩
  refine ⟨j,i,ts,R,s,l,g.cp,fun _=>rfl,g.mo,by have:=g.len; omega,fun w hw=>?_⟩
  obtain ⟨z,I,z2⟩:=hint w.Mono
  exact ⟨z,by rw [<-Mt g.cp hw,g.val,I],z2⟩
 by_cases M:q.length=0
 .have:q = []:=List.length_eq_zero_iff.1 M
  subst this
  obtain ⟨j,i,ts,R,s,l,g⟩:=fin b' D fun u hu=>by cases hu
  refine ⟨R,0,?_,fun _=>g⟩
  rw [Aq (by simp),cond_false]
  simp only [Ad,cond_false]
  refine bnd (a:=.inr (j,i,Dp ts,ts)) ?_ (by simp only [l,Ad])
  refine (G6 (s':=(1,j,i,Dp ts,ts)) ?_).trans (Dw ?_)
  .simp only [it,Ad]
   rw [Al (by simp),cond_true]
   exact bnd s (by simp only [Z])
  .rfl
 .obtain ⟨G,c,g1,g2,g3,g4,g5⟩:=Apw [] k D [⟨b,m⟩] (by simp) (fun u hu=>by simp only [List.mem_singleton] at hu; subst hu; exact hm)
  obtain ⟨Y,c',X,V,a7,a6,U⟩:=Apw [] k g2 q (by omega) hq.mo
  have wG:Ac (G+Y)=G+Y:=by rw [Ac,Bw] <;> omega
  rw [Al (by omega),cond_true,g1,Ad]
  dsimp only
  rw [X,Ad]
  dsimp only
  rw [wG,Ad]
  by_cases E:G+Y>6
  .rw [Al E]
   exact ⟨[],13,rfl,fun h=>absurd h (by decide)⟩
  .rw [Aq E]
   simp only [cond_false,Ad]
   obtain ⟨j,i,ts,R,s,l,g⟩:=fin c' V fun u hu=>by
    have h1:=g5 ⟨b,m⟩ (by simp)
    have h2:=U u hu
    have h1:Jk x m<=G:=h1
    omega
   refine ⟨R,0,?_,fun _=>g⟩
   refine bnd (a:=.inr (j,i,Dp ts,ts)) ?_ (by simp only [l,Ad])
   refine (G6 (s':=(1,j,i,Dp ts,ts)) ?_).trans (Dw ?_)
   .simp only [it,Ad]
    rw [Al (by simp),cond_true]
    exact bnd s (by simp only [Z])
   .rfl
end Go.Ab
namespace Go.Ab
open Go
structure PX (x:Bj) (n k:Nat) (R:List Ah):Prop where
 cp:CP R
 mo:∀t∈R,Eh x t.Mono
 rb:∀t∈R,RB k t.Coef
 len:R.length<=n
theorem PX.can {x:Bj} {n k:Nat} {R:List Ah} (h:PX x n k R) (b:n<=1000) (hk:k<=1048576):Gl x R :=
 Gl.of h.cp h.mo (fun t ht=>(h.rb t ht).mono hk) (Nat.le_trans h.len b)
theorem PX.up {x:Bj} {n b k c:Nat} {R:List Ah} (h:PX x n k R) (f:n<=b) (hk:k<=c):PX x b c R:=⟨h.cp,h.mo,fun t ht=>(h.rb t ht).mono hk,Nat.le_trans h.len f⟩
theorem IP.px {x:Bj} {n L:Nat} {f:A9->Rat} {R:List Ah} (h:IP x n L f R):PX x n (L+1) R:=⟨h.cp,h.mo,fun t ht=>by
 obtain ⟨z,b,z2⟩:=h.int t ht
 exact Xo (h.cp.coe t ht).1 b z2,h.len⟩
theorem Agz {p:List Ah} {k:Nat} (hc:CP p) (h:∀t∈p,RB k t.Coef) (hk:3<=k) (m:A9):∃a,RB k a/\rq a=cf p m:=by
 by_cases hm:∃t∈p,C6 t.Mono m=0
 .obtain ⟨t,ht,e⟩:=hm
  exact ⟨t.Coef,h t ht,by rw [<-Mt hc ht,Jg.1 e]⟩
 .obtain ⟨y,g,c,f,b⟩:=Agb 0 (by omega) (by omega)
  exact ⟨y,c.mono hk,by rw [b,Aa1 fun t ht e=>hm ⟨t,ht,e⟩]; rfl⟩
theorem Apx {x:Bj} (h:CSz x) (u:Fm x) {n m k l:Nat} {p q:List Ah} (hp:PX x n k p) (hq:PX x m l q) (D:n+m<=1000) (h3:3<=k) (y:3<=l) (hk:k<=1048576) (s:l<=1048576) :
  ∃R,Kj x p q=some (R,0)/\PX x (n+m) (k+l+3) R/\∀a,cf R a=cf p a-cf q a:=by
 have j:=hp.len
 have i:=hq.len
 obtain ⟨R,g,f⟩:=Aoe h u (hp.can (by omega) hk) (hq.can (by omega) s) (by omega)
 refine ⟨R,g,⟨f.cp,fun t ht=>(f.tb t ht).1,fun t ht=>?_,by have:=f.len; omega⟩,f.val⟩
 obtain ⟨a,a1,a2⟩:=Agz hp.cp hp.rb h3 t.Mono
 obtain ⟨b,b1,b2⟩:=Agz hq.cp hq.rb y t.Mono
 obtain ⟨c,E,B,A,z⟩:=Aof a1 b1 (by omega) (by omega)
 have e:t.Coef=c:=Aa0 (f.cp.coe t ht).1 A (by rw [<-Mt f.cp ht,f.val,z,a2,b2])
 rw [e]; exact B
theorem A2y {x:Bj} (h:CSz x) (l:Fm x) {n k j:Nat} {p:List Ah} {r:Ak} (hp:PX x n k p) (f:RB j r) (y:n<=1000) (h3:3<=k) (hk:k<=1048576) (hj:j<=1048576) :
  ∃R,Py x p r=some (R,0)/\PX x n (j+k+2) R/\∀a,cf R a=rq r*cf p a:=by
 have i:=hp.len
 obtain ⟨R,g,b⟩:=A0c h l (hp.can (by omega) hk) (f.mono hj) (by omega)
 refine ⟨R,g,⟨b.cp,fun t ht=>(b.tb t ht).1,fun t ht=>?_,by have:=b.len; omega⟩,b.val⟩
 obtain ⟨a,a1,a2⟩:=Agz hp.cp hp.rb h3 t.Mono
 obtain ⟨c,z,u,s,q⟩:=Rb f a1 (by omega) (by omega)
 have e:t.Coef=c:=Aa0 (b.cp.coe t ht).1 s (by rw [<-Mt b.cp ht,b.val,q,a2])
 rw [e]; exact u
theorem Xr {m:A9} (hm:m.Factors≠[]):∀B:List Dm,ec B m=0
 | []=>rfl
 | b::B=>by
  have h:C6 ⟨[],b.1⟩ m≠0:=fun h=>hm (by rw [<-Jg.1 h])
  simp only [ec,if_neg h,Xr hm B]
theorem A2z {m:A9} (hm:m.Factors≠[]) (p q:List Ah):Ro p q m=0:=by
 cases p with
 | nil=>rfl
 | cons t p=>
  cases q with
  | nil=>rfl
  | cons u q=>
   simp only [Ro,Xr hm]
   show _*(((0:Nat):Rat))=0
   rw [show (((0:Nat):Rat))=0 from rfl]; grind
theorem Apy {f:Nat->Rat} (h:∀j,f j=0):∀n,sq n f=0
 | 0=>rfl
 | n+1=>by simp only [sq,Apy h n,h]; grind
theorem IP.noF {x:Bj} {n L:Nat} {f:A9->Rat} {R:List Ah} (h:IP x n L f R) (b:∀m:A9,m.Factors≠[]->f m=0):∀u∈R,u.Mono.Factors = []:=fun u hu=>by
 rcases Classical.em (u.Mono.Factors = []) with e | e
 .exact e
 .exact absurd (b _ e) (by rw [<-h.val,Mt h.cp hu]; exact (h.cp.coe u hu).2)
theorem A20 {x:Bj} (b:CSz x) (a:Gd) (z:a.E.Terms.length<=6) (y:a.F.Terms.length<=6) :
  ∃R e,Pu x a=some (R,e)/\(e=0->Fm x/\IP x 17 13010 (cf R) R/\∀u∈R,u.Mono.Factors = []):=by
 obtain ⟨k,E,F,K⟩:=a
 have z:E.Terms.length<=6:=z
 have y:F.Terms.length<=6:=y
 by_cases D:k=1
 .subst D
  obtain ⟨R,v,f,i,_,_,_,L⟩:=A17 b E F K z y
  refine ⟨R,_,i,fun h=>?_⟩
  obtain ⟨c,_,_,_,_,_,_,s,_,h2⟩:=L h
  refine ⟨c,h2.up (Nat.le_refl _) (Nat.le_refl _) fun m=>(h2.val m).symm,h2.noF fun m hm=>?_⟩
  unfold shF
  rw [Xr hm,Apy fun j=>A2z hm _ _,show ((0:Nat):Rat)=0 from rfl]
  grind
 .obtain ⟨v,G,v2⟩:=Agq ⟨k,E,F,K⟩ (by show E.Terms.length+F.Terms.length<=12; omega)
  obtain ⟨f,f1,f2⟩:=Ra x b [] (fun t ht=>by cases ht)
  have Y:=b.nv
  have J:=Abo x E (by omega) (by omega)
  have I:=Abo x F (by omega) (by omega)
  unfold Pu
  rw [G,f1,J,I]
  cases v with
  | false=>exact ⟨[],1,rfl,fun h=>absurd h (by decide)⟩
  | true=>
   cases f with
   | false=>exact ⟨[],1,rfl,fun h=>absurd h (by decide)⟩
   | true=>
    cases Z:Dz x.Vars x.Res E with
    | false=>exact ⟨[],6,rfl,fun h=>absurd h (by decide)⟩
    | true=>
     cases hj:Dz x.Vars x.Res F with
     | false=>exact ⟨[],6,rfl,fun h=>absurd h (by decide)⟩
     | true=>
      obtain ⟨X,V,k0,A,hk⟩:=v2.1 rfl
      rcases hk with ⟨h,_⟩ | ⟨q,_⟩
      .exact (D h).elim
      .have q:k=2:=q
       subst q
       have c:=(f2.1 rfl).1
       obtain ⟨P,B,U,p2,S,_⟩:=Agr b c (l:=E) (k:=K) X k0 A Z
       obtain ⟨Q,C,N,q2,M,_⟩:=Agr b c (l:=F) (k:=K) V k0 A hj
       obtain ⟨R,i,g⟩:=Ao5 b c S M (by decide) (by decide)
       refine ⟨R,0,?_,fun _=>⟨c,g.up (by decide) (by decide) fun m=>(g.val m).symm,g.noF fun m hm=>?_⟩⟩
       .simp only [D5,Ad,cond_false,beq_self_eq_true,cond_true]
        unfold Y8
        simp only [U,N,i,Ad,bne_self_eq_false,cond_false]
       .rw [Xr hm,Xr hm,show ((0:Nat):Rat)=0 from rfl]; grind
end Go.Ab
namespace Go.Ab
open Go
def Kz (fs:List Ar) (g:Ar) (ps:List Ak):Prop:=fs.all B8=true/\B8 g=true/\Jj fs ps=true/\T6 fs g ps
theorem Kz.len {fs:List Ar} {g:Ar} {ps:List Ak} (h:Kz fs g ps):fs.length=ps.length:=by
 have:=h.2.2.1
 unfold Jj at this
 rw [C5,decide_eq_true_eq] at this
 exact this.1
open Classical in
theorem Xs {fs:List Ar} {g:Ar} {ps:List Ak}:(fs.all B8&&(B8 g&&(Jj fs ps&&decide (T6 fs g ps))))=true↔Kz fs g ps:=by
 unfold Kz
 simp only [C5,decide_eq_true_eq]
def Nr (fs:List Ar) (l:List Ar) (p q:List Ak):Prop :=
 match l with
 | [g]=>Kz fs g p/\q = []
 | [g,b]=>Kz fs g p/\Kz fs b q
 | _=>False
end Go.Ab
namespace Go.Ab
open Go
theorem A21:∀(k:Nat) (i:Br) (a:Int),Di i<=k->k<1099511627776->∃r,L8 k i a=some r/\True:=by
 intro k
 induction k with
 | zero=>intro i a h; have:=Ha i; omega
 | succ k ih=>
  intro i a h hk
  have f:=Ha i
  have g:=Tn i.Kids
  rw [L8]
  refine E7 (fun (_,v)=>∃j:Nat,v=j/\j<=i.Kids.length) (fun (_,v)=>i.Kids.length-v.toNat) (fun _=>True) ⟨0,rfl,by omega⟩ ?_ ?_
  .rintro ⟨b,v⟩ ⟨j,rfl,hj⟩
   rcases Nat.lt_or_ge j i.Kids.length with h' | h'
   .have hx:i.Kids[j]? = some i.Kids[j]:=B2 h'
    generalize i.Kids[j]=x at hx
    have hm:=Q5 (Cp hx)
    obtain ⟨y,c,_⟩:=ih x (Ac (a-b)) (by omega) (by omega)
    simp only [Al (by omega:(j:Int)<(i.Kids.length:Int)),cond_true,Cf rfl hx,Ad,c,C7 h' (by omega)]
    cases decide (b>a) with
    | true=>exact .inr ⟨_,rfl,trivial⟩
    | false=>exact .inl ⟨_,rfl,⟨j+1,rfl,by omega⟩,by simp only [Int.toNat_natCast]; omega⟩
   .have:j=i.Kids.length:=by omega
    subst this
    exact .inr ⟨.inr b,by simp,trivial⟩
  .rintro (e | e) _
   .exact ⟨_,rfl,trivial⟩
   .exact ⟨_,rfl,trivial⟩
theorem Apz (m:A9) (h:MSz m):∃b,Kh m=some b:=by
 have q:=h.nf
 have l:=h.na
 unfold Kh
 have g0:∃b,(bif (decide ((m.Factors.length:Int)>(4:Int))) then (some true) else (some (decide ((m.Atoms.length:Int)>(4:Int)))):Option Bool)=some b:=by
  cases decide ((m.Factors.length:Int)>(4:Int)) <;> exact ⟨_,rfl⟩
 obtain ⟨k,g⟩:=g0
 erw [g]
 cases k with
 | true=>exact ⟨_,rfl⟩
 | false=>
  simp only [Ad,cond_false]
  let sz:Bx->Int:=fun f=>(L8 4000000 f.Index 13).getD 0
  have c:∀f∈m.Factors,L8 4000000 f.Index 13=some (sz f):=fun f i=>by
   obtain ⟨r,h1,_⟩:=A21 4000000 f.Index 13 (by have:=h.fi f i; omega) (by decide)
   show _=some ((L8 4000000 f.Index 13).getD 0)
   rw [h1]; rfl
  clear_value sz
  refine ⟨_,H8 m.Factors (fun f=>!decide (sz f>12)) (fun j=>(j:Int)) rfl (by omega) (rt:=m.Atoms.all fun a=>!decide ((a.Lin.Terms.length:Int)>4)) (rf:=false) ?_ ?_⟩
  .intro j x hx h1 h2 h3
   simp only [h1,h2,h3,cond_true,Ad,c x (Cp hx)]
   cases decide (sz x>12) with
   | true=>exact ⟨(fun h=>by cases h),fun _=>⟨_,rfl,rfl⟩⟩
   | false=>exact ⟨(fun _=>rfl),fun h=>by cases h⟩
  .intro h1
   refine ⟨.inr (),by simp only [h1]; rfl,?_⟩
   dsimp only
   refine (H8 m.Atoms (fun a=>!decide ((a.Lin.Terms.length:Int)>4)) (fun j=>(j:Int)) rfl (by omega) (rt:=true) (rf:=false) ?_ ?_).trans (by rw [Kr])
   .intro j x hx h1 h2 h3
    simp only [h1,h2,h3,cond_true,Ad]
    cases decide ((x.Lin.Terms.length:Int)>4) with
    | true=>exact ⟨(fun h=>by cases h),fun _=>⟨_,rfl,rfl⟩⟩
    | false=>exact ⟨(fun _=>rfl),fun h=>by cases h⟩
   .intro h1
    exact ⟨.inr (),by simp only [h1]; rfl,rfl⟩
theorem Ap0 (a:Ak):M1 a=some (decide (a.Num.length<=2)&&decide (a.Den.length<=2)):=by
 unfold M1
 by_cases h1:a.Num.length<=2
 .rw [Al (by omega),cond_true,Al h1]
  by_cases h2:a.Den.length<=2
  .rw [Al (by omega),Al h2]; rfl
  .rw [Aq (by omega),Aq h2]; rfl
 .rw [Aq (by omega),Aq h1]; rfl
theorem RB.of2 {a:Ak} {k:Nat} (h:RB k a) (hk:(decide (a.Num.length<=2)&&decide (a.Den.length<=2))=true):RB 3 a:=by
 rw [C5,decide_eq_true_eq,decide_eq_true_eq] at hk
 exact ⟨h.num,h.den,by omega,by omega⟩
theorem Ag0 (p:List Ah) (n:Int) (g:p.length<=1048576) (hp:∀t∈p,TSz t):∃b,Pt p n=some b/\(b=true->(p.length:Int)<=n/\∀t∈p,RB 3 t.Coef):=by
 unfold Pt
 by_cases h:(p.length:Int)>n
 .rw [Al h]
  exact ⟨false,rfl,fun h=>by cases h⟩
 .rw [Aq h,cond_false]
  let c:Ah->Bool:=fun t=>(Kh t.Mono).getD false
  have f:∀t∈p,Kh t.Mono=some (c t):=fun t ht=>by
   obtain ⟨b,hb⟩:=Apz t.Mono (hp t ht).mo
   show _=some ((Kh t.Mono).getD false)
   rw [hb]; rfl
  clear_value c
  refine ⟨p.all fun t=>(decide (t.Coef.Num.length<=2)&&decide (t.Coef.Den.length<=2))&&c t,(H8 p (fun t=>(decide (t.Coef.Num.length<=2)&&decide (t.Coef.Den.length<=2))&&c t) (fun j=>(j:Int)) rfl (by omega) (rt:=true) (rf:=false) ?_ ?_).trans (by rw [Kr]),fun h'=>⟨by omega,fun t ht=>?_⟩⟩
  .intro j x hx h1 h2 h3
   simp only [h1,h2,h3,cond_true,Ad,Ap0,f x (Cp hx)]
   cases (decide (x.Coef.Num.length<=2)&&decide (x.Coef.Den.length<=2)) with
   | false=>exact ⟨(fun h=>by cases h),fun _=>⟨_,rfl,rfl⟩⟩
   | true=>
    cases c x with
    | false=>exact ⟨(fun h=>by cases h),fun _=>⟨_,rfl,rfl⟩⟩
    | true=>exact ⟨(fun _=>rfl),fun h=>by cases h⟩
  .intro h1
   exact ⟨.inr (),by simp only [h1]; rfl,rfl⟩
  .have:=List.all_eq_true.1 h' t ht
   rw [C5] at this
   exact (hp t ht).co.of2 this.1
structure USz (u:Dy):Prop where
 ef:u.Axiom.E.Terms.length<=1048576/\u.Axiom.F.Terms.length<=1048576
 co:RB 1048576 u.Coef
 pa:MSz u.Passive
 fi:u.First.length<=1048576/\∀r∈u.First,RB 1048576 r
 se:u.Second.length<=1048576/\∀r∈u.Second,RB 1048576 r
structure USm (u:Dy):Prop where
 sz:USz u
 e4:u.Axiom.E.Terms.length<=4
 f4:u.Axiom.F.Terms.length<=4
 co:RB 3 u.Coef
theorem Ap1 (l:List Dy) (n:Int) (y:l.length<=1048576) (hp:∀u∈l,USz u):∃b,Sd l n=some b/\(b=true->(l.length:Int)<=n/\∀u∈l,USm u):=by
 unfold Sd
 by_cases h:(l.length:Int)>n
 .rw [Al h]
  exact ⟨false,rfl,fun h=>by cases h⟩
 .rw [Aq h,cond_false]
  let c:Dy->Bool:=fun t=>(Kh t.Passive).getD false
  have i:∀t∈l,Kh t.Passive=some (c t):=fun t ht=>by
   obtain ⟨b,hb⟩:=Apz t.Passive (hp t ht).pa
   show _=some ((Kh t.Passive).getD false)
   rw [hb]; rfl
  let g:Dy->Bool:=fun t=>(Kg t.First 12).getD false
  have q:∀t∈l,Kg t.First 12=some (g t):=fun t ht=>by
   obtain ⟨b,hb⟩:=Apu t.First 12 (hp t ht).fi.1
   show _=some ((Kg t.First 12).getD false)
   rw [hb]; rfl
  let f:Dy->Bool:=fun t=>(Kg t.Second 12).getD false
  have k:∀t∈l,Kg t.Second 12=some (f t):=fun t ht=>by
   obtain ⟨b,hb⟩:=Apu t.Second 12 (hp t ht).se.1
   show _=some ((Kg t.Second 12).getD false)
   rw [hb]; rfl
  clear_value c g f
  let P:Dy->Bool:=fun u=>!decide ((u.Axiom.E.Terms.length:Int)>4)&&(!decide ((u.Axiom.F.Terms.length:Int)>4)&&((decide (u.Coef.Num.length<=2)&&decide (u.Coef.Den.length<=2))&&(c u&&(g u&&f u))))
  have s:P=fun u=>!decide ((u.Axiom.E.Terms.length:Int)>4)&&(!decide ((u.Axiom.F.Terms.length:Int)>4)&&((decide (u.Coef.Num.length<=2)&&decide (u.Coef.Den.length<=2))&&(c u&&(g u&&f u)))):=rfl
  refine ⟨l.all P,(H8 l P (fun j=>(j:Int)) rfl (by omega) (rt:=true) (rf:=false) ?_ ?_).trans (by rw [Kr]),fun h'=>⟨by omega,fun u hu=>?_⟩⟩
  .intro j x hx h1 h2 h3
   have hm:=Cp hx
   simp only [s,h1,h2,h3,cond_true,Ad,Ap0,i x hm,q x hm,k x hm]
   cases decide ((x.Axiom.E.Terms.length:Int)>4) with
   | true=>exact ⟨(fun h=>by cases h),fun _=>⟨_,rfl,rfl⟩⟩
   | false=>
    cases decide ((x.Axiom.F.Terms.length:Int)>4) with
    | true=>exact ⟨(fun h=>by cases h),fun _=>⟨_,rfl,rfl⟩⟩
    | false=>
     cases (decide (x.Coef.Num.length<=2)&&decide (x.Coef.Den.length<=2)) with
     | false=>exact ⟨(fun h=>by cases h),fun _=>⟨_,rfl,rfl⟩⟩
     | true=>
      cases c x with
      | false=>exact ⟨(fun h=>by cases h),fun _=>⟨_,rfl,rfl⟩⟩
      | true=>
       cases g x with
       | false=>exact ⟨(fun h=>by cases h),fun _=>⟨_,rfl,rfl⟩⟩
       | true=>
        cases f x with
        | false=>exact ⟨(fun h=>by cases h),fun _=>⟨_,rfl,rfl⟩⟩
        | true=>exact ⟨(fun _=>rfl),fun h=>by cases h⟩
  .intro h1
   exact ⟨.inr (),by simp only [h1]; rfl,rfl⟩
  .have:=List.all_eq_true.1 h' u hu
   simp only [s,C5,Bool.not_eq_true',decide_eq_false_iff_not] at this
   obtain ⟨a1,a2,a3,_⟩:=this
   exact ⟨hp u hu,by omega,by omega,(hp u hu).co.of2 (by rw [C5]; exact a3)⟩
end Go.Ab
namespace Go.Ab
open Go
noncomputable def Rp (a:Gd):List Ar:=(N5 a).getD []
theorem A22 (a:Gd) (f:a.E.Terms.length+a.F.Terms.length<=12):N5 a=some (Rp a)/\(∀g,Rp a = [g]->a.Kind≠1)/\(∀g c,Rp a = [g,c]->a.Kind=1):=by
 obtain ⟨b,hb,_⟩:=Agq a f
 obtain ⟨r,i⟩:=Ao9 a.E a.F f
 have key:∃l,N5 a=some l/\(∀g,l = [g]->a.Kind≠1)/\(∀g c,l = [g,c]->a.Kind=1):=by
  unfold N5
  rw [Apv a.E (by omega),Apv a.F (by omega),hb,i]
  cases b with
  | false=>exact ⟨[],rfl,fun _ h=>(by cases h),fun _ _ h=>(by cases h)⟩
  | true=>
   simp only [Ad,D5,cond_false]
   by_cases hk:a.Kind=1
   .rw [En hk]
    exact ⟨_,rfl,fun _ h=>(by cases h),fun _ _ _=>hk⟩
   .rw [Cr hk]
    exact ⟨_,rfl,fun _ _=>hk,fun _ _ h=>(by cases h)⟩
 obtain ⟨l,h1,h2⟩:=key
 have e:Rp a=l:=by unfold Rp; rw [h1]; rfl
 rw [e]
 exact ⟨h1,h2⟩
def Rq (fs:List Ar) (u:Dy):Prop:=Nr fs (Rp u.Axiom) u.First u.Second
open Classical in
theorem A23 (fs:List Ar) (u:Dy) (hn:fs.length<=5) (h4:∀f∈fs,f.Terms.length<=4) (hu:USm u):N6 fs u=some (decide (Rq fs u)):=by
 have he:=hu.e4
 have hf:=hu.f4
 obtain ⟨l1,_,_⟩:=A22 u.Axiom (by omega)
 have hp:=hu.sz.fi
 have hq:=hu.sz.se
 unfold N6 Uv Rq
 rw [l1,Ad]
 generalize Rp u.Axiom=l
 match l with
 | []=>rw [decide_eq_false (fun h:Nr fs [] u.First u.Second=>h)]; rfl
 | [g]=>
  have i0:Ag [g] 0=some g:=rfl
  rw [En (by simp),cond_true,i0,Ad,Abr fs g u.First hn h4 hp.1 hp.2,Ad]
  by_cases hc:Kz fs g u.First
  .rw [Xs.2 hc,cond_true]
   by_cases h0:u.Second = []
   .rw [decide_eq_true (show Nr fs [g] u.First u.Second from ⟨hc,h0⟩),h0]; rfl
   .rw [decide_eq_false (fun h:Nr fs [g] u.First u.Second=>h0 h.2),Cr (fun h=>h0 (List.length_eq_zero_iff.1 (by omega)))]; rfl
  .rw [decide_eq_false (fun h:Nr fs [g] u.First u.Second=>hc h.1)]
   cases h:(fs.all B8&&(B8 g&&(Jj fs u.First&&decide (T6 fs g u.First)))) with
   | true=>exact (hc (Xs.1 h)).elim
   | false=>rfl
 | [g,g']=>
  have i0:Ag [g,g'] 0=some g:=rfl
  have i1:Ag [g,g'] 1=some g':=rfl
  rw [Cr (by simp),cond_false,En (by simp),cond_true,i0,i1,Ad,Ad,Abr fs g u.First hn h4 hp.1 hp.2,Abr fs g' u.Second hn h4 hq.1 hq.2,Ad,Ad]
  have e1:(fs.all B8&&(B8 g&&(Jj fs u.First&&decide (T6 fs g u.First))))=decide (Kz fs g u.First):=by rw [Bool.eq_iff_iff,decide_eq_true_eq]; exact Xs
  have e2:(fs.all B8&&(B8 g' && (Jj fs u.Second&&decide (T6 fs g' u.Second))))=decide (Kz fs g' u.Second):=by rw [Bool.eq_iff_iff,decide_eq_true_eq]; exact Xs
  rw [e1,e2]
  by_cases hc:Kz fs g u.First
  .by_cases hd:Kz fs g' u.Second
   .rw [decide_eq_true hc,decide_eq_true hd,decide_eq_true (show Nr fs [g,g'] u.First u.Second from ⟨hc,hd⟩)]; rfl
   .rw [decide_eq_true hc,decide_eq_false hd,decide_eq_false (fun h:Nr fs [g,g'] u.First u.Second=>hd h.2)]; rfl
  .rw [decide_eq_false hc,decide_eq_false (fun h:Nr fs [g,g'] u.First u.Second=>hc h.1)]; rfl
 | g::g' :: g'' :: t=>
  rw [Cr (by simp; omega),cond_false,Cr (by simp; omega),cond_false,decide_eq_false (fun h:Nr fs (g::g' :: g'' :: t) u.First u.Second=>h)]; rfl
theorem A24 {x:Bj} (f:CSz x) (u:Dy) (hu:USm u):∃R e,M5 x u=some (R,e)/\(e=0->PX x 136 16001 R):=by
 have B:=hu.e4
 have A:=hu.f4
 have c:RB 3 (cR 1):=(Abc (k:=1) (by rw [Mm]; decide) (by decide)).mono (by decide)
 have h1:rq (cR 1)=1:=by rw [Abf]; rfl
 obtain ⟨b,b1,b2⟩:=Ra x f [⟨cR 1,u.Passive⟩] (fun t ht=>by
  simp only [List.mem_singleton] at ht
  subst ht
  exact ⟨c.mono (by decide),hu.sz.pa⟩)
 obtain ⟨R,e,y,s⟩:=A20 f u.Axiom (by omega) (by omega)
 unfold M5 Za
 rw [Ty,Ad,Ad,b1,Ad,y]
 cases b with
 | false=>exact ⟨[],7,rfl,fun h=>absurd h (by decide)⟩
 | true=>
  simp only [D5,cond_false,Ad]
  by_cases h0:e=0
  .rw [E8 h0,cond_false]
   obtain ⟨i,z,g⟩:=s h0
   obtain ⟨_,j⟩:=b2.1 rfl
   have hm:Eh x u.Passive:=⟨(W4.1 j).2.2 ⟨cR 1,u.Passive⟩ (by simp),hu.sz.pa⟩
   obtain ⟨S,e',q,l⟩:=A2x f i hm (A0f 1) h1 c z g
   rw [q]
   exact ⟨S,e',rfl,fun h=>(l h).px⟩
  .rw [Eo h0,cond_true]
   exact ⟨[],e,rfl,fun h=>(h0 h).elim⟩
noncomputable def Xt (x:Bj) (u:Dy):List Ah:=match M5 x u with | some r=>r.1 | none=>[]
noncomputable def Lx (x:Bj) (u:Dy):Int:=match M5 x u with | some r=>r.2 | none=>0
theorem A25 {x:Bj} (b:CSz x) (u:Dy) (hu:USm u):M5 x u=some (Xt x u,Lx x u)/\(Lx x u=0->PX x 136 16001 (Xt x u)):=by
 obtain ⟨R,e,h1,h2⟩:=A24 b u hu
 have f:Xt x u=R:=by unfold Xt; rw [h1]
 have c:Lx x u=e:=by unfold Lx; rw [h1]
 rw [f,c]
 exact ⟨h1,h2⟩
noncomputable def usV (x:Bj):List Dy->A9->Rat
 | [],_=>0
 | u::l,m=>rq u.Coef*cf (Xt x u) m+usV x l m
theorem Ap2 (x:Bj) (l b:List Dy) (m:A9):usV x (l++b) m=usV x l m+usV x b m:=by
 induction l with
 | nil=>simp only [List.nil_append,usV]; grind
 | cons u l ih=>simp only [List.cons_append,usV,ih]; grind
theorem PX.tsz {x:Bj} {n k:Nat} {p:List Ah} (h:PX x n k p) (hk:k<=1048576):∀t∈p,TSz t:=fun t ht=>⟨(h.rb t ht).mono hk,(h.mo t ht).2⟩
theorem A26 {x:Bj} (k:CSz x) (z:Fm x) {p q:List Ah} (hp:PX x 12 9 p) (hq:PX x 12 9 q) (f:List Dy) (hl:f.length<=6) (hu:∀u∈f,USm u) :
  ∃R e,N7 x p q f=some (R,e)/\(e=0↔∀u∈f,Lx x u=0)/\(e=0->PX x 1000 1048576 R/\∀a,cf R a=cf p a-cf q a-usV x f a):=by
 obtain ⟨b,b1,b2⟩:=Ra x k p (hp.tsz (by decide))
 obtain ⟨c,c1,c2⟩:=Ra x k q (hq.tsz (by decide))
 have hb:b=true:=b2.2 ⟨z,(hp.can (by decide) (by decide)).can⟩
 have hc:c=true:=c2.2 ⟨z,(hq.can (by decide) (by decide)).can⟩
 subst hb hc
 obtain ⟨D,d1,d2,d3⟩:=Apx k z hp hq (by decide) (by decide) (by decide) (by decide) (by decide)
 unfold N7
 rw [b1,c1,d1]
 simp only [Ad,D5,cond_false,bne_self_eq_false]
 obtain ⟨e,J,e2⟩:=Iy (step:=(fun (y,v12)=>
   bif (decide (v12<(f.length:Int))) then (
   (Ag f v12).bind fun l=>
   (M5 x l).bind fun i=>
   bif (i.2 != (0:Int)) then (
   some (.inr (.inl ([],i.2)))
   )
   else (
   (Py x i.1 l.Coef).bind fun g=>
   bif (g.2 != (0:Int)) then (
   some (.inr (.inl ([],g.2)))
   )
   else (
   (Kj x y g.1).bind fun v17=>
   bif (v17.2 != (0:Int)) then (
   some (.inr (.inl ([],v17.2)))
   )
   else (
   some (.inl (v17.1,(Ac (v12+1))))
   )))
   )
   else (
   some (.inr (.inr y))
   ):List Ah×Int->Option ((List Ah×Int)⊕((List Ah×Int)⊕List Ah))))
  (fun s=>∃(j:Nat) (R:List Ah),s=(R,(j:Int))/\j<=f.length/\PX x (24+136*j) (21+16020*j) R/\(∀a,cf R a=cf p a-cf q a-usV x (f.take j) a)/\∀u∈f.take j,Lx x u=0)
  (fun s=>f.length-s.2.toNat)
  (fun e=>(∃A,e = .inl ([],A)/\A≠0/\∃u∈f,Lx x u≠0)\/(∃R,e = .inr R/\PX x 1000 1048576 R/\(∀a,cf R a=cf p a-cf q a-usV x f a)/\∀u∈f,Lx x u=0))
  (by
   rintro _ ⟨j,R,rfl,hj,I,E,B⟩
   dsimp only
   rcases Nat.lt_or_ge j f.length with h | h
   .have hx:f[j]? = some f[j]:=B2 h
    generalize f[j]=u at hx
    have hm:=Cp hx
    obtain ⟨Z,Y⟩:=A25 k u (hu u hm)
    rw [Al (by omega),cond_true,Cf rfl hx,Ad,Z,Ad]
    dsimp only
    by_cases h0:Lx x u=0
    .left
     rw [E8 h0,cond_false]
     obtain ⟨S,N,M,L⟩:=A2y k z (Y h0) (hu u hm).co (by decide) (by decide) (by decide) (by decide)
     obtain ⟨T,t1,t2,t3⟩:=Apx k z I M (by omega) (by omega) (by decide) (by omega) (by decide)
     rw [N,Ad]
     dsimp only
     rw [E8 rfl,cond_false,t1,Ad]
     dsimp only
     rw [E8 rfl,cond_false,C7 h (by omega)]
     refine ⟨_,rfl,⟨j+1,T,rfl,by omega,t2.up (by omega) (by omega),fun a=>?_,fun w hw=>?_⟩,by simp; omega⟩
     .rw [t3,E,L,Df hx,Ap2]
      simp only [usV]
      grind
     .rw [Df hx] at hw
      rcases List.mem_append.1 hw with hw | hw
      .exact B w hw
      .rw [List.mem_singleton] at hw
       subst hw; exact h0
    .right
     rw [Eo h0,cond_true]
     exact ⟨_,rfl,.inl ⟨_,rfl,h0,u,hm,h0⟩⟩
   .right
    have:j=f.length:=by omega
    subst this
    rw [List.take_length] at E B
    exact ⟨_,by rw [Aq (by omega),cond_false],.inr ⟨R,rfl,I.up (by omega) (by omega),E,B⟩⟩)
  (D,0) ⟨0,D,rfl,by omega,d2.up (by omega) (by omega),fun a=>by rw [d3,List.take_zero]; simp only [usV]; grind,fun u hu=>by simp at hu⟩
 rcases e2 with ⟨A,rfl,h0,u,hm,G⟩ | ⟨R,rfl,X,V,U⟩
 .exact ⟨[],A,bnd J rfl,⟨fun h=>(h0 h).elim,fun h=>(G (h u hm)).elim⟩,fun h=>(h0 h).elim⟩
 .exact ⟨R,0,bnd J rfl,⟨fun _=>U,fun _=>rfl⟩,fun _=>⟨X,V⟩⟩
structure PSm (p:List Ah):Prop where
 len:p.length<=12
 rb:∀t∈p,RB 9 t.Coef
 sz:∀t∈p,TSz t
theorem PSm.px {x:Bj} {p:List Ah} (h:PSm p) (hc:Hz x.Data x.Vars x.Res p=true):PX x 12 9 p :=
 have hp:Gl x p:=⟨hc,h.sz⟩
 ⟨hp.cp,hp.mo,h.rb,h.len⟩
structure OkW (x:Bj) (fs:List Ar) (p q:List Ah) (us:List Dy):Prop where
 fx:Fm x
 cp:Hz x.Data x.Vars x.Res p=true
 cq:Hz x.Data x.Vars x.Res q=true
 fl:fs.all B8=true
 ju:∀u∈us,Rq fs u/\(u.Axiom.Kind=1\/0<=rq u.Coef)
 pr:∀u∈us,Lx x u=0
 va:∀a,0<=cf p a-cf q a-usV x us a
open Classical in
theorem Ag1 {x:Bj} (hz:CSz x) (fs:List Ar) (hn:fs.length<=5) (h4:∀f∈fs,f.Terms.length<=4) {p q:List Ah} (hp:PSm p) (hq:PSm q) (us:List Dy) (hl:us.length<=6) (hu:∀u∈us,USm u) :
  ∃e,I0 x fs p q us=some e/\(e=0↔OkW x fs p q us):=by
 obtain ⟨b,b1,b2⟩:=Ra x hz p hp.sz
 obtain ⟨c,c1,c2⟩:=Ra x hz q hq.sz
 unfold I0
 rw [b1,c1,(Apm fs hn h4).1]
 cases b with
 | false=>exact ⟨1,rfl,⟨fun h=>absurd h (by decide),fun h=>absurd (b2.2 ⟨h.fx,h.cp⟩) (by decide)⟩⟩
 | true=>
  cases c with
  | false=>exact ⟨1,rfl,⟨fun h=>absurd h (by decide),fun h=>absurd (c2.2 ⟨h.fx,h.cq⟩) (by decide)⟩⟩
  | true=>
   cases hfs:fs.all B8 with
   | false=>exact ⟨1,rfl,⟨fun h=>absurd h (by decide),fun h=>absurd h.fl (by rw [hfs]; decide)⟩⟩
   | true=>
    simp only [Ad,D5,cond_false]
    obtain ⟨hf,hcp⟩:=b2.1 rfl
    obtain ⟨_,hcq⟩:=c2.1 rfl
    obtain ⟨R,e,r1,r2,r3⟩:=A26 hz hf (hp.px hcp) (hq.px hcq) us hl hu
    let P:Dy->Bool:=fun u=>decide (Rq fs u)&&(decide (u.Axiom.Kind=1)||decide (0<=rq u.Coef))
    have hP:∀u,P u=(decide (Rq fs u)&&(decide (u.Axiom.Kind=1)||decide (0<=rq u.Coef))):=fun _=>rfl
    have hall:us.all P=true↔∀u∈us,Rq fs u/\(u.Axiom.Kind=1\/0<=rq u.Coef):=by
     rw [List.all_eq_true]
     refine forall_congr' fun u=>imp_congr_right fun _=>?_
     rw [hP,C5,Bool.or_eq_true,decide_eq_true_eq,decide_eq_true_eq,decide_eq_true_eq]
    have hfin:∃e',(N7 x p q us).bind (fun v16=>
      bif (v16.2 != (0:Int)) then (some v16.2)
      else (
      (N8 v16.1).bind fun v17=>
      bif (!v17) then (some (15:Int)) else (some (0:Int))))=some e'/\(e'=0↔(∀u∈us,Lx x u=0)/\∀a,0<=cf p a-cf q a-usV x us a):=by
     rw [r1,Ad]
     dsimp only
     by_cases h0:e=0
     .obtain ⟨g1,g2⟩:=r3 h0
      have g3:=r2.1 h0
      have hlen:=g1.len
      rw [E8 h0,cond_false,Azv R g1.rb (by decide) (by omega),Ad]
      have hd:Dst R:=CP.dst g1.cp
      have hnn:=Azx hd
      cases hcs:(R.all fun t=>decide (0<=rq t.Coef)) with
      | true=>exact ⟨0,rfl,⟨fun _=>⟨g3,fun a=>by rw [<-g2]; exact hnn.1 hcs a⟩,fun _=>rfl⟩⟩
      | false=>exact ⟨15,rfl,⟨fun h=>absurd h (by decide),fun h=>absurd (hnn.2 fun a=>by rw [g2]; exact h.2 a) (by rw [hcs]; decide)⟩⟩
     .rw [Eo h0,cond_true]
      exact ⟨e,rfl,⟨fun h=>(h0 h).elim,fun h=>(h0 (r2.2 h.1)).elim⟩⟩
    obtain ⟨e',f1,f2⟩:=hfin
    have key:=H8 (step:=(fun v10=>
      bif (decide (v10<(us.length:Int))) then (
      (Ag us v10).bind fun v11=>
      (N6 fs v11).bind fun v13=>
      bif (!v13) then (
      some (.inr (.inl 23))
      )
      else (
      bif (v11.Axiom.Kind != (1:Int)) then (
      (F1 v11.Coef).bind fun v14=>
      bif (decide (v14<(0:Int))) then (
      some (.inr (.inl 23))
      )
      else (
      some (.inl (Ac (v10+1)))
      )
      )
      else (
      some (.inl (Ac (v10+1)))
      )))
      else (
      some (.inr (.inr ()))
      ):Int->Option (Int⊕(Int⊕Unit)))) (s0:=0) (J:=fun z=>match z with
       | .inl r15=>some r15
       | .inr _=>(N7 x p q us).bind (fun v16=>
        bif (v16.2 != (0:Int)) then (some v16.2)
        else (
        (N8 v16.1).bind fun v17=>
        bif (!v17) then (some (15:Int)) else (some (0:Int))))) us P (fun j=>(j:Int)) rfl (by omega) (rt:=e') (rf:=23) (by
     intro j u hx h1 h2 h3
     have hm:=Cp hx
     rw [h1,cond_true,h2,Ad,A23 fs u hn h4 (hu u hm),Ad,h3,hP]
     cases hj:decide (Rq fs u) with
     | false=>exact ⟨(fun h=>by cases h),fun _=>⟨_,rfl,rfl⟩⟩
     | true=>
      by_cases hk:u.Axiom.Kind=1
      .rw [E8 hk,decide_eq_true hk]
       exact ⟨(fun _=>rfl),fun h=>by cases h⟩
      .rw [Eo hk,decide_eq_false hk,(Ms (hu u hm).co (by decide)).1,Ad]
       by_cases h0:0<=rq u.Coef
       .rw [decide_eq_true h0,Aq (fun h=>by rw [Xq] at h; grind)]
        exact ⟨(fun _=>rfl),fun h=>by cases h⟩
       .rw [decide_eq_false h0,Al ((Xq _).2 (by grind))]
        exact ⟨(fun h=>by cases h),fun _=>⟨_,rfl,rfl⟩⟩) (by
     intro h1
     exact ⟨.inr (),by rw [h1,cond_false],f1⟩)
    refine ⟨_,key,?_⟩
    cases ha:us.all P with
    | true=>
     rw [cond_true,f2]
     exact ⟨fun h=>⟨hf,hcp,hcq,hfs,hall.1 ha,h.1,h.2⟩,fun h=>⟨h.pr,h.va⟩⟩
    | false=>
     rw [cond_false]
     exact ⟨fun h=>absurd h (by decide),fun h=>absurd (hall.2 h.ju) (by rw [ha]; decide)⟩
end Go.Ab
namespace Go.Ab
open Go
def sX:Bj:=⟨[],[⟨1,0,[]⟩],⟨1,0,[]⟩⟩
def sM:Ar:=⟨-1,[⟨0,1⟩]⟩
def sO:Ak:=⟨false,[1],[1]⟩
def sP:List Ah:=[⟨sO,⟨[],[⟨⟨0,[⟨0,1⟩]⟩,1⟩]⟩⟩]
def sQ:List Ah:=[⟨sO,⟨[],[]⟩⟩,⟨sO,⟨[],[⟨sM,1⟩]⟩⟩]
def sU:Dy:=⟨⟨1,sM,⟨1,[]⟩,1⟩,sO,⟨[],[]⟩,[sO],[⟨false,[],[]⟩]⟩
theorem Ag2:rq sO=1:=by decide
theorem A27:RB 1048576 sO:=by
 have h:J1 [1]:=fun x hx=>by simp only [List.mem_singleton] at hx; subst hx; decide
 exact ⟨h,h,by decide,by decide⟩
theorem A28:M2 [sM] sM [sO]=some true:=by
 rw [Abr [sM] sM [sO] (by decide) (fun f b=>by simp only [List.mem_singleton] at b; subst b; decide) (by decide) (fun p hp=>by simp only [List.mem_singleton] at hp; subst hp; exact A27)]
 have hm:Jj [sM] [sO]=true:=by
  unfold Jj
  simp only [List.length_singleton,List.all_cons,List.all_nil,Bool.and_true,decide_true,Ag2]
  decide
 rw [Xs.2 ⟨by decide,by decide,hm,.inl ⟨fun v=>by simp only [dq,Ag2]; grind,by simp only [dq,Ag2]; grind⟩⟩]
theorem A29:N6 [sM] sU=some true:=by
 have h1:N5 sU.Axiom=some [sM,⟨1,[]⟩]:=by kernel_rfl
 have h2:M2 [sM] ⟨1,[]⟩ [⟨false,[],[]⟩]=some true:=by kernel_rfl
 have i0:Ag [sM,(⟨1,[]⟩:Ar)] 0=some sM:=rfl
 have i1:Ag [sM,(⟨1,[]⟩:Ar)] 1=some ⟨1,[]⟩:=rfl
 have c:sU.First = [sO]:=rfl
 have b:sU.Second = [⟨false,[],[]⟩]:=rfl
 unfold N6 Uv
 rw [h1,Ad,Cr (by simp),cond_false,En (by simp),cond_true,i0,i1,c,b,Ad,A28,Ad,cond_true,Ad,h2]; rfl
theorem A3a:Uw=some true:=by
 have h0:Y6 1=some sO:=by kernel_rfl
 have h1:Ju sX sP=some true:=by kernel_rfl
 have h2:Ju sX sQ=some true:=by kernel_rfl
 have h3:Px [sM]=some true:=by kernel_rfl
 have i:N7 sX sP sQ [sU]=some ([],0):=by kernel_rfl
 have h:N8 []=some true:=by kernel_rfl
 have g:I0 sX [sM] sP sQ []=some 15:=by kernel_rfl
 have b:Ac (0+1)=1:=by kernel_rfl
 have f:I0 sX [sM] sP sQ [sU]=some 0:=by
  unfold I0
  rw [h1,h2,h3,i]
  simp only [Ad,D5,cond_false]
  refine bnd (a:=.inr ()) ?_ (by simp only [bne_self_eq_false,cond_false,h,Ad,D5])
  refine (G6 (s':=1) ?_).trans (Dw ?_)
  .have i0:Ag [sU] 0=some sU:=rfl
   have c:sU.Axiom.Kind=1:=rfl
   simp only [List.length_singleton,i0,Ad,A29,D5,cond_false,c,bne_self_eq_false,b]
   rfl
  .rfl
 unfold Uw
 rw [h0,Ad]
 show (I0 sX [sM] sP sQ [sU]).bind _=_
 rw [f,Ad]
 show (I0 sX [sM] sP sQ []).bind _=_
 rw [g]; rfl
theorem A3b (x:Bj) (fs:List Ar) (p q:List Ah) (g:fs.length<=1048576) (ht:∀f∈fs,f.Terms.length<=1048576) (hp:p.length<=1048576/\∀t∈p,TSz t) (hq:q.length<=1048576/\∀t∈q,TSz t) :
  ∃b,Ux x fs p q=some b/\(b=true->(fs.length<=5/\∀f∈fs,f.Terms.length<=4)/\(p.length<=6/\∀t∈p,RB 3 t.Coef)/\(q.length<=6/\∀t∈q,RB 3 t.Coef)):=by
 obtain ⟨a,a1,a2⟩:=A2o fs 5 4 g ht
 obtain ⟨b,b1,b2⟩:=Ag0 p 6 hp.1 hp.2
 obtain ⟨c,l,k⟩:=Ag0 q 6 hq.1 hq.2
 have hk:∃d,Uy x=some d:=by
  unfold Uy
  cases decide ((x.Data.length:Int)<=2) <;> exact ⟨_,rfl⟩
 obtain ⟨d,d1⟩:=hk
 unfold Ux
 rw [d1,a1,b1,l]
 cases d with
 | false=>exact ⟨false,rfl,fun h=>by cases h⟩
 | true=>
  cases a with
  | false=>exact ⟨false,rfl,fun h=>by cases h⟩
  | true=>
   cases b with
   | false=>exact ⟨false,rfl,fun h=>by cases h⟩
   | true=>
    refine ⟨c,rfl,fun h=>?_⟩
    obtain ⟨y,j⟩:=a2 rfl
    obtain ⟨u,e4⟩:=b2 rfl
    obtain ⟨s,i⟩:=k h
    exact ⟨⟨by omega,fun f g=>by have:=j f g; omega⟩,⟨by omega,e4⟩,⟨by omega,i⟩⟩
theorem Ag3 {p:List Ah} (h:p.length<=6/\∀t∈p,RB 3 t.Coef) (ht:∀t∈p,TSz t):PSm p:=⟨by omega,fun t ht=>(h.2 t ht).mono (by decide),ht⟩
def z0:Ak:=⟨false,[],[]⟩
end Go.Ab
namespace Go.Ab
open Go
theorem A3c {c b:List Dy} (h1:∀u∈c,USm u) (h2:∀u∈b,USm u):∀u∈c++b,USm u:=fun u hu=>by
 rcases List.mem_append.1 hu with h | h
 .exact h1 u h
 .exact h2 u h
theorem A3d (x:Bj) (fs:List Ar) (p q r:List Ah) (j i:List Dy) (z:CSz x) (R:fs.length<=1048576) (D:∀f∈fs,f.Terms.length<=1048576)
  (hp:p.length<=1048576/\∀t∈p,TSz t) (hq:q.length<=1048576/\∀t∈q,TSz t) (A:r.length<=1048576/\∀t∈r,TSz t) (h1:j.length<=1048576/\∀u∈j,USz u) (h2:i.length<=1048576/\∀u∈i,USz u) :
  Y5 x fs p q r j i=some true:=by
 obtain ⟨a,a1,a2⟩:=A3b x fs p q R D hp hq
 obtain ⟨c,X,V⟩:=Ag0 r 6 A.1 A.2
 obtain ⟨b,b1,b2⟩:=Ap1 j 3 h1.1 h1.2
 obtain ⟨d,d1,d2⟩:=Ap1 i 3 h2.1 h2.2
 unfold Y5
 rw [A3a,Ad,D5,cond_false,a1,X,b1,d1]
 cases a with
 | false=>rfl
 | true=>
  cases c with
  | false=>rfl
  | true=>
   cases b with
   | false=>rfl
   | true=>
    cases d with
    | false=>rfl
    | true=>
     obtain ⟨⟨G,E⟩,U,e4⟩:=a2 rfl
     obtain ⟨e5,L⟩:=b2 rfl
     obtain ⟨e7,S⟩:=V rfl
     obtain ⟨Z,s⟩:=d2 rfl
     have J:=Ag3 U hp.2
     have sq:=Ag3 e4 hq.2
     have I:=Ag3 (p:=r) ⟨by omega,S⟩ A.2
     obtain ⟨g,g1,g2⟩:=Ag1 z fs G E J sq j (by omega) L
     obtain ⟨k,N,M⟩:=Ag1 z fs G E sq I i (by omega) s
     obtain ⟨m,m1,m2⟩:=Ag1 z fs G E J I (j++i) (by simp; omega) (A3c L s)
     simp only [Ad,D5,cond_false,g1,N]
     by_cases B:g=0
     .rw [E8 B,cond_false]
      by_cases hk:k=0
      .rw [E8 hk]
       have l:=g2.1 B
       have y:=M.1 hk
       have hm:m=0:=m2.2 ⟨l.fx,l.cp,y.cq,l.fl,fun u hu=>by
        rcases List.mem_append.1 hu with h | h
        .exact l.ju u h
        .exact y.ju u h,fun u hu=>by
        rcases List.mem_append.1 hu with h | h
        .exact l.pr u h
        .exact y.pr u h,fun a=>by
        have Y:=l.va a
        have v2:=y.va a
        rw [Ap2]; grind⟩
       simp only [Ad,cond_false]
       rw [De (by simp; omega),Ad,List.nil_append,De (by omega),Ad,m1,hm]; rfl
      .rw [Eo hk]; rfl
     .rw [Eo B]; rfl
end Go.Ab
