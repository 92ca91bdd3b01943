/- Plain laws: what the plain functions answer. -/
import Derived.Test.YtpedagkdpokpkaaGreatDoorWaPl3
namespace Go.Ab
open Go
theorem Ao3 {B:List Ds} {l:Ar} {f g:Nat->Nat}:∀{n:Nat},(∀k,k<n->f k=g k)->E3 B l f n=E3 B l g n
 | 0,_=>rfl
 | n+1,h=>by rw [Rs,Rs,Ao3 fun k hk=>h k (by omega),h n (by omega)]
theorem Pw.uniq {l:Ar} {N M:Nat} {f g:Nat->Nat} {A b:List A6} (h:Pw l N f A) (h':Pw l M g b) (hp:A.Perm b):N=M/\∀k,k<N+1->f k=g k:=by
 rcases h with ⟨a1,a2⟩ | ⟨a1,a2,a3⟩
 .rcases h' with ⟨_,b2⟩ | ⟨b1,_,_⟩
  .exact a2.uniq b2 hp
  .exact (a1 b1).elim
 .rcases h' with ⟨b1,_⟩ | ⟨_,b2,c⟩
  .exact (b1 a1).elim
  .refine ⟨by omega,fun k hk=>?_⟩
   have:k=0:=by omega
   subst this
   rw [a3,c,Aox _ hp]
theorem Agu (l:Ar):¬Ev l l<0:=Rr.irr l
theorem A1j {α:Type} {p:α->Bool} {g r c b:List α} (h:(g++r).Perm (c++b)) (h1:∀a∈g,p a=true) (h2:∀a∈r,p a=false) (h3:∀a∈c,p a=true) (j:∀a∈b,p a=false):g.Perm c/\r.Perm b:=by
 have q:(g++r).filter p=g:=by
  rw [List.filter_append,List.filter_eq_self.2 h1,List.filter_eq_nil_iff.2 (fun a ha=>by rw [h2 a ha]; decide),List.append_nil]
 have l:(c++b).filter p=c:=by
  rw [List.filter_append,List.filter_eq_self.2 h3,List.filter_eq_nil_iff.2 (fun a ha=>by rw [j a ha]; decide),List.append_nil]
 have k:(g++r).filter (fun a=>!p a)=r:=by
  have i:g.filter (fun a=>!p a) = []:=List.filter_eq_nil_iff.2 (fun a ha=>by rw [h1 a ha]; decide)
  have f:r.filter (fun a=>!p a)=r:=List.filter_eq_self.2 (fun a ha=>by rw [h2 a ha]; rfl)
  rw [List.filter_append,i,f,List.nil_append]
 have e4:(c++b).filter (fun a=>!p a)=b:=by
  have i:c.filter (fun a=>!p a) = []:=List.filter_eq_nil_iff.2 (fun a ha=>by rw [h3 a ha]; decide)
  have f:b.filter (fun a=>!p a)=b:=List.filter_eq_self.2 (fun a ha=>by rw [j a ha]; rfl)
  rw [List.filter_append,i,f,List.nil_append]
 refine ⟨?_,?_⟩
 .rw [<-q,<-l]; exact h.filter p
 .rw [<-k,<-e4]; exact h.filter _
theorem Gs.det:∀{u:List Grp} {A:List A6},Gs u A->∀{c:List Grp} {y:List A6},Gs c y->A.Perm y->∀B,H9 B u=H9 B c:=by
 intro u A h
 induction h with
 | nil=>
  intro c y h' hp B
  cases h' with
  | nil=>rfl
  | cons i _ _ _ _=>exact (i (List.append_eq_nil_iff.1 hp.symm.eq_nil).1).elim
 | @cons l N f g rest u i x I M V ih=>
  intro c y h' hp B
  cases h' with
  | nil=>exact (i (List.append_eq_nil_iff.1 hp.eq_nil).1).elim
  | @cons J X R E k c s j q z D=>
   have L:l=J:=by
    obtain ⟨a,ha⟩:∃a,a∈g:=by
     cases g with
     | nil=>exact (i rfl).elim
     | cons a _=>exact ⟨a,by simp⟩
    obtain ⟨b,hb⟩:∃b,b∈E:=by
     cases E with
     | nil=>exact (s rfl).elim
     | cons a _=>exact ⟨a,by simp⟩
    have ha':a∈E++k:=hp.mem_iff.1 (by simp [ha])
    have hb':b∈g++rest:=hp.mem_iff.2 (by simp [hb])
    rcases List.mem_append.1 ha' with ha' | ha'
    .rw [<-x a ha,j a ha']
    .rcases List.mem_append.1 hb' with hb' | hb'
     .rw [<-x b hb',j b hb]
     .have h1:=q a ha'
      have h2:=I b hb'
      rw [x a ha] at h1
      rw [j b hb] at h2
      exact (Agu l (Rr.trs _ _ _ h2 h1)).elim
   subst L
   have G:=A1j (p:=fun a:A6=>decide (Ev a.Lin l=0)) hp (fun a ha=>by rw [x a ha]; exact decide_eq_true ((G5.zero l l trivial trivial).2 rfl))
    (fun a ha=>decide_eq_false fun h=>by have h1:=I a ha; rw [(G5.zero _ _ trivial trivial).1 h] at h1; exact Agu l h1)
    (fun a ha=>by rw [j a ha]; exact decide_eq_true ((G5.zero l l trivial trivial).2 rfl))
    (fun a ha=>decide_eq_false fun h=>by have h1:=q a ha; rw [(G5.zero _ _ trivial trivial).1 h] at h1; exact Agu l h1)
   obtain ⟨U,S⟩:=M.uniq z G.1
   subst U
   show H9 (E3 B l f (N+1)) u=H9 (E3 B l R (N+1)) c
   rw [Ao3 S]
   exact ih D G.2 _
def IsE (A:List A6) (B:List Ds):Prop:=∃gs b,b.Perm A/\Abn b/\Gs gs b/\B=H9 [([],1)] gs
theorem IsE.det {A c:List A6} {B b:List Ds} (h:IsE A B) (h':IsE c b) (hp:A.Perm c):B=b:=by
 obtain ⟨gs,C,j,_,i,rfl⟩:=h
 obtain ⟨k,l,g,_,f,rfl⟩:=h'
 exact i.det f (j.trans (hp.trans g.symm)) _
theorem A1k {α:Type} (k:α->Int):∀{F R:List α},R.Perm F->R.Pairwise (fun a b=>k a<=k b)->F.Pairwise (fun a b=>k a<k b)->R=F:=by
 intro F
 induction F with
 | nil=>intro R h _ _; exact h.eq_nil
 | cons f F ih=>
  intro R h c g
  cases R with
  | nil=>exact (List.cons_ne_nil _ _ h.symm.eq_nil).elim
  | cons r R=>
   have e:r=f:=by
    rcases List.mem_cons.1 (h.mem_iff.1 (by simp:r∈r::R)) with h1 | h1
    .exact h1
    .have h2:=(List.pairwise_cons.1 g).1 r h1
     rcases List.mem_cons.1 (h.mem_iff.2 (by simp:f∈f::F)) with h3 | h3
     .exact h3.symm
     .have:=(List.pairwise_cons.1 c).1 f h3
      omega
   subst e
   rw [ih h.cons_inv (List.pairwise_cons.1 c).2 (List.pairwise_cons.1 g).2]
structure FOk (data:List A9) (vars:List Aj) (res:Aj) (F:List Bz):Prop where
 asc:F.Pairwise fun a b=>a.Var<b.Var
 one:∀f∈F,(I64 f.Var/\iR f.Index/\Dm f.Index<=1048576)/\(tyX vars res f.Var).isSome=true/\1<=E8 data vars res f
 len:F.length<=6
 vr:∀f∈F,-1<=f.Var/\f.Var<=1000000000
theorem A1l:M3 (fun a b:Bz=>a.Var-b.Var):=⟨fun _ h=>by omega,fun _ _ _ h1 h2=>by omega,fun _ _ _ h1 h2 h3=>by omega⟩
theorem A1m {data:List A9} {vars:List Aj} {res:Aj} {F:List Bz} (h:FOk data vars res F):Ok F=some F:=by
 have f:=h.len
 obtain ⟨R,h1,h2,h3⟩:=Ags (cmp:=Ol) A1l F (fun x hx y hy=>by
  have:=h.vr x hx
  have:=h.vr y hy
  unfold Ol
  have w:Ac (x.Var-y.Var)=x.Var-y.Var:=by rw [Ac,Bx] <;> omega
  rw [w]) (by omega)
 have c:R=F:=A1k (·.Var) h2 (h3.imp fun {a b} h=>by omega) h.asc
 subst c
 unfold Ok
 have e:Wb (R.length:Int) R=Xp Ol (R.length:Int) R:=rfl
 rw [e,h1,Ad,K0 rfl]; rfl
def Pb (b:List (ByteArray×List B4)):Prop:=∀p∈b,∃f:Bz,p.1=G0 f.Var f.Index/\p.2 = [⟨f.Index,cR 1⟩]
theorem A1n {data:List A9} {vars:List Aj} {res:Aj} {f:Bz} (h1:I64 f.Var/\iR f.Index/\Dm f.Index<=1048576) (h2:(tyX vars res f.Var).isSome=true) {b1:List (ByteArray×Int)} {b2:List (ByteArray×List B4)} (hm:Pb b2) :
  ∃s,Tb [f] b1 b2 data vars res.Kind res.Num res.Args=some ([⟨f.Index,cR 1⟩],0,s)/\Pb s:=by
 obtain ⟨t,ht⟩:=Option.isSome_iff_exists.1 h2
 have y:=Abg h1.2.2 ⟨h1.2.1,h1.1⟩
 have i0:Ag [f] 0=some f:=rfl
 have k:Hn (G0 f.Var f.Index) []=some (((Fe f).length:Int),Fe f):=by
  have:=Ro (b:=[]) (By.fac f) (by simp; omega)
  rw [List.nil_append] at this
  exact this
 have u:Ac (0+1)=1:=by rw [Ac,Bx] <;> omega
 have q:Nat.beq (G0 f.Var f.Index).size 0=false:=by
  rw [Ay9,Xd]; rfl
 have c:D1 [f] 1 ([f].length:Int)=some []:=rfl
 have h:Pb (Fa b2 (G0 f.Var f.Index) [⟨f.Index,cR 1⟩]):=fun p hp=>by
  rcases Afu _ _ _ p hp with hp | rfl
  .exact hm p hp
  .exact ⟨f,rfl,rfl⟩
 have l:Lm f.Var b1 b2 data vars res.Kind res.Num res.Args=some t:=Am1 b1 b2 data vars res ht
 unfold Tb
 rw [show decide ((0:Int)<([f].length:Int))=true from rfl,cond_true,i0,Ad,Aft _ _ h1.1 h1.2.1 h1.2.2,Ad,k,Ad,u]
 cases i:El b2 (G0 f.Var f.Index) with
 | true=>
  have x:Gx b2 (G0 f.Var f.Index) [] = [⟨f.Index,cR 1⟩]:=by
   unfold Gx
   unfold El at i
   cases j:b2.find? fun p=>G0 f.Var f.Index==p.1 with
   | none=>
    rw [List.find?_eq_none] at j
    obtain ⟨p,hp,e⟩:=List.any_eq_true.1 i
    exact (j p hp e).elim
   | some p=>
    obtain ⟨g,g1,g2⟩:=hm p (List.mem_of_find?_eq_some j)
    have e:=List.find?_some j
    have e:G0 f.Var f.Index=p.1:=(O4 _ _).1 e
    rw [g1] at e
    obtain ⟨_,z⟩:=Ams e
    show p.2=_
    rw [g2,z]
  refine ⟨b2,?_,hm⟩
  refine bnd (a:=Fe f) (D0 rfl) ?_
  rw [O9 (By.fac f),Ad]
  have hb:bs (Fe f)=G0 f.Var f.Index:=rfl
  rw [hb,i,cond_true,x]; rfl
 | false=>
  refine ⟨_,?_,h⟩
  refine bnd (a:=Fe f) (D0 rfl) ?_
  rw [O9 (By.fac f),Ad]
  have hb:bs (Fe f)=G0 f.Var f.Index:=rfl
  rw [hb,i,cond_false,Ad]
  dsimp only
  rw [cond_false,Ad,l,Ad,Ad,T9,Ad,c,Ad]
  refine bnd (a:=()) (D0 rfl) ?_
  unfold Aed
  rw [q,cond_false,Ad]
theorem A1o {t:Ah} {P:List Bz} {f:Bz} {K:Nat} (hm:t.Mono=⟨P,[]⟩) (j:P.length<=1000) (l:K<30000000000) (h1:RB K t.Coef) :
  ∃u,I8 t (cR 1) ⟨[f],[]⟩=some u/\u.Mono=⟨P++[f],[]⟩/\rq u.Coef=rq t.Coef/\RB (K+5) u.Coef:=by
 obtain ⟨c,i,h,_,g⟩:=Ri (b:=cR 1) (k:=3) h1 ((Abi (k:=1) (by rw [Mr]; decide) (by decide)).mono (by decide)) (by omega) (by decide)
 refine ⟨⟨c,⟨P++[f],[]⟩⟩,?_,rfl,?_,h⟩
 .unfold I8
  rw [i,Ad,hm,Abo _ _ (by simp; omega) (by simp)]; rfl
 .rw [g,Abl,show ((1:Nat):Rat)=1 from rfl]; grind
noncomputable def Agv (data:List A9) (vars:List Aj) (N M:Int) (L:List Aj):(List Ah×List Bz×List (ByteArray×Int)×List (ByteArray×List B4))->Option ((List Ah×List Bz×List (ByteArray×Int)×List (ByteArray×List B4))⊕((List Ah×Int×List (ByteArray×Int)×List (ByteArray×List B4))⊕(List Ah×List (ByteArray×Int)×List (ByteArray×List B4)))):=fun (v105,c,i,x)=>
 bif (decide ((c.length:Int)>(0:Int))) then (
 (Ag c 0).bind fun v109=>
 (Am (S:=Int) (E:=Int) (fun f=>
 bif (decide (f<(c.length:Int))) then (
 (Ag c f).bind fun A=>
 bif (A.Var==v109.Var) then (
 some (.inl (Ac (f+1)))
 )
 else (
 some (.inr f)
 )
 )
 else (
 some (.inr f)
 )
  ) 1).bind fun k=>
 (D1 c 0 k).bind fun z=>
 (Tb z i x data vars N M L).bind fun b=>
 bif (b.2.1 != (0:Int)) then (
 some (.inr (.inl ([],b.2.1,i,b.2.2)))
 )
 else (
 (Am (S:=(Int×(List (ByteArray×Int))×(List Ah))) (E:=(Int×(List (ByteArray×Int))×(List Ah))) (fun (h,u,s)=>
 bif (decide (h<(v105.length:Int))) then (
 (Ag v105 h).bind fun v175=>
 (Am (S:=(Int×(List (ByteArray×Int))×(List Ah))) (E:=(Int×(List (ByteArray×Int))×(List Ah))) (fun (g,q,l)=>
 bif (decide (g<(b.1.length:Int))) then (
 (Ag b.1 g).bind fun v193=>
 (Om v109.Var v193.Index q b.2.2 data vars N M L).bind fun j=>
 (I8 v175 v193.Coef (Ba.mk j.1 [])).bind fun v196=>
 (Ce 104 l [v196]).bind fun J=>
 some (.inl ((Ac (g+1)),j.2,J))
 )
 else (
 some (.inr (g,q,l))
 )
  ) (0,u,s)).bind fun (v198,I,G)=>
 some (.inl ((Ac (h+1)),I,G))
 )
 else (
 some (.inr (h,u,s))
 )
  ) (0,i,[])).bind fun (v201,D,B)=>
 (D1 c k c.length).bind fun y=>
 some (.inl (B,y,D,b.2.2))
 )
 )
 else (
 some (.inr (.inr (v105,i,x)))
 )
theorem A1p {c:Ak} {K:Nat} {data:List A9} {vars:List Aj} {res:Aj} {F:List Bz} {A:List A6} (hx:Mv data vars res) (hc:RB K c) (hK:K<20000000000) (h0:rq c≠0) (hF:FOk data vars res F) (hA:Atk A) {b1:List (ByteArray×Int)} {b2:List (ByteArray×List B4)} (m1:Dq data vars res b1) (m2:Pb b2) :
  ∃out B q k,Ni c ⟨F,A⟩ b1 b2 data vars res.Kind res.Num res.Args=some (out,0,q,k)/\IsE A B/\Fv ⟨F,by have:=hF.len; omega⟩ (rq c) (K+2454) out B/\out.length<=2 ^ Cb A/\Dq data vars res q/\Pb k/\(F = []->q=b1/\k=b2):=by
 have ao:=hF.len
 have hT:∀b∈A,b.Lin.Terms.length<1099511627776:=fun b hb=>by have:=(Jn (hA.lin b hb)).1; omega
 have aj:=hA.len
 have ai:=hA.sum
 obtain ⟨S,s1,U,s3⟩:=Aoz A hT (by omega)
 have J:Atk S:=⟨fun a ha=>hA.deg a (U.mem_iff.1 ha),fun a ha=>hA.lin a (U.mem_iff.1 ha),by rw [Nu U]; exact ai,by rw [U.length_eq]; exact aj⟩
 have hp:2 ^ Cb S<=4096:=Nat.le_trans (Nat.pow_le_pow_right (by decide) J.sum) (by decide)
 have ad:G4 (rq c)≠0:=by
  unfold G4
  split
  .decide
  .split
   .decide
   .rename_i h1 h2
    exact (h0 (by grind)).elim
 have ah:On A=some ([],A):=by
  unfold On I3
  rw [Dj (by simp; omega)]; rfl
 have ab:Qi F=some ([],F):=by
  unfold Qi I3
  rw [Dj (by simp; omega)]; rfl
 unfold Ni
 rw [(Mx hc (by omega)).1,Ad,Cv ad,cond_false,ab,Ad]
 dsimp only
 rw [A1m hF,Ad,K0 rfl,Ad]
 obtain ⟨e,e1,e2⟩:=I2 (step:=Agv data vars res.Kind res.Num res.Args) (fun s=>∃(j:Nat) (t:Ah),j<=F.length/\s.1 = [t]/\s.2.1=F.drop j/\t.Mono=⟨F.take j,[]⟩/\rq t.Coef=rq c/\RB (K+5*j) t.Coef/\Dq data vars res s.2.2.1/\Pb s.2.2.2/\(F = []->s.2.2.1=b1/\s.2.2.2=b2)) (fun s=>s.2.1.length)
   (fun e=>∃t q k,e = .inr ([t],q,k)/\t.Mono=⟨F,[]⟩/\rq t.Coef=rq c/\RB (K+30) t.Coef/\Dq data vars res q/\Pb k/\(F = []->q=b1/\k=b2))
   (by
    rintro ⟨o,r,c1,c2⟩ ⟨j,t,hj,e1,e2,e3,e4,e5,e6,e7,e8⟩
    dsimp only at e1 e2 e6 e7 e8 ⊢
    subst e1 e2
    rcases Nat.lt_or_ge j F.length with h | h
    .left
     have V:F[j]? = some F[j]:=B7 h
     have R:=List.getElem_mem h
     generalize F[j]=f at V R
     obtain ⟨k1,k2,k3⟩:=hF.one f R
     have hd:=Iy V
     have ag:(F.drop j).length=F.length-j:=List.length_drop
     have i0:Ag (F.drop j) 0=some f:=Cj (n:=0) rfl (by rw [hd]; rfl)
     unfold Agv
     dsimp only
     rw [Al (by omega),cond_true,i0,Ad]
     have Y:Am (S:=Int) (E:=Int) (fun y=>
       bif (decide (y<((F.drop j).length:Int))) then (
       (Ag (F.drop j) y).bind fun a1=>
       bif (a1.Var==f.Var) then (
       some (.inl (Ac (y+1))))
       else (
       some (.inr y)))
       else (some (.inr y))) 1=some 1:=by
      refine D0 ?_
      rcases Nat.lt_or_ge 1 (F.drop j).length with h' | h'
      .have ac:(F.drop j)[1]? = some ((F.drop j)[1]):=B7 h'
       have ak:f.Var<((F.drop j)[1]).Var:=by
        have hp:=(List.pairwise_iff_getElem.1 (hF.asc.sublist (List.drop_sublist j F))) 0 1 (by omega) h' (by decide)
        have e0:(F.drop j)[0]=f:=by
         have:=B7 (l:=F.drop j) (i:=0) (by omega)
         rw [show (F.drop j)[0]? = some f by rw [hd]; rfl] at this
         exact (Option.some.inj this).symm
        rw [e0] at hp; exact hp
       have i1:Ag (F.drop j) 1=some ((F.drop j)[1]):=Cj (n:=1) rfl ac
       rw [Al (by omega),cond_true,i1,Ad,Cv (by omega),cond_false]
      .rw [Aq (by omega),cond_false]
     rw [Y,Ad]
     have a8:D1 (F.drop j) 0 1=some [f]:=by
      rw [hd]
      unfold D1
      rw [if_pos (by simp only [List.length_cons]; omega)]; rfl
     have X:D1 (F.drop j) 1 ((F.drop j).length:Int)=some (F.drop (j+1)):=by
      have e:D1 (F.drop j) 1 ((F.drop j).length:Int)=some ((F.drop j).drop 1):=by
       generalize F.drop j=L at ag
       unfold D1
       rw [if_pos (by omega)]; simp
      rw [e,List.drop_drop]
     obtain ⟨b',p1,p2⟩:=A1n (b1:=c1) k1 k2 e7 (data:=data)
     obtain ⟨u,u1,u2,u3,u4⟩:=A1o (f:=f) e3 (by rw [List.length_take]; omega) (by omega) e5
     obtain ⟨Z,q1,q2⟩:=W6 (b2:=b') hx e6 f k1.1 k1.2.1 k1.2.2 k2
     have af:Om f.Var f.Index c1 b' data vars res.Kind res.Num res.Args=some ([f],Z):=by
      unfold Om
      rw [q1,Ad]
      dsimp only
      rw [Cv (by omega),cond_false]
     have w1:Ac (0+1)=1:=by rw [Ac,Bx] <;> omega
     rw [a8,Ad,p1,Ad]
     dsimp only
     rw [Fc rfl,cond_false]
     have ae:Am (S:=(Int×(List (ByteArray×Int))×(List Ah))) (E:=(Int×(List (ByteArray×Int))×(List Ah))) (fun (g,D,z)=>
       bif (decide (g<(([⟨f.Index,cR 1⟩]:List B4).length:Int))) then (
       (Ag ([⟨f.Index,cR 1⟩]:List B4) g).bind fun v193=>
       (Om f.Var v193.Index D b' data vars res.Kind res.Num res.Args).bind fun x=>
       (I8 t v193.Coef (Ba.mk x.1 [])).bind fun v196=>
       (Ce 104 z [v196]).bind fun I=>
       some (.inl ((Ac (g+1)),x.2,I)))
       else (some (.inr (g,D,z)))) (0,c1,[])=some (1,Z,[u]):=by
      refine (Ha (s':=(1,Z,[u])) ?_).trans (D0 rfl)
      dsimp only
      rw [Al (by simp),cond_true,show Ag ([⟨f.Index,cR 1⟩]:List B4) 0=some ⟨f.Index,cR 1⟩ from rfl,Ad]
      dsimp only
      rw [af,Ad]
      dsimp only
      rw [u1,Ad,Dj (by simp),Ad,w1]; rfl
     have aa:Am (S:=(Int×(List (ByteArray×Int))×(List Ah))) (E:=(Int×(List (ByteArray×Int))×(List Ah))) (fun (G,N,M)=>
       bif (decide (G<([t].length:Int))) then (
       (Ag [t] G).bind fun v175=>
       (Am (S:=(Int×(List (ByteArray×Int))×(List Ah))) (E:=(Int×(List (ByteArray×Int))×(List Ah))) (fun (g,D,z)=>
       bif (decide (g<(([⟨f.Index,cR 1⟩]:List B4).length:Int))) then (
       (Ag ([⟨f.Index,cR 1⟩]:List B4) g).bind fun v193=>
       (Om f.Var v193.Index D b' data vars res.Kind res.Num res.Args).bind fun x=>
       (I8 v175 v193.Coef (Ba.mk x.1 [])).bind fun v196=>
       (Ce 104 z [v196]).bind fun I=>
       some (.inl ((Ac (g+1)),x.2,I)))
       else (some (.inr (g,D,z)))) (0,N,M)).bind fun (v198,a7,a6)=>
       some (.inl ((Ac (G+1)),a7,a6)))
       else (some (.inr (G,N,M)))) (0,c1,[])=some (1,Z,[u]):=by
      refine (Ha (s':=(1,Z,[u])) ?_).trans (D0 rfl)
      dsimp only
      rw [Al (by simp),cond_true,show Ag [t] 0=some t from rfl,Ad]
      exact bnd ae (by rw [w1])
     refine ⟨([u],F.drop (j+1),Z,b'),bnd aa ?_,⟨j+1,u,by omega,rfl,rfl,by rw [u2,Dk V],by rw [u3,e4],u4.mono (by omega),q2,p2,fun e=>?_⟩,?_⟩
     .dsimp only
      rw [X,Ad]
     .rw [e] at h; simp at h
     .dsimp only
      rw [List.length_drop,List.length_drop]; omega
    .right
     have:j=F.length:=by omega
     subst this
     unfold Agv
     dsimp only
     rw [List.drop_length,Aq (by simp),cond_false]
     exact ⟨_,rfl,t,c1,c2,rfl,by rw [e3,List.take_length],e4,e5.mono (by omega),e6,e7,e8⟩)
   ([⟨c,⟨[],[]⟩⟩],F,b1,b2) ⟨0,⟨c,⟨[],[]⟩⟩,by omega,rfl,rfl,rfl,rfl,hc.mono (by omega),m1,m2,fun _=>⟨rfl,rfl⟩⟩
 obtain ⟨t,q,k,rfl,t1,t2,t3,t4,t5,t6⟩:=e2
 obtain ⟨gs,out,g1,g2,g3,g4⟩:=Ao2 (F:=⟨F,by omega⟩) (c:=rq c) S.length S [t] [([],1)] (K+30) 0 (Nat.le_refl _) s3 J (.cons t1 (by rw [t2]; simp) t3 .nil) (fun b hb=>by simp only [List.mem_singleton] at hb; subst hb; simp) (by have:=J.len; omega) (by have:=J.len; omega) (by simp only [List.length_singleton,Nat.one_mul]; omega)
 have am:=J.len
 refine ⟨out,_,q,k,bnd e1 ?_,⟨gs,S,U,s3,g2,rfl⟩,g3.mono (by omega),by rw [<-Nu U]; simpa using g4,t4,t5,t6⟩
 dsimp only
 rw [ah,Ad]
 dsimp only
 rw [s1,Ad,K0 U.length_eq.symm,Ad]
 exact bnd g1 rfl
theorem Ao4 {c:Ak} {K:Nat} {A:List A6} (hc:RB K c) (I:K<20000000000) (h0:rq c≠0) (i:Atk A) (b1:List (ByteArray×Int)) (b2:List (ByteArray×List B4)) (data:List A9) (vars:List Aj) (D z:Int) (y:List Aj) :
  ∃out B,Ni c ⟨[],A⟩ b1 b2 data vars D z y=some (out,0,b1,b2)/\IsE A B/\Rep (rq c) (K+2424) out B/\out.length<=2 ^ Cb A:=by
 have E:∀b∈A,b.Lin.Terms.length<1099511627776:=fun b hb=>by have:=(Jn (i.lin b hb)).1; omega
 have s:=i.len
 have q:=i.sum
 obtain ⟨S,x,g,u⟩:=Aoz A E (by omega)
 have f:Atk S:=⟨fun a ha=>i.deg a (g.mem_iff.1 ha),fun a ha=>i.lin a (g.mem_iff.1 ha),by rw [Nu g]; exact q,by rw [g.length_eq]; exact s⟩
 have hp:2 ^ Cb S<=4096:=Nat.le_trans (Nat.pow_le_pow_right (by decide) f.sum) (by decide)
 obtain ⟨gs,out,g1,g2,g3,g4⟩:=Ao2 (F:=fs0) (c:=rq c) S.length S [⟨c,⟨[],[]⟩⟩] [([],1)] K 0 (Nat.le_refl _) u f (.cons rfl (by simp) hc .nil) (fun b hb=>by simp only [List.mem_singleton] at hb; subst hb; simp) (by have:=f.len; omega) (by have:=f.len; omega) (by simp only [List.length_singleton,Nat.one_mul]; omega)
 have G:=f.len
 refine ⟨out,_,?_,⟨gs,S,g,u,g2,rfl⟩,g3.mono (by omega),by rw [<-Nu g]; simpa using g4⟩
 unfold Ni
 have j:G4 (rq c)≠0:=by
  unfold G4
  split
  .decide
  .split
   .decide
   .rename_i h1 h2
    exact (h0 (by grind)).elim
 rw [(Mx hc (by omega)).1,Ad,Cv j,cond_false]
 have l:On A=some ([],A):=by
  unfold On I3
  rw [Dj (by simp; omega)]; rfl
 have h:Qi []=some ([],[]):=rfl
 rw [h,Ad]
 dsimp only
 rw [A09,Ad]
 have k:Fm (α:=Bz) ([]:List Bz).length []=some ():=rfl
 rw [k,Ad]
 refine bnd (a:=.inr ([⟨c,⟨[],[]⟩⟩],b1,b2)) (D0 (by simp)) ?_
 dsimp only
 rw [l,Ad]
 dsimp only
 rw [x,Ad,K0 g.length_eq.symm,Ad]
 exact bnd g1 rfl
end Go.Ab
namespace Go.Ab
open Go
def Xs (vars:List Aj) (res:Aj) (L:List A6):Prop:=L.Pairwise (fun a b=>Ev a.Lin b.Lin<0)/\∀a∈L,1<=a.Deg/\Cd a.Lin=true/\a.Lin.Terms.length≠0/\D3 vars res a.Lin=true
theorem Abs (l m:List A6):Ch (l++m)=Ch l+Ch m:=by unfold Ch; simp [List.sum_append]
theorem Agw {vars:List Aj} {res:Aj}:∀{u:List Grp} {rest:List A6},Gs u rest->(∀a∈rest,Cd a.Lin=true/\D3 vars res a.Lin=true) ->
  ∀(B:List Ds) (S:Int),(∀b∈B,Xs vars res b.1/\Ch b.1<=S/\∀a∈b.1,∀r∈rest,Ev a.Lin r.Lin<0)->∀b∈H9 B u,Xs vars res b.1/\Ch b.1<=S+(Cb rest:Nat):=by
 intro u rest h
 induction h with
 | nil=>intro _ B S z b hb; have:=z b hb; exact ⟨this.1,by have:=this.2.1; omega⟩
 | @cons l N f g rest u x I E J R ih=>
  intro A B S z
  obtain ⟨a0,j⟩:∃a,a∈g:=by
   cases g with
   | nil=>exact (x rfl).elim
   | cons a _=>exact ⟨a,by simp⟩
  have s:=I a0 j
  have q:=A a0 (by simp [j])
  rw [s] at q
  have L:∀k,k<N+1->k≠0->l.Terms.length≠0/\k<=Cb g:=by
   intro k hk G
   rcases J with ⟨h1,h2⟩ | ⟨_,h2,_⟩
   .exact ⟨h1,by rw [<-h2.1]; omega⟩
   .omega
  intro b hb
  have:=ih (fun a ha=>A a (by simp [ha])) (E3 B l f (N+1)) (S+(Cb g:Nat)) (by
   intro b hb
   unfold E3 at hb
   rw [List.mem_flatMap] at hb
   obtain ⟨k,i,hk⟩:=hb
   have i:=List.mem_range.1 i
   split at hk
   .cases hk
   .rw [List.mem_map] at hk
    obtain ⟨d,hd,rfl⟩:=hk
    obtain ⟨d1,d2,d3⟩:=z d hd
    have y:∀a∈d.1,Ev a.Lin l<0:=fun a ha=>by have:=d3 a ha a0 (by simp [j]); rwa [s] at this
    unfold atO
    by_cases h0:k=0
    .rw [if_pos h0,List.append_nil]
     exact ⟨d1,by show Ch d.1<=S+((Cb g:Nat):Int); omega,fun a ha r c=>d3 a ha r (by simp [c])⟩
    .rw [if_neg h0]
     obtain ⟨D,M⟩:=L k i h0
     refine ⟨⟨List.pairwise_append.2 ⟨d1.1,List.pairwise_singleton _ _,fun a ha b hb=>?_⟩,fun a ha=>?_⟩,?_,fun a ha r c=>?_⟩
     .simp only [List.mem_singleton] at hb
      subst hb; exact y a ha
     .rcases List.mem_append.1 ha with ha | ha
      .exact d1.2 a ha
      .simp only [List.mem_singleton] at ha
       subst ha
       exact ⟨by show (1:Int)<=(k:Int); omega,q.1,D,q.2⟩
     .show Ch (d.1++[⟨l,k⟩])<=_
      rw [Abs]
      have:Ch [(⟨l,(k:Int)⟩:A6)]=(k:Int):=by simp [Ch]
      omega
     .rcases List.mem_append.1 ha with ha | ha
      .exact d3 a ha r (by simp [c])
      .simp only [List.mem_singleton] at ha
       subst ha
       exact E r c) b hb
  refine ⟨this.1,?_⟩
  rw [L1]
  have:=this.2
  omega
theorem Ao5 {x:Bj} {L:List A6} (h:Xs x.Vars x.Res L) (s:Ch L<=6):Ef x ⟨[],L⟩:=by
 have i:(L.length:Int)<=Ch L:=by
  have key:∀l:List A6,(∀a∈l,1<=a.Deg)->(l.length:Int)<=Ch l:=by
   intro l
   induction l with
   | nil=>intro _; simp [Ch]
   | cons f fs ih=>
    intro c
    have h1:=c f (by simp)
    have h2:=ih (fun g u=>c g (by simp [u]))
    unfold Ch at *
    simp only [List.map_cons,List.sum_cons,List.length_cons]; omega
  exact key _ fun a ha=>(h.2 a ha).1
 constructor
 .unfold H8
  have k:L.zipIdx.all (fun q=>Mw x.Vars x.Res L q.1 q.2)=true:=by
   rw [List.all_eq_true]
   rintro ⟨a,j⟩ hq
   have hj:L[j]? = some a:=List.mk_mem_zipIdx_iff_getElem?.1 hq
   obtain ⟨h1,h2,h3,y⟩:=h.2 a (Ct hj)
   show Mw x.Vars x.Res L a j=true
   unfold Mw
   have hp:Nt L a j=true:=by
    unfold Nt
    cases j with
    | zero=>rfl
    | succ j=>
     have c:=Fd hj
     have hy:L[j]? = some L[j]:=B7 (by omega)
     have b:=List.pairwise_iff_getElem.1 h.1 j (j+1) (by omega) c (by omega)
     have e:L[j+1]=a:=by
      have:=B7 c
      rw [hj] at this; exact (Option.some.inj this).symm
     rw [e] at b
     simp only [Nat.add_sub_cancel,hy,Bool.or_eq_true]
     exact .inr (decide_eq_true b)
   rw [hp,Al h1,h2,y]
   simp only [Bool.true_and,Bool.and_true,Bool.not_eq_true',beq_eq_false_iff_ne,ne_eq]
   exact h3
  show (([]:List Bz).zipIdx.all _&&L.zipIdx.all (fun q=>Mw x.Vars x.Res L q.1 q.2)&&decide (Dt x.Data x.Vars x.Res []+Ch L<=6))=true
  rw [k]
  have:Dt x.Data x.Vars x.Res []=0:=rfl
  rw [this]
  simp
  exact s
 .exact ⟨by simp,by show L.length<=1048576; omega,(fun _ h=>by cases h),(fun _ h=>by cases h),fun a ha=>by have:=(Jn (h.2 a ha).2.1).1; omega⟩
def ec:List Ds->Ba->Nat
 | [],_=>0
 | b::bs,m=>(if Da ⟨[],b.1⟩ m=0 then b.2 else 0)+ec bs m
theorem Rep.cf {c:Rat} {K:Nat} {ts:List Ah} {bs:List Ds} (h:Rep c K ts bs) (m:Ba):Ab.cf ts m=c*(ec bs m:Rat):=by
 induction h with
 | nil=>simp only [Ab.cf,ec]; grind
 | @cons t b ts bs a1 a2 a3 _ ih=>
  have a1:t.Mono=⟨[],b.1⟩:=a1
  simp only [Ab.cf,ec,ih,a1]
  rw [Rat.natCast_add]
  split
  .rw [a2]; grind
  .grind
theorem Rep.mem {c:Rat} {K:Nat} {ts:List Ah} {bs:List Ds} (h:Rep c K ts bs) {t:Ah} (ht:t∈ts):∃b∈bs,t.Mono=⟨[],b.1⟩/\rq t.Coef=c*(b.2:Rat)/\RB K t.Coef:=by
 obtain ⟨j,hj⟩:=List.getElem?_of_mem ht
 obtain ⟨b,b1,b2⟩:=h.get hj
 exact ⟨b,Ct b1,b2⟩
def Xt (L:Nat) (p:List Ah):Prop:=∀t∈p,∃z:Int,rq t.Coef=(z:Rat)/\Bd z.natAbs<=L
theorem Ao6 {a:Ak} {z:Int} (ha:Hh a) (h:rq a=(z:Rat)):a=Bt (decide (z<0)) z.natAbs 1:=by
 refine W9 ha (O8 _ _ _ (by decide)) ?_
 rw [h,Ly _ _ _ (by decide),Abk]
 congr 1
 unfold sg
 by_cases h:z<0
 .rw [Al h,if_pos rfl]; omega
 .rw [Aq h,if_neg (by decide)]; omega
theorem Xu {a:Ak} {z:Int} {L:Nat} (ha:Hh a) (h:rq a=(z:Rat)) (b:Bd z.natAbs<=L):RB (L+1) a:=by
 rw [Ao6 ha h]
 exact Lr _ _ _ _ (by omega) (by rw [Mr]; omega) (by omega)
theorem Ao7 {a:Ak} {z:Int} {k:Nat} (ha:Hh a) (h:rq a=(z:Rat)) (c:RB k a):Bd z.natAbs<=k+1:=by
 have h1:=c.nv
 rw [Ao6 ha h] at h1
 obtain ⟨b,i,g,f⟩:=Wv (decide (z<0)) z.natAbs 1 (by decide)
 rw [b] at h1
 simpa using h1
theorem Ao8 {p:List Ah} {L:Nat} (h:Xt L p) (hc:CP p) (m:Ba):∃z:Int,cf p m=(z:Rat)/\Bd z.natAbs<=L:=by
 by_cases hm:∃t∈p,Da t.Mono m=0
 .obtain ⟨t,ht,e⟩:=hm
  obtain ⟨z,b,z2⟩:=h t ht
  refine ⟨z,?_,z2⟩
  rw [<-b,<-Lz hc ht,Jl.1 e]
 .exact ⟨0,by rw [Aa7 fun t ht e=>hm ⟨t,ht,e⟩]; rfl,by simp [Ws]⟩
theorem Xt.of {p:List Ah} {L:Nat} (hc:CP p) (h:∀m,∃z:Int,cf p m=(z:Rat)/\Bd z.natAbs<=L):Xt L p:=fun t ht=>by
 obtain ⟨z,b,z2⟩:=h t.Mono
 exact ⟨z,by rw [<-Lz hc ht]; exact b,z2⟩
structure IP (x:Bj) (n L:Nat) (f:Ba->Rat) (R:List Ah):Prop where
 cp:CP R
 val:∀m,cf R m=f m
 mo:∀t∈R,Ef x t.Mono
 len:R.length<=n
 int:Xt L R
theorem IP.can {x:Bj} {n L:Nat} {f:Ba->Rat} {R:List Ah} (h:IP x n L f R) (c:n<=1000) (g:L<=1000000):F3 x R :=
 F3.of h.cp h.mo (fun t ht=>by
  obtain ⟨z,b,z2⟩:=h.int t ht
  exact (Xu (h.cp.coe t ht).1 b z2).mono (by omega)) (by have:=h.len; omega)
theorem IP.ext {x y:Bj} {n L b L':Nat} {f g:Ba->Rat} {R S:List Ah} (h:IP x n L f R) (h':IP y b L' g S) (e:∀m,f m=g m):R=S:=CP.ext h.cp h'.cp fun m=>by rw [h.val,h'.val,e]
theorem Ao9 (y z:Int) {L M:Nat} (hy:Bd y.natAbs<=L) (b:Bd z.natAbs<=L) (h:L+1<=M):Bd (y+z).natAbs<=M:=by
 have h1:=Ts y.natAbs z.natAbs
 have h2:Bd (y+z).natAbs<=Bd (y.natAbs+z.natAbs):=Gn (by omega)
 omega
theorem Apa {x:Bj} (l:CSz x) (A:Fj x) {n m L:Nat} {f g:Ba->Rat} {p q:List Ah} (hp:IP x n L f p) (hq:IP x m L g q) (B:n+m<=1000) (c:L<=1000000) :
  ∃R,Kn x p q=some (R,0)/\IP x (n+m) (L+1) (fun a=>f a-g a) R:=by
 have u:=hp.len
 have s:=hq.len
 obtain ⟨R,k,b⟩:=Aoj l A (hp.can (by omega) c) (hq.can (by omega) c) (by omega)
 refine ⟨R,k,b.cp,fun a=>by rw [b.val,hp.val,hq.val],fun t ht=>(b.tb t ht).1,by have:=b.len; omega,Xt.of b.cp fun a=>?_⟩
 obtain ⟨y,j,i⟩:=Ao8 hp.int hp.cp a
 obtain ⟨z,h,z2⟩:=Ao8 hq.int hq.cp a
 refine ⟨y + -z,?_,Ao9 y (-z) i (by rw [Int.natAbs_neg]; exact z2) (Nat.le_refl _)⟩
 rw [b.val,j,h,Rat.intCast_add,Rat.intCast_neg,Rat.sub_eq_add_neg]
end Go.Ab
namespace Go.Ab
open Go
theorem A1q (a b:Bf):Ng a b=some (Ei a.Var b.Var):=by
 unfold Ng
 rw [Mu]; rfl
theorem Pc {a b:Int}:Ei a b<0↔a<b:=by unfold Ei; split <;> (try split) <;> omega
theorem A1r:M3 (fun a b:Bf=>Ei a.Var b.Var) :=
 ⟨fun x h=>by have:=Pc.1 h; omega,fun x y z h1 h2=>by have:=Pc.1 h1; have:=Pc.1 h2; exact Pc.2 (by omega),fun x y z h1 h2 h=>by
  have:=Pc.1 h
  have:=mt Pc.2 h1
  have:=mt Pc.2 h2
  omega⟩
theorem A1s (c:List Bf) (g:c.length<=12):∃R,S7 c=some R/\R.Perm c/\R.Pairwise (fun a b=>a.Var<=b.Var):=by
 obtain ⟨R,h1,h2,h3⟩:=Aor (cmp:=Ng) A1r c (fun x _ y _=>A1q x y) (by omega)
 obtain ⟨v,f⟩:=Aob (n:=c.length) (by omega)
 refine ⟨R,?_,h2,h3.imp fun {a b} h=>?_⟩
 .unfold S7
  rw [Nat.ble_eq_true_of_le g,cond_true]
  unfold Aeb
  rw [f,Ad]
  have hp:V9 0 (c.length:Int) v c=some R:=by
   unfold V9
   have e:Zw 0 (c.length:Int) c=Xn Ng 0 (c.length:Int) c:=rfl
   have w:Ac ((c.length:Int)-0)=(c.length:Int):=by rw [Ac,Bx] <;> omega
   refine bnd (a:=R) (D0 ?_) rfl
   rw [w,Al (by omega),cond_true,e,h1,Ad,K0 h2.length_eq.symm]; rfl
  rw [hp,Ad,K0 h2.length_eq.symm]; rfl
 .have:=mt Pc.2 h
  omega
def cl:List Bf->Int->Int
 | [],_=>0
 | t::l,v=>(if t.Var=v then t.Coef else 0)+cl l v
theorem Ue (l m:List Bf) (v:Int):cl (l++m) v=cl l v+cl m v:=by
 induction l with
 | nil=>simp [cl]
 | cons t l ih=>simp only [List.cons_append,cl,ih]; omega
theorem A1t {l m:List Bf} (h:l.Perm m) (v:Int):cl l v=cl m v:=by
 induction h with
 | nil=>rfl
 | cons t _ ih=>simp only [cl,ih]
 | swap a b l=>simp only [cl]; omega
 | trans _ _ h1 h2=>exact h1.trans h2
theorem Pd {l:List Bf} {v:Int} (h:∀t∈l,t.Var≠v):cl l v=0:=by
 induction l with
 | nil=>rfl
 | cons t l ih=>simp only [cl]; rw [if_neg (h t (by simp)),ih fun u hu=>h u (by simp [hu])]; rfl
structure K2 (L:List Bf):Prop where
 srt:L.Pairwise fun a b=>a.Var<b.Var
 nz:∀t∈L,t.Coef≠0
theorem K2.ext:∀{L M:List Bf},K2 L->K2 M->(∀v,cl L v=cl M v)->L=M:=by
 intro L
 induction L with
 | nil=>
  intro M _ b h
  cases M with
  | nil=>rfl
  | cons t M=>
   have:=h t.Var
   simp only [cl,if_true] at this
   rw [Pd fun u hu=>by have:=(List.pairwise_cons.1 b.srt).1 u hu; omega] at this
   exact (b.nz t (by simp) (by omega)).elim
 | cons s L ih=>
  intro M c b h
  have g:cl (s::L) s.Var=s.Coef:=by
   simp only [cl,if_true]
   rw [Pd fun u hu=>by have:=(List.pairwise_cons.1 c.srt).1 u hu; omega]; omega
  cases M with
  | nil=>
   have:=h s.Var
   rw [g] at this
   exact (c.nz s (by simp) (by simpa [cl] using this)).elim
  | cons t M=>
   have ht:cl (t::M) t.Var=t.Coef:=by
    simp only [cl,if_true]
    rw [Pd fun u hu=>by have:=(List.pairwise_cons.1 b.srt).1 u hu; omega]; omega
   have f:s.Var=t.Var:=by
    rcases Int.lt_trichotomy s.Var t.Var with k | k | k
    .have h1:=h s.Var
     rw [g,Pd (l:=t::M) fun u hu=>by
      rcases List.mem_cons.1 hu with rfl | hu
      .omega
      .have:=(List.pairwise_cons.1 b.srt).1 u hu; omega] at h1
     exact (c.nz s (by simp) h1).elim
    .exact k
    .have h1:=h t.Var
     rw [ht,Pd (l:=s::L) fun u hu=>by
      rcases List.mem_cons.1 hu with rfl | hu
      .omega
      .have:=(List.pairwise_cons.1 c.srt).1 u hu; omega] at h1
     exact (b.nz t (by simp) h1.symm).elim
   have hc:s.Coef=t.Coef:=by rw [<-g,<-ht,h,f]
   have e:s=t:=by cases s; cases t; simp only at f hc; rw [f,hc]
   subst e
   rw [ih (M:=M) ⟨(List.pairwise_cons.1 c.srt).2,fun u hu=>c.nz u (by simp [hu])⟩ ⟨(List.pairwise_cons.1 b.srt).2,fun u hu=>b.nz u (by simp [hu])⟩ fun v=>by
    have:=h v
    simp only [cl] at this; omega]
noncomputable def Abt (r:List Bf) (f:Int):Int×Int->Option ((Int×Int)⊕(Int×Int)):=fun (v44,v45)=>
 (show Option Bool from
 bif (decide (v44<(r.length:Int))) then (
 (Ag r v44).bind fun v46=>
 some (v46.Var==f)
 )
 else (
 some false
 )
 ).bind fun c=>
 bif c then (
 (Ag r v44).bind fun b=>
 some (.inl ((Ac (v44+1)),(Ac (v45+b.Coef))))
 )
 else (
 some (.inr (v44,v45))
 )
def LBd (l:List Bf):Prop:=∀t∈l,-1099511627776<=t.Coef/\t.Coef<=1099511627776
theorem A1u {l:List Bf} (h:LBd l) (v:Int) : -(l.length*1099511627776:Int)<=cl l v/\cl l v<=(l.length*1099511627776:Int):=by
 induction l with
 | nil=>simp [cl]
 | cons t l ih=>
  have h1:=h t (by simp)
  have h2:=ih fun u hu=>h u (by simp [hu])
  simp only [cl,List.length_cons]
  split <;> omega
theorem A1v {r:List Bf} {k:Nat} {t:Bf} (hk:r[k]? = some t) (E:r.length<=1000) (hb:LBd r) :
  ∃n:Nat,Am (Abt r t.Var) ((k:Int),0)=some ((n:Int),cl ((r.take n).drop k) t.Var)/\k<n/\n<=r.length/\(∀u∈(r.take n).drop k,u.Var=t.Var)/\∀u,r[n]? = some u->u.Var≠t.Var:=by
 have q:=Fd hk
 obtain ⟨e,D,n,B,A⟩:=I2 (step:=Abt r t.Var) (fun s=>∃n:Nat,s=((n:Int),cl ((r.take n).drop k) t.Var)/\k<=n/\n<=r.length/\∀u∈(r.take n).drop k,u.Var=t.Var) (fun s=>r.length-s.1.toNat)
  (fun e=>∃n:Nat,e=((n:Int),cl ((r.take n).drop k) t.Var)/\k<n/\n<=r.length/\(∀u∈(r.take n).drop k,u.Var=t.Var)/\∀u,r[n]? = some u->u.Var≠t.Var) (by
  rintro _ ⟨j,rfl,x,g,c⟩
  unfold Abt
  rcases Nat.lt_or_ge j r.length with h | h
  .have hx:r[j]? = some r[j]:=B7 h
   have hm:=List.getElem_mem h
   generalize r[j]=b at hx hm
   have z:=hb b hm
   have y:=A1u (l:=(r.take j).drop k) (fun u hu=>hb u (List.mem_of_mem_take (List.mem_of_mem_drop hu))) t.Var
   have i:((r.take j).drop k).length<=1000:=by simp; omega
   have hw:Ac (cl ((r.take j).drop k) t.Var+b.Coef)=cl ((r.take j).drop k) t.Var+b.Coef:=by
    have G:(((r.take j).drop k).length:Int)*1099511627776<=1000*1099511627776:=Int.mul_le_mul_of_nonneg_right (by omega) (by decide)
    rw [Ac,Bx] <;> omega
   have f:(r.take (j+1)).drop k=(r.take j).drop k++[b]:=by
    rw [Dk hx,List.drop_append_of_le_length (by simp; omega)]
   simp only [Al (by omega:(j:Int)<(r.length:Int)),cond_true,Cj rfl hx,Ad,Db h (by omega),hw]
   by_cases hc:b.Var=t.Var
   .left
    rw [Es hc]
    refine ⟨_,rfl,⟨j+1,?_,by omega,by omega,fun d hd=>?_⟩,by simp; omega⟩
    .rw [f,Ue]
     simp [cl,hc]
    .rw [f] at hd
     rcases List.mem_append.1 hd with hd | hd
     .exact c d hd
     .simp only [List.mem_singleton] at hd
      rw [hd]; exact hc
   .right
    rw [Cv hc]
    refine ⟨_,rfl,j,rfl,?_,g,c,fun d hd=>by rw [hx] at hd; cases hd; exact hc⟩
    rcases Nat.lt_or_ge k j with h' | h'
    .exact h'
    .have:j=k:=by omega
     subst this
     rw [hk] at hx; cases hx
     exact (hc rfl).elim
  .right
   refine ⟨_,by simp only [Aq (by omega:¬(j:Int)<(r.length:Int)),cond_false,Ad],j,rfl,by omega,g,c,fun d hd=>?_⟩
   have:=Fd hd
   omega) ((k:Int),0) ⟨k,by simp [cl],by omega,by omega,fun u hu=>by simp at hu⟩
 exact ⟨n,by rw [<-B]; exact D,A⟩
noncomputable def Agx (r:List Bf):Int×List Bf->Option ((Int×List Bf)⊕List Bf):=fun (v37,b)=>
 bif (decide (v37<((r.length:Nat):Int))) then (
 (Ag r v37).bind fun v39=>
 (Am (Abt r v39.Var) (v37,0)).bind fun (v49,v50)=>
 bif (v50 != (0:Int)) then (
 (Ce 16 b [(Bf.mk v39.Var v50)]).bind fun c=>
 some (.inl (v49,c))
 )
 else (
 some (.inl (v49,b))
 )
 )
 else (
 some (.inr b)
 )
theorem A1w {r:List Bf} (J:r.Pairwise fun a b=>a.Var<=b.Var) (M:r.length<=1000) (hb:LBd r):∃L,Am (Agx r) (0,[])=some L/\K2 L/\(∀v,cl L v=cl r v)/\L.length<=r.length:=by
 obtain ⟨L,S,R⟩:=I2 (step:=Agx r) (fun s=>∃(k:Nat) (L:List Bf),s=((k:Int),L)/\k<=r.length/\K2 L/\L.length<=k/\(∀v,cl L v=cl (r.take k) v)/\∀t∈L,∀u∈r.drop k,t.Var<u.Var) (fun s=>r.length-s.1.toNat)
  (fun L=>K2 L/\(∀v,cl L v=cl r v)/\L.length<=r.length) (by
  rintro _ ⟨k,L,rfl,hk,y,N,g,hd⟩
  unfold Agx
  rcases Nat.lt_or_ge k r.length with h | h
  .left
   have hx:r[k]? = some r[k]:=B7 h
   generalize r[k]=t at hx
   obtain ⟨n,I,G,D,n4,E⟩:=A1v hx M hb
   have c:r.take n=r.take k++(r.take n).drop k:=by
    have h:=(List.take_append_drop k (r.take n)).symm
    rwa [List.take_take,Nat.min_eq_left (by omega)] at h
   have x:∀v,v≠t.Var->cl ((r.take n).drop k) v=0:=fun v g=>Pd fun u hu e=>g (by rw [<-e,n4 u hu])
   have j:∀u∈r.drop n,u∈r.drop k:=fun u hu=>by
    have:r.drop n=(r.drop k).drop (n-k):=by rw [List.drop_drop]; congr 1; omega
    rw [this] at hu
    exact List.mem_of_mem_drop hu
   have A:t∈r.drop k:=by rw [Iy hx]; simp
   have f:∀u∈r.drop n,t.Var<u.Var:=by
    intro u hu
    rcases Nat.lt_or_ge n r.length with h' | h'
    .have hy:r[n]? = some r[n]:=B7 h'
     generalize r[n]=w at hy
     have hw:=E w hy
     have hp:=List.pairwise_append.1 (by rw [List.take_append_drop]; exact J:(r.take n++r.drop n).Pairwise fun a b=>a.Var<=b.Var)
     have B:t∈r.take n:=by
      rw [c]
      have:(r.take n).drop k=t::(r.take n).drop (k+1):=Iy (by rw [List.getElem?_take_of_lt G]; exact hx)
      rw [this]; simp
     have z:w∈r.drop n:=by rw [Iy hy]; simp
     have a1:=hp.2.2 t B w z
     have i:=hp.2.1
     rw [Iy hy] at i hu
     rcases List.mem_cons.1 hu with rfl | hu
     .omega
     .have:=(List.pairwise_cons.1 i).1 u hu; omega
    .rw [List.drop_eq_nil_of_le h'] at hu; cases hu
   simp only [Al (by omega:(k:Int)<(r.length:Int)),cond_true,Cj rfl hx,Ad,I]
   by_cases h0:cl ((r.take n).drop k) t.Var=0
   .refine ⟨((n:Int),L),?_,⟨n,L,rfl,D,y,by omega,fun v=>?_,fun a ha u hu=>hd a ha u (j u hu)⟩,by simp; omega⟩
    .rw [h0]; rfl
    .have q:cl (r.take n) v=cl (r.take k) v+cl ((r.take n).drop k) v:=(congrArg (fun l=>cl l v) c).trans (Ue _ _ _)
     rw [q,g]
     by_cases e:v=t.Var
     .rw [e,h0]; omega
     .rw [x v e]; omega
   .refine ⟨((n:Int),L++[⟨t.Var,cl ((r.take n).drop k) t.Var⟩]),?_,⟨n,_,rfl,D,⟨?_,?_⟩,by simp; omega,fun v=>?_,fun a ha u hu=>?_⟩,by simp; omega⟩
    .rw [Et h0,cond_true,Dj (by simp; omega)]; rfl
    .refine List.pairwise_append.2 ⟨y.srt,List.pairwise_singleton _ _,fun a ha b hb=>?_⟩
     simp only [List.mem_singleton] at hb
     subst hb
     exact hd a ha t A
    .intro a ha
     rcases List.mem_append.1 ha with ha | ha
     .exact y.nz a ha
     .simp only [List.mem_singleton] at ha
      subst ha; exact h0
    .have q:cl (r.take n) v=cl (r.take k) v+cl ((r.take n).drop k) v:=(congrArg (fun l=>cl l v) c).trans (Ue _ _ _)
     rw [q,Ue,g]
     simp only [cl]
     by_cases e:t.Var=v
     .rw [if_pos e,<-e]; omega
     .rw [if_neg e,x v (fun h=>e h.symm)]; omega
    .rcases List.mem_append.1 ha with ha | ha
     .exact hd a ha u (j u hu)
     .simp only [List.mem_singleton] at ha
      subst ha; exact f u hu
  .right
   have:k=r.length:=by omega
   subst this
   rw [List.take_length] at g
   exact ⟨L,by simp only [Aq (by omega:¬(r.length:Int)<(r.length:Int)),cond_false],y,g,N⟩) (0,[]) ⟨0,[],rfl,by omega,⟨List.Pairwise.nil,fun _ h=>by cases h⟩,by simp,fun v=>by simp [cl],fun _ h=>by cases h⟩
 exact ⟨L,S,R⟩
def Xv (c:Int) (L:List Bf):Ar×Int:=if Cd ⟨c,L⟩=true then (⟨c,L⟩,0) else (⟨0,[]⟩,9)
theorem Apb (c:Int) (ts:List Bf) (l:ts.length<=12) (hb:LBd ts):∃L,Sx c ts=some (Xv c L)/\K2 L/\∀v,cl L v=cl ts v:=by
 obtain ⟨R,h,b,g⟩:=A1s ts l
 obtain ⟨L,k,j,i,q⟩:=A1w g (by rw [b.length_eq]; omega) (fun t ht=>hb t (b.mem_iff.1 ht))
 refine ⟨L,?_,j,fun v=>by rw [i,A1t b]⟩
 unfold Sx
 have f:Q2 ts=some ([],ts):=by
  unfold Q2 I3
  rw [Dj (by simp; omega)]; rfl
 rw [f,Ad]
 dsimp only
 rw [h,Ad,K0 b.length_eq.symm,Ad,<-b.length_eq]
 refine bnd k ?_
 rw [Ky,Ad]
 unfold Xv
 cases Cd ⟨c,L⟩ <;> rfl
end Go.Ab
namespace Go.Ab
open Go
theorem A1x {a:Ak} {z:Int} {k:Nat} (b:RB k a) (h:rq a=(z:Rat)):Bd z.natAbs<=k+1:=by
 have h1:=b.nv
 refine Nat.le_trans (Gn ?_) h1
 unfold rq at h
 have e:mkRat (sg (sv a) (nv a)) (dv a)=mkRat z 1:=by rw [h,Abk]
 rw [Rat.mkRat_eq_iff (E6 a) (by decide)] at e
 have f:(sg (sv a) (nv a)).natAbs=nv a:=by unfold sg; split <;> omega
 have c:(sg (sv a) (nv a)).natAbs=z.natAbs*dv a:=by
  have:=congrArg Int.natAbs e
  rw [Int.natAbs_mul,Int.natAbs_mul] at this
  simpa using this
 have:=E6 a
 rw [<-f,c]
 exact Nat.le_mul_of_pos_right _ (by omega)
theorem Agy {L:Nat} (m:Ba):∀(l:List Ah),(∀t∈l,∃z:Int,rq t.Coef=(z:Rat)/\Bd z.natAbs<=L)->∃z:Int,cf l m=(z:Rat)/\Bd z.natAbs<=L+l.length
 | [],_=>⟨0,rfl,by simp [Ws]⟩
 | t::l,h=>by
  obtain ⟨y,b,f⟩:=Agy m l fun u hu=>h u (by simp [hu])
  obtain ⟨z,c,z2⟩:=h t (by simp)
  simp only [cf]
  split
  .refine ⟨z+y,by rw [c,b,Rat.intCast_add],Ao9 z y (L:=L+l.length) (by omega) f (by simp; omega)⟩
  .exact ⟨y,by rw [b]; grind,by simp; omega⟩
theorem Fv.listI {F:FS} {c:Rat} {z:Int} {K:Nat} {ts:List Ah} {bs:List Ds} (h:Fv F c K ts bs) (f:c=(z:Rat)):∀t∈ts,∃z:Int,rq t.Coef=(z:Rat)/\Bd z.natAbs<=K+1:=fun t ht=>by
 obtain ⟨j,hj⟩:=List.getElem?_of_mem ht
 obtain ⟨b,b1,b2,i,g⟩:=h.get hj
 have e:rq t.Coef=((z*(b.2:Int):Int):Rat):=by rw [i,f,Rat.intCast_mul,Rat.intCast_natCast]
 exact ⟨_,e,A1x g e⟩
theorem Agz {x:Bj} {k:Nat} {ts:List Ah} (h:Col k (Ef x) ts) (hk:k<34359738000) (q:ts.length<=1000) (s:∀m,∃z:Int,cf ts m=(z:Rat)):∃R,Ie (Dr ts) ts=some (R,0)/\IP x ts.length (k+2) (cf ts) R:=by
 obtain ⟨R,j,b,f,c,i⟩:=Agd (P:=Ef x) (fun m h=>h.cmo) (Dr ts) ts h (by omega) q (fun g _ h2 h3=>Agh g h2 h3)
 refine ⟨R,j,b,f,fun t ht=>(c t ht).1,i,fun t ht=>?_⟩
 obtain ⟨z,l⟩:=s t.Mono
 have e:rq t.Coef=(z:Rat):=by rw [<-Lz b ht,f,l]
 exact ⟨z,e,Ao7 (b.coe t ht).1 e (c t ht).2⟩
theorem IsE.good {x:Bj} {A:List A6} {B:List Ds} (h:IsE A B) (i:Atk A) (g:∀a∈A,D3 x.Vars x.Res a.Lin=true) (k:Cb A<=6):∀b∈B,Ef x ⟨[],b.1⟩:=by
 obtain ⟨gs,l,c,j,f,rfl⟩:=h
 intro b hb
 obtain ⟨h1,h2⟩:=Agw (vars:=x.Vars) (res:=x.Res) f (fun a ha=>⟨i.lin a (c.mem_iff.1 ha),g a (c.mem_iff.1 ha)⟩) [([],1)] 0 (fun b hb=>by
  simp only [List.mem_singleton] at hb
  subst hb
  exact ⟨⟨List.Pairwise.nil,fun _ h=>by cases h⟩,by simp [Ch],fun _ h=>by cases h⟩) b hb
 refine Ao5 h1 ?_
 rw [Nu c] at h2
 omega
theorem A1y {B:List Ds} {m:Ba}:∃z:Int,(1:Rat)*(ec B m:Rat)=(z:Rat):=⟨(ec B m:Int),by rw [Rat.intCast_natCast]; grind⟩
theorem A1z {l:Ar} {k:Int} (b:Cd l=true) (h0:0<=k) (c:k<=6):Atk [⟨l,k⟩]/\Cb [(⟨l,k⟩:A6)]<=6:=by
 have hd:Cb [(⟨l,k⟩:A6)]=k.toNat:=by simp [Cb]
 exact ⟨⟨fun a ha=>by simp only [List.mem_singleton] at ha; subst ha; exact h0,fun a ha=>by simp only [List.mem_singleton] at ha; subst ha; exact b,by omega,by simp⟩,by omega⟩
theorem Abu (x:Bj) (l:Ar) (k:l.Terms.length<=1048576) (i:x.Vars.length<=1048576):So x l=some (D3 x.Vars x.Res l):=by
 unfold So
 have f:D3 x.Vars x.Res l=l.Terms.zipIdx.all (fun q=>Kb x.Vars x.Res q.1):=by
  unfold D3
  rw [Bool.eq_iff_iff,List.all_eq_true,List.all_eq_true]
  constructor
  .rintro h ⟨a,j⟩ hq
   exact h a (Ct (List.mk_mem_zipIdx_iff_getElem?.1 hq))
  .intro h a ha
   obtain ⟨j,hj⟩:=List.getElem?_of_mem ha
   exact h (a,j) (List.mk_mem_zipIdx_iff_getElem?.2 hj)
 rw [f]
 refine (Tt l.Terms (fun q=>Kb x.Vars x.Res q.1) (fun j=>(j:Int)) rfl (by omega) (rt:=true) (rf:=false) ?_ ?_).trans (by rw [Kv])
 .intro j t ht _ h1 h2 h3
  simp only [h1,h2,h3,cond_true,Ad]
  by_cases e:t.Var = -1
  .rw [Es e,cond_true]
   have:Kb x.Vars x.Res t=(x.Res.Kind==1):=by unfold Kb tyX; rw [if_pos e]
   rw [this]
   by_cases hk:x.Res.Kind=1
   .rw [Fc hk,Es hk]
    exact ⟨fun _=>rfl,fun h=>by cases h⟩
   .rw [Et hk,Cv hk]
    exact ⟨(fun h=>by cases h),fun _=>⟨.inl false,rfl,rfl⟩⟩
  .rw [Cv e,cond_false]
   have b:Kb x.Vars x.Res t=(match Ag x.Vars t.Var with | some u=>u.Kind==1 | none=>false):=by unfold Kb tyX; rw [if_neg e]; cases Ag x.Vars t.Var <;> rfl
   rw [b]
   by_cases c:t.Var<0
   .rw [Al c,Ak0 (.inl c)]
    exact ⟨(fun h=>by cases h),fun _=>⟨.inl false,rfl,rfl⟩⟩
   .rw [Aq c,cond_false]
    by_cases g:(x.Vars.length:Int)<=t.Var
    .rw [Al (by omega),Ak0 (.inr g)]
     exact ⟨(fun h=>by cases h),fun _=>⟨.inl false,rfl,rfl⟩⟩
    .rw [Aq (by omega),cond_false]
     have hx:x.Vars[t.Var.toNat]? = some x.Vars[t.Var.toNat]:=B7 (by omega)
     generalize x.Vars[t.Var.toNat]'(by omega)=u at hx
     rw [Cj (n:=t.Var.toNat) (by omega) hx]
     simp only [Ad]
     by_cases hk:u.Kind=1
     .rw [Fc hk,Es hk]
      exact ⟨fun _=>rfl,fun h=>by cases h⟩
     .rw [Et hk,Cv hk]
      exact ⟨(fun h=>by cases h),fun _=>⟨.inl false,rfl,rfl⟩⟩
 .intro h _
  exact ⟨.inr (),by simp only [h]; rfl,rfl⟩
end Go.Ab
namespace Go.Ab
open Go
theorem Uf {a:Ar} (h:Cd a=true):∀t∈a.Terms,-1048576<=t.Coef/\t.Coef<=1048576:=by
 intro t ht
 obtain ⟨j,hj⟩:=List.getElem?_of_mem ht
 unfold Cd at h
 rw [C9,List.all_eq_true] at h
 have:=h.2 (t,j) (List.mk_mem_zipIdx_iff_getElem?.2 hj)
 unfold Rf at this
 simp only [C9,decide_eq_true_eq] at this
 exact ⟨this.1.2.2.2.1,this.1.2.2.2.2⟩
theorem Apc (a b:List Bf) (h:a.length+b.length<=1000000):Vh [a,b]=some (a++b) :=
 Agp (B:=16) (by decide) (gr:=Zl) (fun n h=>Agt n h) a b h
def Iz (t:Bf):Bf:=⟨t.Var,-t.Coef⟩
theorem A10 (l:List Bf) (v:Int):cl (l.map Iz) v = - cl l v:=by
 induction l with
 | nil=>rfl
 | cons t l ih=>
  simp only [List.map_cons,cl,ih,Iz]
  split <;> omega
theorem A11 (ts:List Bf) (k:ts.length<=1000) (hb:∀t∈ts,-1048576<=t.Coef/\t.Coef<=1048576):Vi ts (-1)=some (ts.map Iz):=by
 unfold Vi
 have f:Q2 ts=some ([],ts):=by
  unfold Q2 I3
  rw [Dj (by simp; omega)]; rfl
 rw [f,Ad]
 dsimp only
 refine G3 ts.length (fun j=>((j:Int),(ts.take j).map Iz++ts.drop j)) (by simp) ?_ ⟨ts.map Iz,?_,rfl⟩
 .intro j hj
  have hx:ts[j]? = some ts[j]:=B7 hj
  have hm:=List.getElem_mem hj
  generalize ts[j]=t at hx hm
  have g:=hb t hm
  have e:(ts.take j).map Iz++ts.drop j=(ts.take j).map Iz++t::ts.drop (j+1):=by rw [Iy hx]
  have b:((ts.take j).map Iz).length=j:=by simp; omega
  have i:Ag ((ts.take j).map Iz++ts.drop j) (j:Int)=some t:=by
   refine Cj rfl ?_
   rw [e]
   have:=Ago ((ts.take j).map Iz) (ts.drop (j+1)) t
   rwa [b] at this
  have hw:Ac (t.Coef * -1) = -t.Coef:=by rw [Ac,Bx] <;> omega
  have c:Cr ((ts.take j).map Iz++ts.drop j) (j:Int) (⟨t.Var,-t.Coef⟩:Bf)=(ts.take (j+1)).map Iz++ts.drop (j+1):=by
   rw [Fq (n:=j) rfl,e,Dk hx,List.map_append,List.append_assoc]
   have:∀(A R:List Bf) (x y:Bf),(A++x::R).set A.length y=A++y::R:=by
    intro A R x y
    induction A with
    | nil=>rfl
    | cons a A ih=>simp only [List.cons_append,List.length_cons,List.set_cons_succ,ih]
   have h:=this ((ts.take j).map Iz) (ts.drop (j+1)) t ⟨t.Var,-t.Coef⟩
   rw [b] at h
   rw [h]; rfl
  simp only [Al (by omega:(j:Int)<((ts.length:Nat):Int)),cond_true,i,Ad,Db hj (by omega),hw,c]
 .simp
theorem Apd (a b:Ar) (h:a.Terms.length+b.Terms.length<=12) :
  (Cd a=true/\Cd b=true/\∃L,Lg a b=some (Xv (a.Const+b.Const) L)/\K2 L/\∀v,cl L v=cl a.Terms v+cl b.Terms v)\/((Cd a&&Cd b)=false/\Lg a b=some (⟨0,[]⟩,1)):=by
 unfold Lg
 rw [Ky,Ky]
 cases ha:Cd a with
 | false=>exact .inr ⟨rfl,rfl⟩
 | true=>
  cases hb:Cd b with
  | false=>exact .inr ⟨rfl,rfl⟩
  | true=>
   left
   have h1:=Jn ha
   have h2:=Jn hb
   obtain ⟨L,g,f,c⟩:=Apb (a.Const+b.Const) (a.Terms++b.Terms) (by simp; omega) (fun t ht=>by
    rcases List.mem_append.1 ht with ht | ht
    .have:=Uf ha t ht; omega
    .have:=Uf hb t ht; omega)
   refine ⟨rfl,rfl,L,?_,f,fun v=>by rw [c,Ue]⟩
   have w:Ac (a.Const+b.Const)=a.Const+b.Const:=by rw [Ac,Bx] <;> omega
   simp only [Ad,D6,cond_false,Apc a.Terms b.Terms (by omega),w,g]
theorem A12 (a b:Ar) (h:a.Terms.length+b.Terms.length<=12) :
  (Cd a=true/\Cd b=true/\∃L,M7 a b=some (Xv (a.Const-b.Const) L)/\K2 L/\∀v,cl L v=cl a.Terms v-cl b.Terms v)\/((Cd a&&Cd b)=false/\M7 a b=some (⟨0,[]⟩,1)):=by
 unfold M7
 rw [Ky,Ky]
 cases ha:Cd a with
 | false=>exact .inr ⟨rfl,rfl⟩
 | true=>
  cases hb:Cd b with
  | false=>exact .inr ⟨rfl,rfl⟩
  | true=>
   left
   have h1:=Jn ha
   have h2:=Jn hb
   obtain ⟨L,g,f,c⟩:=Apb (a.Const-b.Const) (a.Terms++b.Terms.map Iz) (by simp; omega) (fun t ht=>by
    rcases List.mem_append.1 ht with ht | ht
    .have:=Uf ha t ht; omega
    .obtain ⟨u,hu,rfl⟩:=List.mem_map.1 ht
     have:=Uf hb u hu
     show _<=-u.Coef/\-u.Coef<=_
     omega)
   refine ⟨rfl,rfl,L,?_,f,fun v=>by rw [c,Ue,A10]; omega⟩
   have w:Ac (a.Const-b.Const)=a.Const-b.Const:=by rw [Ac,Bx] <;> omega
   simp only [Ad,D6,cond_false,A11 b.Terms (by omega) (Uf hb),Apc a.Terms (b.Terms.map Iz) (by simp; omega),w,g]
theorem A13 (a b:Ar) (c:a.Terms.length+b.Terms.length<=12):∃r,Lg a b=some r:=by
 rcases Apd a b c with ⟨_,_,L,h,_⟩ | ⟨_,h⟩ <;> exact ⟨_,h⟩
theorem Ape (a b:Ar) (c:a.Terms.length+b.Terms.length<=12):∃r,M7 a b=some r:=by
 rcases A12 a b c with ⟨_,_,L,h,_⟩ | ⟨_,h⟩ <;> exact ⟨_,h⟩
theorem Ag0 (a:Gj) (j:a.E.Terms.length+a.F.Terms.length<=12):∃b,P1 a=some b/\(b=true↔Cd a.E=true/\Cd a.F=true/\0<=a.K/\a.K<=6/\((a.Kind=1/\∃s,Lg a.E a.F=some (s,0))\/(a.Kind=2/\∃s,M7 a.E a.F=some (s,0)))):=by
 obtain ⟨r,l⟩:=A13 a.E a.F j
 obtain ⟨q,hq⟩:=Ape a.E a.F j
 unfold P1
 rw [Ky,Ky,l,hq]
 cases x:Cd a.E with
 | false=>exact ⟨false,rfl,by simp⟩
 | true=>
  cases u:Cd a.F with
  | false=>exact ⟨false,rfl,by simp⟩
  | true=>
   simp only [Ad,D6,cond_false]
   by_cases h0:0<=a.K
   .rw [Aq (by omega)]
    by_cases k:a.K<=6
    .rw [Aq (by omega)]
     simp only [cond_false,Ad]
     by_cases f:a.Kind=1
     .rw [Es f,cond_true]
      refine ⟨_,rfl,?_⟩
      constructor
      .intro h
       have h:=of_decide_eq_true (by simpa using h:decide (r.2=0)=true)
       exact ⟨trivial,trivial,h0,k,.inl ⟨f,r.1,by rw [<-h]⟩⟩
      .rintro ⟨_,_,_,_,⟨_,s,i⟩ | ⟨c,_⟩⟩
       .cases i; rfl
       .omega
     .rw [Cv f,cond_false]
      by_cases c:a.Kind=2
      .rw [Es c,cond_true]
       refine ⟨_,rfl,?_⟩
       constructor
       .intro h
        have h:=of_decide_eq_true (by simpa using h:decide (q.2=0)=true)
        exact ⟨trivial,trivial,h0,k,.inr ⟨c,q.1,by rw [<-h]⟩⟩
       .rintro ⟨_,_,_,_,⟨g,_⟩ | ⟨_,s,i⟩⟩
        .exact (f g).elim
        .cases i; rfl
      .rw [Cv c,cond_false]
       exact ⟨false,rfl,by simp [f,c]⟩
    .rw [Al (by omega)]
     exact ⟨false,rfl,by simp; omega⟩
   .rw [Al (by omega)]
    exact ⟨false,rfl,by simp; omega⟩
noncomputable def Abv (x:Bj) (v f:Bool) (E F:Ar):Int:=bif !(v&&f) then 1 else bif !(D3 x.Vars x.Res E&&D3 x.Vars x.Res F) then 6 else 0
end Go.Ab
namespace Go.Ab
open Go
end Go.Ab
namespace Go.Ab
open Go
theorem A14 {x:Bj} {P:Ba->Prop} (g:∀m,P m->Ef x m) {k:Nat} {ts:List Ah} (h:Col k P ts) (hk:k<34359738000) (s:ts.length<=1000) (u:∀m,∃z:Int,cf ts m=(z:Rat)):∃R,Ie (Dr ts) ts=some (R,0)/\IP x ts.length (k+2) (cf ts) R/\∀t∈R,P t.Mono:=by
 obtain ⟨R,l,c,f,b,j⟩:=Agd (P:=P) (fun m h=>(g m h).cmo) (Dr ts) ts h (by omega) s (fun i _ h2 h3=>Agh i h2 h3)
 refine ⟨R,l,⟨c,f,fun t ht=>g _ (b t ht).1,j,fun t ht=>?_⟩,fun t ht=>(b t ht).1⟩
 obtain ⟨z,q⟩:=u t.Mono
 have e:rq t.Coef=(z:Rat):=by rw [<-Lz c ht,f,q]
 exact ⟨z,e,Ao7 (c.coe t ht).1 e (b t ht).2⟩
def NoF (x:Bj) (D:Nat) (m:Ba):Prop:=Ef x m/\m.Factors = []/\Ch m.Atoms<=(D:Nat)
theorem NoF.mono {x:Bj} {D D':Nat} {m:Ba} (h:NoF x D m) (hd:D<=D'):NoF x D' m:=⟨h.1,h.2.1,by have:=h.2.2; omega⟩
theorem IsE.noF {x:Bj} {A:List A6} {B:List Ds} (h:IsE A B) (g:Atk A) (f:∀a∈A,D3 x.Vars x.Res a.Lin=true) (j:Cb A<=6):∀b∈B,NoF x (Cb A) ⟨[],b.1⟩:=by
 intro b hb
 refine ⟨h.good g f j b hb,rfl,?_⟩
 obtain ⟨gs,l,c,k,i,rfl⟩:=h
 obtain ⟨h1,h2⟩:=Agw (vars:=x.Vars) (res:=x.Res) i (fun a ha=>⟨g.lin a (c.mem_iff.1 ha),f a (c.mem_iff.1 ha)⟩) [([],1)] 0 (fun b hb=>by
  simp only [List.mem_singleton] at hb
  subst hb
  exact ⟨⟨List.Pairwise.nil,fun _ h=>by cases h⟩,by simp [Ch],fun _ h=>by cases h⟩) b hb
 rw [Nu c] at h2
 show Ch b.1<=_
 omega
theorem A15 {x:Bj} {P:Ba->Prop} (E:∀m,P m->Ef x m) {A:List A6} (U:Atk A) (N:Cb A<=6) (s:∀B,IsE A B->∀b∈B,P ⟨[],b.1⟩) (b1:List (ByteArray×Int)) (b2:List (ByteArray×List B4)) (D y:Int) (u:List Aj) :
  ∃R B,Vx ⟨[],A⟩ b1 b2 x.Data x.Vars D y u=some (R,0,b1,b2)/\IsE A B/\IP x B.length (2429+B.length*2430) (fun m=>(ec B m:Rat)) R/\∀t∈R,P t.Mono:=by
 have f:rq (cR 1)=1:=by rw [Abl]; rfl
 obtain ⟨out,B,V,G,j,e4⟩:=Ao4 (c:=cR 1) (K:=3) (A:=A) ((Abi (k:=1) (by rw [Mr]; decide) (by decide)).mono (by decide)) (by decide) (by rw [f]; decide) U b1 b2 x.Data x.Vars D y u
 have S:out.length<=64:=Nat.le_trans e4 (Nat.le_trans (Nat.pow_le_pow_right (by decide) N) (by decide))
 have hm:=s B G
 obtain ⟨v,J,v2,v3,v4⟩:=Pa (k0:=2427) (k:=2427) (P:=P) (fun m h=>(E m h).cmo) out [] (Col.nil _ _) (fun t ht=>by
  obtain ⟨b,hb,q,_,l⟩:=j.mem ht
  exact ⟨l,by rw [q]; exact hm b hb⟩) (Nat.le_refl _) (by omega) (by simp; omega)
 simp at v3
 have i:∀m,cf v m=1*(ec B m:Rat):=fun m=>by rw [v4,j.cf,f]; simp only [cf]; grind
 obtain ⟨R,M,g,L⟩:=A14 (x:=x) (P:=P) E v2 (by omega) (by omega) (fun m=>by rw [i]; exact A1y)
 refine ⟨R,B,?_,G,⟨g.cp,fun m=>by rw [g.val,i]; grind,g.mo,by have:=g.len; have:=j.len; omega,fun t ht=>by
  obtain ⟨z,I,z2⟩:=g.int t ht
  exact ⟨z,I,by rw [<-j.len]; omega⟩⟩,L⟩
 unfold Vx
 rw [T9,Ad,V,Ad]
 simp only [bne_self_eq_false,cond_false,Hz,Ad]
 rw [show Hc out [] []=some (Dr v,v) from J,Ad,M]; rfl
theorem Gs.nil_of {c:List Grp} {A:List A6} (h:Gs c A):A = []->c = []:=by
 cases h with
 | nil=>exact fun _=>rfl
 | cons b _ _ _ _=>exact fun e=>absurd (List.append_eq_nil_iff.1 e).1 b
theorem IsE.one {a:A6} {B:List Ds} (h:IsE [a] B):B.length<=1:=by
 obtain ⟨gs,I,y,J,q,rfl⟩:=h
 have G:I = [a]:=List.perm_singleton.1 y
 rw [G] at q
 generalize c:[a]=X at q
 cases q with
 | nil=>cases c
 | @cons l N f g rest gs s R L A E=>
  have M:g.length+rest.length=1:=by
   have:=congrArg List.length c
   simpa using this.symm
  have z:g.length=1:=by
   have:=List.length_pos_iff.2 s
   have:rest.length≠1\/g.length=0:=by omega
   omega
  have b:rest = []:=List.length_eq_zero_iff.1 (by omega)
  subst b
  rw [List.append_nil] at c
  subst c
  have x:=E.nil_of rfl
  subst x
  .show (E3 [([],1)] l f (N+1)).length<=1
   have key:∀n,(∀i j,i<n->j<n->f i≠0->f j≠0->i=j)->(E3 [(([],1):Ds)] l f n).length<=1/\((E3 [(([],1):Ds)] l f n).length=1->∃i,i<n/\f i≠0):=by
    intro n
    induction n with
    | zero=>intro _; simp [E3]
    | succ n ih=>
     intro h
     obtain ⟨i1,i2⟩:=ih fun i j u hj=>h i j (by omega) (by omega)
     rw [Rs,List.length_append]
     by_cases h0:f n=0
     .rw [if_pos h0]
      refine ⟨by simpa using i1,fun e=>?_⟩
      obtain ⟨i,a1,a2⟩:=i2 (by simpa using e)
      exact ⟨i,by omega,a2⟩
     .rw [if_neg h0]
      have:(E3 [(([],1):Ds)] l f n).length≠1:=fun e=>by
       obtain ⟨i,a1,a2⟩:=i2 e
       have:=h i n (by omega) (by omega) a2 h0
       omega
      refine ⟨by simp only [List.length_map,List.length_singleton]; omega,fun _=>⟨n,by omega,h0⟩⟩
   refine (key (N+1) ?_).1
   rcases A with ⟨_,h2⟩ | ⟨_,h2,_⟩
   .have e:∀k,k<N+1->f k=if k=N then 1 else 0:=by
     refine Aoq fun n _=>?_
     rw [h2.2.2 n]
     have D:N=a.Deg.toNat:=by have:=h2.1; simpa [Cb] using this
     rw [Agn (k:=N) (by omega) (fun j hj=>by simp [hj])]
     simp [prb,D]
    intro i j u hj h1 h2
    rw [e i u] at h1
    rw [e j hj] at h2
    split at h1
    .split at h2
     .omega
     .exact (h2 rfl).elim
    .exact (h1 rfl).elim
   .intro i j u hj _ _
    omega
theorem IsE.oneA {a:A6} {B:List Ds} (h:IsE [a] B):∀b∈B,b.1.length<=1:=by
 obtain ⟨gs,A,q,x,k,rfl⟩:=h
 have j:=q.length_eq
 cases k with
 | nil=>intro b hb; simp only [H9,List.mem_singleton] at hb; subst hb; simp
 | @cons l N f g rest gs c y i z u=>
  rw [List.length_append] at j
  simp only [List.length_singleton] at j
  have s:=List.length_pos_iff.2 c
  have i:rest = []:=List.length_eq_zero_iff.1 (by omega)
  subst i
  have:=u.nil_of rfl
  subst this
  exact Ao1 (M:=0) fun b hb=>by simp only [List.mem_singleton] at hb; subst hb; simp
theorem Ag1 {x:Bj} (A:CSz x) (D:Fj x) {l:Ar} {k:Int} (g:Cd l=true) (h0:0<=k) (E:k<=6) (j:D3 x.Vars x.Res l=true) :
  ∃R B,Li x l k=some (R,0)/\IsE [⟨l,k⟩] B/\IP x 1 4900 (fun m=>(ec B m:Rat)) R/\∀t∈R,NoF x k.toNat t.Mono/\t.Mono.Atoms.length<=1:=by
 obtain ⟨s,hb,_⟩:=Agi A (ps:=[]) (fun p hp=>by cases hp) (by simp) ⟨D,fun p hp=>by cases hp⟩
 obtain ⟨a1,a2⟩:=A1z g h0 E
 obtain ⟨R,B,y,f,c,i⟩:=A15 (x:=x) (P:=fun m=>NoF x (Cb [⟨l,k⟩]) m/\m.Atoms.length<=1) (fun m h=>h.1.1) a1 a2 (fun B q b hb=>⟨q.noF a1 (fun a ha=>by simp only [List.mem_singleton] at ha; subst ha; exact j) a2 b hb,q.oneA b hb⟩) s [] x.Res.Kind x.Res.Num x.Res.Args
 refine ⟨R,B,?_,f,⟨c.cp,c.val,c.mo,Nat.le_trans c.len f.one,fun t ht=>by
  obtain ⟨z,u,z2⟩:=c.int t ht
  have:=f.one
  exact ⟨z,u,by omega⟩⟩,fun t ht=>⟨(i t ht).1.mono (by simp [Cb]),(i t ht).2⟩⟩
 unfold Li
 rw [hb]
 simp only [Ad,D6,cond_false,Ky,g,Aq (by omega:¬k<0),Aq (by omega:¬k>6)]
 rw [Am2 s [] x.Data x.Vars x.Res l (by have:=(Jn g).1; omega),Ad,j]
 simp only [D6,cond_false,y,Ad]
end Go.Ab
namespace Go.Ab
open Go
theorem Ag2 {l:List A6} (h:∀a∈l,1<=a.Deg):0<=Ch l:=by
 induction l with
 | nil=>simp [Ch]
 | cons a l ih=>
  have h1:=h a (by simp)
  have h2:=ih fun b hb=>h b (by simp [hb])
  unfold Ch at *
  simp only [List.map_cons,List.sum_cons]; omega
theorem Apf {l:List A6} (h:∀a∈l,1<=a.Deg) (j:Nat):0<=Ch (l.take j)/\Ch (l.take j)<=Ch l:=by
 refine ⟨Ag2 fun a ha=>h a (List.mem_of_mem_take ha),?_⟩
 have e:=Abs (l.take j) (l.drop j)
 rw [List.take_append_drop] at e
 have:=Ag2 (l:=l.drop j) fun a ha=>h a (List.mem_of_mem_drop ha)
 omega
theorem A16 {x:Bj} {D:Nat} {m:Ba} (h:NoF x D m) (q:D<=6) (b1:List (ByteArray×Int)) (b2:List (ByteArray×List B4)) (data:List A9) (vars:List Aj) (k i:Int) (g:List Aj) :
  Kp m b1 b2 data vars k i g=some (Ch m.Atoms,b1):=by
 obtain ⟨h1,h2,h3⟩:=h
 have hm:=h1.cmo
 have hd:∀a∈m.Atoms,1<=a.Deg:=fun a ha=>(hm.al a ha).2.2.1
 have l:=hm.na
 unfold Kp
 rw [h2]
 refine bnd (a:=(0,b1)) (D0 (by simp)) ?_
 dsimp only
 refine G3 m.Atoms.length (fun j=>(Ch (m.Atoms.take j),(j:Int))) (by simp [Ch]) ?_ ⟨Ch m.Atoms,?_,rfl⟩
 .intro j hj
  have hx:m.Atoms[j]? = some m.Atoms[j]:=B7 hj
  have b:=List.getElem_mem hj
  generalize m.Atoms[j]=a at hx b
  have ha:=hm.al a b
  have ht:=Apf hd j
  have c:=Apf hd (j+1)
  rw [Dk hx,Abs] at c
  have f:Ch [a]=a.Deg:=by simp [Ch]
  rw [f] at c
  have e:(if (7:Int)<a.Deg then 7 else a.Deg)=a.Deg:=if_neg (by omega)
  have w:Ac (Ch (m.Atoms.take j)+a.Deg)=Ch (m.Atoms.take j)+a.Deg:=by rw [Ac,Bx] <;> omega
  simp only [Al (by omega:(j:Int)<(m.Atoms.length:Int)),cond_true,Cj rfl hx,Ad,Al (by omega:Ch (m.Atoms.take j)<=6),e,w,Db hj (by omega),Dk hx,Abs,f]
 .simp only [Aq (by omega:¬(m.Atoms.length:Int)<(m.Atoms.length:Int)),cond_false,List.take_length]
theorem Apg {x:Bj} {D:Nat} {t:Ah} (h:NoF x D t.Mono) (l:D<=6) (b1:List (ByteArray×Int)) (b2:List (ByteArray×List B4)) (data:List A9) (vars:List Aj) (i g:Int) (f:List Aj) :
  ∃G,Oi [t] b1 b2 data vars i g f=some (G,b1)/\0<=G/\G<=(D:Int):=by
 have hd:∀a∈t.Mono.Atoms,1<=a.Deg:=fun a ha=>(h.1.cmo.al a ha).2.2.1
 have h0:=Ag2 hd
 have c:=h.2.2
 refine ⟨Ch t.Mono.Atoms,?_,h0,c⟩
 unfold Oi
 have i0:Ag [t] 0=some t:=rfl
 have k:Ac (0+1)=1:=by rw [Ac,Bx] <;> omega
 refine G3 1 (fun j=>if j=0 then (0,0,b1) else (Ch t.Mono.Atoms,1,b1)) rfl ?_ ⟨(Ch t.Mono.Atoms,b1),?_,rfl⟩
 .intro j hj
  have:j=0:=by omega
  subst this
  have e:(if Ch t.Mono.Atoms>0 then Ch t.Mono.Atoms else 0)=Ch t.Mono.Atoms:=by split <;> omega
  have b:=A16 h l b1 b2 data vars i g f
  simp only [if_true,List.length_singleton,i0,Ad,b,e,k]
  rfl
 .rfl
noncomputable def eB (A:List A6):List Ds:=open Classical in if h:∃B,IsE A B then Classical.choose h else []
theorem Aph {A:List A6} {B:List Ds} (h:IsE A B):eB A=B:=by
 unfold eB
 rw [dif_pos ⟨B,h⟩]
 exact (Classical.choose_spec (⟨B,h⟩:∃B,IsE A B)).det h (List.Perm.refl _)
noncomputable def Rt:List Ah->List Ah->Ba->Rat
 | t::_,u::_,m=>rq t.Coef*rq u.Coef*(ec (eB (t.Mono.Atoms++u.Mono.Atoms)) m:Rat)
 | _,_,_=>0
theorem Api {x:Bj} {D:Nat} {m:Ba} (h:NoF x D m) (f:D<=6):Atk m.Atoms/\Cb m.Atoms<=D/\(∀a∈m.Atoms,D3 x.Vars x.Res a.Lin=true)/\m.Atoms.length<=D:=by
 have hm:=h.1.cmo
 have hd:∀l:List A6,(∀a∈l,1<=a.Deg)->(Cb l:Int)=Ch l/\(l.length:Int)<=Ch l:=by
  intro l
  induction l with
  | nil=>intro _; simp [Cb,Ch]
  | cons a l ih=>
   intro h
   have h1:=h a (by simp)
   obtain ⟨h2,h3⟩:=ih fun b hb=>h b (by simp [hb])
   unfold Ch at *
   simp only [Cb,List.map_cons,List.sum_cons,List.length_cons]; omega
 have c:=hd m.Atoms fun a ha=>(hm.al a ha).2.2.1
 have h3:=h.2.2
 refine ⟨⟨fun a ha=>by have:=(hm.al a ha).2.2.1; omega,fun a ha=>(hm.al a ha).1,by omega,by omega⟩,by omega,fun a ha=>?_,by omega⟩
 have hc:=h.1.1
 unfold H8 at hc
 simp only [C9,List.all_eq_true] at hc
 obtain ⟨j,hj⟩:=List.getElem?_of_mem ha
 have:=hc.1.2 (a,j) (List.mk_mem_zipIdx_iff_getElem?.2 hj)
 unfold Mw at this
 simp only [C9] at this
 exact this.1.2
end Go.Ab
namespace Go.Ab
open Go
theorem Abw {B:List Ds} {l:Ar} {f:Nat->Nat} {m:Nat} (h:∀k,k<m->f k=0):∀n,(E3 B l f n).length<=(n-m)*B.length
 | 0=>by simp [E3]
 | n+1=>by
  have ih:=Abw (B:=B) (l:=l) h n
  rw [Rs,List.length_append]
  rcases Nat.lt_or_ge n m with h' | h'
  .rw [if_pos (h n h'),show n-m=0 by omega] at *
   simp only [List.length_nil]; omega
  .have e:n+1-m=(n-m)+1:=by omega
   rw [e,Nat.add_mul,Nat.one_mul]
   have:(if f n=0 then ([]:List Ds) else B.map fun b=>(b.1++atO l n,b.2*f n)).length<=B.length:=by split <;> simp
   omega
theorem A17 {x d:Nat} (h:x<d):bc x d=0:=by
 induction x generalizing d with
 | zero=>
  cases d with
  | zero=>omega
  | succ d=>rfl
 | succ x ih=>
  cases d with
  | zero=>omega
  | succ d=>
   show bc x d+bc x (d+1)=0
   rw [ih (by omega),ih (by omega)]
theorem Apj {x:Nat} {a:A6} (h:x<a.Deg.toNat):∀{l:List A6},a∈l->prb x l=0
 | b::l,hm=>by
  simp only [prb]
  rcases List.mem_cons.1 hm with rfl | hm
  .rw [A17 h,Nat.zero_mul]
  .rw [Apj h hm,Nat.mul_zero]
theorem Ag3 {l:Ar} {N:Nat} {f:Nat->Nat} {g:List A6} (h:PwN g N f) {a:A6} (ha:a∈g) (b:a.Deg.toNat<=N):∀k,k<a.Deg.toNat->f k=0:=fun k hk=>by
 have:=h.le (k:=k) (by omega)
 rw [Apj hk ha] at this
 omega
theorem Ag4 {B:List Ds} {l:Ar} {N:Nat} {f:Nat->Nat} {a:A6} (h:Pw l N f [a]):(E3 B l f (N+1)).length<=B.length:=by
 rcases h with ⟨_,h⟩ | ⟨_,h,_⟩
 .have b:N=a.Deg.toNat:=by have:=h.1; simpa [Cb] using this
  have:=Abw (B:=B) (l:=l) (Ag3 (l:=l) h (List.mem_singleton.2 rfl) (by omega)) (N+1)
  rw [show N+1-a.Deg.toNat=1 by omega,Nat.one_mul] at this
  exact this
 .subst h
  have:=Abp B l f 1
  rw [Nat.one_mul] at this
  exact this
theorem Apk {B:List Ds} {l:Ar} {N:Nat} {f:Nat->Nat} {a b:A6} (h:Pw l N f [a,b]):(E3 B l f (N+1)).length<=(1+min a.Deg.toNat b.Deg.toNat)*B.length:=by
 rcases h with ⟨_,h⟩ | ⟨_,h,_⟩
 .have c:N=a.Deg.toNat+b.Deg.toNat:=by have:=h.1; simp only [Cb] at this; omega
  have h1:=Abw (B:=B) (l:=l) (Ag3 (l:=l) h (a:=a) (by simp) (by omega)) (N+1)
  have h2:=Abw (B:=B) (l:=l) (Ag3 (l:=l) h (a:=b) (by simp) (by omega)) (N+1)
  rcases Nat.le_total a.Deg.toNat b.Deg.toNat with k | k
  .rw [Nat.min_eq_left k]
   rw [show N+1-b.Deg.toNat=1+a.Deg.toNat by omega] at h2
   exact h2
  .rw [Nat.min_eq_right k]
   rw [show N+1-a.Deg.toNat=1+b.Deg.toNat by omega] at h1
   exact h1
 .subst h
  have h1:=Abp B l f 1
  rw [Nat.one_mul] at h1
  rw [Nat.add_mul,Nat.one_mul]
  exact Nat.le_trans h1 (Nat.le_add_right _ _)
theorem A18 (a b:Nat):1+min a b<=2 ^ ((a+b) / 2):=by
 have h1:∀n:Nat,1+n<=2 ^ n:=fun n=>by
  induction n with
  | zero=>decide
  | succ n ih=>rw [Nat.pow_succ]; omega
 exact Nat.le_trans (h1 _) (Nat.pow_le_pow_right (by decide) (by omega))
theorem A19 (a b:Nat):2 ^ (a / 2)*2 ^ (b / 2)<=2 ^ ((a+b) / 2):=by
 rw [<-Nat.pow_add]
 exact Nat.pow_le_pow_right (by decide) (by omega)
def Few (A:List A6):Prop:=∀l,(A.filter fun a=>decide (Ev a.Lin l=0)).length<=2
theorem Few.perm {A b:List A6} (h:Few A) (hp:b.Perm A):Few b:=fun l=>by rw [(hp.filter _).length_eq]; exact h l
theorem Ag5 {l:Ar}:∀{L:List A6},L.Pairwise (fun a b=>Ev a.Lin b.Lin<0)->(L.filter fun a=>decide (Ev a.Lin l=0)).length<=1
 | [],_=>by simp
 | a::L,h=>by
  obtain ⟨h1,h2⟩:=List.pairwise_cons.1 h
  by_cases e:Ev a.Lin l=0
  .rw [List.filter_cons_of_pos (by simpa using e)]
   have:L.filter (fun a=>decide (Ev a.Lin l=0)) = []:=List.filter_eq_nil_iff.2 fun b hb=>by
    have h3:=h1 b hb
    intro c
    have c:=of_decide_eq_true c
    rw [(G5.zero _ _ trivial trivial).1 e,(G5.zero _ _ trivial trivial).1 c] at h3
    exact Rr.irr l h3
   rw [this]; simp
  .rw [List.filter_cons_of_neg (by simpa using e)]
   exact Ag5 h2
theorem A2a {L M:List A6} (f:L.Pairwise fun a b=>Ev a.Lin b.Lin<0) (c:M.Pairwise fun a b=>Ev a.Lin b.Lin<0):Few (L++M):=fun l=>by
 rw [List.filter_append,List.length_append]
 have:=Ag5 (l:=l) f
 have:=Ag5 (l:=l) c
 omega
theorem Gs.cnt:∀{j:List Grp} {A:List A6},Gs j A->Few A->∀B,(H9 B j).length<=2 ^ (Cb A / 2)*B.length:=by
 intro j A h
 induction h with
 | nil=>intro _ B; simp [H9,Cb]
 | @cons l N f g rest j k x y i z ih=>
  intro u B
  have q:g.length<=2:=by
   have h1:=u l
   rw [List.filter_append,List.length_append,List.filter_eq_self.2 (fun a ha=>by rw [x a ha]; exact decide_eq_true ((G5.zero l l trivial trivial).2 rfl))] at h1
   omega
  have s:Few rest:=fun m=>by
   have h1:=u m
   rw [List.filter_append,List.length_append] at h1
   omega
  have c:(E3 B l f (N+1)).length<=2 ^ (Cb g / 2)*B.length:=by
   match g,k,q,i with
   | [a],_,_,i=>
    refine Nat.le_trans (Ag4 i) ?_
    exact Nat.le_mul_of_pos_left _ (Nat.pow_pos (by decide))
   | [a,b],_,_,i=>
    refine Nat.le_trans (Apk i) (Nat.mul_le_mul_right _ ?_)
    have:=A18 a.Deg.toNat b.Deg.toNat
    simpa [Cb] using this
  show (H9 (E3 B l f (N+1)) j).length<=_
  refine Nat.le_trans (ih s _) ?_
  rw [L1]
  refine Nat.le_trans (Nat.mul_le_mul_left _ c) ?_
  rw [<-Nat.mul_assoc]
  refine Nat.mul_le_mul_right _ ?_
  rw [Nat.mul_comm]
  exact A19 _ _
theorem IsE.cnt {L M:List A6} {B:List Ds} (h:IsE (L++M) B) (i:L.Pairwise fun a b=>Ev a.Lin b.Lin<0) (g:M.Pairwise fun a b=>Ev a.Lin b.Lin<0):B.length<=2 ^ (Cb (L++M) / 2):=by
 obtain ⟨gs,k,c,j,f,rfl⟩:=h
 have:=f.cnt ((A2a i g).perm c) [([],1)]
 rw [Nu c] at this
 simpa using this
theorem IsE.cnt1 {L M:List A6} {B:List Ds} (h:IsE (L++M) B) (hL:L.length<=1) (hM:M.length<=1):B.length<=1+min (Cb L) (Cb M):=by
 obtain ⟨gs,A',j,S,V,rfl⟩:=h
 have i:=j.length_eq
 rw [List.length_append] at i
 cases V with
 | nil=>simp only [H9,List.length_singleton]; omega
 | @cons l N f g rest gs u hg D A U=>
  rw [List.length_append] at i
  have G:=List.length_pos_iff.2 u
  match g,u,A,i,j,G with
  | [a],_,A,i,j,_=>
   have h1:=Ag4 (B:=[([],1)]) A
   show (H9 (E3 [([],1)] l f (N+1)) gs).length<=_
   simp only [List.length_singleton] at h1 i
   have hB:(H9 (E3 [([],1)] l f (N+1)) gs).length<=(E3 [([],1)] l f (N+1)).length:=by
    generalize E3 [([],1)] l f (N+1)=B0
    cases U with
    | nil=>exact Nat.le_refl _
    | @cons Z N' f' Y k X s _ _ q R=>
     have z:=List.length_pos_iff.2 s
     rw [List.length_append] at i
     match Y,q,i,z with
     | [b],q,i,_=>
      simp only [List.length_singleton] at i
      have D:k = []:=List.length_eq_zero_iff.1 (by omega)
      subst D
      have:=R.nil_of rfl
      subst this
      exact Ag4 q
     | b::c::t,_,i,_=>simp only [List.length_cons] at i; omega
   omega
  | [a,b],_,A,i,j,_=>
   simp only [List.length_cons,List.length_nil] at i
   have D:rest = []:=List.length_eq_zero_iff.1 (by omega)
   subst D
   have:=U.nil_of rfl
   subst this
   rw [List.append_nil] at j
   have h1:=Apk (B:=[([],1)]) A
   have J:∃x,L = [x]:=List.length_eq_one_iff.1 (by omega)
   have I:∃x,M = [x]:=List.length_eq_one_iff.1 (by omega)
   obtain ⟨x,rfl⟩:=J
   obtain ⟨y,rfl⟩:=I
   have E:(a=x/\b=y)\/(a=y/\b=x):=by
    have ha:a∈[x]++[y]:=j.mem_iff.1 (by simp)
    simp only [List.cons_append,List.nil_append,List.mem_cons,List.not_mem_nil,or_false] at ha
    rcases ha with rfl | rfl
    .left
     exact ⟨rfl,by have:=j.cons_inv; exact (List.singleton_perm_singleton.1 this)⟩
    .right
     have S:[a,b].Perm [a,x]:=j.trans (List.Perm.swap a x [])
     exact ⟨rfl,List.singleton_perm_singleton.1 S.cons_inv⟩
   show (E3 [([],1)] l f (N+1)).length<=_
   simp only [List.length_singleton,Nat.mul_one] at h1
   simp only [Cb,Nat.add_zero]
   rcases E with ⟨rfl,rfl⟩ | ⟨rfl,rfl⟩
   .exact h1
   .rw [Nat.min_comm]; exact h1
  | a::b::c::t,_,_,i,_,_=>simp only [List.length_cons] at i; omega
end Go.Ab
namespace Go.Ab
open Go
theorem Apl {α:Type} {l:List α} (h:l.length<=1):l = []\/∃a,l = [a]:=by
 cases l with
 | nil=>exact .inl rfl
 | cons a l=>
  cases l with
  | nil=>exact .inr ⟨a,rfl⟩
  | cons b l=>simp at h
theorem Apm (x:Bj) (n L:Nat) (f:Ba->Rat) (b:∀m,f m=0):IP x n L f [] :=
 ⟨CP.nil,fun m=>(b m).symm,fun _ h=>(by cases h),by simp,fun _ h=>(by cases h)⟩
theorem A2b {x:Bj} (hz:CSz x) (hf:Fj x) {D D':Nat} (hD:D+D'<=6) {f g:Ba->Rat} {p q:List Ah} (hp:IP x 1 4900 f p) (hq:IP x 1 4900 g q) (np:∀t∈p,NoF x D t.Mono) (nq:∀t∈q,NoF x D' t.Mono) {n:Nat} (hn:∀t∈p,∀u∈q,∀B,IsE (t.Mono.Atoms++u.Mono.Atoms) B->B.length<=n) :
  ∃R,Me x p q=some (R,0)/\IP x n 13000 (Rt p q) R:=by
 obtain ⟨j,hb⟩:=Age hz hf (hp.can (by decide) (by decide)) (hq.can (by decide) (by decide))
 have s:Ie [] []=some ([],0):=by
  obtain ⟨R,E,l⟩:=Agz (x:=x) (k:=0) (Col.nil 0 _) (by decide) (by simp) (fun m=>⟨0,rfl⟩)
  have:R = []:=List.length_eq_zero_iff.1 (by have:=l.len; simpa using this)
  rw [this] at E
  exact E
 have L:Ac (0+1)=1:=by rw [Ac,Bx] <;> omega
 rcases Apl hp.len with rfl | ⟨t,rfl⟩
 .refine ⟨[],?_,Apm x _ _ _ fun m=>by cases q <;> rfl⟩
  unfold Me
  rw [hb]
  simp only [Ad,D6,cond_false,List.length_nil,Hz]
  rw [Aq (by decide),cond_false]
  simp only [Ad,cond_false]
  refine bnd (a:=.inr (j,[],[],[])) (D0 (by rfl)) ?_
  simp only [s,Ad]
 .have ht:=np t (by simp)
  have S:=Apg ht (by omega) j [] x.Data x.Vars x.Res.Kind x.Res.Num x.Res.Args
  obtain ⟨G,g1,g2,g3⟩:=S
  have it:Ag [t] 0=some t:=rfl
  rcases Apl hq.len with rfl | ⟨u,rfl⟩
  .refine ⟨[],?_,Apm x _ _ _ fun m=>rfl⟩
   unfold Me
   rw [hb]
   simp only [Ad,D6,cond_false,List.length_nil,List.length_singleton,Hz]
   rw [Al (by decide),Aq (by decide),cond_true,cond_false]
   simp only [Ad,cond_false]
   refine bnd (a:=.inr (j,[],[],[])) ?_ (by simp only [s,Ad])
   refine (Ha (s':=(1,j,[],[],[])) ?_).trans (D0 ?_)
   .simp only [it,Ad]
    rw [Al (by decide),cond_true]
    refine bnd (a:=.inr (0,j,[],[],[])) (D0 (by rfl)) ?_
    simp only [L]
   .rfl
  .have hu:=nq u (by simp)
   obtain ⟨G',Z,a8,a7⟩:=Apg hu (by omega) j [] x.Data x.Vars x.Res.Kind x.Res.Num x.Res.Args
   have iu:Ag [u] 0=some u:=rfl
   obtain ⟨a1,a2,a3,a4⟩:=Api ht (by omega)
   obtain ⟨c1,c2,c3,c4⟩:=Api hu (by omega)
   obtain ⟨y,J,y2⟩:=hp.int t (by simp)
   obtain ⟨z,I,z2⟩:=hq.int u (by simp)
   have N:=Xu (hp.cp.coe t (by simp)).1 J y2
   have M:=Xu (hq.cp.coe u (by simp)).1 I z2
   obtain ⟨c,m1,m2,m3,m4⟩:=Ri N M (by decide) (by decide)
   have hA:Atk (t.Mono.Atoms++u.Mono.Atoms):=⟨fun a ha=>by
    rcases List.mem_append.1 ha with h | h
    .exact a1.deg a h
    .exact c1.deg a h,fun a ha=>by
    rcases List.mem_append.1 ha with h | h
    .exact a1.lin a h
    .exact c1.lin a h,by rw [L1]; omega,by rw [List.length_append]; omega⟩
   have hs:Cb (t.Mono.Atoms++u.Mono.Atoms)<=6:=by rw [L1]; omega
   have hi:∀a∈t.Mono.Atoms++u.Mono.Atoms,D3 x.Vars x.Res a.Lin=true:=fun a ha=>by
    rcases List.mem_append.1 ha with h | h
    .exact a3 a h
    .exact c3 a h
   have V:rq c≠0:=by
    rw [m4]
    exact fun h=>by
     rcases Rat.mul_eq_zero.1 h with h | h
     .exact (hp.cp.coe t (by simp)).2 h
     .exact (hq.cp.coe u (by simp)).2 h
   obtain ⟨out,B,e1,e2,A,e4⟩:=Ao4 (c:=c) (K:=9804) (m2.mono (by decide)) (by decide) V hA j [] x.Data x.Vars x.Res.Kind x.Res.Num x.Res.Args
   have a6:out.length<=64:=Nat.le_trans e4 (Nat.le_trans (Nat.pow_le_pow_right (by decide) hs) (by decide))
   have hm:=e2.good (x:=x) hA hi hs
   obtain ⟨v,v1,v2,v3,v4⟩:=Pa (k0:=12228) (k:=12228) (P:=Ef x) (fun m h=>h.cmo) out [] (Col.nil _ _) (fun w hw=>by
    obtain ⟨b,hb,Y,_,X⟩:=A.mem hw
    exact ⟨X,by rw [Y]; exact hm b hb⟩) (Nat.le_refl _) (by omega) (by simp; omega)
   simp at v3
   have U:∀m,cf v m=Rt [t] [u] m:=fun m=>by
    rw [v4,A.cf,m4]
    show cf [] m+_=rq t.Coef*rq u.Coef*(ec (eB (t.Mono.Atoms++u.Mono.Atoms)) m:Rat)
    rw [Aph e2]
    simp only [cf]; grind
   obtain ⟨R,E,l⟩:=Agz (x:=x) v2 (by omega) (by omega) (fun m=>by
    rw [v4,A.cf,m4,J,I]
    exact ⟨y*z*(ec B m:Int),by rw [Rat.intCast_mul,Rat.intCast_mul,Rat.intCast_natCast]; simp only [cf]; grind⟩)
   refine ⟨R,?_,⟨l.cp,fun m=>by rw [l.val,U],l.mo,by have:=l.len; have:=A.len; have:=hn t (by simp) u (by simp) B e2; omega,fun w hw=>by
    obtain ⟨i,i1,i2⟩:=Agy w.Mono out (A.listI (z:=y*z) (by rw [m4,J,I,Rat.intCast_mul]))
    refine ⟨i,?_,by omega⟩
    rw [<-Lz l.cp hw,l.val,v4,i1]
    show (0:Rat)+(i:Rat)=(i:Rat)
    grind⟩⟩
   have hj:Mk t.Mono u.Mono=some ⟨[],t.Mono.Atoms++u.Mono.Atoms⟩:=by
    rw [Abo _ _ (by rw [ht.2.1,hu.2.1]; simp) (by omega),ht.2.1,hu.2.1]; rfl
   have wG:Ac (G+G')=G+G':=by rw [Ac,Bx] <;> omega
   unfold Me
   rw [hb]
   simp only [Ad,D6,cond_false,List.length_singleton,Hz]
   rw [Al (by decide),cond_true,cond_true,g1,Ad,Z,Ad,wG,Aq (by omega)]
   simp only [Ad,cond_false]
   refine bnd (a:=.inr (j,[],Dr v,v)) ?_ (by simp only [E,Ad])
   refine (Ha (s':=(1,j,[],Dr v,v)) ?_).trans (D0 ?_)
   .simp only [it,Ad]
    rw [Al (by decide),cond_true]
    refine bnd (a:=.inr (1,j,[],Dr v,v)) ?_ (by simp only [L])
    refine (Ha (s':=(1,j,[],Dr v,v)) ?_).trans (D0 ?_)
    .simp only [iu,Ad,m1,hj,e1]
     rw [Al (by decide),cond_true]
     simp only [bne_self_eq_false,cond_false]
     rw [show Hc out [] []=some (Dr v,v) from v1]
     simp only [Ad,L]
    .rfl
   .rfl
end Go.Ab
namespace Go.Ab
open Go
def sq:Nat->(Nat->Rat)->Rat
 | 0,_=>0
 | n+1,f=>sq n f+f n
theorem IP.up {x:Bj} {n b L L':Nat} {f g:Ba->Rat} {R:List Ah} (h:IP x n L f R) (i:n<=b) (j:L<=L') (e:∀m,f m=g m):IP x b L' g R :=
 ⟨h.cp,fun m=>by rw [h.val,e],h.mo,Nat.le_trans h.len i,fun t ht=>by
  obtain ⟨z,c,z2⟩:=h.int t ht
  exact ⟨z,c,by omega⟩⟩
noncomputable def aP (x:Bj) (l:Ar) (k:Int):List Ah:=match Li x l k with | some r=>r.1 | none=>[]
theorem Ag6 {x:Bj} (h:CSz x) (q:Fj x) {l:Ar} {k:Int} (i:Cd l=true) (h0:0<=k) (s:k<=6) (j:D3 x.Vars x.Res l=true) :
  Li x l k=some (aP x l k,0)/\IP x 1 4900 (fun m=>(ec (eB [⟨l,k⟩]) m:Rat)) (aP x l k)/\∀t∈aP x l k,NoF x k.toNat t.Mono/\t.Mono.Atoms.length<=1:=by
 obtain ⟨R,B,b,g,f,c⟩:=Ag1 h q i h0 s j
 have e:aP x l k=R:=by unfold aP; rw [b]
 rw [e,Aph g]
 exact ⟨b,f,c⟩
noncomputable def shF (x:Bj) (E F s:Ar) (K:Nat) (m:Ba):Rat:=(ec (eB [⟨s,(K:Int)⟩]) m:Rat)-sq (K+1) fun j=>Rt (aP x E (j:Int)) (aP x F ((K-j:Nat):Int)) m
theorem NoF.dsum_le {x:Bj} {D:Nat} {m:Ba} (h:NoF x D m):Cb m.Atoms<=D:=by
 have h1:=h.2.2
 have h2:∀l:List A6,(∀a∈l,1<=a.Deg)->Ch l=(Cb l:Nat):=fun l=>by
  induction l with
  | nil=>intro _; rfl
  | cons a l ih=>
   intro h
   have e:=ih fun b hb=>h b (by simp [hb])
   have c:=h a (by simp)
   unfold Ch at *
   simp only [List.map_cons,List.sum_cons,Cb]
   omega
 rw [h2 _ fun a ha=>(h.1.cmo.al a ha).2.2.1] at h1
 omega
def cs (K:Nat):Nat->Nat
 | 0=>0
 | j+1=>cs K j+(1+min j (K-j))
theorem Apn {K j:Nat} (b:K<=6) (hj:j<=K+1):cs K j<=16:=(by decide:∀K,K<7->∀j,j<K+2->cs K j<=16) K (by omega) j (by omega)
theorem A2c {x:Bj} (b:CSz x) (c:Fj x) {E F:Ar} {K j:Nat} (y:Cd E=true) (s:Cd F=true) (q:D3 x.Vars x.Res E=true) (i:D3 x.Vars x.Res F=true) (A:K<=6) (hj:j<=K) :
  ∃R,Sv x ⟨1,E,F,(K:Int)⟩ (j:Int)=some (R,0)/\IP x (1+min j (K-j)) 13000 (Rt (aP x E (j:Int)) (aP x F ((K-j:Nat):Int))) R:=by
 obtain ⟨a1,a2,a3⟩:=Ag6 b c (l:=E) (k:=(j:Int)) y (by omega) (by omega) q
 obtain ⟨b1,b2,f⟩:=Ag6 b c (l:=F) (k:=((K-j:Nat):Int)) s (by omega) (by omega) i
 obtain ⟨R,h,g⟩:=A2b b c (D:=j) (D':=K-j) (by omega) a2 b2 (fun t ht=>(a3 t ht).1.mono (by omega)) (fun t ht=>(f t ht).1.mono (by omega)) (n:=1+min j (K-j)) (fun t ht u hu B z=>by
  have h1:=z.cnt1 (a3 t ht).2 (f u hu).2
  have h2:=(a3 t ht).1.dsum_le
  have h3:=(f u hu).1.dsum_le
  omega)
 refine ⟨R,?_,g⟩
 have w:Ac ((K:Int)-(j:Int))=((K-j:Nat):Int):=by rw [Ac,Bx] <;> omega
 unfold Sv
 simp only [a1,Ad,bne_self_eq_false,cond_false,w,b1,h]
theorem Apo {l:List Bf} {v:Int} (h:cl l v≠0):∃t∈l,t.Var=v:=by
 rcases Classical.em (∃t∈l,t.Var=v) with h' | h'
 .exact h'
 .exact (h (Pd fun t ht e=>h' ⟨t,ht,e⟩)).elim
theorem K2.cl {L:List Bf} (h:K2 L) {t:Bf} (ht:t∈L):Ab.cl L t.Var=t.Coef:=by
 induction L with
 | nil=>cases ht
 | cons s L ih=>
  simp only [Ab.cl]
  rcases List.mem_cons.1 ht with rfl | ht'
  .rw [if_pos rfl,Pd fun u hu=>by have:=(List.pairwise_cons.1 h.srt).1 u hu; omega]; omega
  .have:=(List.pairwise_cons.1 h.srt).1 t ht'
   rw [if_neg (by omega),ih ⟨(List.pairwise_cons.1 h.srt).2,fun u hu=>h.nz u (by simp [hu])⟩ ht']; omega
theorem A2d {vars:List Aj} {res:Aj} {a b s:Ar} (c:K2 s.Terms) (h:∀v,cl s.Terms v=cl a.Terms v+cl b.Terms v) (ha:D3 vars res a=true) (hb:D3 vars res b=true):D3 vars res s=true:=by
 unfold D3 at *
 rw [List.all_eq_true] at *
 intro t ht
 have h1:=c.cl ht
 rw [h] at h1
 have h2:=c.nz t ht
 have key:∀u:Bf,u.Var=t.Var->Kb vars res u=true->Kb vars res t=true:=fun u e hu=>by unfold Kb at *; rw [<-e]; exact hu
 by_cases h3:cl a.Terms t.Var=0
 .obtain ⟨u,hu,e⟩:=Apo (l:=b.Terms) (v:=t.Var) (by omega)
  exact key u e (hb u hu)
 .obtain ⟨u,hu,e⟩:=Apo h3
  exact key u e (ha u hu)
theorem A2e {x:Bj} (A:CSz x) (B:Fj x) {E F s:Ar} {K:Nat} (hE:Cd E=true) (hF:Cd F=true) (iE:D3 x.Vars x.Res E=true) (Z:D3 x.Vars x.Res F=true) (G:K<=6) (hs:Lg E F=some (s,0)) (X:Cd s=true) (Y:D3 x.Vars x.Res s=true) :
  ∃R,U7 x ⟨1,E,F,(K:Int)⟩=some (R,0)/\IP x 17 13010 (shF x E F s K) R:=by
 obtain ⟨a1,a2,a3⟩:=Ag6 A B (l:=s) (k:=(K:Int)) X (by omega) (by omega) Y
 unfold U7
 simp only [hs,Ad,bne_self_eq_false,cond_false,a1]
 obtain ⟨r,N,M⟩:=Fb (J:=fun (z:Int×List Ah)=>match z with | (i,u)=>bif (i != (0:Int)) then some (([]:List Ah),i) else some (u,0)) (Q:=fun r=>∃R,r=(R,(0:Int))/\IP x 17 13010 (shF x E F s K) R)
  (step:=fun (z:Int×List Ah×Int)=>match z with
   | (v9,f,b)=>
    (show Option Bool from
    bif (decide (b<=(K:Int))) then (
    some (v9==(0:Int))
    )
    else (
    some false
    )
    ).bind fun v12=>
    bif v12 then (
    (Sv x ⟨1,E,F,(K:Int)⟩ b).bind fun c=>
    bif (c.2==(0:Int)) then (
    (Kn x f c.1).bind fun q=>
    some (.inl (q.2,q.1,(Ac (b+1))))
    )
    else (
    some (.inl (c.2,f,(Ac (b+1))))
    )
    )
    else (
    some (.inr (v9,f))
    )) (s:=(0,aP x s (K:Int),0))
  (fun y=>∃(j:Nat) (R:List Ah),y=(0,R,(j:Int))/\j<=K+1/\IP x (1+cs K j) (13000+j) (fun m=>(ec (eB [⟨s,(K:Int)⟩]) m:Rat)-sq j fun j=>Rt (aP x E (j:Int)) (aP x F ((K-j:Nat):Int)) m) R) (fun y=>K+1-y.2.2.toNat)
  (fun e=>∃R,e=(0,R)/\IP x 17 13010 (shF x E F s K) R)
  ⟨0,_,rfl,by omega,a2.up (by omega) (by omega) fun m=>by simp only [sq]; grind⟩ (by
  rintro _ ⟨j,R,rfl,hj,g⟩
  rcases Nat.lt_or_ge j (K+1) with h | h
  .left
   obtain ⟨P,V,U⟩:=A2c A B hE hF iE Z G (by omega:j<=K)
   have D:=Apn G (j:=j+1) (by omega)
   have a6:cs K (j+1)=cs K j+(1+min j (K-j)):=rfl
   obtain ⟨S,L,I⟩:=Apa A B g (U.up (L':=13000+j) (Nat.le_refl _) (by omega) fun _=>rfl) (by omega) (by omega)
   refine ⟨(0,S,((j+1:Nat):Int)),?_,⟨j+1,S,rfl,by omega,I.up (by omega) (by omega) fun m=>by simp only [sq]; grind⟩,by simp; omega⟩
   simp only [Al (by omega:(j:Int)<=(K:Int)),cond_true,beq_self_eq_true,Ad,V,L,Db h (by omega)]
  .right
   have:j=K+1:=by omega
   subst this
   have D:=Apn G (j:=K+1) (by omega)
   refine ⟨(0,R),by simp only [Aq (by omega:¬((K+1:Nat):Int)<=(K:Int)),cond_false,Ad],R,rfl,g.up (by omega) (by omega) fun m=>rfl⟩) (by
  rintro _ ⟨R,rfl,g⟩
  exact ⟨_,rfl,R,rfl,g⟩)
 obtain ⟨R,rfl,g⟩:=M
 exact ⟨R,N,g⟩
theorem A2f {x:Bj} (j:CSz x) (E F:Ar) (K:Int) (X:E.Terms.length<=6) (V:F.Terms.length<=6) :
  ∃R v f,P0 x ⟨1,E,F,K⟩=some (R,Abv x v f E F)/\P1 ⟨1,E,F,K⟩=some v/\Jz x []=some f/\(Abv x v f E F≠0->R = []) /\
   (Abv x v f E F=0->Fj x/\0<=K/\K<=6/\Cd E=true/\Cd F=true/\D3 x.Vars x.Res E=true/\D3 x.Vars x.Res F=true/\∃s,Lg E F=some (s,0)/\IP x 17 13010 (shF x E F s K.toNat) R):=by
 obtain ⟨v,D,v2⟩:=Ag0 ⟨1,E,F,K⟩ (by show E.Terms.length+F.Terms.length<=12; omega)
 obtain ⟨f,f1,f2⟩:=Rh x j [] (fun t ht=>by cases ht)
 have U:=j.nv
 have I:=Abu x E (by omega) (by omega)
 have G:=Abu x F (by omega) (by omega)
 unfold P0
 rw [D,f1,I,G]
 unfold Abv
 cases v with
 | false=>exact ⟨[],false,f,rfl,rfl,rfl,fun _=>rfl,fun h=>absurd (show (1:Int)=0 from h) (by decide)⟩
 | true=>
  cases f with
  | false=>exact ⟨[],true,false,rfl,rfl,rfl,fun _=>rfl,fun h=>absurd (show (1:Int)=0 from h) (by decide)⟩
  | true=>
   cases A:D3 x.Vars x.Res E with
   | false=>exact ⟨[],true,true,rfl,rfl,rfl,fun _=>rfl,fun h=>absurd (show (6:Int)=0 from h) (by decide)⟩
   | true=>
    cases hj:D3 x.Vars x.Res F with
    | false=>exact ⟨[],true,true,rfl,rfl,rfl,fun _=>rfl,fun h=>absurd (show (6:Int)=0 from h) (by decide)⟩
    | true=>
     obtain ⟨z,y,k0,i,hk⟩:=v2.1 rfl
     have k0:0<=K:=k0
     have i:K<=6:=i
     have B:=(f2.1 rfl).1
     rcases hk with ⟨_,s,g⟩ | ⟨h2,_⟩
     .rcases Apd E F (by omega) with ⟨_,_,L,c,N,M⟩ | ⟨_,c⟩
      .rw [g] at c
       have c:=Option.some.inj c
       unfold Xv at c
       by_cases hc:Cd ⟨E.Const+F.Const,L⟩=true
       .rw [if_pos hc] at c
        have k:s=⟨E.Const+F.Const,L⟩:=congrArg Prod.fst c
        subst k
        have S:=A2d (vars:=x.Vars) (res:=x.Res) (a:=E) (b:=F) (s:=⟨E.Const+F.Const,L⟩) N M A hj
        have l:((K.toNat:Nat):Int)=K:=by omega
        obtain ⟨R,u,J⟩:=A2e j B (K:=K.toNat) z y A hj (by omega) g hc S
        rw [l] at u
        refine ⟨R,true,true,?_,rfl,rfl,fun h=>absurd rfl h,fun _=>⟨B,k0,i,z,y,rfl,rfl,_,g,J⟩⟩
        have q:((1:Int)==2)=false:=rfl
        simp only [D6,Ad,cond_false,Bool.and_self,q,u]
       .rw [if_neg hc] at c
        exact absurd (show (0:Int)=9 from congrArg Prod.snd c) (by decide)
      .rw [g] at c
       exact absurd (show (0:Int)=1 from congrArg Prod.snd (Option.some.inj c)) (by decide)
     .exact absurd (show (1:Int)=2 from h2) (by decide)
end Go.Ab
namespace Go.Ab
open Go
theorem Ag7 {S E α:Type} {step:S->Option (S⊕E)} {s0:S} (l:List α) (I:Nat->S->Prop) (Q:E->Prop) (h0:I 0 s0) (f:l.length<4611686018427387904)
  (c:∀(j:Nat) (x:α) (s:S),j<l.length->l[j]? = some x->decide ((j:Int)<(l.length:Int))=true->Ag l (j:Int)=some x->Ac ((j:Int)+1)=((j+1:Nat):Int)->I j s->∃s',step s=some (.inl s')/\I (j+1) s')
  (g:decide ((l.length:Int)<(l.length:Int))=false->∀s,I l.length s->∃e,step s=some (.inr e)/\Q e):∃e,Am step s0=some e/\Q e:=by
 have key:∀n,n<=l.length->∃s,I n s/\Am step s0=Am step s:=by
  intro n
  induction n with
  | zero=>exact fun _=>⟨s0,h0,rfl⟩
  | succ n ih=>
   intro h
   obtain ⟨s,h1,h2⟩:=ih (by omega)
   have hx:l[n]? = some l[n]:=B7 (by omega)
   obtain ⟨s',h3,b⟩:=c n _ s (by omega) hx (Al (by omega)) (Cj rfl hx) (Db (n:=l.length) (by omega) f) h1
   exact ⟨s',b,by rw [h2,Ha h3]⟩
 obtain ⟨s,h1,h2⟩:=key l.length (Nat.le_refl _)
 obtain ⟨e,h3,b⟩:=g (by simp) s h1
 exact ⟨e,by rw [h2,D0 h3],b⟩
theorem A2g {α:Type} (f:α->Int) (l:List α) (h:∀j x,l[j]? = some x->Lx f l x j=true):l.Pairwise fun a b=>f a<f b:=by
 have step:∀j x y,l[j]? = some x->l[j+1]? = some y->f x<f y:=by
  intro j x y hx hy
  have:=h (j+1) y hy
  unfold Lx at this
  rw [Nat.add_sub_cancel,hx] at this
  simpa using this
 have c:∀d j x y,l[j]? = some x->l[j+d+1]? = some y->f x<f y:=by
  intro d
  induction d with
  | zero=>exact fun j x y h1 h2=>step j x y h1 h2
  | succ d ih=>
   intro j x y h1 h2
   have g:l[j+d+1]? = some (l[j+d+1]'(by have:=Fd h2; omega)):=B7 _
   have a1:=ih j x _ h1 g
   have a2:=step _ _ _ g h2
   omega
 rw [List.pairwise_iff_getElem]
 intro i j q hj k
 obtain ⟨d,hd⟩:∃d,j=i+d+1:=⟨j-i-1,by omega⟩
 subst hd
 exact c d i _ _ (B7 q) (B7 hj)
end Go.Ab
namespace Go.Ab
open Go
theorem A2h {S E R α:Type} {step:S->Option (S⊕E)} {s0:S} {J:E->Option R} (l:List α) (p:α->Bool) (F:α->R) (d:R) (b:Nat->S) (h0:s0=b 0) (q:l.length<4611686018427387904)
  (g:∀(j:Nat) (x:α),l[j]? = some x->decide ((j:Int)<(l.length:Int))=true->Ag l (j:Int)=some x->Ac ((j:Int)+1)=((j+1:Nat):Int) ->
   (p x=false->step (b j)=some (.inl (b (j+1))))/\(p x=true->∃e,step (b j)=some (.inr e)/\J e=some (F x)))
  (y:decide ((l.length:Int)<(l.length:Int))=false->∃e,step (b l.length)=some (.inr e)/\J e=some d):(Am step s0).bind J=some ((l.find? p).elim d F):=by
 cases h:l.find? p with
 | none=>
  have u:=List.find?_eq_none.1 h
  refine G3 l.length b h0 (fun j hj=>?_) (y (by simp))
  have hx:l[j]? = some l[j]:=B7 hj
  exact (g j _ hx (Al (by omega)) (Cj rfl hx) (Db hj q)).1 (by simpa using u _ (List.getElem_mem hj))
 | some x=>
  obtain ⟨hp,i,s,hx,k⟩:=List.find?_eq_some_iff_getElem.1 h
  have f:l[i]? = some x:=by rw [B7 s,hx]
  refine G3 i b h0 (fun j hj=>?_) ((g i x f (Al (by omega)) (Cj rfl f) (Db s q)).2 hp)
  have c:l[j]? = some l[j]:=B7 (by omega)
  exact (g j _ c (Al (by omega)) (Cj rfl c) (Db (n:=l.length) (by omega) q)).1 (by simpa using k j hj)
def fc (l:List Bf) (v:Int):Int:=(l.find? fun t=>t.Var==v).elim 0 (·.Coef)
theorem A2i {l:List Bf} {M:Int} (h:∀t∈l,-M<=t.Coef/\t.Coef<=M) (c:0<=M) (v:Int) : -M<=fc l v/\fc l v<=M:=by
 unfold fc
 cases b:l.find? fun t=>t.Var==v with
 | none=>exact ⟨by show -M<=0; omega,c⟩
 | some t=>exact h t (List.mem_of_find?_eq_some b)
theorem A2j {l:List Bf} {v:Int} (h:∀t∈l,t.Var≠v):fc l v=0:=by
 unfold fc
 rw [List.find?_eq_none.2 fun t ht=>by rw [Cv (h t ht)]; decide]; rfl
theorem A2k (a:Ar) (v:Int) (b:a.Terms.length<=1048576):Vk a v=some (fc a.Terms v):=by
 unfold Vk
 refine A2h a.Terms (fun t=>t.Var==v) (·.Coef) 0 (fun j=>(j:Int)) rfl (by omega) ?_ ?_
 .intro j x hx h1 h2 h3
  simp only [h1,h2,h3,cond_true,Ad]
  cases hb:x.Var==v with
  | true=>exact ⟨(fun h=>by cases h),fun _=>⟨_,rfl,rfl⟩⟩
  | false=>exact ⟨(fun _=>rfl),fun h=>by cases h⟩
 .intro h1
  exact ⟨_,by simp only [h1]; rfl,rfl⟩
def Ew (fs:List Ar):List Int:=fs.flatMap fun f=>f.Terms.map (·.Var)
theorem A2l {fs:List Ar} {v:Int} (h:v ∉ Ew fs):∀f∈fs,fc f.Terms v=0:=fun f b=>
 A2j fun t ht e=>h (List.mem_flatMap.2 ⟨f,b,List.mem_map.2 ⟨t,ht,e⟩⟩)
theorem App {fs:List Ar} {M:Nat} (h:∀f∈fs,f.Terms.length<=M):(Ew fs).length<=fs.length*M:=by
 induction fs with
 | nil=>simp [Ew]
 | cons f fs ih=>
  have h1:=h f (by simp)
  have h2:=ih fun g b=>h g (by simp [b])
  unfold Ew at *
  rw [List.flatMap_cons,List.length_append,List.length_map,List.length_cons,Nat.succ_mul]; omega
theorem Apq (fs:List Ar) (s:fs.length<=1000000) (hb:(Ew fs).length<=1000000) :
  ∃V,Su fs=some V/\V.length<=(Ew fs).length/\∀y,y∈V↔y∈Ew fs:=by
 obtain ⟨m,o,q,l,i⟩:=A0f ((Ew fs).mergeSort fun x y=>decide (x<=y)) (A0b _) (by rw [List.length_mergeSort]; omega)
 refine ⟨o.take m,?_,?_,?_⟩
 .unfold Su
  refine Iu fs (fun j=>((j:Int),Ew (fs.take j))) rfl (by omega) ?_ ?_
  .intro j f hj k h1 h2 h3
   have c:(Ew (fs.take j)).length+(f.Terms.map (·.Var)).length<=1000000:=Nat.le_trans (Aof (fun f:Ar=>f.Terms.map (fun t:Bf=>t.Var)) k) hb
   rw [List.length_map] at c
   simp only [h1,h2,h3,cond_true,Ad]
   refine A0g f.Terms (fun t=>t.Var) (Ew (fs.take j)) c ?_
   show some (Sum.inl (_,_))=_
   rw [Dk k]
   unfold Ew
   rw [List.flatMap_append]
   simp
  .intro h1
   refine ⟨Ew fs,by simp only [h1]; rw [List.take_length]; rfl,?_⟩
   rw [A0a,Ad]
   unfold Fm
   rw [if_pos (by rw [List.length_mergeSort]),Ad]
   have:S0 (Ew fs).length ((Ew fs).mergeSort fun x y=>decide (x<=y))=some (m,o):=by
    rw [<-q,List.length_mergeSort]
   rw [this,Ad]
   unfold Y6
   rw [if_pos l]; rfl
 .have g:(o.take m).Nodup:=i.up.imp (fun h=>by omega)
  have b:∀y∈o.take m,y∈Ew fs:=fun y hy=>by
   have:=(i.mem y).1 hy
   rw [List.take_length] at this
   exact List.mem_mergeSort.1 this
  exact List.Nodup.length_le_of_subset g b
 .intro y
  rw [i.mem y,List.take_length,List.mem_mergeSort]
theorem A2m (L:List Int) (v:Int) (z:L.length<=1000000):∃o,Ss L v=some o/\o.length<=L.length+1/\∀y,y∈o↔(y=v\/y∈L):=by
 obtain ⟨e,h1,k,h2,h3⟩:=I2 (step:=(fun v2:Int=>
    bif (decide (v2<(L.length:Int))) then (
    (Ag L v2).bind fun v3=>
    bif (decide (v3<v)) then some (.inl (Ac (v2+1)))
    else some (.inr v2))
    else some (.inr v2):Int->Option (Int⊕Int))) (fun s=>∃k:Nat,s=(k:Int)/\k<=L.length) (fun s=>L.length-s.toNat)
  (fun e=>∃k:Nat,e=(k:Int)/\k<=L.length) (by
   rintro s ⟨k,rfl,hk⟩
   rcases Nat.lt_or_ge k L.length with h | h
   .have hx:L[k]? = some (L[k]'h):=B7 _
    generalize L[k]'_=x at hx
    rw [Al (by omega:(k:Int)<(L.length:Int)),cond_true,Cj rfl hx,Ad]
    by_cases e:x<v
    .rw [Al e,cond_true,Db h (by omega)]
     exact .inl ⟨_,rfl,⟨k+1,rfl,by omega⟩,by simp only [Int.toNat_natCast]; omega⟩
    .rw [Aq e,cond_false]
     exact .inr ⟨_,rfl,k,rfl,hk⟩
   .exact .inr ⟨(k:Int),by rw [Aq (by omega)]; rfl,k,rfl,hk⟩) 0 ⟨0,rfl,by omega⟩
 subst h2
 unfold Ss
 rw [h1,Ad]
 have g:D1 L 0 (k:Int)=some (L.take k):=by
  unfold D1
  rw [if_pos (by omega)]; simp
 have f:D1 L (k:Int) (L.length:Int)=some (L.drop k):=by
  unfold D1
  rw [if_pos (by omega)]; simp
 have b:((D1 L 0 (k:Int)).bind fun q=>(Ce 8 [] q).bind fun u=>(Ce 8 u [v]).bind fun l=>(D1 L (k:Int) (L.length:Int)).bind fun i=>(Ce 8 l i).bind fun j=>some j)=some (L.take k++[v]++L.drop k):=by
  rw [g,Ad,Dj (by simp; omega),Ad,Dj (by simp; omega),Ad,f,Ad,Dj (by simp; omega)]; rfl
 have c:∃o,some (L.take k++[v]++L.drop k)=some o/\o.length<=L.length+1/\∀y,y∈o↔(y=v\/y∈L):=by
  refine ⟨_,rfl,by simp; omega,fun y=>?_⟩
  have e:y∈L↔y∈L.take k\/y∈L.drop k:=by rw [<-List.mem_append,List.take_append_drop]
  rw [e]
  simp only [List.mem_append,List.mem_singleton]
  constructor
  .rintro ((h | h) | h)
   .exact .inr (.inl h)
   .exact .inl h
   .exact .inr (.inr h)
  .rintro (h | h | h)
   .exact .inl (.inr h)
   .exact .inl (.inl h)
   .exact .inr h
 rcases Nat.lt_or_ge k L.length with h | h
 .have hx:L[k]? = some (L[k]'h):=B7 _
  generalize L[k]'_=x at hx
  rw [Al (by omega:(k:Int)<(L.length:Int)),cond_true,Cj rfl hx,Ad,Ad]
  by_cases e:x=v
  .rw [Es e,cond_true]
   refine ⟨L,rfl,by omega,fun y=>⟨.inr,?_⟩⟩
   rintro (rfl | h')
   .rw [<-e]; exact Ct hx
   .exact h'
  .rw [Cv e,cond_false,b]; exact c
 .rw [Aq (by omega),cond_false,Ad,cond_false,b]; exact c
theorem A2n (fs:List Ar) (hl:fs.length<=1000000) (hb:(Ew fs).length<=1000000) :
  ∃V,Adv fs=some V/\V.length<=(Ew fs).length/\∀y,y∈V↔y∈Ew fs:=by
 obtain ⟨V,Y,X,U⟩:=Ag7 (step:=(fun (v12,l)=>
   bif (decide (l<(fs.length:Int))) then (
   (Ag fs l).bind fun z=>
   (Am (S:=((List Int)×Int)) (E:=((List Int)×Int)) (fun (c,b)=>
   bif (decide (b<(z.Terms.length:Int))) then (
   (Ag fs l).bind fun v20=>
   (Ag v20.Terms b).bind fun v21=>
   (Ss c v21.Var).bind fun v22=>
   some (.inl (v22,(Ac (b+1)))))
   else some (.inr (c,b))) (v12,0)).bind fun (v23,v24)=>
   some (.inl (v23,(Ac (l+1)))))
   else some (.inr v12):List Int×Int->Option ((List Int×Int)⊕List Int))) (s0:=([],0)) fs
  (fun j s=>s.2=(j:Int)/\s.1.length<=(Ew (fs.take j)).length/\∀y,y∈s.1↔y∈Ew (fs.take j))
  (fun V=>V.length<=(Ew fs).length/\∀y,y∈V↔y∈Ew fs) ⟨rfl,by simp,fun y=>by simp [Ew]⟩ (by omega)
  (by
   rintro j f ⟨L,i⟩ hj D h1 h2 h3 ⟨k,u,hm⟩
   dsimp only at k u hm ⊢
   subst k
   rw [h1,cond_true,h2,Ad]
   have B:(Ew (fs.take j)).length+(f.Terms.map (·.Var)).length<=(Ew fs).length:=Aof (fun f:Ar=>f.Terms.map (fun t:Bf=>t.Var)) D
   rw [List.length_map] at B
   obtain ⟨⟨L',i'⟩,g1,g2,g3⟩:=Ag7 (step:=(fun (c,b)=>
     bif (decide (b<(f.Terms.length:Int))) then (
     (some f).bind fun v20=>
     (Ag v20.Terms b).bind fun v21=>
     (Ss c v21.Var).bind fun v22=>
     some (.inl (v22,(Ac (b+1)))))
     else some (.inr (c,b)):List Int×Int->Option ((List Int×Int)⊕(List Int×Int)))) (s0:=(L,0)) f.Terms
    (fun q s=>s.2=(q:Int)/\s.1.length<=(Ew (fs.take j)).length+q/\∀y,y∈s.1↔(y∈Ew (fs.take j)\/y∈(f.Terms.take q).map (·.Var)))
    (fun e=>e.1.length<=(Ew (fs.take j)).length+f.Terms.length/\∀y,y∈e.1↔(y∈Ew (fs.take j)\/y∈f.Terms.map (·.Var))) ⟨rfl,u,fun y=>by simpa using hm y⟩ (by omega)
    (by
     rintro q t ⟨M,i⟩ hq ht A R N ⟨k,x,g⟩
     dsimp only at k x g ⊢
     subst k
     obtain ⟨o,J,Z,I⟩:=A2m M t.Var (by omega)
     rw [A,cond_true,Ad,R,Ad,J,Ad,N]
     refine ⟨_,rfl,rfl,by dsimp only; omega,fun y=>?_⟩
     dsimp only
     rw [I,g,Dk ht,List.map_append,List.mem_append]
     simp only [List.map_cons,List.map_nil,List.mem_singleton]
     constructor
     .rintro (h | h | h)
      .exact .inr (.inr h)
      .exact .inl h
      .exact .inr (.inl h)
     .rintro (h | h | h)
      .exact .inr (.inl h)
      .exact .inr (.inr h)
      .exact .inl h)
    (by
     rintro A ⟨M,i⟩ ⟨k,x,g⟩
     dsimp only at k x g ⊢
     subst k
     rw [A,cond_false]
     exact ⟨_,rfl,x,fun y=>by dsimp only; rw [g,List.take_length]⟩)
   dsimp only at g2 g3
   have G:Ew (fs.take (j+1))=Ew (fs.take j)++f.Terms.map (·.Var):=by
    rw [Dk D]
    unfold Ew
    rw [List.flatMap_append]
    simp
   refine ⟨(L',((j+1:Nat):Int)),bnd g1 ?_,rfl,by dsimp only; rw [G,List.length_append,List.length_map]; exact g2,fun y=>by dsimp only; rw [g3,G,List.mem_append]⟩
   dsimp only
   rw [h3])
  (by
   rintro h1 ⟨L,i⟩ ⟨k,u,hm⟩
   dsimp only at k u hm ⊢
   subst k
   rw [h1,cond_false]
   rw [List.take_length] at u hm
   exact ⟨_,rfl,u,hm⟩)
 exact ⟨V,bnd Y rfl,X,U⟩
theorem A2o (a:Ar):Ze a=some (Cd a):=by
 have b:∀n,U9 n=some (decide (-1048576<=n/\n<=1048576)):=fun n=>by
  unfold U9
  by_cases h:(-1048576:Int)<=n <;> simp [h]
 unfold Ze Cd
 rw [b]
 simp only [Ad]
 by_cases h1 : -1048576<=a.Const/\a.Const<=1048576
 .rw [Al h1]
  by_cases h2:a.Terms.length<=16
  .rw [Aq (by omega:¬(a.Terms.length:Int)>16),Al ⟨h1.1,h1.2,h2⟩]
   simp only [D6,cond_false,Ad,Bool.true_and]
   refine (Tt a.Terms (fun q=>Rf a.Terms q.1 q.2) (fun j=>(j:Int)) rfl (by omega) (rt:=true) (rf:=false) ?_ ?_).trans (by rw [Kv])
   .intro j x hx _ h1 h2 h3
    simp only [h1,h2,h3,cond_true,Ad,b,Afw (·.Var) a.Terms hx (by omega),Rf]
    by_cases g2:x.Coef=0
    .rw [Es g2,Aq (fun h=>h.2.2.1 g2)]
     exact ⟨(fun h=>by cases h),fun _=>⟨.inl false,rfl,rfl⟩⟩
    by_cases g3 : -1048576<=x.Coef/\x.Coef<=1048576
    .by_cases g1:x.Var < -1
     .rw [Cv g2,Al g3,Al g1,Aq (fun h=>by omega)]
      exact ⟨(fun h=>by cases h),fun _=>⟨.inl false,rfl,rfl⟩⟩
     by_cases g4:x.Var>=3000
     .rw [Cv g2,Al g3,Aq g1,Al g4,Aq (fun h=>by omega)]
      exact ⟨(fun h=>by cases h),fun _=>⟨.inl false,rfl,rfl⟩⟩
     rw [Cv g2,Al g3,Aq g1,Aq g4,Al ⟨by omega,by omega,g2,g3.1,g3.2⟩]
     cases Lx (·.Var) a.Terms x j with
     | true=>exact ⟨fun _=>rfl,fun h=>by cases h⟩
     | false=>exact ⟨(fun h=>by cases h),fun _=>⟨.inl false,rfl,rfl⟩⟩
    .rw [Cv g2,Aq g3,Aq (fun h=>g3 h.2.2.2)]
     exact ⟨(fun h=>by cases h),fun _=>⟨.inl false,rfl,rfl⟩⟩
   .intro h _
    exact ⟨.inr (),by simp only [h]; rfl,rfl⟩
  .rw [Al (by omega:(a.Terms.length:Int)>16),Aq (fun h=>h2 h.2.2)]; rfl
 .rw [Aq h1,Aq (fun h : -1048576<=a.Const/\a.Const<=1048576/\a.Terms.length<=16=>h1 ⟨h.1,h.2.1⟩)]; rfl
theorem Apr (fs:List Ar) (c:fs.length<=5) (hb:∀f∈fs,f.Terms.length<=4):P3 fs=some (fs.all Cd)/\Adu fs=some (fs.all Cd):=by
 have ha:=App hb
 constructor
 .unfold P3
  rw [Aq (by omega),cond_false]
  refine (Ig fs Cd (fun j=>(j:Int)) rfl (by omega) (rt:=true) (rf:=false) ?_ ?_).trans (by rw [Kv])
  .intro j x hx h1 h2 h3
   simp only [h1,h2,h3,cond_true,Ad,Ky]
   cases Cd x with
   | true=>exact ⟨(fun _=>rfl),fun h=>by cases h⟩
   | false=>exact ⟨(fun h=>by cases h),fun _=>⟨_,rfl,rfl⟩⟩
  .intro h1
   obtain ⟨V,b,v2,_⟩:=Apq fs (by omega) (by omega)
   refine ⟨.inr (),by simp only [h1]; rfl,?_⟩
   dsimp only
   rw [b,Ad,Al (by omega)]
 .unfold Adu
  rw [Aq (by omega),cond_false]
  refine (Ig fs Cd (fun j=>(j:Int)) rfl (by omega) (rt:=true) (rf:=false) ?_ ?_).trans (by rw [Kv])
  .intro j x hx h1 h2 h3
   simp only [h1,h2,h3,cond_true,Ad,A2o]
   cases Cd x with
   | true=>exact ⟨(fun _=>rfl),fun h=>by cases h⟩
   | false=>exact ⟨(fun h=>by cases h),fun _=>⟨_,rfl,rfl⟩⟩
  .intro h1
   obtain ⟨V,b,v2,_⟩:=A2n fs (by omega) (by omega)
   refine ⟨.inr (),by simp only [h1]; rfl,?_⟩
   dsimp only
   rw [b,Ad,Al (by omega)]
theorem Xw (x:Rat):G4 x<0↔x<0:=by
 unfold G4
 split
 .rename_i h; exact ⟨fun _=>h,fun _=>by decide⟩
 .rename_i h
  split <;> exact ⟨fun h'=>absurd h' (by decide),fun h'=>absurd h' h⟩
theorem A2p (x:Rat):G4 x>0↔0<x:=by
 unfold G4
 split
 .rename_i h; exact ⟨fun h'=>absurd h' (by decide),fun h'=>by grind⟩
 .rename_i h
  split
  .rename_i h'; exact ⟨fun _=>h',fun _=>by decide⟩
  .rename_i h'; exact ⟨fun h=>absurd h (by decide),fun h=>absurd h h'⟩
def Jo (fs:List Ar) (ps:List Ak):Bool:=decide (fs.length=ps.length)&&ps.all fun p=>!decide (rq p<0)
theorem A2q (fs:List Ar) (ps:List Ak) (b:ps.length<=1048576) (hb:∀p∈ps,RB 1048576 p):U8 fs ps=some (Jo fs ps)/\Adw fs ps=some (Jo fs ps):=by
 have key:∀p∈ps,decide (G4 (rq p)<0)=decide (rq p<0):=fun p _=>decide_eq_decide.2 (Xw _)
 unfold Jo
 constructor
 .unfold U8
  by_cases h:fs.length=ps.length
  .rw [Fc (by omega),cond_false,Al h,Bool.true_and]
   refine (Ig ps (fun p=>!decide (rq p<0)) (fun j=>(j:Int)) rfl (by omega) (rt:=true) (rf:=false) ?_ ?_).trans (by rw [Kv])
   .intro j x hx h1 h2 h3
    have hm:=Ct hx
    simp only [h1,h2,h3,cond_true,Ad,(Mx (hb x hm) (by omega)).1,key x hm]
    cases decide (rq x<0) with
    | true=>exact ⟨(fun h=>by cases h),fun _=>⟨_,rfl,rfl⟩⟩
    | false=>exact ⟨(fun _=>rfl),fun h=>by cases h⟩
   .intro h1
    exact ⟨.inr (),by simp only [h1]; rfl,rfl⟩
  .rw [Et (by omega),cond_true,Aq h]; rfl
 .unfold Adw
  refine (Ig ps (fun p=>!decide (rq p<0)) (fun j=>(j:Int)) rfl (by omega) (rt:=decide (fs.length=ps.length)) (rf:=false) ?_ ?_).trans ?_
  .intro j x hx h1 h2 h3
   have hm:=Ct hx
   simp only [h1,h2,h3,cond_true,Ad,(Mx (hb x hm) (by omega)).2,key x hm]
   cases decide (rq x<0) with
   | true=>exact ⟨(fun h=>by cases h),fun _=>⟨_,rfl,rfl⟩⟩
   | false=>exact ⟨(fun _=>rfl),fun h=>by cases h⟩
  .intro h1
   refine ⟨.inr (),by simp only [h1]; rfl,?_⟩
   dsimp only
   congr 1
   by_cases h:fs.length=ps.length
   .rw [Al h,Es (by omega)]
   .rw [Aq h,Cv (by omega)]
  .congr 1
   cases ps.all fun p=>!decide (rq p<0) with
   | true=>rw [cond_true,Bool.and_true]
   | false=>rw [cond_false,Bool.and_false]
end Go.Ab
namespace Go.Ab
open Go
def dq (P:Ar->Int):List Ar->List Ak->Rat
 | f::fs,p::ps=>rq p*(P f:Rat)+dq P fs ps
 | _,_=>0
theorem Aps (P:Ar->Int):∀(fs:List Ar) (ps:List Ak) (f:Ar) (p:Ak),fs.length=ps.length->dq P (fs++[f]) (ps++[p])=dq P fs ps+rq p*(P f:Rat)
 | [],[],f,p,_=>by simp only [List.nil_append,dq]; grind
 | g::fs,q::ps,f,p,h=>by
  simp only [List.cons_append,dq,Aps P fs ps f p (by simpa using h)]; grind
 | [],q::ps,f,p,h=>by simp at h
 | g::fs,[],f,p,h=>by simp at h
theorem Apt {P:Ar->Int}:∀{fs:List Ar} {ps:List Ak},(∀f∈fs,P f=0)->dq P fs ps=0
 | [],_,_=>by simp only [dq]
 | g::fs,[],_=>by simp only [dq]
 | g::fs,q::ps,h=>by
  simp only [dq]
  rw [Apt (fs:=fs) fun f b=>h f (by simp [b]),h g (by simp)]
  simp only [Rat.intCast_zero]; grind
theorem Apu {P:Ar->Int} {fs:List Ar} {ps:List Ak} {j:Nat} {f:Ar} {p:Ak} (b:fs[j]? = some f) (hp:ps[j]? = some p):dq P (fs.take (j+1)) (ps.take (j+1))=dq P (fs.take j) (ps.take j)+rq p*(P f:Rat):=by
 rw [Dk b,Dk hp,Aps]
 have:=Fd b
 have:=Fd hp
 rw [List.length_take,List.length_take]; omega
theorem Apv (a:Ak):(⟨a.Neg,a.Num,a.Den⟩:Ak)=a:=rfl
theorem Apw {K:Nat} (A:Ar->Option Int) (P:Ar->Int) (fs:List Ar) (g:Ar) (ps:List Ak) (Z:fs.length=ps.length) (Y:fs.length<=200) (hb:∀p∈ps,RB 1048576 p) (G:A g=some (P g)) (I:∀f∈fs,A f=some (P f)) (bg : -1048576<=P g/\P g<=1048576) (bf:∀f∈fs,-1048576<=P f/\P f<=1048576) (hK:K=3+200*1048584) :
  ∃r,((A g).bind fun v3=>(Ep v3).bind fun v4=>
   (Am (S:=(Int×Bool×(List Int)×(List Int))) (E:=(Bool×(List Int)×(List Int))) (fun (b,k,h,c)=>
   bif (decide (b<(fs.length:Int))) then (
   (Ag fs b).bind fun v17=>
   (A v17).bind fun l=>
   bif (l != (0:Int)) then (
   (Ag ps b).bind fun v20=>
   (Ep l).bind fun v21=>
   (Gi v20 v21).bind fun v22=>
   (Nh (Ak.mk k h c) v22).bind fun v23=>
   some (.inl ((Ac (b+1)),v23.Neg,v23.Num,v23.Den)))
   else (
   some (.inl ((Ac (b+1)),k,h,c))))
   else (some (.inr (k,h,c)))) (0,v4.Neg,v4.Num,v4.Den)).bind fun (v24,v25,v26)=>some (Ak.mk v24 v25 v26))=some r/\RB K r/\rq r=(P g:Rat)-dq P fs ps:=by
 obtain ⟨z,L,z2,z3,z4⟩:=Agl (P g) (by omega) (by omega)
 rw [G,Ad,L,Ad]
 obtain ⟨⟨n,u,d⟩,e1,e2,e3⟩:=Ag7 (step:=(fun (b,k,h,c)=>
   bif (decide (b<(fs.length:Int))) then (
   (Ag fs b).bind fun v17=>
   (A v17).bind fun l=>
   bif (l != (0:Int)) then (
   (Ag ps b).bind fun v20=>
   (Ep l).bind fun v21=>
   (Gi v20 v21).bind fun v22=>
   (Nh (Ak.mk k h c) v22).bind fun v23=>
   some (.inl ((Ac (b+1)),v23.Neg,v23.Num,v23.Den)))
   else (
   some (.inl ((Ac (b+1)),k,h,c))))
   else (some (.inr (k,h,c))):Int×Bool×List Int×List Int->Option ((Int×Bool×List Int×List Int)⊕(Bool×List Int×List Int)))) (s0:=(0,z.Neg,z.Num,z.Den)) fs
  (fun j s=>s.1=(j:Int)/\RB (3+j*1048584) ⟨s.2.1,s.2.2.1,s.2.2.2⟩/\rq ⟨s.2.1,s.2.2.1,s.2.2.2⟩=(P g:Rat)-dq P (fs.take j) (ps.take j))
  (fun e=>RB (3+fs.length*1048584) ⟨e.1,e.2.1,e.2.2⟩/\rq ⟨e.1,e.2.1,e.2.2⟩=(P g:Rat)-dq P fs ps)
  ⟨rfl,z2.mono (by omega),by dsimp only; rw [Apv,z4,List.take_zero]; simp only [dq]; grind⟩ (by omega)
  (by
   rintro j f ⟨i,n,u,d⟩ hj J h1 h2 h3 ⟨B,x,hq⟩
   dsimp only at B x hq ⊢
   subst B
   have hm:=Ct J
   have q:ps[j]? = some (ps[j]'(by omega)):=B7 _
   generalize ps[j]'_=p at q
   have D:=Ct q
   have a1:=bf f hm
   rw [h1,cond_true,h2,Ad,I f hm,Ad]
   by_cases h0:P f=0
   .rw [Fc h0,cond_false,h3]
    refine ⟨_,rfl,rfl,x.mono (by omega),?_⟩
    dsimp only
    rw [hq,Apu J q,h0]
    simp only [Rat.intCast_zero]; grind
   .rw [Et h0,cond_true,Cj rfl q,Ad]
    obtain ⟨y,R,N,y3,M⟩:=Agl (P f) (by omega) (by omega)
    obtain ⟨m,m1,m2,m3,m4⟩:=Ri (hb p D) N (by omega) (by omega)
    obtain ⟨s,X,V,s3,U⟩:=Aok x m2 (by omega) (by omega)
    rw [R,Ad,m1,Ad,X,Ad,h3]
    refine ⟨_,rfl,rfl,V.mono (by omega),?_⟩
    dsimp only
    rw [Apv,U,hq,m4,M,Apu J q]; grind)
  (by
   rintro h1 ⟨i,n,u,d⟩ ⟨B,x,hq⟩
   dsimp only at B x hq ⊢
   subst B
   rw [h1,cond_false]
   refine ⟨_,rfl,x,?_⟩
   dsimp only
   rw [hq,List.take_length,Z,List.take_length])
 refine ⟨⟨n,u,d⟩,bnd e1 rfl,e2.mono ?_,e3⟩
 have:fs.length*1048584<=200*1048584:=Nat.mul_le_mul_right _ Y
 omega
theorem Apx {a:Ar} (h:Cd a=true) (v:Int) : -1048576<=fc a.Terms v/\fc a.Terms v<=1048576:=A2i (Uf h) (by decide) v
abbrev KQ:Nat:=3+200*1048584
theorem A2r (fs:List Ar) (g:Ar) (ps:List Ak) (v:Int) (j:fs.length=ps.length) (i:fs.length<=200) (hb:∀p∈ps,RB 1048576 p) (b:Cd g=true) (c:∀f∈fs,Cd f=true) :
  ∃r,Vl fs g ps v=some r/\RB KQ r/\rq r=(fc g.Terms v:Rat)-dq (fun f=>fc f.Terms v) fs ps:=by
 have hc:∀f,Cd f=true->P5 f v=some (fc f.Terms v):=fun f h=>by
  unfold P5
  rw [A2k f v (by have:=(Jn h).1; omega)]; rfl
 exact Apw (fun f=>P5 f v) (fun f=>fc f.Terms v) fs g ps j i hb (hc g b) (fun f h=>hc f (c f h)) (Apx b v) (fun f h=>Apx (c f h) v) rfl
theorem A2s (fs:List Ar) (g:Ar) (ps:List Ak) (c:fs.length=ps.length) (b:fs.length<=200) (hb:∀p∈ps,RB 1048576 p) (i:Cd g=true) (j:∀f∈fs,Cd f=true) :
  ∃r,Z4 fs g ps=some r/\RB KQ r/\rq r=(g.Const:Rat)-dq (fun f=>f.Const) fs ps :=
 Apw (fun f=>Vm f) (fun f=>f.Const) fs g ps c b hb rfl (fun f _=>rfl) (Jn i).2 (fun f h=>(Jn (j f h)).2) rfl
theorem A2t (x:Rat):G4 x≠0↔x≠0:=not_congr (Aog x)
def Pe (fs:List Ar) (g:Ar) (ps:List Ak):Prop:=∀v,dq (fun f=>fc f.Terms v) fs ps=(fc g.Terms v:Rat)
open Classical in
theorem Apy (fs:List Ar) (g:Ar) (ps:List Ak) (hl:fs.length=ps.length) (hn:fs.length<=5) (h4:∀f∈fs,f.Terms.length<=4) (hb:∀p∈ps,RB 1048576 p) (hg:Cd g=true) (hf:∀f∈fs,Cd f=true) :
  ∃r,Sq fs g ps=some (r,decide (Pe fs g ps))/\(Pe fs g ps->RB KQ r/\rq r=(g.Const:Rat)-dq (fun f=>f.Const) fs ps):=by
 obtain ⟨r2,r21,r22,r23⟩:=A2s fs g ps hl (by omega) hb hg hf
 have hcl:Vj fs=some ([],fs):=by
  unfold Vj I3
  rw [Dj (by simp; omega)]; rfl
 have hal:(Ew (fs++[g])).length<=1000000:=by
  have h1:=App h4
  have h2:=(Jn hg).1
  unfold Ew at *
  rw [List.flatMap_append,List.length_append]
  simp only [List.flatMap_cons,List.flatMap_nil,List.append_nil,List.length_map]
  omega
 obtain ⟨V,v1,v2,v3⟩:=Apq (fs++[g]) (by simp; omega) hal
 have hVA:V.all (fun v=>decide (dq (fun f=>fc f.Terms v) fs ps=(fc g.Terms v:Rat)))=decide (Pe fs g ps):=by
  rw [Bool.eq_iff_iff,List.all_eq_true,decide_eq_true_eq]
  constructor
  .intro h v
   by_cases hv:v∈V
   .simpa using h v hv
   .have hv':v ∉ Ew (fs++[g]):=fun h=>hv ((v3 v).2 h)
    have hz:=A2l hv'
    rw [Apt fun f hf'=>hz f (by simp [hf']),hz g (by simp)]; rfl
  .intro h v _
   exact decide_eq_true (h v)
 unfold Sq
 rw [hcl,Ad]
 dsimp only
 rw [Dj (by simp; omega),Ad,v1,Ad]
 have key:=Ig (step:=(fun v12=>
   bif (decide (v12<(V.length:Int))) then (
   (Ag V v12).bind fun v13=>
   (Vl fs g ps v13).bind fun v15=>
   (F7 v15).bind fun v16=>
   bif (v16 != (0:Int)) then (
   some (.inr (.inl ((Ak.mk false [] []),false))))
   else (
   some (.inl (Ac (v12+1)))))
   else (some (.inr (.inr ()))):Int->Option (Int⊕((Ak×Bool)⊕Unit)))) (s0:=0) (J:=fun z=>match z with
    | .inl (r17,r18)=>some (r17,r18)
    | .inr _=>(Z4 fs g ps).bind fun v19=>some (v19,true)) V (fun v=>decide (dq (fun f=>fc f.Terms v) fs ps=(fc g.Terms v:Rat))) (fun j=>(j:Int)) rfl (by omega) (rt:=(r2,true)) (rf:=((Ak.mk false [] []),false)) (by
   intro j x hx h1 h2 h3
   obtain ⟨r,d1,d2,d3⟩:=A2r fs g ps x hl (by omega) hb hg hf
   simp only [h1,h2,h3,cond_true,Ad,d1,(Mx d2 (by decide)).1]
   constructor
   .intro h
    have h:=of_decide_eq_true h
    rw [Fc ((Aog _).2 (by rw [d3,h]; grind))]; rfl
   .intro h
    have h:=of_decide_eq_false h
    rw [Et ((A2t _).2 (by rw [d3]; intro e; exact h (by grind)))]
    exact ⟨_,rfl,rfl⟩) (by
   intro h1
   refine ⟨.inr (),?_,?_⟩ <;> first | (simp only [h1]; rfl) | (simp only [r21]; rfl))
 rw [hVA] at key
 by_cases hA:Pe fs g ps
 .rw [decide_eq_true hA] at key ⊢
  exact ⟨r2,key,fun _=>⟨r22,r23⟩⟩
 .rw [decide_eq_false hA] at key ⊢
  exact ⟨_,key,fun h=>(hA h).elim⟩
def Ag8 (fs:List Ar) (ps:List Ak):Prop:=Pe fs ⟨0,[]⟩ ps/\dq (fun f=>f.Const) fs ps<0
theorem A2u:Cd ⟨0,[]⟩=true:=by decide
open Classical in
theorem A2v (fs:List Ar) (ps:List Ak) (hl:fs.length=ps.length) (hn:fs.length<=5) (h4:∀f∈fs,f.Terms.length<=4) (hb:∀p∈ps,RB 1048576 p) (hf:∀f∈fs,Cd f=true) :
  Sr fs ps=some (decide (Ag8 fs ps)):=by
 obtain ⟨r,r1,r2⟩:=Apy fs ⟨0,[]⟩ ps hl hn h4 hb A2u hf
 unfold Sr
 rw [r1,Ad]
 by_cases hA:Pe fs ⟨0,[]⟩ ps
 .obtain ⟨r3,r4⟩:=r2 hA
  rw [decide_eq_true hA,cond_true,(Mx r3 (by decide)).1,Ad]
  congr 1
  refine decide_eq_decide.2 ?_
  rw [A2p,r4]
  unfold Ag8
  constructor
  .intro h; exact ⟨hA,by simp only [Rat.intCast_zero] at h; grind⟩
  .rintro ⟨_,h⟩; simp only [Rat.intCast_zero]; grind
 .rw [decide_eq_false hA,cond_false,decide_eq_false fun h=>hA h.1]
def Ug (fs:List Ar) (g:Ar) (ps:List Ak):Prop:=(Pe fs g ps/\dq (fun f=>f.Const) fs ps<=(g.Const:Rat))\/Ag8 fs ps
open Classical in
theorem Abx (fs:List Ar) (g:Ar) (ps:List Ak) (hn:fs.length<=5) (h4:∀f∈fs,f.Terms.length<=4) (hp:ps.length<=1048576) (hb:∀p∈ps,RB 1048576 p) :
  M6 fs g ps=some (fs.all Cd&&(Cd g&&(Jo fs ps&&decide (Ug fs g ps)))):=by
 unfold M6
 rw [(Apr fs hn h4).1]
 cases hv:fs.all Cd with
 | false=>rfl
 | true=>
  rw [Ky]
  cases hg:Cd g with
  | false=>rfl
  | true=>
   rw [(A2q fs ps hp hb).1]
   cases hm:Jo fs ps with
   | false=>rfl
   | true=>
    have hl:fs.length=ps.length:=by
     unfold Jo at hm
     rw [C9,decide_eq_true_eq] at hm
     exact hm.1
    have hf:=List.all_eq_true.1 hv
    obtain ⟨r,r1,r2⟩:=Apy fs g ps hl hn h4 hb hg hf
    have hr:=A2v fs ps hl hn h4 hb hf
    simp only [Ad,D6,cond_false,r1,hr,Bool.true_and]
    by_cases hA:Pe fs g ps
    .obtain ⟨r3,r4⟩:=r2 hA
     rw [decide_eq_true hA,cond_true,(Mx r3 (by decide)).1,Ad]
     by_cases hc:dq (fun f=>f.Const) fs ps<=(g.Const:Rat)
     .rw [Al (by have:=mt (Xw (rq r)).1 (by rw [r4]; grind); omega),cond_true]
      congr 1
      exact (decide_eq_true (.inl ⟨hA,hc⟩)).symm
     .rw [Aq (by have:=(Xw (rq r)).2 (by rw [r4]; grind); omega),cond_false]
      congr 1
      exact decide_eq_decide.2 ⟨.inr,fun h=>h.resolve_left fun h=>hc h.2⟩
    .rw [decide_eq_false hA,cond_false]
     congr 1
     exact decide_eq_decide.2 ⟨.inr,fun h=>h.resolve_left fun h=>hA h.1⟩
end Go.Ab
namespace Go.Ab
open Go
theorem A2w (fs:List Ar) (n m:Int) (g:fs.length<=1048576) (ht:∀f∈fs,f.Terms.length<=1048576):∃b,U3 fs n m=some b/\(b=true->(fs.length:Int)<=n/\∀f∈fs,(f.Terms.length:Int)<=m):=by
 unfold U3
 by_cases h:(fs.length:Int)>n
 .rw [Al h]
  exact ⟨false,rfl,fun h=>by cases h⟩
 .rw [Aq h,cond_false]
  refine ⟨fs.all fun f=>!decide ((f.Terms.length:Int)>m),(Ig fs (fun f=>!decide ((f.Terms.length:Int)>m)) (fun j=>(j:Int)) rfl (by omega) (rt:=true) (rf:=false) ?_ ?_).trans (by rw [Kv]),fun h'=>⟨by omega,fun f c=>?_⟩⟩
  .intro j x hx h1 h2 h3
   simp only [h1,h2,h3,cond_true,Ad]
   cases decide ((x.Terms.length:Int)>m) with
   | true=>exact ⟨(fun h=>by cases h),fun _=>⟨_,rfl,rfl⟩⟩
   | false=>exact ⟨(fun _=>rfl),fun h=>by cases h⟩
  .intro h1
   exact ⟨.inr (),by simp only [h1]; rfl,rfl⟩
  .have:=List.all_eq_true.1 h' f c
   simp only [Bool.not_eq_true',decide_eq_false_iff_not] at this
   omega
theorem Apz (ps:List Ak) (n:Int) (c:ps.length<=1048576):∃b,Kk ps n=some b:=by
 unfold Kk
 by_cases h:(ps.length:Int)>n
 .rw [Al h]; exact ⟨false,rfl⟩
 .rw [Aq h,cond_false]
  have hk:∀a:Ak,M5 a=some (decide (a.Num.length<=2)&&decide (a.Den.length<=2)):=fun a=>by
   unfold M5
   by_cases h1:a.Num.length<=2
   .rw [Al (by omega),cond_true,Al h1]
    by_cases h2:a.Den.length<=2
    .rw [Al (by omega),Al h2]; rfl
    .rw [Aq (by omega),Aq h2]; rfl
   .rw [Aq (by omega),Aq h1]; rfl
  refine ⟨_,(Ig ps (fun a=>decide (a.Num.length<=2)&&decide (a.Den.length<=2)) (fun j=>(j:Int)) rfl (by omega) (rt:=true) (rf:=false) ?_ ?_)⟩
  .intro j x hx h1 h2 h3
   simp only [h1,h2,h3,cond_true,Ad,hk]
   cases (decide (x.Num.length<=2)&&decide (x.Den.length<=2)) with
   | true=>exact ⟨(fun _=>rfl),fun h=>by cases h⟩
   | false=>exact ⟨(fun h=>by cases h),fun _=>⟨_,rfl,rfl⟩⟩
  .intro h1
   exact ⟨.inr (),by simp only [h1]; rfl,rfl⟩
theorem Ap0 (a:Ar) (h:a.Terms.length<=1048576):Sp a=some a:=by
 unfold Sp Sy
 rw [Dj (by simp; omega)]; rfl
end Go.Ab
namespace Go.Ab
open Go
theorem A2x {data:List A9} {vars:List Aj} {res:Aj} {b1:List (ByteArray×Int)} (b2:List (ByteArray×List B4)) (hc:Mv data vars res) (hm:Dq data vars res b1) (m:Ba) (l:MSz m) (hp:Kc data vars res m=true) :
  ∃p:Int×List (ByteArray×Int),Kp m b1 b2 data vars res.Kind res.Num res.Args=some p/\(p.1=Dt data vars res m.Factors+Ch m.Atoms\/(6<p.1/\6<Dt data vars res m.Factors+Ch m.Atoms))/\Dq data vars res p.2:=by
 have B:=l.nf
 have ha:=l.na
 unfold Kc at hp
 rw [C9,List.all_eq_true,List.all_eq_true] at hp
 unfold Kp
 refine Fb (fun (v5,u,g)=>∃j:Nat,u=j/\j<=m.Factors.length/\Dq data vars res g/\0<=v5/\v5<=12/\(v5=Dt data vars res (m.Factors.take j)\/(6<v5/\6<Dt data vars res (m.Factors.take j)))) (fun (_,u,_)=>m.Factors.length-u.toNat)
  (fun (v5,g)=>Dq data vars res g/\0<=v5/\v5<=12/\(v5=Dt data vars res m.Factors\/(6<v5/\6<Dt data vars res m.Factors))) ⟨0,rfl,by omega,hm,by omega,by omega,.inl (by simp [Dt])⟩ ?_ ?_
 .rintro ⟨v5,u,g⟩ ⟨j,rfl,hj,q,h0,h12,k⟩
  rcases Nat.lt_or_ge j m.Factors.length with h | h
  .have hx:m.Factors[j]? = some m.Factors[j]:=B7 h
   generalize m.Factors[j]=f at hx
   have c:=Ct hx
   have hd:=hp.1 f c
   rw [decide_eq_true_eq] at hd
   have A:=(Am3 data vars res f).2
   have es:Dt data vars res (m.Factors.take (j+1))=Dt data vars res (m.Factors.take j)+E8 data vars res f:=Am4 _ hx
   simp only [Al (by omega:(j:Int)<(m.Factors.length:Int)),cond_true,Cj rfl hx,Ad,Db h (by omega)]
   by_cases s:v5<=6
   .have x:(tyX vars res f.Var).isSome=true:=by
     unfold E8 at hd
     cases ht:tyX vars res f.Var with
     | none=>rw [ht] at hd; have hd:(0:Int)<=-1:=hd; omega
     | some t=>rfl
    obtain ⟨D,d1,d2⟩:=W6 b2 hc q f (l.fr f c).2 (l.fr f c).1 (l.fi f c) x
    rw [Al s]
    simp only [cond_true,d1,Ad]
    have b:Ac (v5+E8 data vars res f)=v5+E8 data vars res f:=by rw [Ac,Bx] <;> omega
    exact .inl ⟨_,rfl,⟨j+1,rfl,by omega,d2,by simp only [b]; omega,by simp only [b]; omega,by simp only [b,es]; omega⟩,by simp; omega⟩
   .rw [Aq s]
    exact .inl ⟨_,rfl,⟨j+1,rfl,by omega,q,h0,h12,by simp only [es]; omega⟩,by simp; omega⟩
  .have:j=m.Factors.length:=by omega
   subst this
   rw [List.take_length] at k
   exact .inr ⟨(v5,g),by simp,q,h0,h12,k⟩
 .rintro ⟨v5,g⟩ ⟨q,h0,h12,k⟩
  simp only
  refine Fb (fun (v,i)=>∃j:Nat,i=j/\j<=m.Atoms.length/\0<=v/\v<=13/\(v=Dt data vars res m.Factors+Ch (m.Atoms.take j)\/(6<v/\6<Dt data vars res m.Factors+Ch (m.Atoms.take j)))) (fun (_,i)=>m.Atoms.length-i.toNat)
   (fun v=>(v=Dt data vars res m.Factors+Ch m.Atoms\/(6<v/\6<Dt data vars res m.Factors+Ch m.Atoms))) ⟨0,rfl,by omega,h0,by omega,by simpa [Ch] using k⟩ ?_ ?_
  .rintro ⟨v,i⟩ ⟨j,rfl,hj,g0,g13,z⟩
   rcases Nat.lt_or_ge j m.Atoms.length with h | h
   .have hx:m.Atoms[j]? = some m.Atoms[j]:=B7 h
    generalize m.Atoms[j]=a at hx
    have hd:=hp.2 a (Ct hx)
    rw [C9,decide_eq_true_eq] at hd
    have es:=Am5 hx
    simp only [Al (by omega:(j:Int)<(m.Atoms.length:Int)),cond_true,Cj rfl hx,Ad,Db h (by omega)]
    by_cases s:v<=6
    .rw [Al s]
     simp only [cond_true]
     by_cases y:7<a.Deg
     .rw [if_pos y]
      have b:Ac (v+7)=v+7:=by rw [Ac,Bx] <;> omega
      exact .inl ⟨_,rfl,⟨j+1,rfl,by omega,by simp only [b]; omega,by simp only [b]; omega,by simp only [b,es]; omega⟩,by simp; omega⟩
     .rw [if_neg y]
      have b:Ac (v+a.Deg)=v+a.Deg:=by rw [Ac,Bx] <;> omega
      exact .inl ⟨_,rfl,⟨j+1,rfl,by omega,by simp only [b]; omega,by simp only [b]; omega,by simp only [b,es]; omega⟩,by simp; omega⟩
    .rw [Aq s]
     exact .inl ⟨_,rfl,⟨j+1,rfl,by omega,g0,g13,by simp only [es]; omega⟩,by simp; omega⟩
   .have:j=m.Atoms.length:=by omega
    subst this
    rw [List.take_length] at z
    exact .inr ⟨v,by simp,z⟩
  .intro v k
   exact ⟨(v,g),rfl,k,q⟩
def Jp (x:Bj) (m:Ba):Int:=Dt x.Data x.Vars x.Res m.Factors+Ch m.Atoms
structure Uh (x:Bj) (m:Ba):Prop where
 fac:∀f∈m.Factors,1<=E8 x.Data x.Vars x.Res f
 asc:m.Factors.Pairwise fun a b=>a.Var<b.Var
 atm:∀a∈m.Atoms,1<=a.Deg/\Cd a.Lin=true/\a.Lin.Terms.length≠0/\D3 x.Vars x.Res a.Lin=true
 srt:m.Atoms.Pairwise fun a b=>Ev a.Lin b.Lin<0
 deg:Jp x m<=6
theorem Ef.f {x:Bj} {m:Ba} (h:Ef x m):Uh x m:=by
 have hc:=h.1
 unfold H8 at hc
 rw [C9,C9,decide_eq_true_eq] at hc
 obtain ⟨⟨h1,h2⟩,h3⟩:=hc
 have g1:∀j f,m.Factors[j]? = some f->1<=E8 x.Data x.Vars x.Res f/\Lx (·.Var) m.Factors f j=true:=fun j f hj=>by
  have:=Jf h1 hj
  unfold W5 at this
  rw [C9,decide_eq_true_eq] at this
  exact this
 have g2:∀j a,m.Atoms[j]? = some a->(1<=a.Deg/\Cd a.Lin=true/\a.Lin.Terms.length≠0/\D3 x.Vars x.Res a.Lin=true)/\Nt m.Atoms a j=true:=fun j a hj=>by
  have:=Jf h2 hj
  unfold Mw at this
  simp only [C9,decide_eq_true_eq,Bool.not_eq_true',beq_eq_false_iff_ne,ne_eq] at this
  exact ⟨⟨this.1.1.1.1,this.1.1.1.2,this.1.1.2,this.1.2⟩,this.2⟩
 refine ⟨fun f l=>?_,A2g _ _ fun j f hj=>(g1 j f hj).2,fun a ha=>?_,?_,h3⟩
 .obtain ⟨j,hj⟩:=List.getElem?_of_mem l
  exact (g1 j f hj).1
 .obtain ⟨j,hj⟩:=List.getElem?_of_mem ha
  exact (g2 j a hj).1
 .have step:∀j x y,m.Atoms[j]? = some x->m.Atoms[j+1]? = some y->Ev x.Lin y.Lin<0:=by
   intro j x y hx hy
   have:=(g2 (j+1) y hy).2
   unfold Nt at this
   rw [Nat.add_sub_cancel,hx] at this
   simpa using this
  have b:∀d j x y,m.Atoms[j]? = some x->m.Atoms[j+d+1]? = some y->Ev x.Lin y.Lin<0:=by
   intro d
   induction d with
   | zero=>exact fun j x y h1 h2=>step j x y h1 h2
   | succ d ih=>
    intro j x y h1 h2
    have c:m.Atoms[j+d+1]? = some (m.Atoms[j+d+1]'(by have:=Fd h2; omega)):=B7 _
    exact Rr.trs _ _ _ (ih j x _ h1 c) (step _ _ _ c h2)
  rw [List.pairwise_iff_getElem]
  intro i j k hj g
  obtain ⟨d,hd⟩:∃d,j=i+d+1:=⟨j-i-1,by omega⟩
  subst hd
  exact b d i _ _ (B7 k) (B7 hj)
theorem Uh.fsum0 {x:Bj} {m:Ba} (h:Uh x m):0<=Dt x.Data x.Vars x.Res m.Factors:=by
 have key:∀l:List Bz,(∀f∈l,1<=E8 x.Data x.Vars x.Res f)->0<=Dt x.Data x.Vars x.Res l:=fun l=>by
  induction l with
  | nil=>intro _; simp [Dt]
  | cons f l ih=>
   intro b
   have h1:=b f (by simp)
   have h2:=ih fun g c=>b g (by simp [c])
   unfold Dt at *
   simp only [List.map_cons,List.sum_cons]; omega
 exact key _ h.fac
theorem A2y {l:List A6} (h:∀a∈l,1<=a.Deg):Ch l=(Cb l:Nat)/\l.length<=Cb l:=by
 induction l with
 | nil=>exact ⟨rfl,Nat.le_refl _⟩
 | cons a l ih=>
  obtain ⟨e,c⟩:=ih fun b hb=>h b (by simp [hb])
  have f:=h a (by simp)
  unfold Ch at *
  simp only [List.map_cons,List.sum_cons,Cb,List.length_cons]
  omega
theorem Uh.as {x:Bj} {m:Ba} (h:Uh x m):Ch m.Atoms=(Cb m.Atoms:Nat)/\m.Atoms.length<=Cb m.Atoms:=A2y fun a ha=>(h.atm a ha).1
theorem A2z {x:Bj} {m:Ba} (h:Uh x m):Kc x.Data x.Vars x.Res m=true:=by
 unfold Kc
 rw [C9,List.all_eq_true,List.all_eq_true]
 refine ⟨fun f b=>decide_eq_true (by have:=h.fac f b; omega),fun a ha=>?_⟩
 obtain ⟨h1,_,_,c⟩:=h.atm a ha
 rw [c,Al (by omega)]; rfl
theorem A20 {x:Bj} {b1:List (ByteArray×Int)} (b2:List (ByteArray×List B4)) (hc:Mv x.Data x.Vars x.Res) (hm:Dq x.Data x.Vars x.Res b1) {m:Ba} (h:Ef x m) :
  ∃b,Kp m b1 b2 x.Data x.Vars x.Res.Kind x.Res.Num x.Res.Args=some (Jp x m,b)/\Dq x.Data x.Vars x.Res b:=by
 obtain ⟨⟨d,b⟩,h1,h2,h3⟩:=A2x b2 hc hm m h.2 (A2z h.f)
 have:=h.f.deg
 unfold Jp at *
 dsimp only at h2 h3
 have e:d=Dt x.Data x.Vars x.Res m.Factors+Ch m.Atoms:=by omega
 subst e
 exact ⟨b,h1,h3⟩
theorem Ap1 {x:Bj} {b1:List (ByteArray×Int)} (b2:List (ByteArray×List B4)) (hc:Mv x.Data x.Vars x.Res) (hm:Dq x.Data x.Vars x.Res b1) (q:List Ah) (E:q.length<=1000000) (h:∀u∈q,Ef x u.Mono) :
  ∃G b,Oi q b1 b2 x.Data x.Vars x.Res.Kind x.Res.Num x.Res.Args=some (G,b)/\Dq x.Data x.Vars x.Res b/\0<=G/\G<=6/\∀u∈q,Jp x u.Mono<=G:=by
 unfold Oi
 obtain ⟨e,A,G,b,rfl,z⟩:=I2 (step:=(fun (v4,v5,i)=>
   bif (decide (v5<(q.length:Int))) then (
   (Ag q v5).bind fun k=>
   (Kp k.Mono i b2 x.Data x.Vars x.Res.Kind x.Res.Num x.Res.Args).bind fun v9=>
   some (.inl ((if v9.1>v4 then v9.1 else v4),(Ac (v5+1)),v9.2)))
   else (some (.inr (v4,i))):Int×Int×List (ByteArray×Int)->Option ((Int×Int×List (ByteArray×Int))⊕(Int×List (ByteArray×Int)))))
  (fun s=>∃(j:Nat) (G:Int) (b:List (ByteArray×Int)),s=(G,(j:Int),b)/\j<=q.length/\Dq x.Data x.Vars x.Res b/\0<=G/\G<=6/\∀u∈q.take j,Jp x u.Mono<=G) (fun s=>q.length-s.2.1.toNat)
  (fun e=>∃G b,e=(G,b)/\Dq x.Data x.Vars x.Res b/\0<=G/\G<=6/\∀u∈q,Jp x u.Mono<=G)
  (by
   rintro _ ⟨j,G,b,rfl,hj,hm,h0,y,g⟩
   dsimp only
   rcases Nat.lt_or_ge j q.length with h' | h'
   .left
    have hx:q[j]? = some q[j]:=B7 h'
    generalize q[j]=u at hx
    have hu:=h u (Ct hx)
    obtain ⟨c,D,B⟩:=A20 b2 hc hm hu
    have l:=hu.f.deg
    refine ⟨(if Jp x u.Mono>G then Jp x u.Mono else G,((j+1:Nat):Int),c),?_,⟨j+1,_,c,rfl,by omega,B,by split <;> omega,by split <;> omega,fun w hw=>?_⟩,by simp; omega⟩
    .rw [Al (by omega),cond_true,Cj rfl hx,Ad,D,Ad,Db h' (by omega)]
    .rw [Dk hx] at hw
     rcases List.mem_append.1 hw with hw | hw
     .have:=g w hw; split <;> omega
     .rw [List.mem_singleton] at hw
      subst hw; split <;> omega
   .right
    have:j=q.length:=by omega
    subst this
    rw [List.take_length] at g
    exact ⟨(G,b),by rw [Aq (by omega),cond_false],G,b,rfl,hm,h0,y,g⟩)
  (0,0,b1) ⟨0,0,b1,rfl,by omega,hm,by omega,by omega,fun u hu=>by simp at hu⟩
 exact ⟨G,b,bnd A rfl,z⟩
end Go.Ab
