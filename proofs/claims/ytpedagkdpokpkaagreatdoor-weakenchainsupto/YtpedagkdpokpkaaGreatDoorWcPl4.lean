/- Plain laws: what the plain functions answer. -/
import Derived.Test.YtpedagkdpokpkaaGreatDoorWcPl3
namespace Go.Ab
open Go
theorem Aoy {B:List Dm} {l:Ar} {f g:Nat->Nat}:∀{n:Nat},(∀k,k<n->f k=g k)->Ew B l f n=Ew B l g n
 | 0,_=>rfl
 | n+1,h=>by rw [Rn,Rn,Aoy fun k hk=>h k (by omega),h n (by omega)]
theorem Pw.uniq {l:Ar} {N M:Nat} {f g:Nat->Nat} {A b:List A5} (h:Pw l N f A) (h':Pw l M g b) (hp:A.Perm b):N=M/\∀k,k<N+1->f k=g k:=by
 rcases h with ⟨a1,a2⟩ | ⟨a1,a2,a3⟩
 .rcases h' with ⟨_,b2⟩ | ⟨b1,_,_⟩
  .exact a2.uniq b2 hp
  .exact (a1 b1).elim
 .rcases h' with ⟨b1,_⟩ | ⟨_,b2,c⟩
  .exact (b1 a1).elim
  .refine ⟨by omega,fun k hk=>?_⟩
   have:k=0:=by omega
   subst this
   rw [a3,c,Aos _ hp]
theorem Agk (l:Ar):¬Er l l<0:=Rm.irr l
theorem A1b {α:Type} {p:α->Bool} {g r c b:List α} (h:(g++r).Perm (c++b)) (h1:∀a∈g,p a=true) (h2:∀a∈r,p a=false) (h3:∀a∈c,p a=true) (j:∀a∈b,p a=false):g.Perm c/\r.Perm b:=by
 have q:(g++r).filter p=g:=by
  rw [List.filter_append,List.filter_eq_self.2 h1,List.filter_eq_nil_iff.2 (fun a ha=>by rw [h2 a ha]; decide),List.append_nil]
 have l:(c++b).filter p=c:=by
  rw [List.filter_append,List.filter_eq_self.2 h3,List.filter_eq_nil_iff.2 (fun a ha=>by rw [j a ha]; decide),List.append_nil]
 have k:(g++r).filter (fun a=>!p a)=r:=by
  have i:g.filter (fun a=>!p a) = []:=List.filter_eq_nil_iff.2 (fun a ha=>by rw [h1 a ha]; decide)
  have f:r.filter (fun a=>!p a)=r:=List.filter_eq_self.2 (fun a ha=>by rw [h2 a ha]; rfl)
  rw [List.filter_append,i,f,List.nil_append]
 have e4:(c++b).filter (fun a=>!p a)=b:=by
  have i:c.filter (fun a=>!p a) = []:=List.filter_eq_nil_iff.2 (fun a ha=>by rw [h3 a ha]; decide)
  have f:b.filter (fun a=>!p a)=b:=List.filter_eq_self.2 (fun a ha=>by rw [j a ha]; rfl)
  rw [List.filter_append,i,f,List.nil_append]
 refine ⟨?_,?_⟩
 .rw [<-q,<-l]; exact h.filter p
 .rw [<-k,<-e4]; exact h.filter _
theorem Gs.det:∀{u:List Grp} {A:List A5},Gs u A->∀{c:List Grp} {y:List A5},Gs c y->A.Perm y->∀B,H3 B u=H3 B c:=by
 intro u A h
 induction h with
 | nil=>
  intro c y h' hp B
  cases h' with
  | nil=>rfl
  | cons i _ _ _ _=>exact (i (List.append_eq_nil_iff.1 hp.symm.eq_nil).1).elim
 | @cons l N f g rest u i x I M V ih=>
  intro c y h' hp B
  cases h' with
  | nil=>exact (i (List.append_eq_nil_iff.1 hp.eq_nil).1).elim
  | @cons J X R E k c s j q z D=>
   have L:l=J:=by
    obtain ⟨a,ha⟩:∃a,a∈g:=by
     cases g with
     | nil=>exact (i rfl).elim
     | cons a _=>exact ⟨a,by simp⟩
    obtain ⟨b,hb⟩:∃b,b∈E:=by
     cases E with
     | nil=>exact (s rfl).elim
     | cons a _=>exact ⟨a,by simp⟩
    have ha':a∈E++k:=hp.mem_iff.1 (by simp [ha])
    have hb':b∈g++rest:=hp.mem_iff.2 (by simp [hb])
    rcases List.mem_append.1 ha' with ha' | ha'
    .rw [<-x a ha,j a ha']
    .rcases List.mem_append.1 hb' with hb' | hb'
     .rw [<-x b hb',j b hb]
     .have h1:=q a ha'
      have h2:=I b hb'
      rw [x a ha] at h1
      rw [j b hb] at h2
      exact (Agk l (Rm.trs _ _ _ h2 h1)).elim
   subst L
   have G:=A1b (p:=fun a:A5=>decide (Er a.Lin l=0)) hp (fun a ha=>by rw [x a ha]; exact decide_eq_true ((G1.zero l l trivial trivial).2 rfl))
    (fun a ha=>decide_eq_false fun h=>by have h1:=I a ha; rw [(G1.zero _ _ trivial trivial).1 h] at h1; exact Agk l h1)
    (fun a ha=>by rw [j a ha]; exact decide_eq_true ((G1.zero l l trivial trivial).2 rfl))
    (fun a ha=>decide_eq_false fun h=>by have h1:=q a ha; rw [(G1.zero _ _ trivial trivial).1 h] at h1; exact Agk l h1)
   obtain ⟨U,S⟩:=M.uniq z G.1
   subst U
   show H3 (Ew B l f (N+1)) u=H3 (Ew B l R (N+1)) c
   rw [Aoy S]
   exact ih D G.2 _
def IsE (A:List A5) (B:List Dm):Prop:=∃gs b,b.Perm A/\Abh b/\Gs gs b/\B=H3 [([],1)] gs
theorem IsE.det {A c:List A5} {B b:List Dm} (h:IsE A B) (h':IsE c b) (hp:A.Perm c):B=b:=by
 obtain ⟨gs,C,j,_,i,rfl⟩:=h
 obtain ⟨k,l,g,_,f,rfl⟩:=h'
 exact i.det f (j.trans (hp.trans g.symm)) _
theorem A1c {α:Type} (k:α->Int):∀{F R:List α},R.Perm F->R.Pairwise (fun a b=>k a<=k b)->F.Pairwise (fun a b=>k a<k b)->R=F:=by
 intro F
 induction F with
 | nil=>intro R h _ _; exact h.eq_nil
 | cons f F ih=>
  intro R h c g
  cases R with
  | nil=>exact (List.cons_ne_nil _ _ h.symm.eq_nil).elim
  | cons r R=>
   have e:r=f:=by
    rcases List.mem_cons.1 (h.mem_iff.1 (by simp:r∈r::R)) with h1 | h1
    .exact h1
    .have h2:=(List.pairwise_cons.1 g).1 r h1
     rcases List.mem_cons.1 (h.mem_iff.2 (by simp:f∈f::F)) with h3 | h3
     .exact h3.symm
     .have:=(List.pairwise_cons.1 c).1 f h3
      omega
   subst e
   rw [ih h.cons_inv (List.pairwise_cons.1 c).2 (List.pairwise_cons.1 g).2]
structure FOk (data:List A7) (vars:List Aj) (res:Aj) (F:List Bx):Prop where
 asc:F.Pairwise fun a b=>a.Var<b.Var
 one:∀f∈F,(I64 f.Var/\iR f.Index/\Di f.Index<=1048576)/\(tyX vars res f.Var).isSome=true/\1<=E4 data vars res f
 len:F.length<=6
 vr:∀f∈F,-1<=f.Var/\f.Var<=1000000000
theorem A1d:Mz (fun a b:Bx=>a.Var-b.Var):=⟨fun _ h=>by omega,fun _ _ _ h1 h2=>by omega,fun _ _ _ h1 h2 h3=>by omega⟩
theorem A1e {data:List A7} {vars:List Aj} {res:Aj} {F:List Bx} (h:FOk data vars res F):Og F=some F:=by
 have f:=h.len
 obtain ⟨R,h1,h2,h3⟩:=Agi (cmp:=Oh) A1d F (fun x hx y hy=>by
  have:=h.vr x hx
  have:=h.vr y hy
  unfold Oh
  have w:Ac (x.Var-y.Var)=x.Var-y.Var:=by rw [Ac,Bw] <;> omega
  rw [w]) (by omega)
 have c:R=F:=A1c (·.Var) h2 (h3.imp fun {a b} h=>by omega) h.asc
 subst c
 unfold Og
 have e:V4 (R.length:Int) R=Xj Oh (R.length:Int) R:=rfl
 rw [e,h1,Ad,Kw rfl]; rfl
def O6 (b:List (ByteArray×List Bz)):Prop:=∀p∈b,∃f:Bx,p.1=Gv f.Var f.Index/\p.2 = [⟨f.Index,cR 1⟩]
theorem A1f {data:List A7} {vars:List Aj} {res:Aj} {f:Bx} (h1:I64 f.Var/\iR f.Index/\Di f.Index<=1048576) (h2:(tyX vars res f.Var).isSome=true) {b1:List (ByteArray×Int)} {b2:List (ByteArray×List Bz)} (hm:O6 b2) :
  ∃s,S0 [f] b1 b2 data vars res.Kind res.Num res.Args=some ([⟨f.Index,cR 1⟩],0,s)/\O6 s:=by
 obtain ⟨t,ht⟩:=Option.isSome_iff_exists.1 h2
 have y:=Aba h1.2.2 ⟨h1.2.1,h1.1⟩
 have i0:Ag [f] 0=some f:=rfl
 have k:Hh (Gv f.Var f.Index) []=some (((Fa f).length:Int),Fa f):=by
  have:=Rj (b:=[]) (By.fac f) (by simp; omega)
  rw [List.nil_append] at this
  exact this
 have u:Ac (0+1)=1:=by rw [Ac,Bw] <;> omega
 have q:Nat.beq (Gv f.Var f.Index).size 0=false:=by
  rw [Ay2,W7]; rfl
 have c:Dx [f] 1 ([f].length:Int)=some []:=rfl
 have h:O6 (E6 b2 (Gv f.Var f.Index) [⟨f.Index,cR 1⟩]):=fun p hp=>by
  rcases Afm _ _ _ p hp with hp | rfl
  .exact hm p hp
  .exact ⟨f,rfl,rfl⟩
 have l:Li f.Var b1 b2 data vars res.Kind res.Num res.Args=some t:=Amv b1 b2 data vars res ht
 unfold S0
 rw [show decide ((0:Int)<([f].length:Int))=true from rfl,cond_true,i0,Ad,Afl _ _ h1.1 h1.2.1 h1.2.2,Ad,k,Ad,u]
 cases i:Eg b2 (Gv f.Var f.Index) with
 | true=>
  have x:Gt b2 (Gv f.Var f.Index) [] = [⟨f.Index,cR 1⟩]:=by
   unfold Gt
   unfold Eg at i
   cases j:b2.find? fun p=>Gv f.Var f.Index==p.1 with
   | none=>
    rw [List.find?_eq_none] at j
    obtain ⟨p,hp,e⟩:=List.any_eq_true.1 i
    exact (j p hp e).elim
   | some p=>
    obtain ⟨g,g1,g2⟩:=hm p (List.mem_of_find?_eq_some j)
    have e:=List.find?_some j
    have e:Gv f.Var f.Index=p.1:=(O0 _ _).1 e
    rw [g1] at e
    obtain ⟨_,z⟩:=Amm e
    show p.2=_
    rw [g2,z]
  refine ⟨b2,?_,hm⟩
  refine bnd (a:=Fa f) (Dw rfl) ?_
  rw [O5 (By.fac f),Ad]
  have hb:bs (Fa f)=Gv f.Var f.Index:=rfl
  rw [hb,i,cond_true,x]; rfl
 | false=>
  refine ⟨_,?_,h⟩
  refine bnd (a:=Fa f) (Dw rfl) ?_
  rw [O5 (By.fac f),Ad]
  have hb:bs (Fa f)=Gv f.Var f.Index:=rfl
  rw [hb,i,cond_false,Ad]
  dsimp only
  rw [cond_false,Ad,l,Ad,Ad,Ty,Ad,c,Ad]
  refine bnd (a:=()) (Dw rfl) ?_
  unfold Ad5
  rw [q,cond_false,Ad]
theorem A1g {t:Ah} {P:List Bx} {f:Bx} {K:Nat} (hm:t.Mono=⟨P,[]⟩) (j:P.length<=1000) (l:K<30000000000) (h1:RB K t.Coef) :
  ∃u,I3 t (cR 1) ⟨[f],[]⟩=some u/\u.Mono=⟨P++[f],[]⟩/\rq u.Coef=rq t.Coef/\RB (K+5) u.Coef:=by
 obtain ⟨c,i,h,_,g⟩:=Rb (b:=cR 1) (k:=3) h1 ((Abc (k:=1) (by rw [Mm]; decide) (by decide)).mono (by decide)) (by omega) (by decide)
 refine ⟨⟨c,⟨P++[f],[]⟩⟩,?_,rfl,?_,h⟩
 .unfold I3
  rw [i,Ad,hm,Abi _ _ (by simp; omega) (by simp)]; rfl
 .rw [g,Abf,show ((1:Nat):Rat)=1 from rfl]; grind
noncomputable def Agl (data:List A7) (vars:List Aj) (N M:Int) (L:List Aj):(List Ah×List Bx×List (ByteArray×Int)×List (ByteArray×List Bz))->Option ((List Ah×List Bx×List (ByteArray×Int)×List (ByteArray×List Bz))⊕((List Ah×Int×List (ByteArray×Int)×List (ByteArray×List Bz))⊕(List Ah×List (ByteArray×Int)×List (ByteArray×List Bz)))):=fun (v105,c,i,x)=>
 bif (decide ((c.length:Int)>(0:Int))) then (
 (Ag c 0).bind fun v109=>
 (Am (S:=Int) (E:=Int) (fun f=>
 bif (decide (f<(c.length:Int))) then (
 (Ag c f).bind fun A=>
 bif (A.Var==v109.Var) then (
 some (.inl (Ac (f+1)))
 )
 else (
 some (.inr f)
 )
 )
 else (
 some (.inr f)
 )
  ) 1).bind fun k=>
 (Dx c 0 k).bind fun z=>
 (S0 z i x data vars N M L).bind fun b=>
 bif (b.2.1 != (0:Int)) then (
 some (.inr (.inl ([],b.2.1,i,b.2.2)))
 )
 else (
 (Am (S:=(Int×(List (ByteArray×Int))×(List Ah))) (E:=(Int×(List (ByteArray×Int))×(List Ah))) (fun (h,u,s)=>
 bif (decide (h<(v105.length:Int))) then (
 (Ag v105 h).bind fun v175=>
 (Am (S:=(Int×(List (ByteArray×Int))×(List Ah))) (E:=(Int×(List (ByteArray×Int))×(List Ah))) (fun (g,q,l)=>
 bif (decide (g<(b.1.length:Int))) then (
 (Ag b.1 g).bind fun v193=>
 (Oi v109.Var v193.Index q b.2.2 data vars N M L).bind fun j=>
 (I3 v175 v193.Coef (A9.mk j.1 [])).bind fun v196=>
 (B9 104 l [v196]).bind fun J=>
 some (.inl ((Ac (g+1)),j.2,J))
 )
 else (
 some (.inr (g,q,l))
 )
  ) (0,u,s)).bind fun (v198,I,G)=>
 some (.inl ((Ac (h+1)),I,G))
 )
 else (
 some (.inr (h,u,s))
 )
  ) (0,i,[])).bind fun (v201,D,B)=>
 (Dx c k c.length).bind fun y=>
 some (.inl (B,y,D,b.2.2))
 )
 )
 else (
 some (.inr (.inr (v105,i,x)))
 )
theorem A1h {c:Ak} {K:Nat} {data:List A7} {vars:List Aj} {res:Aj} {F:List Bx} {A:List A5} (hx:Mq data vars res) (hc:RB K c) (hK:K<20000000000) (h0:rq c≠0) (hF:FOk data vars res F) (hA:Atk A) {b1:List (ByteArray×Int)} {b2:List (ByteArray×List Bz)} (m1:Dl data vars res b1) (m2:O6 b2) :
  ∃out B q k,Nd c ⟨F,A⟩ b1 b2 data vars res.Kind res.Num res.Args=some (out,0,q,k)/\IsE A B/\Fr ⟨F,by have:=hF.len; omega⟩ (rq c) (K+2454) out B/\out.length<=2 ^ B7 A/\Dl data vars res q/\O6 k/\(F = []->q=b1/\k=b2):=by
 have ao:=hF.len
 have hT:∀b∈A,b.Lin.Terms.length<1099511627776:=fun b hb=>by have:=(Ji (hA.lin b hb)).1; omega
 have aj:=hA.len
 have ai:=hA.sum
 obtain ⟨S,s1,U,s3⟩:=Aou A hT (by omega)
 have J:Atk S:=⟨fun a ha=>hA.deg a (U.mem_iff.1 ha),fun a ha=>hA.lin a (U.mem_iff.1 ha),by rw [Nq U]; exact ai,by rw [U.length_eq]; exact aj⟩
 have hp:2 ^ B7 S<=4096:=Nat.le_trans (Nat.pow_le_pow_right (by decide) J.sum) (by decide)
 have ad:G0 (rq c)≠0:=by
  unfold G0
  split
  .decide
  .split
   .decide
   .rename_i h1 h2
    exact (h0 (by grind)).elim
 have ah:Oj A=some ([],A):=by
  unfold Oj Iz
  rw [De (by simp; omega)]; rfl
 have ab:Qc F=some ([],F):=by
  unfold Qc Iz
  rw [De (by simp; omega)]; rfl
 unfold Nd
 rw [(Ms hc (by omega)).1,Ad,Cr ad,cond_false,ab,Ad]
 dsimp only
 rw [A1e hF,Ad,Kw rfl,Ad]
 obtain ⟨e,e1,e2⟩:=Iy (step:=Agl data vars res.Kind res.Num res.Args) (fun s=>∃(j:Nat) (t:Ah),j<=F.length/\s.1 = [t]/\s.2.1=F.drop j/\t.Mono=⟨F.take j,[]⟩/\rq t.Coef=rq c/\RB (K+5*j) t.Coef/\Dl data vars res s.2.2.1/\O6 s.2.2.2/\(F = []->s.2.2.1=b1/\s.2.2.2=b2)) (fun s=>s.2.1.length)
   (fun e=>∃t q k,e = .inr ([t],q,k)/\t.Mono=⟨F,[]⟩/\rq t.Coef=rq c/\RB (K+30) t.Coef/\Dl data vars res q/\O6 k/\(F = []->q=b1/\k=b2))
   (by
    rintro ⟨o,r,c1,c2⟩ ⟨j,t,hj,e1,e2,e3,e4,e5,e6,e7,e8⟩
    dsimp only at e1 e2 e6 e7 e8 ⊢
    subst e1 e2
    rcases Nat.lt_or_ge j F.length with h | h
    .left
     have V:F[j]? = some F[j]:=B2 h
     have R:=List.getElem_mem h
     generalize F[j]=f at V R
     obtain ⟨k1,k2,k3⟩:=hF.one f R
     have hd:=Iu V
     have ag:(F.drop j).length=F.length-j:=List.length_drop
     have i0:Ag (F.drop j) 0=some f:=Cf (n:=0) rfl (by rw [hd]; rfl)
     unfold Agl
     dsimp only
     rw [Al (by omega),cond_true,i0,Ad]
     have Y:Am (S:=Int) (E:=Int) (fun y=>
       bif (decide (y<((F.drop j).length:Int))) then (
       (Ag (F.drop j) y).bind fun a1=>
       bif (a1.Var==f.Var) then (
       some (.inl (Ac (y+1))))
       else (
       some (.inr y)))
       else (some (.inr y))) 1=some 1:=by
      refine Dw ?_
      rcases Nat.lt_or_ge 1 (F.drop j).length with h' | h'
      .have ac:(F.drop j)[1]? = some ((F.drop j)[1]):=B2 h'
       have ak:f.Var<((F.drop j)[1]).Var:=by
        have hp:=(List.pairwise_iff_getElem.1 (hF.asc.sublist (List.drop_sublist j F))) 0 1 (by omega) h' (by decide)
        have e0:(F.drop j)[0]=f:=by
         have:=B2 (l:=F.drop j) (i:=0) (by omega)
         rw [show (F.drop j)[0]? = some f by rw [hd]; rfl] at this
         exact (Option.some.inj this).symm
        rw [e0] at hp; exact hp
       have i1:Ag (F.drop j) 1=some ((F.drop j)[1]):=Cf (n:=1) rfl ac
       rw [Al (by omega),cond_true,i1,Ad,Cr (by omega),cond_false]
      .rw [Aq (by omega),cond_false]
     rw [Y,Ad]
     have a8:Dx (F.drop j) 0 1=some [f]:=by
      rw [hd]
      unfold Dx
      rw [if_pos (by simp only [List.length_cons]; omega)]; rfl
     have X:Dx (F.drop j) 1 ((F.drop j).length:Int)=some (F.drop (j+1)):=by
      have e:Dx (F.drop j) 1 ((F.drop j).length:Int)=some ((F.drop j).drop 1):=by
       generalize F.drop j=L at ag
       unfold Dx
       rw [if_pos (by omega)]; simp
      rw [e,List.drop_drop]
     obtain ⟨b',p1,p2⟩:=A1f (b1:=c1) k1 k2 e7 (data:=data)
     obtain ⟨u,u1,u2,u3,u4⟩:=A1g (f:=f) e3 (by rw [List.length_take]; omega) (by omega) e5
     obtain ⟨Z,q1,q2⟩:=W1 (b2:=b') hx e6 f k1.1 k1.2.1 k1.2.2 k2
     have af:Oi f.Var f.Index c1 b' data vars res.Kind res.Num res.Args=some ([f],Z):=by
      unfold Oi
      rw [q1,Ad]
      dsimp only
      rw [Cr (by omega),cond_false]
     have w1:Ac (0+1)=1:=by rw [Ac,Bw] <;> omega
     rw [a8,Ad,p1,Ad]
     dsimp only
     rw [E8 rfl,cond_false]
     have ae:Am (S:=(Int×(List (ByteArray×Int))×(List Ah))) (E:=(Int×(List (ByteArray×Int))×(List Ah))) (fun (g,D,z)=>
       bif (decide (g<(([⟨f.Index,cR 1⟩]:List Bz).length:Int))) then (
       (Ag ([⟨f.Index,cR 1⟩]:List Bz) g).bind fun v193=>
       (Oi f.Var v193.Index D b' data vars res.Kind res.Num res.Args).bind fun x=>
       (I3 t v193.Coef (A9.mk x.1 [])).bind fun v196=>
       (B9 104 z [v196]).bind fun I=>
       some (.inl ((Ac (g+1)),x.2,I)))
       else (some (.inr (g,D,z)))) (0,c1,[])=some (1,Z,[u]):=by
      refine (G6 (s':=(1,Z,[u])) ?_).trans (Dw rfl)
      dsimp only
      rw [Al (by simp),cond_true,show Ag ([⟨f.Index,cR 1⟩]:List Bz) 0=some ⟨f.Index,cR 1⟩ from rfl,Ad]
      dsimp only
      rw [af,Ad]
      dsimp only
      rw [u1,Ad,De (by simp),Ad,w1]; rfl
     have aa:Am (S:=(Int×(List (ByteArray×Int))×(List Ah))) (E:=(Int×(List (ByteArray×Int))×(List Ah))) (fun (G,N,M)=>
       bif (decide (G<([t].length:Int))) then (
       (Ag [t] G).bind fun v175=>
       (Am (S:=(Int×(List (ByteArray×Int))×(List Ah))) (E:=(Int×(List (ByteArray×Int))×(List Ah))) (fun (g,D,z)=>
       bif (decide (g<(([⟨f.Index,cR 1⟩]:List Bz).length:Int))) then (
       (Ag ([⟨f.Index,cR 1⟩]:List Bz) g).bind fun v193=>
       (Oi f.Var v193.Index D b' data vars res.Kind res.Num res.Args).bind fun x=>
       (I3 v175 v193.Coef (A9.mk x.1 [])).bind fun v196=>
       (B9 104 z [v196]).bind fun I=>
       some (.inl ((Ac (g+1)),x.2,I)))
       else (some (.inr (g,D,z)))) (0,N,M)).bind fun (v198,a7,a6)=>
       some (.inl ((Ac (G+1)),a7,a6)))
       else (some (.inr (G,N,M)))) (0,c1,[])=some (1,Z,[u]):=by
      refine (G6 (s':=(1,Z,[u])) ?_).trans (Dw rfl)
      dsimp only
      rw [Al (by simp),cond_true,show Ag [t] 0=some t from rfl,Ad]
      exact bnd ae (by rw [w1])
     refine ⟨([u],F.drop (j+1),Z,b'),bnd aa ?_,⟨j+1,u,by omega,rfl,rfl,by rw [u2,Df V],by rw [u3,e4],u4.mono (by omega),q2,p2,fun e=>?_⟩,?_⟩
     .dsimp only
      rw [X,Ad]
     .rw [e] at h; simp at h
     .dsimp only
      rw [List.length_drop,List.length_drop]; omega
    .right
     have:j=F.length:=by omega
     subst this
     unfold Agl
     dsimp only
     rw [List.drop_length,Aq (by simp),cond_false]
     exact ⟨_,rfl,t,c1,c2,rfl,by rw [e3,List.take_length],e4,e5.mono (by omega),e6,e7,e8⟩)
   ([⟨c,⟨[],[]⟩⟩],F,b1,b2) ⟨0,⟨c,⟨[],[]⟩⟩,by omega,rfl,rfl,rfl,rfl,hc.mono (by omega),m1,m2,fun _=>⟨rfl,rfl⟩⟩
 obtain ⟨t,q,k,rfl,t1,t2,t3,t4,t5,t6⟩:=e2
 obtain ⟨gs,out,g1,g2,g3,g4⟩:=Aox (F:=⟨F,by omega⟩) (c:=rq c) S.length S [t] [([],1)] (K+30) 0 (Nat.le_refl _) s3 J (.cons t1 (by rw [t2]; simp) t3 .nil) (fun b hb=>by simp only [List.mem_singleton] at hb; subst hb; simp) (by have:=J.len; omega) (by have:=J.len; omega) (by simp only [List.length_singleton,Nat.one_mul]; omega)
 have am:=J.len
 refine ⟨out,_,q,k,bnd e1 ?_,⟨gs,S,U,s3,g2,rfl⟩,g3.mono (by omega),by rw [<-Nq U]; simpa using g4,t4,t5,t6⟩
 dsimp only
 rw [ah,Ad]
 dsimp only
 rw [s1,Ad,Kw U.length_eq.symm,Ad]
 exact bnd g1 rfl
theorem Aoz {c:Ak} {K:Nat} {A:List A5} (hc:RB K c) (I:K<20000000000) (h0:rq c≠0) (i:Atk A) (b1:List (ByteArray×Int)) (b2:List (ByteArray×List Bz)) (data:List A7) (vars:List Aj) (D z:Int) (y:List Aj) :
  ∃out B,Nd c ⟨[],A⟩ b1 b2 data vars D z y=some (out,0,b1,b2)/\IsE A B/\Rep (rq c) (K+2424) out B/\out.length<=2 ^ B7 A:=by
 have E:∀b∈A,b.Lin.Terms.length<1099511627776:=fun b hb=>by have:=(Ji (i.lin b hb)).1; omega
 have s:=i.len
 have q:=i.sum
 obtain ⟨S,x,g,u⟩:=Aou A E (by omega)
 have f:Atk S:=⟨fun a ha=>i.deg a (g.mem_iff.1 ha),fun a ha=>i.lin a (g.mem_iff.1 ha),by rw [Nq g]; exact q,by rw [g.length_eq]; exact s⟩
 have hp:2 ^ B7 S<=4096:=Nat.le_trans (Nat.pow_le_pow_right (by decide) f.sum) (by decide)
 obtain ⟨gs,out,g1,g2,g3,g4⟩:=Aox (F:=fs0) (c:=rq c) S.length S [⟨c,⟨[],[]⟩⟩] [([],1)] K 0 (Nat.le_refl _) u f (.cons rfl (by simp) hc .nil) (fun b hb=>by simp only [List.mem_singleton] at hb; subst hb; simp) (by have:=f.len; omega) (by have:=f.len; omega) (by simp only [List.length_singleton,Nat.one_mul]; omega)
 have G:=f.len
 refine ⟨out,_,?_,⟨gs,S,g,u,g2,rfl⟩,g3.mono (by omega),by rw [<-Nq g]; simpa using g4⟩
 unfold Nd
 have j:G0 (rq c)≠0:=by
  unfold G0
  split
  .decide
  .split
   .decide
   .rename_i h1 h2
    exact (h0 (by grind)).elim
 rw [(Ms hc (by omega)).1,Ad,Cr j,cond_false]
 have l:Oj A=some ([],A):=by
  unfold Oj Iz
  rw [De (by simp; omega)]; rfl
 have h:Qc []=some ([],[]):=rfl
 rw [h,Ad]
 dsimp only
 rw [A01,Ad]
 have k:Ff (α:=Bx) ([]:List Bx).length []=some ():=rfl
 rw [k,Ad]
 refine bnd (a:=.inr ([⟨c,⟨[],[]⟩⟩],b1,b2)) (Dw (by simp)) ?_
 dsimp only
 rw [l,Ad]
 dsimp only
 rw [x,Ad,Kw g.length_eq.symm,Ad]
 exact bnd g1 rfl
end Go.Ab
namespace Go.Ab
open Go
def Xm (vars:List Aj) (res:Aj) (L:List A5):Prop:=L.Pairwise (fun a b=>Er a.Lin b.Lin<0)/\∀a∈L,1<=a.Deg/\B8 a.Lin=true/\a.Lin.Terms.length≠0/\Dz vars res a.Lin=true
theorem Abm (l m:List A5):Cd (l++m)=Cd l+Cd m:=by unfold Cd; simp [List.sum_append]
theorem Agm {vars:List Aj} {res:Aj}:∀{u:List Grp} {rest:List A5},Gs u rest->(∀a∈rest,B8 a.Lin=true/\Dz vars res a.Lin=true) ->
  ∀(B:List Dm) (S:Int),(∀b∈B,Xm vars res b.1/\Cd b.1<=S/\∀a∈b.1,∀r∈rest,Er a.Lin r.Lin<0)->∀b∈H3 B u,Xm vars res b.1/\Cd b.1<=S+(B7 rest:Nat):=by
 intro u rest h
 induction h with
 | nil=>intro _ B S z b hb; have:=z b hb; exact ⟨this.1,by have:=this.2.1; omega⟩
 | @cons l N f g rest u x I E J R ih=>
  intro A B S z
  obtain ⟨a0,j⟩:∃a,a∈g:=by
   cases g with
   | nil=>exact (x rfl).elim
   | cons a _=>exact ⟨a,by simp⟩
  have s:=I a0 j
  have q:=A a0 (by simp [j])
  rw [s] at q
  have L:∀k,k<N+1->k≠0->l.Terms.length≠0/\k<=B7 g:=by
   intro k hk G
   rcases J with ⟨h1,h2⟩ | ⟨_,h2,_⟩
   .exact ⟨h1,by rw [<-h2.1]; omega⟩
   .omega
  intro b hb
  have:=ih (fun a ha=>A a (by simp [ha])) (Ew B l f (N+1)) (S+(B7 g:Nat)) (by
   intro b hb
   unfold Ew at hb
   rw [List.mem_flatMap] at hb
   obtain ⟨k,i,hk⟩:=hb
   have i:=List.mem_range.1 i
   split at hk
   .cases hk
   .rw [List.mem_map] at hk
    obtain ⟨d,hd,rfl⟩:=hk
    obtain ⟨d1,d2,d3⟩:=z d hd
    have y:∀a∈d.1,Er a.Lin l<0:=fun a ha=>by have:=d3 a ha a0 (by simp [j]); rwa [s] at this
    unfold atO
    by_cases h0:k=0
    .rw [if_pos h0,List.append_nil]
     exact ⟨d1,by show Cd d.1<=S+((B7 g:Nat):Int); omega,fun a ha r c=>d3 a ha r (by simp [c])⟩
    .rw [if_neg h0]
     obtain ⟨D,M⟩:=L k i h0
     refine ⟨⟨List.pairwise_append.2 ⟨d1.1,List.pairwise_singleton _ _,fun a ha b hb=>?_⟩,fun a ha=>?_⟩,?_,fun a ha r c=>?_⟩
     .simp only [List.mem_singleton] at hb
      subst hb; exact y a ha
     .rcases List.mem_append.1 ha with ha | ha
      .exact d1.2 a ha
      .simp only [List.mem_singleton] at ha
       subst ha
       exact ⟨by show (1:Int)<=(k:Int); omega,q.1,D,q.2⟩
     .show Cd (d.1++[⟨l,k⟩])<=_
      rw [Abm]
      have:Cd [(⟨l,(k:Int)⟩:A5)]=(k:Int):=by simp [Cd]
      omega
     .rcases List.mem_append.1 ha with ha | ha
      .exact d3 a ha r (by simp [c])
      .simp only [List.mem_singleton] at ha
       subst ha
       exact E r c) b hb
  refine ⟨this.1,?_⟩
  rw [Lw]
  have:=this.2
  omega
theorem Ao0 {x:Bj} {L:List A5} (h:Xm x.Vars x.Res L) (s:Cd L<=6):Eh x ⟨[],L⟩:=by
 have i:(L.length:Int)<=Cd L:=by
  have key:∀l:List A5,(∀a∈l,1<=a.Deg)->(l.length:Int)<=Cd l:=by
   intro l
   induction l with
   | nil=>intro _; simp [Cd]
   | cons f fs ih=>
    intro c
    have h1:=c f (by simp)
    have h2:=ih (fun g u=>c g (by simp [u]))
    unfold Cd at *
    simp only [List.map_cons,List.sum_cons,List.length_cons]; omega
  exact key _ fun a ha=>(h.2 a ha).1
 constructor
 .unfold Hy
  have k:L.zipIdx.all (fun q=>Mr x.Vars x.Res L q.1 q.2)=true:=by
   rw [List.all_eq_true]
   rintro ⟨a,j⟩ hq
   have hj:L[j]? = some a:=List.mk_mem_zipIdx_iff_getElem?.1 hq
   obtain ⟨h1,h2,h3,y⟩:=h.2 a (Cp hj)
   show Mr x.Vars x.Res L a j=true
   unfold Mr
   have hp:No L a j=true:=by
    unfold No
    cases j with
    | zero=>rfl
    | succ j=>
     have c:=E9 hj
     have hy:L[j]? = some L[j]:=B2 (by omega)
     have b:=List.pairwise_iff_getElem.1 h.1 j (j+1) (by omega) c (by omega)
     have e:L[j+1]=a:=by
      have:=B2 c
      rw [hj] at this; exact (Option.some.inj this).symm
     rw [e] at b
     simp only [Nat.add_sub_cancel,hy,Bool.or_eq_true]
     exact .inr (decide_eq_true b)
   rw [hp,Al h1,h2,y]
   simp only [Bool.true_and,Bool.and_true,Bool.not_eq_true',beq_eq_false_iff_ne,ne_eq]
   exact h3
  show (([]:List Bx).zipIdx.all _&&L.zipIdx.all (fun q=>Mr x.Vars x.Res L q.1 q.2)&&decide (Dn x.Data x.Vars x.Res []+Cd L<=6))=true
  rw [k]
  have:Dn x.Data x.Vars x.Res []=0:=rfl
  rw [this]
  simp
  exact s
 .exact ⟨by simp,by show L.length<=1048576; omega,(fun _ h=>by cases h),(fun _ h=>by cases h),fun a ha=>by have:=(Ji (h.2 a ha).2.1).1; omega⟩
def ec:List Dm->A9->Nat
 | [],_=>0
 | b::bs,m=>(if C6 ⟨[],b.1⟩ m=0 then b.2 else 0)+ec bs m
theorem Rep.cf {c:Rat} {K:Nat} {ts:List Ah} {bs:List Dm} (h:Rep c K ts bs) (m:A9):Ab.cf ts m=c*(ec bs m:Rat):=by
 induction h with
 | nil=>simp only [Ab.cf,ec]; grind
 | @cons t b ts bs a1 a2 a3 _ ih=>
  have a1:t.Mono=⟨[],b.1⟩:=a1
  simp only [Ab.cf,ec,ih,a1]
  rw [Rat.natCast_add]
  split
  .rw [a2]; grind
  .grind
theorem Rep.mem {c:Rat} {K:Nat} {ts:List Ah} {bs:List Dm} (h:Rep c K ts bs) {t:Ah} (ht:t∈ts):∃b∈bs,t.Mono=⟨[],b.1⟩/\rq t.Coef=c*(b.2:Rat)/\RB K t.Coef:=by
 obtain ⟨j,hj⟩:=List.getElem?_of_mem ht
 obtain ⟨b,b1,b2⟩:=h.get hj
 exact ⟨b,Cp b1,b2⟩
def Xn (L:Nat) (p:List Ah):Prop:=∀t∈p,∃z:Int,rq t.Coef=(z:Rat)/\Bb z.natAbs<=L
theorem Ao1 {a:Ak} {z:Int} (ha:Hb a) (h:rq a=(z:Rat)):a=Bs (decide (z<0)) z.natAbs 1:=by
 refine Aa0 ha (O4 _ _ _ (by decide)) ?_
 rw [h,Lu _ _ _ (by decide),Abe]
 congr 1
 unfold sg
 by_cases h:z<0
 .rw [Al h,if_pos rfl]; omega
 .rw [Aq h,if_neg (by decide)]; omega
theorem Xo {a:Ak} {z:Int} {L:Nat} (ha:Hb a) (h:rq a=(z:Rat)) (b:Bb z.natAbs<=L):RB (L+1) a:=by
 rw [Ao1 ha h]
 exact Ln _ _ _ _ (by omega) (by rw [Mm]; omega) (by omega)
theorem Ao2 {a:Ak} {z:Int} {k:Nat} (ha:Hb a) (h:rq a=(z:Rat)) (c:RB k a):Bb z.natAbs<=k+1:=by
 have h1:=c.nv
 rw [Ao1 ha h] at h1
 obtain ⟨b,i,g,f⟩:=Wq (decide (z<0)) z.natAbs 1 (by decide)
 rw [b] at h1
 simpa using h1
theorem Ao3 {p:List Ah} {L:Nat} (h:Xn L p) (hc:CP p) (m:A9):∃z:Int,cf p m=(z:Rat)/\Bb z.natAbs<=L:=by
 by_cases hm:∃t∈p,C6 t.Mono m=0
 .obtain ⟨t,ht,e⟩:=hm
  obtain ⟨z,b,z2⟩:=h t ht
  refine ⟨z,?_,z2⟩
  rw [<-b,<-Mt hc ht,Jg.1 e]
 .exact ⟨0,by rw [Aa1 fun t ht e=>hm ⟨t,ht,e⟩]; rfl,by simp [Wn]⟩
theorem Xn.of {p:List Ah} {L:Nat} (hc:CP p) (h:∀m,∃z:Int,cf p m=(z:Rat)/\Bb z.natAbs<=L):Xn L p:=fun t ht=>by
 obtain ⟨z,b,z2⟩:=h t.Mono
 exact ⟨z,by rw [<-Mt hc ht]; exact b,z2⟩
structure IP (x:Bj) (n L:Nat) (f:A9->Rat) (R:List Ah):Prop where
 cp:CP R
 val:∀m,cf R m=f m
 mo:∀t∈R,Eh x t.Mono
 len:R.length<=n
 int:Xn L R
theorem IP.can {x:Bj} {n L:Nat} {f:A9->Rat} {R:List Ah} (h:IP x n L f R) (c:n<=1000) (g:L<=1000000):Gl x R :=
 Gl.of h.cp h.mo (fun t ht=>by
  obtain ⟨z,b,z2⟩:=h.int t ht
  exact (Xo (h.cp.coe t ht).1 b z2).mono (by omega)) (by have:=h.len; omega)
theorem IP.ext {x y:Bj} {n L b L':Nat} {f g:A9->Rat} {R S:List Ah} (h:IP x n L f R) (h':IP y b L' g S) (e:∀m,f m=g m):R=S:=CP.ext h.cp h'.cp fun m=>by rw [h.val,h'.val,e]
theorem Ao4 (y z:Int) {L M:Nat} (hy:Bb y.natAbs<=L) (b:Bb z.natAbs<=L) (h:L+1<=M):Bb (y+z).natAbs<=M:=by
 have h1:=Tg y.natAbs z.natAbs
 have h2:Bb (y+z).natAbs<=Bb (y.natAbs+z.natAbs):=Gi (by omega)
 omega
theorem Ao5 {x:Bj} (l:CSz x) (A:Fm x) {n m L:Nat} {f g:A9->Rat} {p q:List Ah} (hp:IP x n L f p) (hq:IP x m L g q) (B:n+m<=1000) (c:L<=1000000) :
  ∃R,Kj x p q=some (R,0)/\IP x (n+m) (L+1) (fun a=>f a-g a) R:=by
 have u:=hp.len
 have s:=hq.len
 obtain ⟨R,k,b⟩:=Aoe l A (hp.can (by omega) c) (hq.can (by omega) c) (by omega)
 refine ⟨R,k,b.cp,fun a=>by rw [b.val,hp.val,hq.val],fun t ht=>(b.tb t ht).1,by have:=b.len; omega,Xn.of b.cp fun a=>?_⟩
 obtain ⟨y,j,i⟩:=Ao3 hp.int hp.cp a
 obtain ⟨z,h,z2⟩:=Ao3 hq.int hq.cp a
 refine ⟨y + -z,?_,Ao4 y (-z) i (by rw [Int.natAbs_neg]; exact z2) (Nat.le_refl _)⟩
 rw [b.val,j,h,Rat.intCast_add,Rat.intCast_neg,Rat.sub_eq_add_neg]
end Go.Ab
namespace Go.Ab
open Go
theorem A1i (a b:Be):Nb a b=some (Ed a.Var b.Var):=by
 unfold Nb
 rw [Mp]; rfl
theorem O7 {a b:Int}:Ed a b<0↔a<b:=by unfold Ed; split <;> (try split) <;> omega
theorem A1j:Mz (fun a b:Be=>Ed a.Var b.Var) :=
 ⟨fun x h=>by have:=O7.1 h; omega,fun x y z h1 h2=>by have:=O7.1 h1; have:=O7.1 h2; exact O7.2 (by omega),fun x y z h1 h2 h=>by
  have:=O7.1 h
  have:=mt O7.2 h1
  have:=mt O7.2 h2
  omega⟩
theorem A1k (c:List Be) (g:c.length<=12):∃R,Sw c=some R/\R.Perm c/\R.Pairwise (fun a b=>a.Var<=b.Var):=by
 obtain ⟨R,h1,h2,h3⟩:=Aom (cmp:=Nb) A1j c (fun x _ y _=>A1i x y) (by omega)
 obtain ⟨v,f⟩:=An4 (n:=c.length) (by omega)
 refine ⟨R,?_,h2,h3.imp fun {a b} h=>?_⟩
 .unfold Sw
  rw [Nat.ble_eq_true_of_le g,cond_true]
  unfold Ad3
  rw [f,Ad]
  have hp:V2 0 (c.length:Int) v c=some R:=by
   unfold V2
   have e:Zp 0 (c.length:Int) c=Xh Nb 0 (c.length:Int) c:=rfl
   have w:Ac ((c.length:Int)-0)=(c.length:Int):=by rw [Ac,Bw] <;> omega
   refine bnd (a:=R) (Dw ?_) rfl
   rw [w,Al (by omega),cond_true,e,h1,Ad,Kw h2.length_eq.symm]; rfl
  rw [hp,Ad,Kw h2.length_eq.symm]; rfl
 .have:=mt O7.2 h
  omega
def cl:List Be->Int->Int
 | [],_=>0
 | t::l,v=>(if t.Var=v then t.Coef else 0)+cl l v
theorem T3 (l m:List Be) (v:Int):cl (l++m) v=cl l v+cl m v:=by
 induction l with
 | nil=>simp [cl]
 | cons t l ih=>simp only [List.cons_append,cl,ih]; omega
theorem A1l {l m:List Be} (h:l.Perm m) (v:Int):cl l v=cl m v:=by
 induction h with
 | nil=>rfl
 | cons t _ ih=>simp only [cl,ih]
 | swap a b l=>simp only [cl]; omega
 | trans _ _ h1 h2=>exact h1.trans h2
theorem O8 {l:List Be} {v:Int} (h:∀t∈l,t.Var≠v):cl l v=0:=by
 induction l with
 | nil=>rfl
 | cons t l ih=>simp only [cl]; rw [if_neg (h t (by simp)),ih fun u hu=>h u (by simp [hu])]; rfl
structure Ky (L:List Be):Prop where
 srt:L.Pairwise fun a b=>a.Var<b.Var
 nz:∀t∈L,t.Coef≠0
theorem Ky.ext:∀{L M:List Be},Ky L->Ky M->(∀v,cl L v=cl M v)->L=M:=by
 intro L
 induction L with
 | nil=>
  intro M _ b h
  cases M with
  | nil=>rfl
  | cons t M=>
   have:=h t.Var
   simp only [cl,if_true] at this
   rw [O8 fun u hu=>by have:=(List.pairwise_cons.1 b.srt).1 u hu; omega] at this
   exact (b.nz t (by simp) (by omega)).elim
 | cons s L ih=>
  intro M c b h
  have g:cl (s::L) s.Var=s.Coef:=by
   simp only [cl,if_true]
   rw [O8 fun u hu=>by have:=(List.pairwise_cons.1 c.srt).1 u hu; omega]; omega
  cases M with
  | nil=>
   have:=h s.Var
   rw [g] at this
   exact (c.nz s (by simp) (by simpa [cl] using this)).elim
  | cons t M=>
   have ht:cl (t::M) t.Var=t.Coef:=by
    simp only [cl,if_true]
    rw [O8 fun u hu=>by have:=(List.pairwise_cons.1 b.srt).1 u hu; omega]; omega
   have f:s.Var=t.Var:=by
    rcases Int.lt_trichotomy s.Var t.Var with k | k | k
    .have h1:=h s.Var
     rw [g,O8 (l:=t::M) fun u hu=>by
      rcases List.mem_cons.1 hu with rfl | hu
      .omega
      .have:=(List.pairwise_cons.1 b.srt).1 u hu; omega] at h1
     exact (c.nz s (by simp) h1).elim
    .exact k
    .have h1:=h t.Var
     rw [ht,O8 (l:=s::L) fun u hu=>by
      rcases List.mem_cons.1 hu with rfl | hu
      .omega
      .have:=(List.pairwise_cons.1 c.srt).1 u hu; omega] at h1
     exact (b.nz t (by simp) h1.symm).elim
   have hc:s.Coef=t.Coef:=by rw [<-g,<-ht,h,f]
   have e:s=t:=by cases s; cases t; simp only at f hc; rw [f,hc]
   subst e
   rw [ih (M:=M) ⟨(List.pairwise_cons.1 c.srt).2,fun u hu=>c.nz u (by simp [hu])⟩ ⟨(List.pairwise_cons.1 b.srt).2,fun u hu=>b.nz u (by simp [hu])⟩ fun v=>by
    have:=h v
    simp only [cl] at this; omega]
noncomputable def Abn (r:List Be) (f:Int):Int×Int->Option ((Int×Int)⊕(Int×Int)):=fun (v44,v45)=>
 (show Option Bool from
 bif (decide (v44<(r.length:Int))) then (
 (Ag r v44).bind fun v46=>
 some (v46.Var==f)
 )
 else (
 some false
 )
 ).bind fun c=>
 bif c then (
 (Ag r v44).bind fun b=>
 some (.inl ((Ac (v44+1)),(Ac (v45+b.Coef))))
 )
 else (
 some (.inr (v44,v45))
 )
def LBd (l:List Be):Prop:=∀t∈l,-1099511627776<=t.Coef/\t.Coef<=1099511627776
theorem A1m {l:List Be} (h:LBd l) (v:Int) : -(l.length*1099511627776:Int)<=cl l v/\cl l v<=(l.length*1099511627776:Int):=by
 induction l with
 | nil=>simp [cl]
 | cons t l ih=>
  have h1:=h t (by simp)
  have h2:=ih fun u hu=>h u (by simp [hu])
  simp only [cl,List.length_cons]
  split <;> omega
theorem A1n {r:List Be} {k:Nat} {t:Be} (hk:r[k]? = some t) (E:r.length<=1000) (hb:LBd r) :
  ∃n:Nat,Am (Abn r t.Var) ((k:Int),0)=some ((n:Int),cl ((r.take n).drop k) t.Var)/\k<n/\n<=r.length/\(∀u∈(r.take n).drop k,u.Var=t.Var)/\∀u,r[n]? = some u->u.Var≠t.Var:=by
 have q:=E9 hk
 obtain ⟨e,D,n,B,A⟩:=Iy (step:=Abn r t.Var) (fun s=>∃n:Nat,s=((n:Int),cl ((r.take n).drop k) t.Var)/\k<=n/\n<=r.length/\∀u∈(r.take n).drop k,u.Var=t.Var) (fun s=>r.length-s.1.toNat)
  (fun e=>∃n:Nat,e=((n:Int),cl ((r.take n).drop k) t.Var)/\k<n/\n<=r.length/\(∀u∈(r.take n).drop k,u.Var=t.Var)/\∀u,r[n]? = some u->u.Var≠t.Var) (by
  rintro _ ⟨j,rfl,x,g,c⟩
  unfold Abn
  rcases Nat.lt_or_ge j r.length with h | h
  .have hx:r[j]? = some r[j]:=B2 h
   have hm:=List.getElem_mem h
   generalize r[j]=b at hx hm
   have z:=hb b hm
   have y:=A1m (l:=(r.take j).drop k) (fun u hu=>hb u (List.mem_of_mem_take (List.mem_of_mem_drop hu))) t.Var
   have i:((r.take j).drop k).length<=1000:=by simp; omega
   have hw:Ac (cl ((r.take j).drop k) t.Var+b.Coef)=cl ((r.take j).drop k) t.Var+b.Coef:=by
    have G:(((r.take j).drop k).length:Int)*1099511627776<=1000*1099511627776:=Int.mul_le_mul_of_nonneg_right (by omega) (by decide)
    rw [Ac,Bw] <;> omega
   have f:(r.take (j+1)).drop k=(r.take j).drop k++[b]:=by
    rw [Df hx,List.drop_append_of_le_length (by simp; omega)]
   simp only [Al (by omega:(j:Int)<(r.length:Int)),cond_true,Cf rfl hx,Ad,C7 h (by omega),hw]
   by_cases hc:b.Var=t.Var
   .left
    rw [En hc]
    refine ⟨_,rfl,⟨j+1,?_,by omega,by omega,fun d hd=>?_⟩,by simp; omega⟩
    .rw [f,T3]
     simp [cl,hc]
    .rw [f] at hd
     rcases List.mem_append.1 hd with hd | hd
     .exact c d hd
     .simp only [List.mem_singleton] at hd
      rw [hd]; exact hc
   .right
    rw [Cr hc]
    refine ⟨_,rfl,j,rfl,?_,g,c,fun d hd=>by rw [hx] at hd; cases hd; exact hc⟩
    rcases Nat.lt_or_ge k j with h' | h'
    .exact h'
    .have:j=k:=by omega
     subst this
     rw [hk] at hx; cases hx
     exact (hc rfl).elim
  .right
   refine ⟨_,by simp only [Aq (by omega:¬(j:Int)<(r.length:Int)),cond_false,Ad],j,rfl,by omega,g,c,fun d hd=>?_⟩
   have:=E9 hd
   omega) ((k:Int),0) ⟨k,by simp [cl],by omega,by omega,fun u hu=>by simp at hu⟩
 exact ⟨n,by rw [<-B]; exact D,A⟩
noncomputable def Agn (r:List Be):Int×List Be->Option ((Int×List Be)⊕List Be):=fun (v37,b)=>
 bif (decide (v37<((r.length:Nat):Int))) then (
 (Ag r v37).bind fun v39=>
 (Am (Abn r v39.Var) (v37,0)).bind fun (v49,v50)=>
 bif (v50 != (0:Int)) then (
 (B9 16 b [(Be.mk v39.Var v50)]).bind fun c=>
 some (.inl (v49,c))
 )
 else (
 some (.inl (v49,b))
 )
 )
 else (
 some (.inr b)
 )
theorem A1o {r:List Be} (J:r.Pairwise fun a b=>a.Var<=b.Var) (M:r.length<=1000) (hb:LBd r):∃L,Am (Agn r) (0,[])=some L/\Ky L/\(∀v,cl L v=cl r v)/\L.length<=r.length:=by
 obtain ⟨L,S,R⟩:=Iy (step:=Agn r) (fun s=>∃(k:Nat) (L:List Be),s=((k:Int),L)/\k<=r.length/\Ky L/\L.length<=k/\(∀v,cl L v=cl (r.take k) v)/\∀t∈L,∀u∈r.drop k,t.Var<u.Var) (fun s=>r.length-s.1.toNat)
  (fun L=>Ky L/\(∀v,cl L v=cl r v)/\L.length<=r.length) (by
  rintro _ ⟨k,L,rfl,hk,y,N,g,hd⟩
  unfold Agn
  rcases Nat.lt_or_ge k r.length with h | h
  .left
   have hx:r[k]? = some r[k]:=B2 h
   generalize r[k]=t at hx
   obtain ⟨n,I,G,D,n4,E⟩:=A1n hx M hb
   have c:r.take n=r.take k++(r.take n).drop k:=by
    have h:=(List.take_append_drop k (r.take n)).symm
    rwa [List.take_take,Nat.min_eq_left (by omega)] at h
   have x:∀v,v≠t.Var->cl ((r.take n).drop k) v=0:=fun v g=>O8 fun u hu e=>g (by rw [<-e,n4 u hu])
   have j:∀u∈r.drop n,u∈r.drop k:=fun u hu=>by
    have:r.drop n=(r.drop k).drop (n-k):=by rw [List.drop_drop]; congr 1; omega
    rw [this] at hu
    exact List.mem_of_mem_drop hu
   have A:t∈r.drop k:=by rw [Iu hx]; simp
   have f:∀u∈r.drop n,t.Var<u.Var:=by
    intro u hu
    rcases Nat.lt_or_ge n r.length with h' | h'
    .have hy:r[n]? = some r[n]:=B2 h'
     generalize r[n]=w at hy
     have hw:=E w hy
     have hp:=List.pairwise_append.1 (by rw [List.take_append_drop]; exact J:(r.take n++r.drop n).Pairwise fun a b=>a.Var<=b.Var)
     have B:t∈r.take n:=by
      rw [c]
      have:(r.take n).drop k=t::(r.take n).drop (k+1):=Iu (by rw [List.getElem?_take_of_lt G]; exact hx)
      rw [this]; simp
     have z:w∈r.drop n:=by rw [Iu hy]; simp
     have a1:=hp.2.2 t B w z
     have i:=hp.2.1
     rw [Iu hy] at i hu
     rcases List.mem_cons.1 hu with rfl | hu
     .omega
     .have:=(List.pairwise_cons.1 i).1 u hu; omega
    .rw [List.drop_eq_nil_of_le h'] at hu; cases hu
   simp only [Al (by omega:(k:Int)<(r.length:Int)),cond_true,Cf rfl hx,Ad,I]
   by_cases h0:cl ((r.take n).drop k) t.Var=0
   .refine ⟨((n:Int),L),?_,⟨n,L,rfl,D,y,by omega,fun v=>?_,fun a ha u hu=>hd a ha u (j u hu)⟩,by simp; omega⟩
    .rw [h0]; rfl
    .have q:cl (r.take n) v=cl (r.take k) v+cl ((r.take n).drop k) v:=(congrArg (fun l=>cl l v) c).trans (T3 _ _ _)
     rw [q,g]
     by_cases e:v=t.Var
     .rw [e,h0]; omega
     .rw [x v e]; omega
   .refine ⟨((n:Int),L++[⟨t.Var,cl ((r.take n).drop k) t.Var⟩]),?_,⟨n,_,rfl,D,⟨?_,?_⟩,by simp; omega,fun v=>?_,fun a ha u hu=>?_⟩,by simp; omega⟩
    .rw [Eo h0,cond_true,De (by simp; omega)]; rfl
    .refine List.pairwise_append.2 ⟨y.srt,List.pairwise_singleton _ _,fun a ha b hb=>?_⟩
     simp only [List.mem_singleton] at hb
     subst hb
     exact hd a ha t A
    .intro a ha
     rcases List.mem_append.1 ha with ha | ha
     .exact y.nz a ha
     .simp only [List.mem_singleton] at ha
      subst ha; exact h0
    .have q:cl (r.take n) v=cl (r.take k) v+cl ((r.take n).drop k) v:=(congrArg (fun l=>cl l v) c).trans (T3 _ _ _)
     rw [q,T3,g]
     simp only [cl]
     by_cases e:t.Var=v
     .rw [if_pos e,<-e]; omega
     .rw [if_neg e,x v (fun h=>e h.symm)]; omega
    .rcases List.mem_append.1 ha with ha | ha
     .exact hd a ha u (j u hu)
     .simp only [List.mem_singleton] at ha
      subst ha; exact f u hu
  .right
   have:k=r.length:=by omega
   subst this
   rw [List.take_length] at g
   exact ⟨L,by simp only [Aq (by omega:¬(r.length:Int)<(r.length:Int)),cond_false],y,g,N⟩) (0,[]) ⟨0,[],rfl,by omega,⟨List.Pairwise.nil,fun _ h=>by cases h⟩,by simp,fun v=>by simp [cl],fun _ h=>by cases h⟩
 exact ⟨L,S,R⟩
def Xp (c:Int) (L:List Be):Ar×Int:=if B8 ⟨c,L⟩=true then (⟨c,L⟩,0) else (⟨0,[]⟩,9)
theorem Ao6 (c:Int) (ts:List Be) (l:ts.length<=12) (hb:LBd ts):∃L,Sn c ts=some (Xp c L)/\Ky L/\∀v,cl L v=cl ts v:=by
 obtain ⟨R,h,b,g⟩:=A1k ts l
 obtain ⟨L,k,j,i,q⟩:=A1o g (by rw [b.length_eq]; omega) (fun t ht=>hb t (b.mem_iff.1 ht))
 refine ⟨L,?_,j,fun v=>by rw [i,A1l b]⟩
 unfold Sn
 have f:Qv ts=some ([],ts):=by
  unfold Qv Iz
  rw [De (by simp; omega)]; rfl
 rw [f,Ad]
 dsimp only
 rw [h,Ad,Kw b.length_eq.symm,Ad,<-b.length_eq]
 refine bnd k ?_
 rw [Ku,Ad]
 unfold Xp
 cases B8 ⟨c,L⟩ <;> rfl
end Go.Ab
namespace Go.Ab
open Go
theorem A1p {a:Ak} {z:Int} {k:Nat} (b:RB k a) (h:rq a=(z:Rat)):Bb z.natAbs<=k+1:=by
 have h1:=b.nv
 refine Nat.le_trans (Gi ?_) h1
 unfold rq at h
 have e:mkRat (sg (sv a) (nv a)) (dv a)=mkRat z 1:=by rw [h,Abe]
 rw [Rat.mkRat_eq_iff (E2 a) (by decide)] at e
 have f:(sg (sv a) (nv a)).natAbs=nv a:=by unfold sg; split <;> omega
 have c:(sg (sv a) (nv a)).natAbs=z.natAbs*dv a:=by
  have:=congrArg Int.natAbs e
  rw [Int.natAbs_mul,Int.natAbs_mul] at this
  simpa using this
 have:=E2 a
 rw [<-f,c]
 exact Nat.le_mul_of_pos_right _ (by omega)
theorem Ago {L:Nat} (m:A9):∀(l:List Ah),(∀t∈l,∃z:Int,rq t.Coef=(z:Rat)/\Bb z.natAbs<=L)->∃z:Int,cf l m=(z:Rat)/\Bb z.natAbs<=L+l.length
 | [],_=>⟨0,rfl,by simp [Wn]⟩
 | t::l,h=>by
  obtain ⟨y,b,f⟩:=Ago m l fun u hu=>h u (by simp [hu])
  obtain ⟨z,c,z2⟩:=h t (by simp)
  simp only [cf]
  split
  .refine ⟨z+y,by rw [c,b,Rat.intCast_add],Ao4 z y (L:=L+l.length) (by omega) f (by simp; omega)⟩
  .exact ⟨y,by rw [b]; grind,by simp; omega⟩
theorem Fr.listI {F:FS} {c:Rat} {z:Int} {K:Nat} {ts:List Ah} {bs:List Dm} (h:Fr F c K ts bs) (f:c=(z:Rat)):∀t∈ts,∃z:Int,rq t.Coef=(z:Rat)/\Bb z.natAbs<=K+1:=fun t ht=>by
 obtain ⟨j,hj⟩:=List.getElem?_of_mem ht
 obtain ⟨b,b1,b2,i,g⟩:=h.get hj
 have e:rq t.Coef=((z*(b.2:Int):Int):Rat):=by rw [i,f,Rat.intCast_mul,Rat.intCast_natCast]
 exact ⟨_,e,A1p g e⟩
theorem Agp {x:Bj} {k:Nat} {ts:List Ah} (h:Col k (Eh x) ts) (hk:k<34359738000) (q:ts.length<=1000) (s:∀m,∃z:Int,cf ts m=(z:Rat)):∃R,Ik (Dp ts) ts=some (R,0)/\IP x ts.length (k+2) (cf ts) R:=by
 obtain ⟨R,j,b,f,c,i⟩:=Af5 (P:=Eh x) (fun m h=>h.cmo) (Dp ts) ts h (by omega) q (fun g _ h2 h3=>Af8 g h2 h3)
 refine ⟨R,j,b,f,fun t ht=>(c t ht).1,i,fun t ht=>?_⟩
 obtain ⟨z,l⟩:=s t.Mono
 have e:rq t.Coef=(z:Rat):=by rw [<-Mt b ht,f,l]
 exact ⟨z,e,Ao2 (b.coe t ht).1 e (c t ht).2⟩
theorem IsE.good {x:Bj} {A:List A5} {B:List Dm} (h:IsE A B) (i:Atk A) (g:∀a∈A,Dz x.Vars x.Res a.Lin=true) (k:B7 A<=6):∀b∈B,Eh x ⟨[],b.1⟩:=by
 obtain ⟨gs,l,c,j,f,rfl⟩:=h
 intro b hb
 obtain ⟨h1,h2⟩:=Agm (vars:=x.Vars) (res:=x.Res) f (fun a ha=>⟨i.lin a (c.mem_iff.1 ha),g a (c.mem_iff.1 ha)⟩) [([],1)] 0 (fun b hb=>by
  simp only [List.mem_singleton] at hb
  subst hb
  exact ⟨⟨List.Pairwise.nil,fun _ h=>by cases h⟩,by simp [Cd],fun _ h=>by cases h⟩) b hb
 refine Ao0 h1 ?_
 rw [Nq c] at h2
 omega
theorem A1q {B:List Dm} {m:A9}:∃z:Int,(1:Rat)*(ec B m:Rat)=(z:Rat):=⟨(ec B m:Int),by rw [Rat.intCast_natCast]; grind⟩
theorem A1r {l:Ar} {k:Int} (b:B8 l=true) (h0:0<=k) (c:k<=6):Atk [⟨l,k⟩]/\B7 [(⟨l,k⟩:A5)]<=6:=by
 have hd:B7 [(⟨l,k⟩:A5)]=k.toNat:=by simp [B7]
 exact ⟨⟨fun a ha=>by simp only [List.mem_singleton] at ha; subst ha; exact h0,fun a ha=>by simp only [List.mem_singleton] at ha; subst ha; exact b,by omega,by simp⟩,by omega⟩
theorem Abo (x:Bj) (l:Ar) (k:l.Terms.length<=1048576) (i:x.Vars.length<=1048576):Se x l=some (Dz x.Vars x.Res l):=by
 unfold Se
 have f:Dz x.Vars x.Res l=l.Terms.zipIdx.all (fun q=>J7 x.Vars x.Res q.1):=by
  unfold Dz
  rw [Bool.eq_iff_iff,List.all_eq_true,List.all_eq_true]
  constructor
  .rintro h ⟨a,j⟩ hq
   exact h a (Cp (List.mk_mem_zipIdx_iff_getElem?.1 hq))
  .intro h a ha
   obtain ⟨j,hj⟩:=List.getElem?_of_mem ha
   exact h (a,j) (List.mk_mem_zipIdx_iff_getElem?.2 hj)
 rw [f]
 refine (Th l.Terms (fun q=>J7 x.Vars x.Res q.1) (fun j=>(j:Int)) rfl (by omega) (rt:=true) (rf:=false) ?_ ?_).trans (by rw [Kr])
 .intro j t ht _ h1 h2 h3
  simp only [h1,h2,h3,cond_true,Ad]
  by_cases e:t.Var = -1
  .rw [En e,cond_true]
   have:J7 x.Vars x.Res t=(x.Res.Kind==1):=by unfold J7 tyX; rw [if_pos e]
   rw [this]
   by_cases hk:x.Res.Kind=1
   .rw [E8 hk,En hk]
    exact ⟨fun _=>rfl,fun h=>by cases h⟩
   .rw [Eo hk,Cr hk]
    exact ⟨(fun h=>by cases h),fun _=>⟨.inl false,rfl,rfl⟩⟩
  .rw [Cr e,cond_false]
   have b:J7 x.Vars x.Res t=(match Ag x.Vars t.Var with | some u=>u.Kind==1 | none=>false):=by unfold J7 tyX; rw [if_neg e]; cases Ag x.Vars t.Var <;> rfl
   rw [b]
   by_cases c:t.Var<0
   .rw [Al c,Aku (.inl c)]
    exact ⟨(fun h=>by cases h),fun _=>⟨.inl false,rfl,rfl⟩⟩
   .rw [Aq c,cond_false]
    by_cases g:(x.Vars.length:Int)<=t.Var
    .rw [Al (by omega),Aku (.inr g)]
     exact ⟨(fun h=>by cases h),fun _=>⟨.inl false,rfl,rfl⟩⟩
    .rw [Aq (by omega),cond_false]
     have hx:x.Vars[t.Var.toNat]? = some x.Vars[t.Var.toNat]:=B2 (by omega)
     generalize x.Vars[t.Var.toNat]'(by omega)=u at hx
     rw [Cf (n:=t.Var.toNat) (by omega) hx]
     simp only [Ad]
     by_cases hk:u.Kind=1
     .rw [E8 hk,En hk]
      exact ⟨fun _=>rfl,fun h=>by cases h⟩
     .rw [Eo hk,Cr hk]
      exact ⟨(fun h=>by cases h),fun _=>⟨.inl false,rfl,rfl⟩⟩
 .intro h _
  exact ⟨.inr (),by simp only [h]; rfl,rfl⟩
end Go.Ab
namespace Go.Ab
open Go
theorem T5 {a:Ar} (h:B8 a=true):∀t∈a.Terms,-1048576<=t.Coef/\t.Coef<=1048576:=by
 intro t ht
 obtain ⟨j,hj⟩:=List.getElem?_of_mem ht
 unfold B8 at h
 rw [C5,List.all_eq_true] at h
 have:=h.2 (t,j) (List.mk_mem_zipIdx_iff_getElem?.2 hj)
 unfold Q8 at this
 simp only [C5,decide_eq_true_eq] at this
 exact ⟨this.1.2.2.2.1,this.1.2.2.2.2⟩
theorem Ao7 (a b:List Be) (h:a.length+b.length<=1000000):Va [a,b]=some (a++b) :=
 Agf (B:=16) (by decide) (gr:=Ze) (fun n h=>Agj n h) a b h
def Iv (t:Be):Be:=⟨t.Var,-t.Coef⟩
theorem A1s (l:List Be) (v:Int):cl (l.map Iv) v = - cl l v:=by
 induction l with
 | nil=>rfl
 | cons t l ih=>
  simp only [List.map_cons,cl,ih,Iv]
  split <;> omega
theorem A1t (ts:List Be) (k:ts.length<=1000) (hb:∀t∈ts,-1048576<=t.Coef/\t.Coef<=1048576):Vb ts (-1)=some (ts.map Iv):=by
 unfold Vb
 have f:Qv ts=some ([],ts):=by
  unfold Qv Iz
  rw [De (by simp; omega)]; rfl
 rw [f,Ad]
 dsimp only
 refine Gz ts.length (fun j=>((j:Int),(ts.take j).map Iv++ts.drop j)) (by simp) ?_ ⟨ts.map Iv,?_,rfl⟩
 .intro j hj
  have hx:ts[j]? = some ts[j]:=B2 hj
  have hm:=List.getElem_mem hj
  generalize ts[j]=t at hx hm
  have g:=hb t hm
  have e:(ts.take j).map Iv++ts.drop j=(ts.take j).map Iv++t::ts.drop (j+1):=by rw [Iu hx]
  have b:((ts.take j).map Iv).length=j:=by simp; omega
  have i:Ag ((ts.take j).map Iv++ts.drop j) (j:Int)=some t:=by
   refine Cf rfl ?_
   rw [e]
   have:=Age ((ts.take j).map Iv) (ts.drop (j+1)) t
   rwa [b] at this
  have hw:Ac (t.Coef * -1) = -t.Coef:=by rw [Ac,Bw] <;> omega
  have c:Cn ((ts.take j).map Iv++ts.drop j) (j:Int) (⟨t.Var,-t.Coef⟩:Be)=(ts.take (j+1)).map Iv++ts.drop (j+1):=by
   rw [Fj (n:=j) rfl,e,Df hx,List.map_append,List.append_assoc]
   have:∀(A R:List Be) (x y:Be),(A++x::R).set A.length y=A++y::R:=by
    intro A R x y
    induction A with
    | nil=>rfl
    | cons a A ih=>simp only [List.cons_append,List.length_cons,List.set_cons_succ,ih]
   have h:=this ((ts.take j).map Iv) (ts.drop (j+1)) t ⟨t.Var,-t.Coef⟩
   rw [b] at h
   rw [h]; rfl
  simp only [Al (by omega:(j:Int)<((ts.length:Nat):Int)),cond_true,i,Ad,C7 hj (by omega),hw,c]
 .simp
theorem Ao8 (a b:Ar) (h:a.Terms.length+b.Terms.length<=12) :
  (B8 a=true/\B8 b=true/\∃L,Lb a b=some (Xp (a.Const+b.Const) L)/\Ky L/\∀v,cl L v=cl a.Terms v+cl b.Terms v)\/((B8 a&&B8 b)=false/\Lb a b=some (⟨0,[]⟩,1)):=by
 unfold Lb
 rw [Ku,Ku]
 cases ha:B8 a with
 | false=>exact .inr ⟨rfl,rfl⟩
 | true=>
  cases hb:B8 b with
  | false=>exact .inr ⟨rfl,rfl⟩
  | true=>
   left
   have h1:=Ji ha
   have h2:=Ji hb
   obtain ⟨L,g,f,c⟩:=Ao6 (a.Const+b.Const) (a.Terms++b.Terms) (by simp; omega) (fun t ht=>by
    rcases List.mem_append.1 ht with ht | ht
    .have:=T5 ha t ht; omega
    .have:=T5 hb t ht; omega)
   refine ⟨rfl,rfl,L,?_,f,fun v=>by rw [c,T3]⟩
   have w:Ac (a.Const+b.Const)=a.Const+b.Const:=by rw [Ac,Bw] <;> omega
   simp only [Ad,D5,cond_false,Ao7 a.Terms b.Terms (by omega),w,g]
theorem A1u (a b:Ar) (h:a.Terms.length+b.Terms.length<=12) :
  (B8 a=true/\B8 b=true/\∃L,M3 a b=some (Xp (a.Const-b.Const) L)/\Ky L/\∀v,cl L v=cl a.Terms v-cl b.Terms v)\/((B8 a&&B8 b)=false/\M3 a b=some (⟨0,[]⟩,1)):=by
 unfold M3
 rw [Ku,Ku]
 cases ha:B8 a with
 | false=>exact .inr ⟨rfl,rfl⟩
 | true=>
  cases hb:B8 b with
  | false=>exact .inr ⟨rfl,rfl⟩
  | true=>
   left
   have h1:=Ji ha
   have h2:=Ji hb
   obtain ⟨L,g,f,c⟩:=Ao6 (a.Const-b.Const) (a.Terms++b.Terms.map Iv) (by simp; omega) (fun t ht=>by
    rcases List.mem_append.1 ht with ht | ht
    .have:=T5 ha t ht; omega
    .obtain ⟨u,hu,rfl⟩:=List.mem_map.1 ht
     have:=T5 hb u hu
     show _<=-u.Coef/\-u.Coef<=_
     omega)
   refine ⟨rfl,rfl,L,?_,f,fun v=>by rw [c,T3,A1s]; omega⟩
   have w:Ac (a.Const-b.Const)=a.Const-b.Const:=by rw [Ac,Bw] <;> omega
   simp only [Ad,D5,cond_false,A1t b.Terms (by omega) (T5 hb),Ao7 a.Terms (b.Terms.map Iv) (by simp; omega),w,g]
theorem A1v (a b:Ar) (c:a.Terms.length+b.Terms.length<=12):∃r,Lb a b=some r:=by
 rcases Ao8 a b c with ⟨_,_,L,h,_⟩ | ⟨_,h⟩ <;> exact ⟨_,h⟩
theorem Ao9 (a b:Ar) (c:a.Terms.length+b.Terms.length<=12):∃r,M3 a b=some r:=by
 rcases A1u a b c with ⟨_,_,L,h,_⟩ | ⟨_,h⟩ <;> exact ⟨_,h⟩
theorem Agq (a:Gd) (j:a.E.Terms.length+a.F.Terms.length<=12):∃b,Pv a=some b/\(b=true↔B8 a.E=true/\B8 a.F=true/\0<=a.K/\a.K<=6/\((a.Kind=1/\∃s,Lb a.E a.F=some (s,0))\/(a.Kind=2/\∃s,M3 a.E a.F=some (s,0)))):=by
 obtain ⟨r,l⟩:=A1v a.E a.F j
 obtain ⟨q,hq⟩:=Ao9 a.E a.F j
 unfold Pv
 rw [Ku,Ku,l,hq]
 cases x:B8 a.E with
 | false=>exact ⟨false,rfl,by simp⟩
 | true=>
  cases u:B8 a.F with
  | false=>exact ⟨false,rfl,by simp⟩
  | true=>
   simp only [Ad,D5,cond_false]
   by_cases h0:0<=a.K
   .rw [Aq (by omega)]
    by_cases k:a.K<=6
    .rw [Aq (by omega)]
     simp only [cond_false,Ad]
     by_cases f:a.Kind=1
     .rw [En f,cond_true]
      refine ⟨_,rfl,?_⟩
      constructor
      .intro h
       have h:=of_decide_eq_true (by simpa using h:decide (r.2=0)=true)
       exact ⟨trivial,trivial,h0,k,.inl ⟨f,r.1,by rw [<-h]⟩⟩
      .rintro ⟨_,_,_,_,⟨_,s,i⟩ | ⟨c,_⟩⟩
       .cases i; rfl
       .omega
     .rw [Cr f,cond_false]
      by_cases c:a.Kind=2
      .rw [En c,cond_true]
       refine ⟨_,rfl,?_⟩
       constructor
       .intro h
        have h:=of_decide_eq_true (by simpa using h:decide (q.2=0)=true)
        exact ⟨trivial,trivial,h0,k,.inr ⟨c,q.1,by rw [<-h]⟩⟩
       .rintro ⟨_,_,_,_,⟨g,_⟩ | ⟨_,s,i⟩⟩
        .exact (f g).elim
        .cases i; rfl
      .rw [Cr c,cond_false]
       exact ⟨false,rfl,by simp [f,c]⟩
    .rw [Al (by omega)]
     exact ⟨false,rfl,by simp; omega⟩
   .rw [Al (by omega)]
    exact ⟨false,rfl,by simp; omega⟩
noncomputable def Abp (x:Bj) (v f:Bool) (E F:Ar):Int:=bif !(v&&f) then 1 else bif !(Dz x.Vars x.Res E&&Dz x.Vars x.Res F) then 6 else 0
end Go.Ab
namespace Go.Ab
open Go
end Go.Ab
namespace Go.Ab
open Go
theorem A1w {x:Bj} {P:A9->Prop} (g:∀m,P m->Eh x m) {k:Nat} {ts:List Ah} (h:Col k P ts) (hk:k<34359738000) (s:ts.length<=1000) (u:∀m,∃z:Int,cf ts m=(z:Rat)):∃R,Ik (Dp ts) ts=some (R,0)/\IP x ts.length (k+2) (cf ts) R/\∀t∈R,P t.Mono:=by
 obtain ⟨R,l,c,f,b,j⟩:=Af5 (P:=P) (fun m h=>(g m h).cmo) (Dp ts) ts h (by omega) s (fun i _ h2 h3=>Af8 i h2 h3)
 refine ⟨R,l,⟨c,f,fun t ht=>g _ (b t ht).1,j,fun t ht=>?_⟩,fun t ht=>(b t ht).1⟩
 obtain ⟨z,q⟩:=u t.Mono
 have e:rq t.Coef=(z:Rat):=by rw [<-Mt c ht,f,q]
 exact ⟨z,e,Ao2 (c.coe t ht).1 e (b t ht).2⟩
def NoF (x:Bj) (D:Nat) (m:A9):Prop:=Eh x m/\m.Factors = []/\Cd m.Atoms<=(D:Nat)
theorem NoF.mono {x:Bj} {D D':Nat} {m:A9} (h:NoF x D m) (hd:D<=D'):NoF x D' m:=⟨h.1,h.2.1,by have:=h.2.2; omega⟩
theorem IsE.noF {x:Bj} {A:List A5} {B:List Dm} (h:IsE A B) (g:Atk A) (f:∀a∈A,Dz x.Vars x.Res a.Lin=true) (j:B7 A<=6):∀b∈B,NoF x (B7 A) ⟨[],b.1⟩:=by
 intro b hb
 refine ⟨h.good g f j b hb,rfl,?_⟩
 obtain ⟨gs,l,c,k,i,rfl⟩:=h
 obtain ⟨h1,h2⟩:=Agm (vars:=x.Vars) (res:=x.Res) i (fun a ha=>⟨g.lin a (c.mem_iff.1 ha),f a (c.mem_iff.1 ha)⟩) [([],1)] 0 (fun b hb=>by
  simp only [List.mem_singleton] at hb
  subst hb
  exact ⟨⟨List.Pairwise.nil,fun _ h=>by cases h⟩,by simp [Cd],fun _ h=>by cases h⟩) b hb
 rw [Nq c] at h2
 show Cd b.1<=_
 omega
theorem A1x {x:Bj} {P:A9->Prop} (E:∀m,P m->Eh x m) {A:List A5} (U:Atk A) (N:B7 A<=6) (s:∀B,IsE A B->∀b∈B,P ⟨[],b.1⟩) (b1:List (ByteArray×Int)) (b2:List (ByteArray×List Bz)) (D y:Int) (u:List Aj) :
  ∃R B,Vp ⟨[],A⟩ b1 b2 x.Data x.Vars D y u=some (R,0,b1,b2)/\IsE A B/\IP x B.length (2429+B.length*2430) (fun m=>(ec B m:Rat)) R/\∀t∈R,P t.Mono:=by
 have f:rq (cR 1)=1:=by rw [Abf]; rfl
 obtain ⟨out,B,V,G,j,e4⟩:=Aoz (c:=cR 1) (K:=3) (A:=A) ((Abc (k:=1) (by rw [Mm]; decide) (by decide)).mono (by decide)) (by decide) (by rw [f]; decide) U b1 b2 x.Data x.Vars D y u
 have S:out.length<=64:=Nat.le_trans e4 (Nat.le_trans (Nat.pow_le_pow_right (by decide) N) (by decide))
 have hm:=s B G
 obtain ⟨v,J,v2,v3,v4⟩:=Tx (k0:=2427) (k:=2427) (P:=P) (fun m h=>(E m h).cmo) out [] (Col.nil _ _) (fun t ht=>by
  obtain ⟨b,hb,q,_,l⟩:=j.mem ht
  exact ⟨l,by rw [q]; exact hm b hb⟩) (Nat.le_refl _) (by omega) (by simp; omega)
 simp at v3
 have i:∀m,cf v m=1*(ec B m:Rat):=fun m=>by rw [v4,j.cf,f]; simp only [cf]; grind
 obtain ⟨R,M,g,L⟩:=A1w (x:=x) (P:=P) E v2 (by omega) (by omega) (fun m=>by rw [i]; exact A1q)
 refine ⟨R,B,?_,G,⟨g.cp,fun m=>by rw [g.val,i]; grind,g.mo,by have:=g.len; have:=j.len; omega,fun t ht=>by
  obtain ⟨z,I,z2⟩:=g.int t ht
  exact ⟨z,I,by rw [<-j.len]; omega⟩⟩,L⟩
 unfold Vp
 rw [Ty,Ad,V,Ad]
 simp only [bne_self_eq_false,cond_false,Ij,Ad]
 rw [show H7 out [] []=some (Dp v,v) from J,Ad,M]; rfl
theorem Gs.nil_of {c:List Grp} {A:List A5} (h:Gs c A):A = []->c = []:=by
 cases h with
 | nil=>exact fun _=>rfl
 | cons b _ _ _ _=>exact fun e=>absurd (List.append_eq_nil_iff.1 e).1 b
theorem IsE.one {a:A5} {B:List Dm} (h:IsE [a] B):B.length<=1:=by
 obtain ⟨gs,I,y,J,q,rfl⟩:=h
 have G:I = [a]:=List.perm_singleton.1 y
 rw [G] at q
 generalize c:[a]=X at q
 cases q with
 | nil=>cases c
 | @cons l N f g rest gs s R L A E=>
  have M:g.length+rest.length=1:=by
   have:=congrArg List.length c
   simpa using this.symm
  have z:g.length=1:=by
   have:=List.length_pos_iff.2 s
   have:rest.length≠1\/g.length=0:=by omega
   omega
  have b:rest = []:=List.length_eq_zero_iff.1 (by omega)
  subst b
  rw [List.append_nil] at c
  subst c
  have x:=E.nil_of rfl
  subst x
  .show (Ew [([],1)] l f (N+1)).length<=1
   have key:∀n,(∀i j,i<n->j<n->f i≠0->f j≠0->i=j)->(Ew [(([],1):Dm)] l f n).length<=1/\((Ew [(([],1):Dm)] l f n).length=1->∃i,i<n/\f i≠0):=by
    intro n
    induction n with
    | zero=>intro _; simp [Ew]
    | succ n ih=>
     intro h
     obtain ⟨i1,i2⟩:=ih fun i j u hj=>h i j (by omega) (by omega)
     rw [Rn,List.length_append]
     by_cases h0:f n=0
     .rw [if_pos h0]
      refine ⟨by simpa using i1,fun e=>?_⟩
      obtain ⟨i,a1,a2⟩:=i2 (by simpa using e)
      exact ⟨i,by omega,a2⟩
     .rw [if_neg h0]
      have:(Ew [(([],1):Dm)] l f n).length≠1:=fun e=>by
       obtain ⟨i,a1,a2⟩:=i2 e
       have:=h i n (by omega) (by omega) a2 h0
       omega
      refine ⟨by simp only [List.length_map,List.length_singleton]; omega,fun _=>⟨n,by omega,h0⟩⟩
   refine (key (N+1) ?_).1
   rcases A with ⟨_,h2⟩ | ⟨_,h2,_⟩
   .have e:∀k,k<N+1->f k=if k=N then 1 else 0:=by
     refine Aol fun n _=>?_
     rw [h2.2.2 n]
     have D:N=a.Deg.toNat:=by have:=h2.1; simpa [B7] using this
     rw [Agd (k:=N) (by omega) (fun j hj=>by simp [hj])]
     simp [prb,D]
    intro i j u hj h1 h2
    rw [e i u] at h1
    rw [e j hj] at h2
    split at h1
    .split at h2
     .omega
     .exact (h2 rfl).elim
    .exact (h1 rfl).elim
   .intro i j u hj _ _
    omega
theorem IsE.oneA {a:A5} {B:List Dm} (h:IsE [a] B):∀b∈B,b.1.length<=1:=by
 obtain ⟨gs,A,q,x,k,rfl⟩:=h
 have j:=q.length_eq
 cases k with
 | nil=>intro b hb; simp only [H3,List.mem_singleton] at hb; subst hb; simp
 | @cons l N f g rest gs c y i z u=>
  rw [List.length_append] at j
  simp only [List.length_singleton] at j
  have s:=List.length_pos_iff.2 c
  have i:rest = []:=List.length_eq_zero_iff.1 (by omega)
  subst i
  have:=u.nil_of rfl
  subst this
  exact Aow (M:=0) fun b hb=>by simp only [List.mem_singleton] at hb; subst hb; simp
theorem Agr {x:Bj} (A:CSz x) (D:Fm x) {l:Ar} {k:Int} (g:B8 l=true) (h0:0<=k) (E:k<=6) (j:Dz x.Vars x.Res l=true) :
  ∃R B,Ld x l k=some (R,0)/\IsE [⟨l,k⟩] B/\IP x 1 4900 (fun m=>(ec B m:Rat)) R/\∀t∈R,NoF x k.toNat t.Mono/\t.Mono.Atoms.length<=1:=by
 obtain ⟨s,hb,_⟩:=Af9 A (ps:=[]) (fun p hp=>by cases hp) (by simp) ⟨D,fun p hp=>by cases hp⟩
 obtain ⟨a1,a2⟩:=A1r g h0 E
 obtain ⟨R,B,y,f,c,i⟩:=A1x (x:=x) (P:=fun m=>NoF x (B7 [⟨l,k⟩]) m/\m.Atoms.length<=1) (fun m h=>h.1.1) a1 a2 (fun B q b hb=>⟨q.noF a1 (fun a ha=>by simp only [List.mem_singleton] at ha; subst ha; exact j) a2 b hb,q.oneA b hb⟩) s [] x.Res.Kind x.Res.Num x.Res.Args
 refine ⟨R,B,?_,f,⟨c.cp,c.val,c.mo,Nat.le_trans c.len f.one,fun t ht=>by
  obtain ⟨z,u,z2⟩:=c.int t ht
  have:=f.one
  exact ⟨z,u,by omega⟩⟩,fun t ht=>⟨(i t ht).1.mono (by simp [B7]),(i t ht).2⟩⟩
 unfold Ld
 rw [hb]
 simp only [Ad,D5,cond_false,Ku,g,Aq (by omega:¬k<0),Aq (by omega:¬k>6)]
 rw [Amw s [] x.Data x.Vars x.Res l (by have:=(Ji g).1; omega),Ad,j]
 simp only [D5,cond_false,y,Ad]
end Go.Ab
namespace Go.Ab
open Go
theorem Ags {l:List A5} (h:∀a∈l,1<=a.Deg):0<=Cd l:=by
 induction l with
 | nil=>simp [Cd]
 | cons a l ih=>
  have h1:=h a (by simp)
  have h2:=ih fun b hb=>h b (by simp [hb])
  unfold Cd at *
  simp only [List.map_cons,List.sum_cons]; omega
theorem Apa {l:List A5} (h:∀a∈l,1<=a.Deg) (j:Nat):0<=Cd (l.take j)/\Cd (l.take j)<=Cd l:=by
 refine ⟨Ags fun a ha=>h a (List.mem_of_mem_take ha),?_⟩
 have e:=Abm (l.take j) (l.drop j)
 rw [List.take_append_drop] at e
 have:=Ags (l:=l.drop j) fun a ha=>h a (List.mem_of_mem_drop ha)
 omega
theorem A1y {x:Bj} {D:Nat} {m:A9} (h:NoF x D m) (q:D<=6) (b1:List (ByteArray×Int)) (b2:List (ByteArray×List Bz)) (data:List A7) (vars:List Aj) (k i:Int) (g:List Aj) :
  Kl m b1 b2 data vars k i g=some (Cd m.Atoms,b1):=by
 obtain ⟨h1,h2,h3⟩:=h
 have hm:=h1.cmo
 have hd:∀a∈m.Atoms,1<=a.Deg:=fun a ha=>(hm.al a ha).2.2.1
 have l:=hm.na
 unfold Kl
 rw [h2]
 refine bnd (a:=(0,b1)) (Dw (by simp)) ?_
 dsimp only
 refine Gz m.Atoms.length (fun j=>(Cd (m.Atoms.take j),(j:Int))) (by simp [Cd]) ?_ ⟨Cd m.Atoms,?_,rfl⟩
 .intro j hj
  have hx:m.Atoms[j]? = some m.Atoms[j]:=B2 hj
  have b:=List.getElem_mem hj
  generalize m.Atoms[j]=a at hx b
  have ha:=hm.al a b
  have ht:=Apa hd j
  have c:=Apa hd (j+1)
  rw [Df hx,Abm] at c
  have f:Cd [a]=a.Deg:=by simp [Cd]
  rw [f] at c
  have e:(if (7:Int)<a.Deg then 7 else a.Deg)=a.Deg:=if_neg (by omega)
  have w:Ac (Cd (m.Atoms.take j)+a.Deg)=Cd (m.Atoms.take j)+a.Deg:=by rw [Ac,Bw] <;> omega
  simp only [Al (by omega:(j:Int)<(m.Atoms.length:Int)),cond_true,Cf rfl hx,Ad,Al (by omega:Cd (m.Atoms.take j)<=6),e,w,C7 hj (by omega),Df hx,Abm,f]
 .simp only [Aq (by omega:¬(m.Atoms.length:Int)<(m.Atoms.length:Int)),cond_false,List.take_length]
theorem Apb {x:Bj} {D:Nat} {t:Ah} (h:NoF x D t.Mono) (l:D<=6) (b1:List (ByteArray×Int)) (b2:List (ByteArray×List Bz)) (data:List A7) (vars:List Aj) (i g:Int) (f:List Aj) :
  ∃G,Oe [t] b1 b2 data vars i g f=some (G,b1)/\0<=G/\G<=(D:Int):=by
 have hd:∀a∈t.Mono.Atoms,1<=a.Deg:=fun a ha=>(h.1.cmo.al a ha).2.2.1
 have h0:=Ags hd
 have c:=h.2.2
 refine ⟨Cd t.Mono.Atoms,?_,h0,c⟩
 unfold Oe
 have i0:Ag [t] 0=some t:=rfl
 have k:Ac (0+1)=1:=by rw [Ac,Bw] <;> omega
 refine Gz 1 (fun j=>if j=0 then (0,0,b1) else (Cd t.Mono.Atoms,1,b1)) rfl ?_ ⟨(Cd t.Mono.Atoms,b1),?_,rfl⟩
 .intro j hj
  have:j=0:=by omega
  subst this
  have e:(if Cd t.Mono.Atoms>0 then Cd t.Mono.Atoms else 0)=Cd t.Mono.Atoms:=by split <;> omega
  have b:=A1y h l b1 b2 data vars i g f
  simp only [if_true,List.length_singleton,i0,Ad,b,e,k]
  rfl
 .rfl
noncomputable def eB (A:List A5):List Dm:=open Classical in if h:∃B,IsE A B then Classical.choose h else []
theorem Apc {A:List A5} {B:List Dm} (h:IsE A B):eB A=B:=by
 unfold eB
 rw [dif_pos ⟨B,h⟩]
 exact (Classical.choose_spec (⟨B,h⟩:∃B,IsE A B)).det h (List.Perm.refl _)
noncomputable def Ro:List Ah->List Ah->A9->Rat
 | t::_,u::_,m=>rq t.Coef*rq u.Coef*(ec (eB (t.Mono.Atoms++u.Mono.Atoms)) m:Rat)
 | _,_,_=>0
theorem Apd {x:Bj} {D:Nat} {m:A9} (h:NoF x D m) (f:D<=6):Atk m.Atoms/\B7 m.Atoms<=D/\(∀a∈m.Atoms,Dz x.Vars x.Res a.Lin=true)/\m.Atoms.length<=D:=by
 have hm:=h.1.cmo
 have hd:∀l:List A5,(∀a∈l,1<=a.Deg)->(B7 l:Int)=Cd l/\(l.length:Int)<=Cd l:=by
  intro l
  induction l with
  | nil=>intro _; simp [B7,Cd]
  | cons a l ih=>
   intro h
   have h1:=h a (by simp)
   obtain ⟨h2,h3⟩:=ih fun b hb=>h b (by simp [hb])
   unfold Cd at *
   simp only [B7,List.map_cons,List.sum_cons,List.length_cons]; omega
 have c:=hd m.Atoms fun a ha=>(hm.al a ha).2.2.1
 have h3:=h.2.2
 refine ⟨⟨fun a ha=>by have:=(hm.al a ha).2.2.1; omega,fun a ha=>(hm.al a ha).1,by omega,by omega⟩,by omega,fun a ha=>?_,by omega⟩
 have hc:=h.1.1
 unfold Hy at hc
 simp only [C5,List.all_eq_true] at hc
 obtain ⟨j,hj⟩:=List.getElem?_of_mem ha
 have:=hc.1.2 (a,j) (List.mk_mem_zipIdx_iff_getElem?.2 hj)
 unfold Mr at this
 simp only [C5] at this
 exact this.1.2
end Go.Ab
namespace Go.Ab
open Go
theorem Abq {B:List Dm} {l:Ar} {f:Nat->Nat} {m:Nat} (h:∀k,k<m->f k=0):∀n,(Ew B l f n).length<=(n-m)*B.length
 | 0=>by simp [Ew]
 | n+1=>by
  have ih:=Abq (B:=B) (l:=l) h n
  rw [Rn,List.length_append]
  rcases Nat.lt_or_ge n m with h' | h'
  .rw [if_pos (h n h'),show n-m=0 by omega] at *
   simp only [List.length_nil]; omega
  .have e:n+1-m=(n-m)+1:=by omega
   rw [e,Nat.add_mul,Nat.one_mul]
   have:(if f n=0 then ([]:List Dm) else B.map fun b=>(b.1++atO l n,b.2*f n)).length<=B.length:=by split <;> simp
   omega
theorem A1z {x d:Nat} (h:x<d):bc x d=0:=by
 induction x generalizing d with
 | zero=>
  cases d with
  | zero=>omega
  | succ d=>rfl
 | succ x ih=>
  cases d with
  | zero=>omega
  | succ d=>
   show bc x d+bc x (d+1)=0
   rw [ih (by omega),ih (by omega)]
theorem Ape {x:Nat} {a:A5} (h:x<a.Deg.toNat):∀{l:List A5},a∈l->prb x l=0
 | b::l,hm=>by
  simp only [prb]
  rcases List.mem_cons.1 hm with rfl | hm
  .rw [A1z h,Nat.zero_mul]
  .rw [Ape h hm,Nat.mul_zero]
theorem Agt {l:Ar} {N:Nat} {f:Nat->Nat} {g:List A5} (h:PwN g N f) {a:A5} (ha:a∈g) (b:a.Deg.toNat<=N):∀k,k<a.Deg.toNat->f k=0:=fun k hk=>by
 have:=h.le (k:=k) (by omega)
 rw [Ape hk ha] at this
 omega
theorem Agu {B:List Dm} {l:Ar} {N:Nat} {f:Nat->Nat} {a:A5} (h:Pw l N f [a]):(Ew B l f (N+1)).length<=B.length:=by
 rcases h with ⟨_,h⟩ | ⟨_,h,_⟩
 .have b:N=a.Deg.toNat:=by have:=h.1; simpa [B7] using this
  have:=Abq (B:=B) (l:=l) (Agt (l:=l) h (List.mem_singleton.2 rfl) (by omega)) (N+1)
  rw [show N+1-a.Deg.toNat=1 by omega,Nat.one_mul] at this
  exact this
 .subst h
  have:=Abj B l f 1
  rw [Nat.one_mul] at this
  exact this
theorem Apf {B:List Dm} {l:Ar} {N:Nat} {f:Nat->Nat} {a b:A5} (h:Pw l N f [a,b]):(Ew B l f (N+1)).length<=(1+min a.Deg.toNat b.Deg.toNat)*B.length:=by
 rcases h with ⟨_,h⟩ | ⟨_,h,_⟩
 .have c:N=a.Deg.toNat+b.Deg.toNat:=by have:=h.1; simp only [B7] at this; omega
  have h1:=Abq (B:=B) (l:=l) (Agt (l:=l) h (a:=a) (by simp) (by omega)) (N+1)
  have h2:=Abq (B:=B) (l:=l) (Agt (l:=l) h (a:=b) (by simp) (by omega)) (N+1)
  rcases Nat.le_total a.Deg.toNat b.Deg.toNat with k | k
  .rw [Nat.min_eq_left k]
   rw [show N+1-b.Deg.toNat=1+a.Deg.toNat by omega] at h2
   exact h2
  .rw [Nat.min_eq_right k]
   rw [show N+1-a.Deg.toNat=1+b.Deg.toNat by omega] at h1
   exact h1
 .subst h
  have h1:=Abj B l f 1
  rw [Nat.one_mul] at h1
  rw [Nat.add_mul,Nat.one_mul]
  exact Nat.le_trans h1 (Nat.le_add_right _ _)
theorem A10 (a b:Nat):1+min a b<=2 ^ ((a+b) / 2):=by
 have h1:∀n:Nat,1+n<=2 ^ n:=fun n=>by
  induction n with
  | zero=>decide
  | succ n ih=>rw [Nat.pow_succ]; omega
 exact Nat.le_trans (h1 _) (Nat.pow_le_pow_right (by decide) (by omega))
theorem A11 (a b:Nat):2 ^ (a / 2)*2 ^ (b / 2)<=2 ^ ((a+b) / 2):=by
 rw [<-Nat.pow_add]
 exact Nat.pow_le_pow_right (by decide) (by omega)
def Few (A:List A5):Prop:=∀l,(A.filter fun a=>decide (Er a.Lin l=0)).length<=2
theorem Few.perm {A b:List A5} (h:Few A) (hp:b.Perm A):Few b:=fun l=>by rw [(hp.filter _).length_eq]; exact h l
theorem Agv {l:Ar}:∀{L:List A5},L.Pairwise (fun a b=>Er a.Lin b.Lin<0)->(L.filter fun a=>decide (Er a.Lin l=0)).length<=1
 | [],_=>by simp
 | a::L,h=>by
  obtain ⟨h1,h2⟩:=List.pairwise_cons.1 h
  by_cases e:Er a.Lin l=0
  .rw [List.filter_cons_of_pos (by simpa using e)]
   have:L.filter (fun a=>decide (Er a.Lin l=0)) = []:=List.filter_eq_nil_iff.2 fun b hb=>by
    have h3:=h1 b hb
    intro c
    have c:=of_decide_eq_true c
    rw [(G1.zero _ _ trivial trivial).1 e,(G1.zero _ _ trivial trivial).1 c] at h3
    exact Rm.irr l h3
   rw [this]; simp
  .rw [List.filter_cons_of_neg (by simpa using e)]
   exact Agv h2
theorem A12 {L M:List A5} (f:L.Pairwise fun a b=>Er a.Lin b.Lin<0) (c:M.Pairwise fun a b=>Er a.Lin b.Lin<0):Few (L++M):=fun l=>by
 rw [List.filter_append,List.length_append]
 have:=Agv (l:=l) f
 have:=Agv (l:=l) c
 omega
theorem Gs.cnt:∀{j:List Grp} {A:List A5},Gs j A->Few A->∀B,(H3 B j).length<=2 ^ (B7 A / 2)*B.length:=by
 intro j A h
 induction h with
 | nil=>intro _ B; simp [H3,B7]
 | @cons l N f g rest j k x y i z ih=>
  intro u B
  have q:g.length<=2:=by
   have h1:=u l
   rw [List.filter_append,List.length_append,List.filter_eq_self.2 (fun a ha=>by rw [x a ha]; exact decide_eq_true ((G1.zero l l trivial trivial).2 rfl))] at h1
   omega
  have s:Few rest:=fun m=>by
   have h1:=u m
   rw [List.filter_append,List.length_append] at h1
   omega
  have c:(Ew B l f (N+1)).length<=2 ^ (B7 g / 2)*B.length:=by
   match g,k,q,i with
   | [a],_,_,i=>
    refine Nat.le_trans (Agu i) ?_
    exact Nat.le_mul_of_pos_left _ (Nat.pow_pos (by decide))
   | [a,b],_,_,i=>
    refine Nat.le_trans (Apf i) (Nat.mul_le_mul_right _ ?_)
    have:=A10 a.Deg.toNat b.Deg.toNat
    simpa [B7] using this
  show (H3 (Ew B l f (N+1)) j).length<=_
  refine Nat.le_trans (ih s _) ?_
  rw [Lw]
  refine Nat.le_trans (Nat.mul_le_mul_left _ c) ?_
  rw [<-Nat.mul_assoc]
  refine Nat.mul_le_mul_right _ ?_
  rw [Nat.mul_comm]
  exact A11 _ _
theorem IsE.cnt {L M:List A5} {B:List Dm} (h:IsE (L++M) B) (i:L.Pairwise fun a b=>Er a.Lin b.Lin<0) (g:M.Pairwise fun a b=>Er a.Lin b.Lin<0):B.length<=2 ^ (B7 (L++M) / 2):=by
 obtain ⟨gs,k,c,j,f,rfl⟩:=h
 have:=f.cnt ((A12 i g).perm c) [([],1)]
 rw [Nq c] at this
 simpa using this
theorem IsE.cnt1 {L M:List A5} {B:List Dm} (h:IsE (L++M) B) (hL:L.length<=1) (hM:M.length<=1):B.length<=1+min (B7 L) (B7 M):=by
 obtain ⟨gs,A',j,S,V,rfl⟩:=h
 have i:=j.length_eq
 rw [List.length_append] at i
 cases V with
 | nil=>simp only [H3,List.length_singleton]; omega
 | @cons l N f g rest gs u hg D A U=>
  rw [List.length_append] at i
  have G:=List.length_pos_iff.2 u
  match g,u,A,i,j,G with
  | [a],_,A,i,j,_=>
   have h1:=Agu (B:=[([],1)]) A
   show (H3 (Ew [([],1)] l f (N+1)) gs).length<=_
   simp only [List.length_singleton] at h1 i
   have hB:(H3 (Ew [([],1)] l f (N+1)) gs).length<=(Ew [([],1)] l f (N+1)).length:=by
    generalize Ew [([],1)] l f (N+1)=B0
    cases U with
    | nil=>exact Nat.le_refl _
    | @cons Z N' f' Y k X s _ _ q R=>
     have z:=List.length_pos_iff.2 s
     rw [List.length_append] at i
     match Y,q,i,z with
     | [b],q,i,_=>
      simp only [List.length_singleton] at i
      have D:k = []:=List.length_eq_zero_iff.1 (by omega)
      subst D
      have:=R.nil_of rfl
      subst this
      exact Agu q
     | b::c::t,_,i,_=>simp only [List.length_cons] at i; omega
   omega
  | [a,b],_,A,i,j,_=>
   simp only [List.length_cons,List.length_nil] at i
   have D:rest = []:=List.length_eq_zero_iff.1 (by omega)
   subst D
   have:=U.nil_of rfl
   subst this
   rw [List.append_nil] at j
   have h1:=Apf (B:=[([],1)]) A
   have J:∃x,L = [x]:=List.length_eq_one_iff.1 (by omega)
   have I:∃x,M = [x]:=List.length_eq_one_iff.1 (by omega)
   obtain ⟨x,rfl⟩:=J
   obtain ⟨y,rfl⟩:=I
   have E:(a=x/\b=y)\/(a=y/\b=x):=by
    have ha:a∈[x]++[y]:=j.mem_iff.1 (by simp)
    simp only [List.cons_append,List.nil_append,List.mem_cons,List.not_mem_nil,or_false] at ha
    rcases ha with rfl | rfl
    .left
     exact ⟨rfl,by have:=j.cons_inv; exact (List.singleton_perm_singleton.1 this)⟩
    .right
     have S:[a,b].Perm [a,x]:=j.trans (List.Perm.swap a x [])
     exact ⟨rfl,List.singleton_perm_singleton.1 S.cons_inv⟩
   show (Ew [([],1)] l f (N+1)).length<=_
   simp only [List.length_singleton,Nat.mul_one] at h1
   simp only [B7,Nat.add_zero]
   rcases E with ⟨rfl,rfl⟩ | ⟨rfl,rfl⟩
   .exact h1
   .rw [Nat.min_comm]; exact h1
  | a::b::c::t,_,_,i,_,_=>simp only [List.length_cons] at i; omega
end Go.Ab
namespace Go.Ab
open Go
theorem Apg {α:Type} {l:List α} (h:l.length<=1):l = []\/∃a,l = [a]:=by
 cases l with
 | nil=>exact .inl rfl
 | cons a l=>
  cases l with
  | nil=>exact .inr ⟨a,rfl⟩
  | cons b l=>simp at h
theorem Aph (x:Bj) (n L:Nat) (f:A9->Rat) (b:∀m,f m=0):IP x n L f [] :=
 ⟨CP.nil,fun m=>(b m).symm,fun _ h=>(by cases h),by simp,fun _ h=>(by cases h)⟩
theorem A13 {x:Bj} (hz:CSz x) (hf:Fm x) {D D':Nat} (hD:D+D'<=6) {f g:A9->Rat} {p q:List Ah} (hp:IP x 1 4900 f p) (hq:IP x 1 4900 g q) (np:∀t∈p,NoF x D t.Mono) (nq:∀t∈q,NoF x D' t.Mono) {n:Nat} (hn:∀t∈p,∀u∈q,∀B,IsE (t.Mono.Atoms++u.Mono.Atoms) B->B.length<=n) :
  ∃R,L9 x p q=some (R,0)/\IP x n 13000 (Ro p q) R:=by
 obtain ⟨j,hb⟩:=An6 hz hf (hp.can (by decide) (by decide)) (hq.can (by decide) (by decide))
 have s:Ik [] []=some ([],0):=by
  obtain ⟨R,E,l⟩:=Agp (x:=x) (k:=0) (Col.nil 0 _) (by decide) (by simp) (fun m=>⟨0,rfl⟩)
  have:R = []:=List.length_eq_zero_iff.1 (by have:=l.len; simpa using this)
  rw [this] at E
  exact E
 have L:Ac (0+1)=1:=by rw [Ac,Bw] <;> omega
 rcases Apg hp.len with rfl | ⟨t,rfl⟩
 .refine ⟨[],?_,Aph x _ _ _ fun m=>by cases q <;> rfl⟩
  unfold L9
  rw [hb]
  simp only [Ad,D5,cond_false,List.length_nil,Ij]
  rw [Aq (by decide),cond_false]
  simp only [Ad,cond_false]
  refine bnd (a:=.inr (j,[],[],[])) (Dw (by rfl)) ?_
  simp only [s,Ad]
 .have ht:=np t (by simp)
  have S:=Apb ht (by omega) j [] x.Data x.Vars x.Res.Kind x.Res.Num x.Res.Args
  obtain ⟨G,g1,g2,g3⟩:=S
  have it:Ag [t] 0=some t:=rfl
  rcases Apg hq.len with rfl | ⟨u,rfl⟩
  .refine ⟨[],?_,Aph x _ _ _ fun m=>rfl⟩
   unfold L9
   rw [hb]
   simp only [Ad,D5,cond_false,List.length_nil,List.length_singleton,Ij]
   rw [Al (by decide),Aq (by decide),cond_true,cond_false]
   simp only [Ad,cond_false]
   refine bnd (a:=.inr (j,[],[],[])) ?_ (by simp only [s,Ad])
   refine (G6 (s':=(1,j,[],[],[])) ?_).trans (Dw ?_)
   .simp only [it,Ad]
    rw [Al (by decide),cond_true]
    refine bnd (a:=.inr (0,j,[],[],[])) (Dw (by rfl)) ?_
    simp only [L]
   .rfl
  .have hu:=nq u (by simp)
   obtain ⟨G',Z,a8,a7⟩:=Apb hu (by omega) j [] x.Data x.Vars x.Res.Kind x.Res.Num x.Res.Args
   have iu:Ag [u] 0=some u:=rfl
   obtain ⟨a1,a2,a3,a4⟩:=Apd ht (by omega)
   obtain ⟨c1,c2,c3,c4⟩:=Apd hu (by omega)
   obtain ⟨y,J,y2⟩:=hp.int t (by simp)
   obtain ⟨z,I,z2⟩:=hq.int u (by simp)
   have N:=Xo (hp.cp.coe t (by simp)).1 J y2
   have M:=Xo (hq.cp.coe u (by simp)).1 I z2
   obtain ⟨c,m1,m2,m3,m4⟩:=Rb N M (by decide) (by decide)
   have hA:Atk (t.Mono.Atoms++u.Mono.Atoms):=⟨fun a ha=>by
    rcases List.mem_append.1 ha with h | h
    .exact a1.deg a h
    .exact c1.deg a h,fun a ha=>by
    rcases List.mem_append.1 ha with h | h
    .exact a1.lin a h
    .exact c1.lin a h,by rw [Lw]; omega,by rw [List.length_append]; omega⟩
   have hs:B7 (t.Mono.Atoms++u.Mono.Atoms)<=6:=by rw [Lw]; omega
   have hi:∀a∈t.Mono.Atoms++u.Mono.Atoms,Dz x.Vars x.Res a.Lin=true:=fun a ha=>by
    rcases List.mem_append.1 ha with h | h
    .exact a3 a h
    .exact c3 a h
   have V:rq c≠0:=by
    rw [m4]
    exact fun h=>by
     rcases Rat.mul_eq_zero.1 h with h | h
     .exact (hp.cp.coe t (by simp)).2 h
     .exact (hq.cp.coe u (by simp)).2 h
   obtain ⟨out,B,e1,e2,A,e4⟩:=Aoz (c:=c) (K:=9804) (m2.mono (by decide)) (by decide) V hA j [] x.Data x.Vars x.Res.Kind x.Res.Num x.Res.Args
   have a6:out.length<=64:=Nat.le_trans e4 (Nat.le_trans (Nat.pow_le_pow_right (by decide) hs) (by decide))
   have hm:=e2.good (x:=x) hA hi hs
   obtain ⟨v,v1,v2,v3,v4⟩:=Tx (k0:=12228) (k:=12228) (P:=Eh x) (fun m h=>h.cmo) out [] (Col.nil _ _) (fun w hw=>by
    obtain ⟨b,hb,Y,_,X⟩:=A.mem hw
    exact ⟨X,by rw [Y]; exact hm b hb⟩) (Nat.le_refl _) (by omega) (by simp; omega)
   simp at v3
   have U:∀m,cf v m=Ro [t] [u] m:=fun m=>by
    rw [v4,A.cf,m4]
    show cf [] m+_=rq t.Coef*rq u.Coef*(ec (eB (t.Mono.Atoms++u.Mono.Atoms)) m:Rat)
    rw [Apc e2]
    simp only [cf]; grind
   obtain ⟨R,E,l⟩:=Agp (x:=x) v2 (by omega) (by omega) (fun m=>by
    rw [v4,A.cf,m4,J,I]
    exact ⟨y*z*(ec B m:Int),by rw [Rat.intCast_mul,Rat.intCast_mul,Rat.intCast_natCast]; simp only [cf]; grind⟩)
   refine ⟨R,?_,⟨l.cp,fun m=>by rw [l.val,U],l.mo,by have:=l.len; have:=A.len; have:=hn t (by simp) u (by simp) B e2; omega,fun w hw=>by
    obtain ⟨i,i1,i2⟩:=Ago w.Mono out (A.listI (z:=y*z) (by rw [m4,J,I,Rat.intCast_mul]))
    refine ⟨i,?_,by omega⟩
    rw [<-Mt l.cp hw,l.val,v4,i1]
    show (0:Rat)+(i:Rat)=(i:Rat)
    grind⟩⟩
   have hj:Me t.Mono u.Mono=some ⟨[],t.Mono.Atoms++u.Mono.Atoms⟩:=by
    rw [Abi _ _ (by rw [ht.2.1,hu.2.1]; simp) (by omega),ht.2.1,hu.2.1]; rfl
   have wG:Ac (G+G')=G+G':=by rw [Ac,Bw] <;> omega
   unfold L9
   rw [hb]
   simp only [Ad,D5,cond_false,List.length_singleton,Ij]
   rw [Al (by decide),cond_true,cond_true,g1,Ad,Z,Ad,wG,Aq (by omega)]
   simp only [Ad,cond_false]
   refine bnd (a:=.inr (j,[],Dp v,v)) ?_ (by simp only [E,Ad])
   refine (G6 (s':=(1,j,[],Dp v,v)) ?_).trans (Dw ?_)
   .simp only [it,Ad]
    rw [Al (by decide),cond_true]
    refine bnd (a:=.inr (1,j,[],Dp v,v)) ?_ (by simp only [L])
    refine (G6 (s':=(1,j,[],Dp v,v)) ?_).trans (Dw ?_)
    .simp only [iu,Ad,m1,hj,e1]
     rw [Al (by decide),cond_true]
     simp only [bne_self_eq_false,cond_false]
     rw [show H7 out [] []=some (Dp v,v) from v1]
     simp only [Ad,L]
    .rfl
   .rfl
end Go.Ab
namespace Go.Ab
open Go
def sq:Nat->(Nat->Rat)->Rat
 | 0,_=>0
 | n+1,f=>sq n f+f n
theorem IP.up {x:Bj} {n b L L':Nat} {f g:A9->Rat} {R:List Ah} (h:IP x n L f R) (i:n<=b) (j:L<=L') (e:∀m,f m=g m):IP x b L' g R :=
 ⟨h.cp,fun m=>by rw [h.val,e],h.mo,Nat.le_trans h.len i,fun t ht=>by
  obtain ⟨z,c,z2⟩:=h.int t ht
  exact ⟨z,c,by omega⟩⟩
noncomputable def aP (x:Bj) (l:Ar) (k:Int):List Ah:=match Ld x l k with | some r=>r.1 | none=>[]
theorem Agw {x:Bj} (h:CSz x) (q:Fm x) {l:Ar} {k:Int} (i:B8 l=true) (h0:0<=k) (s:k<=6) (j:Dz x.Vars x.Res l=true) :
  Ld x l k=some (aP x l k,0)/\IP x 1 4900 (fun m=>(ec (eB [⟨l,k⟩]) m:Rat)) (aP x l k)/\∀t∈aP x l k,NoF x k.toNat t.Mono/\t.Mono.Atoms.length<=1:=by
 obtain ⟨R,B,b,g,f,c⟩:=Agr h q i h0 s j
 have e:aP x l k=R:=by unfold aP; rw [b]
 rw [e,Apc g]
 exact ⟨b,f,c⟩
noncomputable def shF (x:Bj) (E F s:Ar) (K:Nat) (m:A9):Rat:=(ec (eB [⟨s,(K:Int)⟩]) m:Rat)-sq (K+1) fun j=>Ro (aP x E (j:Int)) (aP x F ((K-j:Nat):Int)) m
theorem NoF.dsum_le {x:Bj} {D:Nat} {m:A9} (h:NoF x D m):B7 m.Atoms<=D:=by
 have h1:=h.2.2
 have h2:∀l:List A5,(∀a∈l,1<=a.Deg)->Cd l=(B7 l:Nat):=fun l=>by
  induction l with
  | nil=>intro _; rfl
  | cons a l ih=>
   intro h
   have e:=ih fun b hb=>h b (by simp [hb])
   have c:=h a (by simp)
   unfold Cd at *
   simp only [List.map_cons,List.sum_cons,B7]
   omega
 rw [h2 _ fun a ha=>(h.1.cmo.al a ha).2.2.1] at h1
 omega
def cs (K:Nat):Nat->Nat
 | 0=>0
 | j+1=>cs K j+(1+min j (K-j))
theorem Api {K j:Nat} (b:K<=6) (hj:j<=K+1):cs K j<=16:=(by decide:∀K,K<7->∀j,j<K+2->cs K j<=16) K (by omega) j (by omega)
theorem A14 {x:Bj} (b:CSz x) (c:Fm x) {E F:Ar} {K j:Nat} (y:B8 E=true) (s:B8 F=true) (q:Dz x.Vars x.Res E=true) (i:Dz x.Vars x.Res F=true) (A:K<=6) (hj:j<=K) :
  ∃R,Sk x ⟨1,E,F,(K:Int)⟩ (j:Int)=some (R,0)/\IP x (1+min j (K-j)) 13000 (Ro (aP x E (j:Int)) (aP x F ((K-j:Nat):Int))) R:=by
 obtain ⟨a1,a2,a3⟩:=Agw b c (l:=E) (k:=(j:Int)) y (by omega) (by omega) q
 obtain ⟨b1,b2,f⟩:=Agw b c (l:=F) (k:=((K-j:Nat):Int)) s (by omega) (by omega) i
 obtain ⟨R,h,g⟩:=A13 b c (D:=j) (D':=K-j) (by omega) a2 b2 (fun t ht=>(a3 t ht).1.mono (by omega)) (fun t ht=>(f t ht).1.mono (by omega)) (n:=1+min j (K-j)) (fun t ht u hu B z=>by
  have h1:=z.cnt1 (a3 t ht).2 (f u hu).2
  have h2:=(a3 t ht).1.dsum_le
  have h3:=(f u hu).1.dsum_le
  omega)
 refine ⟨R,?_,g⟩
 have w:Ac ((K:Int)-(j:Int))=((K-j:Nat):Int):=by rw [Ac,Bw] <;> omega
 unfold Sk
 simp only [a1,Ad,bne_self_eq_false,cond_false,w,b1,h]
theorem Apj {l:List Be} {v:Int} (h:cl l v≠0):∃t∈l,t.Var=v:=by
 rcases Classical.em (∃t∈l,t.Var=v) with h' | h'
 .exact h'
 .exact (h (O8 fun t ht e=>h' ⟨t,ht,e⟩)).elim
theorem Ky.cl {L:List Be} (h:Ky L) {t:Be} (ht:t∈L):Ab.cl L t.Var=t.Coef:=by
 induction L with
 | nil=>cases ht
 | cons s L ih=>
  simp only [Ab.cl]
  rcases List.mem_cons.1 ht with rfl | ht'
  .rw [if_pos rfl,O8 fun u hu=>by have:=(List.pairwise_cons.1 h.srt).1 u hu; omega]; omega
  .have:=(List.pairwise_cons.1 h.srt).1 t ht'
   rw [if_neg (by omega),ih ⟨(List.pairwise_cons.1 h.srt).2,fun u hu=>h.nz u (by simp [hu])⟩ ht']; omega
theorem A15 {vars:List Aj} {res:Aj} {a b s:Ar} (c:Ky s.Terms) (h:∀v,cl s.Terms v=cl a.Terms v+cl b.Terms v) (ha:Dz vars res a=true) (hb:Dz vars res b=true):Dz vars res s=true:=by
 unfold Dz at *
 rw [List.all_eq_true] at *
 intro t ht
 have h1:=c.cl ht
 rw [h] at h1
 have h2:=c.nz t ht
 have key:∀u:Be,u.Var=t.Var->J7 vars res u=true->J7 vars res t=true:=fun u e hu=>by unfold J7 at *; rw [<-e]; exact hu
 by_cases h3:cl a.Terms t.Var=0
 .obtain ⟨u,hu,e⟩:=Apj (l:=b.Terms) (v:=t.Var) (by omega)
  exact key u e (hb u hu)
 .obtain ⟨u,hu,e⟩:=Apj h3
  exact key u e (ha u hu)
theorem A16 {x:Bj} (A:CSz x) (B:Fm x) {E F s:Ar} {K:Nat} (hE:B8 E=true) (hF:B8 F=true) (iE:Dz x.Vars x.Res E=true) (Z:Dz x.Vars x.Res F=true) (G:K<=6) (hs:Lb E F=some (s,0)) (X:B8 s=true) (Y:Dz x.Vars x.Res s=true) :
  ∃R,Uz x ⟨1,E,F,(K:Int)⟩=some (R,0)/\IP x 17 13010 (shF x E F s K) R:=by
 obtain ⟨a1,a2,a3⟩:=Agw A B (l:=s) (k:=(K:Int)) X (by omega) (by omega) Y
 unfold Uz
 simp only [hs,Ad,bne_self_eq_false,cond_false,a1]
 obtain ⟨r,N,M⟩:=E7 (J:=fun (z:Int×List Ah)=>match z with | (i,u)=>bif (i != (0:Int)) then some (([]:List Ah),i) else some (u,0)) (Q:=fun r=>∃R,r=(R,(0:Int))/\IP x 17 13010 (shF x E F s K) R)
  (step:=fun (z:Int×List Ah×Int)=>match z with
   | (v9,f,b)=>
    (show Option Bool from
    bif (decide (b<=(K:Int))) then (
    some (v9==(0:Int))
    )
    else (
    some false
    )
    ).bind fun v12=>
    bif v12 then (
    (Sk x ⟨1,E,F,(K:Int)⟩ b).bind fun c=>
    bif (c.2==(0:Int)) then (
    (Kj x f c.1).bind fun q=>
    some (.inl (q.2,q.1,(Ac (b+1))))
    )
    else (
    some (.inl (c.2,f,(Ac (b+1))))
    )
    )
    else (
    some (.inr (v9,f))
    )) (s:=(0,aP x s (K:Int),0))
  (fun y=>∃(j:Nat) (R:List Ah),y=(0,R,(j:Int))/\j<=K+1/\IP x (1+cs K j) (13000+j) (fun m=>(ec (eB [⟨s,(K:Int)⟩]) m:Rat)-sq j fun j=>Ro (aP x E (j:Int)) (aP x F ((K-j:Nat):Int)) m) R) (fun y=>K+1-y.2.2.toNat)
  (fun e=>∃R,e=(0,R)/\IP x 17 13010 (shF x E F s K) R)
  ⟨0,_,rfl,by omega,a2.up (by omega) (by omega) fun m=>by simp only [sq]; grind⟩ (by
  rintro _ ⟨j,R,rfl,hj,g⟩
  rcases Nat.lt_or_ge j (K+1) with h | h
  .left
   obtain ⟨P,V,U⟩:=A14 A B hE hF iE Z G (by omega:j<=K)
   have D:=Api G (j:=j+1) (by omega)
   have a6:cs K (j+1)=cs K j+(1+min j (K-j)):=rfl
   obtain ⟨S,L,I⟩:=Ao5 A B g (U.up (L':=13000+j) (Nat.le_refl _) (by omega) fun _=>rfl) (by omega) (by omega)
   refine ⟨(0,S,((j+1:Nat):Int)),?_,⟨j+1,S,rfl,by omega,I.up (by omega) (by omega) fun m=>by simp only [sq]; grind⟩,by simp; omega⟩
   simp only [Al (by omega:(j:Int)<=(K:Int)),cond_true,beq_self_eq_true,Ad,V,L,C7 h (by omega)]
  .right
   have:j=K+1:=by omega
   subst this
   have D:=Api G (j:=K+1) (by omega)
   refine ⟨(0,R),by simp only [Aq (by omega:¬((K+1:Nat):Int)<=(K:Int)),cond_false,Ad],R,rfl,g.up (by omega) (by omega) fun m=>rfl⟩) (by
  rintro _ ⟨R,rfl,g⟩
  exact ⟨_,rfl,R,rfl,g⟩)
 obtain ⟨R,rfl,g⟩:=M
 exact ⟨R,N,g⟩
theorem A17 {x:Bj} (j:CSz x) (E F:Ar) (K:Int) (X:E.Terms.length<=6) (V:F.Terms.length<=6) :
  ∃R v f,Pu x ⟨1,E,F,K⟩=some (R,Abp x v f E F)/\Pv ⟨1,E,F,K⟩=some v/\Ju x []=some f/\(Abp x v f E F≠0->R = []) /\
   (Abp x v f E F=0->Fm x/\0<=K/\K<=6/\B8 E=true/\B8 F=true/\Dz x.Vars x.Res E=true/\Dz x.Vars x.Res F=true/\∃s,Lb E F=some (s,0)/\IP x 17 13010 (shF x E F s K.toNat) R):=by
 obtain ⟨v,D,v2⟩:=Agq ⟨1,E,F,K⟩ (by show E.Terms.length+F.Terms.length<=12; omega)
 obtain ⟨f,f1,f2⟩:=Ra x j [] (fun t ht=>by cases ht)
 have U:=j.nv
 have I:=Abo x E (by omega) (by omega)
 have G:=Abo x F (by omega) (by omega)
 unfold Pu
 rw [D,f1,I,G]
 unfold Abp
 cases v with
 | false=>exact ⟨[],false,f,rfl,rfl,rfl,fun _=>rfl,fun h=>absurd (show (1:Int)=0 from h) (by decide)⟩
 | true=>
  cases f with
  | false=>exact ⟨[],true,false,rfl,rfl,rfl,fun _=>rfl,fun h=>absurd (show (1:Int)=0 from h) (by decide)⟩
  | true=>
   cases A:Dz x.Vars x.Res E with
   | false=>exact ⟨[],true,true,rfl,rfl,rfl,fun _=>rfl,fun h=>absurd (show (6:Int)=0 from h) (by decide)⟩
   | true=>
    cases hj:Dz x.Vars x.Res F with
    | false=>exact ⟨[],true,true,rfl,rfl,rfl,fun _=>rfl,fun h=>absurd (show (6:Int)=0 from h) (by decide)⟩
    | true=>
     obtain ⟨z,y,k0,i,hk⟩:=v2.1 rfl
     have k0:0<=K:=k0
     have i:K<=6:=i
     have B:=(f2.1 rfl).1
     rcases hk with ⟨_,s,g⟩ | ⟨h2,_⟩
     .rcases Ao8 E F (by omega) with ⟨_,_,L,c,N,M⟩ | ⟨_,c⟩
      .rw [g] at c
       have c:=Option.some.inj c
       unfold Xp at c
       by_cases hc:B8 ⟨E.Const+F.Const,L⟩=true
       .rw [if_pos hc] at c
        have k:s=⟨E.Const+F.Const,L⟩:=congrArg Prod.fst c
        subst k
        have S:=A15 (vars:=x.Vars) (res:=x.Res) (a:=E) (b:=F) (s:=⟨E.Const+F.Const,L⟩) N M A hj
        have l:((K.toNat:Nat):Int)=K:=by omega
        obtain ⟨R,u,J⟩:=A16 j B (K:=K.toNat) z y A hj (by omega) g hc S
        rw [l] at u
        refine ⟨R,true,true,?_,rfl,rfl,fun h=>absurd rfl h,fun _=>⟨B,k0,i,z,y,rfl,rfl,_,g,J⟩⟩
        have q:((1:Int)==2)=false:=rfl
        simp only [D5,Ad,cond_false,Bool.and_self,q,u]
       .rw [if_neg hc] at c
        exact absurd (show (0:Int)=9 from congrArg Prod.snd c) (by decide)
      .rw [g] at c
       exact absurd (show (0:Int)=1 from congrArg Prod.snd (Option.some.inj c)) (by decide)
     .exact absurd (show (1:Int)=2 from h2) (by decide)
end Go.Ab
namespace Go.Ab
open Go
theorem Agx {S E α:Type} {step:S->Option (S⊕E)} {s0:S} (l:List α) (I:Nat->S->Prop) (Q:E->Prop) (h0:I 0 s0) (f:l.length<4611686018427387904)
  (c:∀(j:Nat) (x:α) (s:S),j<l.length->l[j]? = some x->decide ((j:Int)<(l.length:Int))=true->Ag l (j:Int)=some x->Ac ((j:Int)+1)=((j+1:Nat):Int)->I j s->∃s',step s=some (.inl s')/\I (j+1) s')
  (g:decide ((l.length:Int)<(l.length:Int))=false->∀s,I l.length s->∃e,step s=some (.inr e)/\Q e):∃e,Am step s0=some e/\Q e:=by
 have key:∀n,n<=l.length->∃s,I n s/\Am step s0=Am step s:=by
  intro n
  induction n with
  | zero=>exact fun _=>⟨s0,h0,rfl⟩
  | succ n ih=>
   intro h
   obtain ⟨s,h1,h2⟩:=ih (by omega)
   have hx:l[n]? = some l[n]:=B2 (by omega)
   obtain ⟨s',h3,b⟩:=c n _ s (by omega) hx (Al (by omega)) (Cf rfl hx) (C7 (n:=l.length) (by omega) f) h1
   exact ⟨s',b,by rw [h2,G6 h3]⟩
 obtain ⟨s,h1,h2⟩:=key l.length (Nat.le_refl _)
 obtain ⟨e,h3,b⟩:=g (by simp) s h1
 exact ⟨e,by rw [h2,Dw h3],b⟩
theorem A18 {α:Type} (f:α->Int) (l:List α) (h:∀j x,l[j]? = some x->Lt f l x j=true):l.Pairwise fun a b=>f a<f b:=by
 have step:∀j x y,l[j]? = some x->l[j+1]? = some y->f x<f y:=by
  intro j x y hx hy
  have:=h (j+1) y hy
  unfold Lt at this
  rw [Nat.add_sub_cancel,hx] at this
  simpa using this
 have c:∀d j x y,l[j]? = some x->l[j+d+1]? = some y->f x<f y:=by
  intro d
  induction d with
  | zero=>exact fun j x y h1 h2=>step j x y h1 h2
  | succ d ih=>
   intro j x y h1 h2
   have g:l[j+d+1]? = some (l[j+d+1]'(by have:=E9 h2; omega)):=B2 _
   have a1:=ih j x _ h1 g
   have a2:=step _ _ _ g h2
   omega
 rw [List.pairwise_iff_getElem]
 intro i j q hj k
 obtain ⟨d,hd⟩:∃d,j=i+d+1:=⟨j-i-1,by omega⟩
 subst hd
 exact c d i _ _ (B2 q) (B2 hj)
end Go.Ab
namespace Go.Ab
open Go
theorem A19 {S E R α:Type} {step:S->Option (S⊕E)} {s0:S} {J:E->Option R} (l:List α) (p:α->Bool) (F:α->R) (d:R) (b:Nat->S) (h0:s0=b 0) (q:l.length<4611686018427387904)
  (g:∀(j:Nat) (x:α),l[j]? = some x->decide ((j:Int)<(l.length:Int))=true->Ag l (j:Int)=some x->Ac ((j:Int)+1)=((j+1:Nat):Int) ->
   (p x=false->step (b j)=some (.inl (b (j+1))))/\(p x=true->∃e,step (b j)=some (.inr e)/\J e=some (F x)))
  (y:decide ((l.length:Int)<(l.length:Int))=false->∃e,step (b l.length)=some (.inr e)/\J e=some d):(Am step s0).bind J=some ((l.find? p).elim d F):=by
 cases h:l.find? p with
 | none=>
  have u:=List.find?_eq_none.1 h
  refine Gz l.length b h0 (fun j hj=>?_) (y (by simp))
  have hx:l[j]? = some l[j]:=B2 hj
  exact (g j _ hx (Al (by omega)) (Cf rfl hx) (C7 hj q)).1 (by simpa using u _ (List.getElem_mem hj))
 | some x=>
  obtain ⟨hp,i,s,hx,k⟩:=List.find?_eq_some_iff_getElem.1 h
  have f:l[i]? = some x:=by rw [B2 s,hx]
  refine Gz i b h0 (fun j hj=>?_) ((g i x f (Al (by omega)) (Cf rfl f) (C7 s q)).2 hp)
  have c:l[j]? = some l[j]:=B2 (by omega)
  exact (g j _ c (Al (by omega)) (Cf rfl c) (C7 (n:=l.length) (by omega) q)).1 (by simpa using k j hj)
def fc (l:List Be) (v:Int):Int:=(l.find? fun t=>t.Var==v).elim 0 (·.Coef)
theorem A2a {l:List Be} {M:Int} (h:∀t∈l,-M<=t.Coef/\t.Coef<=M) (c:0<=M) (v:Int) : -M<=fc l v/\fc l v<=M:=by
 unfold fc
 cases b:l.find? fun t=>t.Var==v with
 | none=>exact ⟨by show -M<=0; omega,c⟩
 | some t=>exact h t (List.mem_of_find?_eq_some b)
theorem A2b {l:List Be} {v:Int} (h:∀t∈l,t.Var≠v):fc l v=0:=by
 unfold fc
 rw [List.find?_eq_none.2 fun t ht=>by rw [Cr (h t ht)]; decide]; rfl
theorem A2c (a:Ar) (v:Int) (b:a.Terms.length<=1048576):Vd a v=some (fc a.Terms v):=by
 unfold Vd
 refine A19 a.Terms (fun t=>t.Var==v) (·.Coef) 0 (fun j=>(j:Int)) rfl (by omega) ?_ ?_
 .intro j x hx h1 h2 h3
  simp only [h1,h2,h3,cond_true,Ad]
  cases hb:x.Var==v with
  | true=>exact ⟨(fun h=>by cases h),fun _=>⟨_,rfl,rfl⟩⟩
  | false=>exact ⟨(fun _=>rfl),fun h=>by cases h⟩
 .intro h1
  exact ⟨_,by simp only [h1]; rfl,rfl⟩
def Es (fs:List Ar):List Int:=fs.flatMap fun f=>f.Terms.map (·.Var)
theorem A2d {fs:List Ar} {v:Int} (h:v ∉ Es fs):∀f∈fs,fc f.Terms v=0:=fun f b=>
 A2b fun t ht e=>h (List.mem_flatMap.2 ⟨f,b,List.mem_map.2 ⟨t,ht,e⟩⟩)
theorem Apk {fs:List Ar} {M:Nat} (h:∀f∈fs,f.Terms.length<=M):(Es fs).length<=fs.length*M:=by
 induction fs with
 | nil=>simp [Es]
 | cons f fs ih=>
  have h1:=h f (by simp)
  have h2:=ih fun g b=>h g (by simp [b])
  unfold Es at *
  rw [List.flatMap_cons,List.length_append,List.length_map,List.length_cons,Nat.succ_mul]; omega
theorem Apl (fs:List Ar) (s:fs.length<=1000000) (hb:(Es fs).length<=1000000) :
  ∃V,Sj fs=some V/\V.length<=(Es fs).length/\∀y,y∈V↔y∈Es fs:=by
 obtain ⟨m,o,q,l,i⟩:=Az8 ((Es fs).mergeSort fun x y=>decide (x<=y)) (Az4 _) (by rw [List.length_mergeSort]; omega)
 refine ⟨o.take m,?_,?_,?_⟩
 .unfold Sj
  refine Iq fs (fun j=>((j:Int),Es (fs.take j))) rfl (by omega) ?_ ?_
  .intro j f hj k h1 h2 h3
   have c:(Es (fs.take j)).length+(f.Terms.map (·.Var)).length<=1000000:=Nat.le_trans (An9 (fun f:Ar=>f.Terms.map (fun t:Be=>t.Var)) k) hb
   rw [List.length_map] at c
   simp only [h1,h2,h3,cond_true,Ad]
   refine Az9 f.Terms (fun t=>t.Var) (Es (fs.take j)) c ?_
   show some (Sum.inl (_,_))=_
   rw [Df k]
   unfold Es
   rw [List.flatMap_append]
   simp
  .intro h1
   refine ⟨Es fs,by simp only [h1]; rw [List.take_length]; rfl,?_⟩
   rw [Az3,Ad]
   unfold Ff
   rw [if_pos (by rw [List.length_mergeSort]),Ad]
   have:Sq (Es fs).length ((Es fs).mergeSort fun x y=>decide (x<=y))=some (m,o):=by
    rw [<-q,List.length_mergeSort]
   rw [this,Ad]
   unfold Yz
   rw [if_pos l]; rfl
 .have g:(o.take m).Nodup:=i.up.imp (fun h=>by omega)
  have b:∀y∈o.take m,y∈Es fs:=fun y hy=>by
   have:=(i.mem y).1 hy
   rw [List.take_length] at this
   exact List.mem_mergeSort.1 this
  exact List.Nodup.length_le_of_subset g b
 .intro y
  rw [i.mem y,List.take_length,List.mem_mergeSort]
theorem A2e (L:List Int) (v:Int) (z:L.length<=1000000):∃o,Si L v=some o/\o.length<=L.length+1/\∀y,y∈o↔(y=v\/y∈L):=by
 obtain ⟨e,h1,k,h2,h3⟩:=Iy (step:=(fun v2:Int=>
    bif (decide (v2<(L.length:Int))) then (
    (Ag L v2).bind fun v3=>
    bif (decide (v3<v)) then some (.inl (Ac (v2+1)))
    else some (.inr v2))
    else some (.inr v2):Int->Option (Int⊕Int))) (fun s=>∃k:Nat,s=(k:Int)/\k<=L.length) (fun s=>L.length-s.toNat)
  (fun e=>∃k:Nat,e=(k:Int)/\k<=L.length) (by
   rintro s ⟨k,rfl,hk⟩
   rcases Nat.lt_or_ge k L.length with h | h
   .have hx:L[k]? = some (L[k]'h):=B2 _
    generalize L[k]'_=x at hx
    rw [Al (by omega:(k:Int)<(L.length:Int)),cond_true,Cf rfl hx,Ad]
    by_cases e:x<v
    .rw [Al e,cond_true,C7 h (by omega)]
     exact .inl ⟨_,rfl,⟨k+1,rfl,by omega⟩,by simp only [Int.toNat_natCast]; omega⟩
    .rw [Aq e,cond_false]
     exact .inr ⟨_,rfl,k,rfl,hk⟩
   .exact .inr ⟨(k:Int),by rw [Aq (by omega)]; rfl,k,rfl,hk⟩) 0 ⟨0,rfl,by omega⟩
 subst h2
 unfold Si
 rw [h1,Ad]
 have g:Dx L 0 (k:Int)=some (L.take k):=by
  unfold Dx
  rw [if_pos (by omega)]; simp
 have f:Dx L (k:Int) (L.length:Int)=some (L.drop k):=by
  unfold Dx
  rw [if_pos (by omega)]; simp
 have b:((Dx L 0 (k:Int)).bind fun q=>(B9 8 [] q).bind fun u=>(B9 8 u [v]).bind fun l=>(Dx L (k:Int) (L.length:Int)).bind fun i=>(B9 8 l i).bind fun j=>some j)=some (L.take k++[v]++L.drop k):=by
  rw [g,Ad,De (by simp; omega),Ad,De (by simp; omega),Ad,f,Ad,De (by simp; omega)]; rfl
 have c:∃o,some (L.take k++[v]++L.drop k)=some o/\o.length<=L.length+1/\∀y,y∈o↔(y=v\/y∈L):=by
  refine ⟨_,rfl,by simp; omega,fun y=>?_⟩
  have e:y∈L↔y∈L.take k\/y∈L.drop k:=by rw [<-List.mem_append,List.take_append_drop]
  rw [e]
  simp only [List.mem_append,List.mem_singleton]
  constructor
  .rintro ((h | h) | h)
   .exact .inr (.inl h)
   .exact .inl h
   .exact .inr (.inr h)
  .rintro (h | h | h)
   .exact .inl (.inr h)
   .exact .inl (.inl h)
   .exact .inr h
 rcases Nat.lt_or_ge k L.length with h | h
 .have hx:L[k]? = some (L[k]'h):=B2 _
  generalize L[k]'_=x at hx
  rw [Al (by omega:(k:Int)<(L.length:Int)),cond_true,Cf rfl hx,Ad,Ad]
  by_cases e:x=v
  .rw [En e,cond_true]
   refine ⟨L,rfl,by omega,fun y=>⟨.inr,?_⟩⟩
   rintro (rfl | h')
   .rw [<-e]; exact Cp hx
   .exact h'
  .rw [Cr e,cond_false,b]; exact c
 .rw [Aq (by omega),cond_false,Ad,cond_false,b]; exact c
theorem A2f (fs:List Ar) (hl:fs.length<=1000000) (hb:(Es fs).length<=1000000) :
  ∃V,Adn fs=some V/\V.length<=(Es fs).length/\∀y,y∈V↔y∈Es fs:=by
 obtain ⟨V,Y,X,U⟩:=Agx (step:=(fun (v12,l)=>
   bif (decide (l<(fs.length:Int))) then (
   (Ag fs l).bind fun z=>
   (Am (S:=((List Int)×Int)) (E:=((List Int)×Int)) (fun (c,b)=>
   bif (decide (b<(z.Terms.length:Int))) then (
   (Ag fs l).bind fun v20=>
   (Ag v20.Terms b).bind fun v21=>
   (Si c v21.Var).bind fun v22=>
   some (.inl (v22,(Ac (b+1)))))
   else some (.inr (c,b))) (v12,0)).bind fun (v23,v24)=>
   some (.inl (v23,(Ac (l+1)))))
   else some (.inr v12):List Int×Int->Option ((List Int×Int)⊕List Int))) (s0:=([],0)) fs
  (fun j s=>s.2=(j:Int)/\s.1.length<=(Es (fs.take j)).length/\∀y,y∈s.1↔y∈Es (fs.take j))
  (fun V=>V.length<=(Es fs).length/\∀y,y∈V↔y∈Es fs) ⟨rfl,by simp,fun y=>by simp [Es]⟩ (by omega)
  (by
   rintro j f ⟨L,i⟩ hj D h1 h2 h3 ⟨k,u,hm⟩
   dsimp only at k u hm ⊢
   subst k
   rw [h1,cond_true,h2,Ad]
   have B:(Es (fs.take j)).length+(f.Terms.map (·.Var)).length<=(Es fs).length:=An9 (fun f:Ar=>f.Terms.map (fun t:Be=>t.Var)) D
   rw [List.length_map] at B
   obtain ⟨⟨L',i'⟩,g1,g2,g3⟩:=Agx (step:=(fun (c,b)=>
     bif (decide (b<(f.Terms.length:Int))) then (
     (some f).bind fun v20=>
     (Ag v20.Terms b).bind fun v21=>
     (Si c v21.Var).bind fun v22=>
     some (.inl (v22,(Ac (b+1)))))
     else some (.inr (c,b)):List Int×Int->Option ((List Int×Int)⊕(List Int×Int)))) (s0:=(L,0)) f.Terms
    (fun q s=>s.2=(q:Int)/\s.1.length<=(Es (fs.take j)).length+q/\∀y,y∈s.1↔(y∈Es (fs.take j)\/y∈(f.Terms.take q).map (·.Var)))
    (fun e=>e.1.length<=(Es (fs.take j)).length+f.Terms.length/\∀y,y∈e.1↔(y∈Es (fs.take j)\/y∈f.Terms.map (·.Var))) ⟨rfl,u,fun y=>by simpa using hm y⟩ (by omega)
    (by
     rintro q t ⟨M,i⟩ hq ht A R N ⟨k,x,g⟩
     dsimp only at k x g ⊢
     subst k
     obtain ⟨o,J,Z,I⟩:=A2e M t.Var (by omega)
     rw [A,cond_true,Ad,R,Ad,J,Ad,N]
     refine ⟨_,rfl,rfl,by dsimp only; omega,fun y=>?_⟩
     dsimp only
     rw [I,g,Df ht,List.map_append,List.mem_append]
     simp only [List.map_cons,List.map_nil,List.mem_singleton]
     constructor
     .rintro (h | h | h)
      .exact .inr (.inr h)
      .exact .inl h
      .exact .inr (.inl h)
     .rintro (h | h | h)
      .exact .inr (.inl h)
      .exact .inr (.inr h)
      .exact .inl h)
    (by
     rintro A ⟨M,i⟩ ⟨k,x,g⟩
     dsimp only at k x g ⊢
     subst k
     rw [A,cond_false]
     exact ⟨_,rfl,x,fun y=>by dsimp only; rw [g,List.take_length]⟩)
   dsimp only at g2 g3
   have G:Es (fs.take (j+1))=Es (fs.take j)++f.Terms.map (·.Var):=by
    rw [Df D]
    unfold Es
    rw [List.flatMap_append]
    simp
   refine ⟨(L',((j+1:Nat):Int)),bnd g1 ?_,rfl,by dsimp only; rw [G,List.length_append,List.length_map]; exact g2,fun y=>by dsimp only; rw [g3,G,List.mem_append]⟩
   dsimp only
   rw [h3])
  (by
   rintro h1 ⟨L,i⟩ ⟨k,u,hm⟩
   dsimp only at k u hm ⊢
   subst k
   rw [h1,cond_false]
   rw [List.take_length] at u hm
   exact ⟨_,rfl,u,hm⟩)
 exact ⟨V,bnd Y rfl,X,U⟩
theorem A2g (a:Ar):Y7 a=some (B8 a):=by
 have b:∀n,U2 n=some (decide (-1048576<=n/\n<=1048576)):=fun n=>by
  unfold U2
  by_cases h:(-1048576:Int)<=n <;> simp [h]
 unfold Y7 B8
 rw [b]
 simp only [Ad]
 by_cases h1 : -1048576<=a.Const/\a.Const<=1048576
 .rw [Al h1]
  by_cases h2:a.Terms.length<=16
  .rw [Aq (by omega:¬(a.Terms.length:Int)>16),Al ⟨h1.1,h1.2,h2⟩]
   simp only [D5,cond_false,Ad,Bool.true_and]
   refine (Th a.Terms (fun q=>Q8 a.Terms q.1 q.2) (fun j=>(j:Int)) rfl (by omega) (rt:=true) (rf:=false) ?_ ?_).trans (by rw [Kr])
   .intro j x hx _ h1 h2 h3
    simp only [h1,h2,h3,cond_true,Ad,b,Afo (·.Var) a.Terms hx (by omega),Q8]
    by_cases g2:x.Coef=0
    .rw [En g2,Aq (fun h=>h.2.2.1 g2)]
     exact ⟨(fun h=>by cases h),fun _=>⟨.inl false,rfl,rfl⟩⟩
    by_cases g3 : -1048576<=x.Coef/\x.Coef<=1048576
    .by_cases g1:x.Var < -1
     .rw [Cr g2,Al g3,Al g1,Aq (fun h=>by omega)]
      exact ⟨(fun h=>by cases h),fun _=>⟨.inl false,rfl,rfl⟩⟩
     by_cases g4:x.Var>=3000
     .rw [Cr g2,Al g3,Aq g1,Al g4,Aq (fun h=>by omega)]
      exact ⟨(fun h=>by cases h),fun _=>⟨.inl false,rfl,rfl⟩⟩
     rw [Cr g2,Al g3,Aq g1,Aq g4,Al ⟨by omega,by omega,g2,g3.1,g3.2⟩]
     cases Lt (·.Var) a.Terms x j with
     | true=>exact ⟨fun _=>rfl,fun h=>by cases h⟩
     | false=>exact ⟨(fun h=>by cases h),fun _=>⟨.inl false,rfl,rfl⟩⟩
    .rw [Cr g2,Aq g3,Aq (fun h=>g3 h.2.2.2)]
     exact ⟨(fun h=>by cases h),fun _=>⟨.inl false,rfl,rfl⟩⟩
   .intro h _
    exact ⟨.inr (),by simp only [h]; rfl,rfl⟩
  .rw [Al (by omega:(a.Terms.length:Int)>16),Aq (fun h=>h2 h.2.2)]; rfl
 .rw [Aq h1,Aq (fun h : -1048576<=a.Const/\a.Const<=1048576/\a.Terms.length<=16=>h1 ⟨h.1,h.2.1⟩)]; rfl
theorem Apm (fs:List Ar) (c:fs.length<=5) (hb:∀f∈fs,f.Terms.length<=4):Px fs=some (fs.all B8)/\Adm fs=some (fs.all B8):=by
 have ha:=Apk hb
 constructor
 .unfold Px
  rw [Aq (by omega),cond_false]
  refine (H8 fs B8 (fun j=>(j:Int)) rfl (by omega) (rt:=true) (rf:=false) ?_ ?_).trans (by rw [Kr])
  .intro j x hx h1 h2 h3
   simp only [h1,h2,h3,cond_true,Ad,Ku]
   cases B8 x with
   | true=>exact ⟨(fun _=>rfl),fun h=>by cases h⟩
   | false=>exact ⟨(fun h=>by cases h),fun _=>⟨_,rfl,rfl⟩⟩
  .intro h1
   obtain ⟨V,b,v2,_⟩:=Apl fs (by omega) (by omega)
   refine ⟨.inr (),by simp only [h1]; rfl,?_⟩
   dsimp only
   rw [b,Ad,Al (by omega)]
 .unfold Adm
  rw [Aq (by omega),cond_false]
  refine (H8 fs B8 (fun j=>(j:Int)) rfl (by omega) (rt:=true) (rf:=false) ?_ ?_).trans (by rw [Kr])
  .intro j x hx h1 h2 h3
   simp only [h1,h2,h3,cond_true,Ad,A2g]
   cases B8 x with
   | true=>exact ⟨(fun _=>rfl),fun h=>by cases h⟩
   | false=>exact ⟨(fun h=>by cases h),fun _=>⟨_,rfl,rfl⟩⟩
  .intro h1
   obtain ⟨V,b,v2,_⟩:=A2f fs (by omega) (by omega)
   refine ⟨.inr (),by simp only [h1]; rfl,?_⟩
   dsimp only
   rw [b,Ad,Al (by omega)]
theorem Xq (x:Rat):G0 x<0↔x<0:=by
 unfold G0
 split
 .rename_i h; exact ⟨fun _=>h,fun _=>by decide⟩
 .rename_i h
  split <;> exact ⟨fun h'=>absurd h' (by decide),fun h'=>absurd h' h⟩
theorem A2h (x:Rat):G0 x>0↔0<x:=by
 unfold G0
 split
 .rename_i h; exact ⟨fun h'=>absurd h' (by decide),fun h'=>by grind⟩
 .rename_i h
  split
  .rename_i h'; exact ⟨fun _=>h',fun _=>by decide⟩
  .rename_i h'; exact ⟨fun h=>absurd h (by decide),fun h=>absurd h h'⟩
def Jj (fs:List Ar) (ps:List Ak):Bool:=decide (fs.length=ps.length)&&ps.all fun p=>!decide (rq p<0)
theorem A2i (fs:List Ar) (ps:List Ak) (b:ps.length<=1048576) (hb:∀p∈ps,RB 1048576 p):U1 fs ps=some (Jj fs ps)/\Ado fs ps=some (Jj fs ps):=by
 have key:∀p∈ps,decide (G0 (rq p)<0)=decide (rq p<0):=fun p _=>decide_eq_decide.2 (Xq _)
 unfold Jj
 constructor
 .unfold U1
  by_cases h:fs.length=ps.length
  .rw [E8 (by omega),cond_false,Al h,Bool.true_and]
   refine (H8 ps (fun p=>!decide (rq p<0)) (fun j=>(j:Int)) rfl (by omega) (rt:=true) (rf:=false) ?_ ?_).trans (by rw [Kr])
   .intro j x hx h1 h2 h3
    have hm:=Cp hx
    simp only [h1,h2,h3,cond_true,Ad,(Ms (hb x hm) (by omega)).1,key x hm]
    cases decide (rq x<0) with
    | true=>exact ⟨(fun h=>by cases h),fun _=>⟨_,rfl,rfl⟩⟩
    | false=>exact ⟨(fun _=>rfl),fun h=>by cases h⟩
   .intro h1
    exact ⟨.inr (),by simp only [h1]; rfl,rfl⟩
  .rw [Eo (by omega),cond_true,Aq h]; rfl
 .unfold Ado
  refine (H8 ps (fun p=>!decide (rq p<0)) (fun j=>(j:Int)) rfl (by omega) (rt:=decide (fs.length=ps.length)) (rf:=false) ?_ ?_).trans ?_
  .intro j x hx h1 h2 h3
   have hm:=Cp hx
   simp only [h1,h2,h3,cond_true,Ad,(Ms (hb x hm) (by omega)).2,key x hm]
   cases decide (rq x<0) with
   | true=>exact ⟨(fun h=>by cases h),fun _=>⟨_,rfl,rfl⟩⟩
   | false=>exact ⟨(fun _=>rfl),fun h=>by cases h⟩
  .intro h1
   refine ⟨.inr (),by simp only [h1]; rfl,?_⟩
   dsimp only
   congr 1
   by_cases h:fs.length=ps.length
   .rw [Al h,En (by omega)]
   .rw [Aq h,Cr (by omega)]
  .congr 1
   cases ps.all fun p=>!decide (rq p<0) with
   | true=>rw [cond_true,Bool.and_true]
   | false=>rw [cond_false,Bool.and_false]
end Go.Ab
namespace Go.Ab
open Go
def dq (P:Ar->Int):List Ar->List Ak->Rat
 | f::fs,p::ps=>rq p*(P f:Rat)+dq P fs ps
 | _,_=>0
theorem Apn (P:Ar->Int):∀(fs:List Ar) (ps:List Ak) (f:Ar) (p:Ak),fs.length=ps.length->dq P (fs++[f]) (ps++[p])=dq P fs ps+rq p*(P f:Rat)
 | [],[],f,p,_=>by simp only [List.nil_append,dq]; grind
 | g::fs,q::ps,f,p,h=>by
  simp only [List.cons_append,dq,Apn P fs ps f p (by simpa using h)]; grind
 | [],q::ps,f,p,h=>by simp at h
 | g::fs,[],f,p,h=>by simp at h
theorem Apo {P:Ar->Int}:∀{fs:List Ar} {ps:List Ak},(∀f∈fs,P f=0)->dq P fs ps=0
 | [],_,_=>by simp only [dq]
 | g::fs,[],_=>by simp only [dq]
 | g::fs,q::ps,h=>by
  simp only [dq]
  rw [Apo (fs:=fs) fun f b=>h f (by simp [b]),h g (by simp)]
  simp only [Rat.intCast_zero]; grind
theorem App {P:Ar->Int} {fs:List Ar} {ps:List Ak} {j:Nat} {f:Ar} {p:Ak} (b:fs[j]? = some f) (hp:ps[j]? = some p):dq P (fs.take (j+1)) (ps.take (j+1))=dq P (fs.take j) (ps.take j)+rq p*(P f:Rat):=by
 rw [Df b,Df hp,Apn]
 have:=E9 b
 have:=E9 hp
 rw [List.length_take,List.length_take]; omega
theorem Apq (a:Ak):(⟨a.Neg,a.Num,a.Den⟩:Ak)=a:=rfl
theorem Apr {K:Nat} (A:Ar->Option Int) (P:Ar->Int) (fs:List Ar) (g:Ar) (ps:List Ak) (Z:fs.length=ps.length) (Y:fs.length<=200) (hb:∀p∈ps,RB 1048576 p) (G:A g=some (P g)) (I:∀f∈fs,A f=some (P f)) (bg : -1048576<=P g/\P g<=1048576) (bf:∀f∈fs,-1048576<=P f/\P f<=1048576) (hK:K=3+200*1048584) :
  ∃r,((A g).bind fun v3=>(El v3).bind fun v4=>
   (Am (S:=(Int×Bool×(List Int)×(List Int))) (E:=(Bool×(List Int)×(List Int))) (fun (b,k,h,c)=>
   bif (decide (b<(fs.length:Int))) then (
   (Ag fs b).bind fun v17=>
   (A v17).bind fun l=>
   bif (l != (0:Int)) then (
   (Ag ps b).bind fun v20=>
   (El l).bind fun v21=>
   (Gc v20 v21).bind fun v22=>
   (Nc (Ak.mk k h c) v22).bind fun v23=>
   some (.inl ((Ac (b+1)),v23.Neg,v23.Num,v23.Den)))
   else (
   some (.inl ((Ac (b+1)),k,h,c))))
   else (some (.inr (k,h,c)))) (0,v4.Neg,v4.Num,v4.Den)).bind fun (v24,v25,v26)=>some (Ak.mk v24 v25 v26))=some r/\RB K r/\rq r=(P g:Rat)-dq P fs ps:=by
 obtain ⟨z,L,z2,z3,z4⟩:=Agb (P g) (by omega) (by omega)
 rw [G,Ad,L,Ad]
 obtain ⟨⟨n,u,d⟩,e1,e2,e3⟩:=Agx (step:=(fun (b,k,h,c)=>
   bif (decide (b<(fs.length:Int))) then (
   (Ag fs b).bind fun v17=>
   (A v17).bind fun l=>
   bif (l != (0:Int)) then (
   (Ag ps b).bind fun v20=>
   (El l).bind fun v21=>
   (Gc v20 v21).bind fun v22=>
   (Nc (Ak.mk k h c) v22).bind fun v23=>
   some (.inl ((Ac (b+1)),v23.Neg,v23.Num,v23.Den)))
   else (
   some (.inl ((Ac (b+1)),k,h,c))))
   else (some (.inr (k,h,c))):Int×Bool×List Int×List Int->Option ((Int×Bool×List Int×List Int)⊕(Bool×List Int×List Int)))) (s0:=(0,z.Neg,z.Num,z.Den)) fs
  (fun j s=>s.1=(j:Int)/\RB (3+j*1048584) ⟨s.2.1,s.2.2.1,s.2.2.2⟩/\rq ⟨s.2.1,s.2.2.1,s.2.2.2⟩=(P g:Rat)-dq P (fs.take j) (ps.take j))
  (fun e=>RB (3+fs.length*1048584) ⟨e.1,e.2.1,e.2.2⟩/\rq ⟨e.1,e.2.1,e.2.2⟩=(P g:Rat)-dq P fs ps)
  ⟨rfl,z2.mono (by omega),by dsimp only; rw [Apq,z4,List.take_zero]; simp only [dq]; grind⟩ (by omega)
  (by
   rintro j f ⟨i,n,u,d⟩ hj J h1 h2 h3 ⟨B,x,hq⟩
   dsimp only at B x hq ⊢
   subst B
   have hm:=Cp J
   have q:ps[j]? = some (ps[j]'(by omega)):=B2 _
   generalize ps[j]'_=p at q
   have D:=Cp q
   have a1:=bf f hm
   rw [h1,cond_true,h2,Ad,I f hm,Ad]
   by_cases h0:P f=0
   .rw [E8 h0,cond_false,h3]
    refine ⟨_,rfl,rfl,x.mono (by omega),?_⟩
    dsimp only
    rw [hq,App J q,h0]
    simp only [Rat.intCast_zero]; grind
   .rw [Eo h0,cond_true,Cf rfl q,Ad]
    obtain ⟨y,R,N,y3,M⟩:=Agb (P f) (by omega) (by omega)
    obtain ⟨m,m1,m2,m3,m4⟩:=Rb (hb p D) N (by omega) (by omega)
    obtain ⟨s,X,V,s3,U⟩:=Aof x m2 (by omega) (by omega)
    rw [R,Ad,m1,Ad,X,Ad,h3]
    refine ⟨_,rfl,rfl,V.mono (by omega),?_⟩
    dsimp only
    rw [Apq,U,hq,m4,M,App J q]; grind)
  (by
   rintro h1 ⟨i,n,u,d⟩ ⟨B,x,hq⟩
   dsimp only at B x hq ⊢
   subst B
   rw [h1,cond_false]
   refine ⟨_,rfl,x,?_⟩
   dsimp only
   rw [hq,List.take_length,Z,List.take_length])
 refine ⟨⟨n,u,d⟩,bnd e1 rfl,e2.mono ?_,e3⟩
 have:fs.length*1048584<=200*1048584:=Nat.mul_le_mul_right _ Y
 omega
theorem Aps {a:Ar} (h:B8 a=true) (v:Int) : -1048576<=fc a.Terms v/\fc a.Terms v<=1048576:=A2a (T5 h) (by decide) v
abbrev KQ:Nat:=3+200*1048584
theorem A2j (fs:List Ar) (g:Ar) (ps:List Ak) (v:Int) (j:fs.length=ps.length) (i:fs.length<=200) (hb:∀p∈ps,RB 1048576 p) (b:B8 g=true) (c:∀f∈fs,B8 f=true) :
  ∃r,Ve fs g ps v=some r/\RB KQ r/\rq r=(fc g.Terms v:Rat)-dq (fun f=>fc f.Terms v) fs ps:=by
 have hc:∀f,B8 f=true->Pz f v=some (fc f.Terms v):=fun f h=>by
  unfold Pz
  rw [A2c f v (by have:=(Ji h).1; omega)]; rfl
 exact Apr (fun f=>Pz f v) (fun f=>fc f.Terms v) fs g ps j i hb (hc g b) (fun f h=>hc f (c f h)) (Aps b v) (fun f h=>Aps (c f h) v) rfl
theorem A2k (fs:List Ar) (g:Ar) (ps:List Ak) (c:fs.length=ps.length) (b:fs.length<=200) (hb:∀p∈ps,RB 1048576 p) (i:B8 g=true) (j:∀f∈fs,B8 f=true) :
  ∃r,Zx fs g ps=some r/\RB KQ r/\rq r=(g.Const:Rat)-dq (fun f=>f.Const) fs ps :=
 Apr (fun f=>Vf f) (fun f=>f.Const) fs g ps c b hb rfl (fun f _=>rfl) (Ji i).2 (fun f h=>(Ji (j f h)).2) rfl
theorem A2l (x:Rat):G0 x≠0↔x≠0:=not_congr (Aoa x)
def O9 (fs:List Ar) (g:Ar) (ps:List Ak):Prop:=∀v,dq (fun f=>fc f.Terms v) fs ps=(fc g.Terms v:Rat)
open Classical in
theorem Apt (fs:List Ar) (g:Ar) (ps:List Ak) (hl:fs.length=ps.length) (hn:fs.length<=5) (h4:∀f∈fs,f.Terms.length<=4) (hb:∀p∈ps,RB 1048576 p) (hg:B8 g=true) (hf:∀f∈fs,B8 f=true) :
  ∃r,Sg fs g ps=some (r,decide (O9 fs g ps))/\(O9 fs g ps->RB KQ r/\rq r=(g.Const:Rat)-dq (fun f=>f.Const) fs ps):=by
 obtain ⟨r2,r21,r22,r23⟩:=A2k fs g ps hl (by omega) hb hg hf
 have hcl:Vc fs=some ([],fs):=by
  unfold Vc Iz
  rw [De (by simp; omega)]; rfl
 have hal:(Es (fs++[g])).length<=1000000:=by
  have h1:=Apk h4
  have h2:=(Ji hg).1
  unfold Es at *
  rw [List.flatMap_append,List.length_append]
  simp only [List.flatMap_cons,List.flatMap_nil,List.append_nil,List.length_map]
  omega
 obtain ⟨V,v1,v2,v3⟩:=Apl (fs++[g]) (by simp; omega) hal
 have hVA:V.all (fun v=>decide (dq (fun f=>fc f.Terms v) fs ps=(fc g.Terms v:Rat)))=decide (O9 fs g ps):=by
  rw [Bool.eq_iff_iff,List.all_eq_true,decide_eq_true_eq]
  constructor
  .intro h v
   by_cases hv:v∈V
   .simpa using h v hv
   .have hv':v ∉ Es (fs++[g]):=fun h=>hv ((v3 v).2 h)
    have hz:=A2d hv'
    rw [Apo fun f hf'=>hz f (by simp [hf']),hz g (by simp)]; rfl
  .intro h v _
   exact decide_eq_true (h v)
 unfold Sg
 rw [hcl,Ad]
 dsimp only
 rw [De (by simp; omega),Ad,v1,Ad]
 have key:=H8 (step:=(fun v12=>
   bif (decide (v12<(V.length:Int))) then (
   (Ag V v12).bind fun v13=>
   (Ve fs g ps v13).bind fun v15=>
   (F1 v15).bind fun v16=>
   bif (v16 != (0:Int)) then (
   some (.inr (.inl ((Ak.mk false [] []),false))))
   else (
   some (.inl (Ac (v12+1)))))
   else (some (.inr (.inr ()))):Int->Option (Int⊕((Ak×Bool)⊕Unit)))) (s0:=0) (J:=fun z=>match z with
    | .inl (r17,r18)=>some (r17,r18)
    | .inr _=>(Zx fs g ps).bind fun v19=>some (v19,true)) V (fun v=>decide (dq (fun f=>fc f.Terms v) fs ps=(fc g.Terms v:Rat))) (fun j=>(j:Int)) rfl (by omega) (rt:=(r2,true)) (rf:=((Ak.mk false [] []),false)) (by
   intro j x hx h1 h2 h3
   obtain ⟨r,d1,d2,d3⟩:=A2j fs g ps x hl (by omega) hb hg hf
   simp only [h1,h2,h3,cond_true,Ad,d1,(Ms d2 (by decide)).1]
   constructor
   .intro h
    have h:=of_decide_eq_true h
    rw [E8 ((Aoa _).2 (by rw [d3,h]; grind))]; rfl
   .intro h
    have h:=of_decide_eq_false h
    rw [Eo ((A2l _).2 (by rw [d3]; intro e; exact h (by grind)))]
    exact ⟨_,rfl,rfl⟩) (by
   intro h1
   refine ⟨.inr (),?_,?_⟩ <;> first | (simp only [h1]; rfl) | (simp only [r21]; rfl))
 rw [hVA] at key
 by_cases hA:O9 fs g ps
 .rw [decide_eq_true hA] at key ⊢
  exact ⟨r2,key,fun _=>⟨r22,r23⟩⟩
 .rw [decide_eq_false hA] at key ⊢
  exact ⟨_,key,fun h=>(hA h).elim⟩
def Agy (fs:List Ar) (ps:List Ak):Prop:=O9 fs ⟨0,[]⟩ ps/\dq (fun f=>f.Const) fs ps<0
theorem A2m:B8 ⟨0,[]⟩=true:=by decide
open Classical in
theorem A2n (fs:List Ar) (ps:List Ak) (hl:fs.length=ps.length) (hn:fs.length<=5) (h4:∀f∈fs,f.Terms.length<=4) (hb:∀p∈ps,RB 1048576 p) (hf:∀f∈fs,B8 f=true) :
  Sh fs ps=some (decide (Agy fs ps)):=by
 obtain ⟨r,r1,r2⟩:=Apt fs ⟨0,[]⟩ ps hl hn h4 hb A2m hf
 unfold Sh
 rw [r1,Ad]
 by_cases hA:O9 fs ⟨0,[]⟩ ps
 .obtain ⟨r3,r4⟩:=r2 hA
  rw [decide_eq_true hA,cond_true,(Ms r3 (by decide)).1,Ad]
  congr 1
  refine decide_eq_decide.2 ?_
  rw [A2h,r4]
  unfold Agy
  constructor
  .intro h; exact ⟨hA,by simp only [Rat.intCast_zero] at h; grind⟩
  .rintro ⟨_,h⟩; simp only [Rat.intCast_zero]; grind
 .rw [decide_eq_false hA,cond_false,decide_eq_false fun h=>hA h.1]
def T6 (fs:List Ar) (g:Ar) (ps:List Ak):Prop:=(O9 fs g ps/\dq (fun f=>f.Const) fs ps<=(g.Const:Rat))\/Agy fs ps
open Classical in
theorem Abr (fs:List Ar) (g:Ar) (ps:List Ak) (hn:fs.length<=5) (h4:∀f∈fs,f.Terms.length<=4) (hp:ps.length<=1048576) (hb:∀p∈ps,RB 1048576 p) :
  M2 fs g ps=some (fs.all B8&&(B8 g&&(Jj fs ps&&decide (T6 fs g ps)))):=by
 unfold M2
 rw [(Apm fs hn h4).1]
 cases hv:fs.all B8 with
 | false=>rfl
 | true=>
  rw [Ku]
  cases hg:B8 g with
  | false=>rfl
  | true=>
   rw [(A2i fs ps hp hb).1]
   cases hm:Jj fs ps with
   | false=>rfl
   | true=>
    have hl:fs.length=ps.length:=by
     unfold Jj at hm
     rw [C5,decide_eq_true_eq] at hm
     exact hm.1
    have hf:=List.all_eq_true.1 hv
    obtain ⟨r,r1,r2⟩:=Apt fs g ps hl hn h4 hb hg hf
    have hr:=A2n fs ps hl hn h4 hb hf
    simp only [Ad,D5,cond_false,r1,hr,Bool.true_and]
    by_cases hA:O9 fs g ps
    .obtain ⟨r3,r4⟩:=r2 hA
     rw [decide_eq_true hA,cond_true,(Ms r3 (by decide)).1,Ad]
     by_cases hc:dq (fun f=>f.Const) fs ps<=(g.Const:Rat)
     .rw [Al (by have:=mt (Xq (rq r)).1 (by rw [r4]; grind); omega),cond_true]
      congr 1
      exact (decide_eq_true (.inl ⟨hA,hc⟩)).symm
     .rw [Aq (by have:=(Xq (rq r)).2 (by rw [r4]; grind); omega),cond_false]
      congr 1
      exact decide_eq_decide.2 ⟨.inr,fun h=>h.resolve_left fun h=>hc h.2⟩
    .rw [decide_eq_false hA,cond_false]
     congr 1
     exact decide_eq_decide.2 ⟨.inr,fun h=>h.resolve_left fun h=>hA h.1⟩
end Go.Ab
namespace Go.Ab
open Go
theorem A2o (fs:List Ar) (n m:Int) (g:fs.length<=1048576) (ht:∀f∈fs,f.Terms.length<=1048576):∃b,Uu fs n m=some b/\(b=true->(fs.length:Int)<=n/\∀f∈fs,(f.Terms.length:Int)<=m):=by
 unfold Uu
 by_cases h:(fs.length:Int)>n
 .rw [Al h]
  exact ⟨false,rfl,fun h=>by cases h⟩
 .rw [Aq h,cond_false]
  refine ⟨fs.all fun f=>!decide ((f.Terms.length:Int)>m),(H8 fs (fun f=>!decide ((f.Terms.length:Int)>m)) (fun j=>(j:Int)) rfl (by omega) (rt:=true) (rf:=false) ?_ ?_).trans (by rw [Kr]),fun h'=>⟨by omega,fun f c=>?_⟩⟩
  .intro j x hx h1 h2 h3
   simp only [h1,h2,h3,cond_true,Ad]
   cases decide ((x.Terms.length:Int)>m) with
   | true=>exact ⟨(fun h=>by cases h),fun _=>⟨_,rfl,rfl⟩⟩
   | false=>exact ⟨(fun _=>rfl),fun h=>by cases h⟩
  .intro h1
   exact ⟨.inr (),by simp only [h1]; rfl,rfl⟩
  .have:=List.all_eq_true.1 h' f c
   simp only [Bool.not_eq_true',decide_eq_false_iff_not] at this
   omega
theorem Apu (ps:List Ak) (n:Int) (c:ps.length<=1048576):∃b,Kg ps n=some b:=by
 unfold Kg
 by_cases h:(ps.length:Int)>n
 .rw [Al h]; exact ⟨false,rfl⟩
 .rw [Aq h,cond_false]
  have hk:∀a:Ak,M1 a=some (decide (a.Num.length<=2)&&decide (a.Den.length<=2)):=fun a=>by
   unfold M1
   by_cases h1:a.Num.length<=2
   .rw [Al (by omega),cond_true,Al h1]
    by_cases h2:a.Den.length<=2
    .rw [Al (by omega),Al h2]; rfl
    .rw [Aq (by omega),Aq h2]; rfl
   .rw [Aq (by omega),Aq h1]; rfl
  refine ⟨_,(H8 ps (fun a=>decide (a.Num.length<=2)&&decide (a.Den.length<=2)) (fun j=>(j:Int)) rfl (by omega) (rt:=true) (rf:=false) ?_ ?_)⟩
  .intro j x hx h1 h2 h3
   simp only [h1,h2,h3,cond_true,Ad,hk]
   cases (decide (x.Num.length<=2)&&decide (x.Den.length<=2)) with
   | true=>exact ⟨(fun _=>rfl),fun h=>by cases h⟩
   | false=>exact ⟨(fun h=>by cases h),fun _=>⟨_,rfl,rfl⟩⟩
  .intro h1
   exact ⟨.inr (),by simp only [h1]; rfl,rfl⟩
theorem Apv (a:Ar) (h:a.Terms.length<=1048576):Sf a=some a:=by
 unfold Sf So
 rw [De (by simp; omega)]; rfl
end Go.Ab
namespace Go.Ab
open Go
theorem A2p {data:List A7} {vars:List Aj} {res:Aj} {b1:List (ByteArray×Int)} (b2:List (ByteArray×List Bz)) (hc:Mq data vars res) (hm:Dl data vars res b1) (m:A9) (l:MSz m) (hp:J8 data vars res m=true) :
  ∃p:Int×List (ByteArray×Int),Kl m b1 b2 data vars res.Kind res.Num res.Args=some p/\(p.1=Dn data vars res m.Factors+Cd m.Atoms\/(6<p.1/\6<Dn data vars res m.Factors+Cd m.Atoms))/\Dl data vars res p.2:=by
 have B:=l.nf
 have ha:=l.na
 unfold J8 at hp
 rw [C5,List.all_eq_true,List.all_eq_true] at hp
 unfold Kl
 refine E7 (fun (v5,u,g)=>∃j:Nat,u=j/\j<=m.Factors.length/\Dl data vars res g/\0<=v5/\v5<=12/\(v5=Dn data vars res (m.Factors.take j)\/(6<v5/\6<Dn data vars res (m.Factors.take j)))) (fun (_,u,_)=>m.Factors.length-u.toNat)
  (fun (v5,g)=>Dl data vars res g/\0<=v5/\v5<=12/\(v5=Dn data vars res m.Factors\/(6<v5/\6<Dn data vars res m.Factors))) ⟨0,rfl,by omega,hm,by omega,by omega,.inl (by simp [Dn])⟩ ?_ ?_
 .rintro ⟨v5,u,g⟩ ⟨j,rfl,hj,q,h0,h12,k⟩
  rcases Nat.lt_or_ge j m.Factors.length with h | h
  .have hx:m.Factors[j]? = some m.Factors[j]:=B2 h
   generalize m.Factors[j]=f at hx
   have c:=Cp hx
   have hd:=hp.1 f c
   rw [decide_eq_true_eq] at hd
   have A:=(Amx data vars res f).2
   have es:Dn data vars res (m.Factors.take (j+1))=Dn data vars res (m.Factors.take j)+E4 data vars res f:=Amy _ hx
   simp only [Al (by omega:(j:Int)<(m.Factors.length:Int)),cond_true,Cf rfl hx,Ad,C7 h (by omega)]
   by_cases s:v5<=6
   .have x:(tyX vars res f.Var).isSome=true:=by
     unfold E4 at hd
     cases ht:tyX vars res f.Var with
     | none=>rw [ht] at hd; have hd:(0:Int)<=-1:=hd; omega
     | some t=>rfl
    obtain ⟨D,d1,d2⟩:=W1 b2 hc q f (l.fr f c).2 (l.fr f c).1 (l.fi f c) x
    rw [Al s]
    simp only [cond_true,d1,Ad]
    have b:Ac (v5+E4 data vars res f)=v5+E4 data vars res f:=by rw [Ac,Bw] <;> omega
    exact .inl ⟨_,rfl,⟨j+1,rfl,by omega,d2,by simp only [b]; omega,by simp only [b]; omega,by simp only [b,es]; omega⟩,by simp; omega⟩
   .rw [Aq s]
    exact .inl ⟨_,rfl,⟨j+1,rfl,by omega,q,h0,h12,by simp only [es]; omega⟩,by simp; omega⟩
  .have:j=m.Factors.length:=by omega
   subst this
   rw [List.take_length] at k
   exact .inr ⟨(v5,g),by simp,q,h0,h12,k⟩
 .rintro ⟨v5,g⟩ ⟨q,h0,h12,k⟩
  simp only
  refine E7 (fun (v,i)=>∃j:Nat,i=j/\j<=m.Atoms.length/\0<=v/\v<=13/\(v=Dn data vars res m.Factors+Cd (m.Atoms.take j)\/(6<v/\6<Dn data vars res m.Factors+Cd (m.Atoms.take j)))) (fun (_,i)=>m.Atoms.length-i.toNat)
   (fun v=>(v=Dn data vars res m.Factors+Cd m.Atoms\/(6<v/\6<Dn data vars res m.Factors+Cd m.Atoms))) ⟨0,rfl,by omega,h0,by omega,by simpa [Cd] using k⟩ ?_ ?_
  .rintro ⟨v,i⟩ ⟨j,rfl,hj,g0,g13,z⟩
   rcases Nat.lt_or_ge j m.Atoms.length with h | h
   .have hx:m.Atoms[j]? = some m.Atoms[j]:=B2 h
    generalize m.Atoms[j]=a at hx
    have hd:=hp.2 a (Cp hx)
    rw [C5,decide_eq_true_eq] at hd
    have es:=Amz hx
    simp only [Al (by omega:(j:Int)<(m.Atoms.length:Int)),cond_true,Cf rfl hx,Ad,C7 h (by omega)]
    by_cases s:v<=6
    .rw [Al s]
     simp only [cond_true]
     by_cases y:7<a.Deg
     .rw [if_pos y]
      have b:Ac (v+7)=v+7:=by rw [Ac,Bw] <;> omega
      exact .inl ⟨_,rfl,⟨j+1,rfl,by omega,by simp only [b]; omega,by simp only [b]; omega,by simp only [b,es]; omega⟩,by simp; omega⟩
     .rw [if_neg y]
      have b:Ac (v+a.Deg)=v+a.Deg:=by rw [Ac,Bw] <;> omega
      exact .inl ⟨_,rfl,⟨j+1,rfl,by omega,by simp only [b]; omega,by simp only [b]; omega,by simp only [b,es]; omega⟩,by simp; omega⟩
    .rw [Aq s]
     exact .inl ⟨_,rfl,⟨j+1,rfl,by omega,g0,g13,by simp only [es]; omega⟩,by simp; omega⟩
   .have:j=m.Atoms.length:=by omega
    subst this
    rw [List.take_length] at z
    exact .inr ⟨v,by simp,z⟩
  .intro v k
   exact ⟨(v,g),rfl,k,q⟩
def Jk (x:Bj) (m:A9):Int:=Dn x.Data x.Vars x.Res m.Factors+Cd m.Atoms
structure T7 (x:Bj) (m:A9):Prop where
 fac:∀f∈m.Factors,1<=E4 x.Data x.Vars x.Res f
 asc:m.Factors.Pairwise fun a b=>a.Var<b.Var
 atm:∀a∈m.Atoms,1<=a.Deg/\B8 a.Lin=true/\a.Lin.Terms.length≠0/\Dz x.Vars x.Res a.Lin=true
 srt:m.Atoms.Pairwise fun a b=>Er a.Lin b.Lin<0
 deg:Jk x m<=6
theorem Eh.f {x:Bj} {m:A9} (h:Eh x m):T7 x m:=by
 have hc:=h.1
 unfold Hy at hc
 rw [C5,C5,decide_eq_true_eq] at hc
 obtain ⟨⟨h1,h2⟩,h3⟩:=hc
 have g1:∀j f,m.Factors[j]? = some f->1<=E4 x.Data x.Vars x.Res f/\Lt (·.Var) m.Factors f j=true:=fun j f hj=>by
  have:=Ja h1 hj
  unfold W0 at this
  rw [C5,decide_eq_true_eq] at this
  exact this
 have g2:∀j a,m.Atoms[j]? = some a->(1<=a.Deg/\B8 a.Lin=true/\a.Lin.Terms.length≠0/\Dz x.Vars x.Res a.Lin=true)/\No m.Atoms a j=true:=fun j a hj=>by
  have:=Ja h2 hj
  unfold Mr at this
  simp only [C5,decide_eq_true_eq,Bool.not_eq_true',beq_eq_false_iff_ne,ne_eq] at this
  exact ⟨⟨this.1.1.1.1,this.1.1.1.2,this.1.1.2,this.1.2⟩,this.2⟩
 refine ⟨fun f l=>?_,A18 _ _ fun j f hj=>(g1 j f hj).2,fun a ha=>?_,?_,h3⟩
 .obtain ⟨j,hj⟩:=List.getElem?_of_mem l
  exact (g1 j f hj).1
 .obtain ⟨j,hj⟩:=List.getElem?_of_mem ha
  exact (g2 j a hj).1
 .have step:∀j x y,m.Atoms[j]? = some x->m.Atoms[j+1]? = some y->Er x.Lin y.Lin<0:=by
   intro j x y hx hy
   have:=(g2 (j+1) y hy).2
   unfold No at this
   rw [Nat.add_sub_cancel,hx] at this
   simpa using this
  have b:∀d j x y,m.Atoms[j]? = some x->m.Atoms[j+d+1]? = some y->Er x.Lin y.Lin<0:=by
   intro d
   induction d with
   | zero=>exact fun j x y h1 h2=>step j x y h1 h2
   | succ d ih=>
    intro j x y h1 h2
    have c:m.Atoms[j+d+1]? = some (m.Atoms[j+d+1]'(by have:=E9 h2; omega)):=B2 _
    exact Rm.trs _ _ _ (ih j x _ h1 c) (step _ _ _ c h2)
  rw [List.pairwise_iff_getElem]
  intro i j k hj g
  obtain ⟨d,hd⟩:∃d,j=i+d+1:=⟨j-i-1,by omega⟩
  subst hd
  exact b d i _ _ (B2 k) (B2 hj)
theorem T7.fsum0 {x:Bj} {m:A9} (h:T7 x m):0<=Dn x.Data x.Vars x.Res m.Factors:=by
 have key:∀l:List Bx,(∀f∈l,1<=E4 x.Data x.Vars x.Res f)->0<=Dn x.Data x.Vars x.Res l:=fun l=>by
  induction l with
  | nil=>intro _; simp [Dn]
  | cons f l ih=>
   intro b
   have h1:=b f (by simp)
   have h2:=ih fun g c=>b g (by simp [c])
   unfold Dn at *
   simp only [List.map_cons,List.sum_cons]; omega
 exact key _ h.fac
theorem A2q {l:List A5} (h:∀a∈l,1<=a.Deg):Cd l=(B7 l:Nat)/\l.length<=B7 l:=by
 induction l with
 | nil=>exact ⟨rfl,Nat.le_refl _⟩
 | cons a l ih=>
  obtain ⟨e,c⟩:=ih fun b hb=>h b (by simp [hb])
  have f:=h a (by simp)
  unfold Cd at *
  simp only [List.map_cons,List.sum_cons,B7,List.length_cons]
  omega
theorem T7.as {x:Bj} {m:A9} (h:T7 x m):Cd m.Atoms=(B7 m.Atoms:Nat)/\m.Atoms.length<=B7 m.Atoms:=A2q fun a ha=>(h.atm a ha).1
theorem A2r {x:Bj} {m:A9} (h:T7 x m):J8 x.Data x.Vars x.Res m=true:=by
 unfold J8
 rw [C5,List.all_eq_true,List.all_eq_true]
 refine ⟨fun f b=>decide_eq_true (by have:=h.fac f b; omega),fun a ha=>?_⟩
 obtain ⟨h1,_,_,c⟩:=h.atm a ha
 rw [c,Al (by omega)]; rfl
theorem A2s {x:Bj} {b1:List (ByteArray×Int)} (b2:List (ByteArray×List Bz)) (hc:Mq x.Data x.Vars x.Res) (hm:Dl x.Data x.Vars x.Res b1) {m:A9} (h:Eh x m) :
  ∃b,Kl m b1 b2 x.Data x.Vars x.Res.Kind x.Res.Num x.Res.Args=some (Jk x m,b)/\Dl x.Data x.Vars x.Res b:=by
 obtain ⟨⟨d,b⟩,h1,h2,h3⟩:=A2p b2 hc hm m h.2 (A2r h.f)
 have:=h.f.deg
 unfold Jk at *
 dsimp only at h2 h3
 have e:d=Dn x.Data x.Vars x.Res m.Factors+Cd m.Atoms:=by omega
 subst e
 exact ⟨b,h1,h3⟩
theorem Apw {x:Bj} {b1:List (ByteArray×Int)} (b2:List (ByteArray×List Bz)) (hc:Mq x.Data x.Vars x.Res) (hm:Dl x.Data x.Vars x.Res b1) (q:List Ah) (E:q.length<=1000000) (h:∀u∈q,Eh x u.Mono) :
  ∃G b,Oe q b1 b2 x.Data x.Vars x.Res.Kind x.Res.Num x.Res.Args=some (G,b)/\Dl x.Data x.Vars x.Res b/\0<=G/\G<=6/\∀u∈q,Jk x u.Mono<=G:=by
 unfold Oe
 obtain ⟨e,A,G,b,rfl,z⟩:=Iy (step:=(fun (v4,v5,i)=>
   bif (decide (v5<(q.length:Int))) then (
   (Ag q v5).bind fun k=>
   (Kl k.Mono i b2 x.Data x.Vars x.Res.Kind x.Res.Num x.Res.Args).bind fun v9=>
   some (.inl ((if v9.1>v4 then v9.1 else v4),(Ac (v5+1)),v9.2)))
   else (some (.inr (v4,i))):Int×Int×List (ByteArray×Int)->Option ((Int×Int×List (ByteArray×Int))⊕(Int×List (ByteArray×Int)))))
  (fun s=>∃(j:Nat) (G:Int) (b:List (ByteArray×Int)),s=(G,(j:Int),b)/\j<=q.length/\Dl x.Data x.Vars x.Res b/\0<=G/\G<=6/\∀u∈q.take j,Jk x u.Mono<=G) (fun s=>q.length-s.2.1.toNat)
  (fun e=>∃G b,e=(G,b)/\Dl x.Data x.Vars x.Res b/\0<=G/\G<=6/\∀u∈q,Jk x u.Mono<=G)
  (by
   rintro _ ⟨j,G,b,rfl,hj,hm,h0,y,g⟩
   dsimp only
   rcases Nat.lt_or_ge j q.length with h' | h'
   .left
    have hx:q[j]? = some q[j]:=B2 h'
    generalize q[j]=u at hx
    have hu:=h u (Cp hx)
    obtain ⟨c,D,B⟩:=A2s b2 hc hm hu
    have l:=hu.f.deg
    refine ⟨(if Jk x u.Mono>G then Jk x u.Mono else G,((j+1:Nat):Int),c),?_,⟨j+1,_,c,rfl,by omega,B,by split <;> omega,by split <;> omega,fun w hw=>?_⟩,by simp; omega⟩
    .rw [Al (by omega),cond_true,Cf rfl hx,Ad,D,Ad,C7 h' (by omega)]
    .rw [Df hx] at hw
     rcases List.mem_append.1 hw with hw | hw
     .have:=g w hw; split <;> omega
     .rw [List.mem_singleton] at hw
      subst hw; split <;> omega
   .right
    have:j=q.length:=by omega
    subst this
    rw [List.take_length] at g
    exact ⟨(G,b),by rw [Aq (by omega),cond_false],G,b,rfl,hm,h0,y,g⟩)
  (0,0,b1) ⟨0,0,b1,rfl,by omega,hm,by omega,by omega,fun u hu=>by simp at hu⟩
 exact ⟨G,b,bnd A rfl,z⟩
end Go.Ab
