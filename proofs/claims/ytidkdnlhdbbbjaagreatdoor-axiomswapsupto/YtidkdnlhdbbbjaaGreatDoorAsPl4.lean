/- Plain laws: what the plain functions answer. -/
import Derived.Test.YtidkdnlhdbbbjaaGreatDoorAsPl3
namespace Go.Ab
open Go
theorem Ax8 (a b:Ba):L5 a b=some (Df a.Var b.Var):=by
 unfold L5
 rw [Ll]; rfl
theorem Nt {a b:Int}:Df a b<0↔a<b:=by unfold Df; split <;> (try split) <;> omega
theorem Ax9:Mx (fun a b:Ba=>Df a.Var b.Var) :=
 ⟨fun x h=>by have:=Nt.1 h; omega,fun x y z h1 h2=>by have:=Nt.1 h1; have:=Nt.1 h2; exact Nt.2 (by omega),fun x y z h1 h2 h=>by
  have:=Nt.1 h
  have:=mt Nt.2 h1
  have:=mt Nt.2 h2
  omega⟩
theorem Aya (c:List Ba) (g:c.length<=12):∃R,Qv c=some R/\R.Perm c/\R.Pairwise (fun a b=>a.Var<=b.Var):=by
 obtain ⟨R,h1,h2,h3⟩:=Al2 (cmp:=L5) Ax9 c (fun x _ y _=>Ax8 x y) (by omega)
 obtain ⟨v,f⟩:=Alo (n:=c.length) (by omega)
 refine ⟨R,?_,h2,h3.imp fun {a b} h=>?_⟩
 .unfold Qv
  rw [Nat.ble_eq_true_of_le g,cond_true]
  unfold Ab6
  rw [f,Ad]
  have hp:T8 0 (c.length:Int) v c=some R:=by
   unfold T8
   have e:Xt 0 (c.length:Int) c=Vn L5 0 (c.length:Int) c:=rfl
   have w:Ac ((c.length:Int)-0)=(c.length:Int):=by rw [Ac,Bs] <;> omega
   refine bnd (a:=R) (Em ?_) rfl
   rw [w,Am (by omega),cond_true,e,h1,Ad,Mj h2.length_eq.symm]; rfl
  rw [hp,Ad,Mj h2.length_eq.symm]; rfl
 .have:=mt Nt.2 h
  omega
def cl:List Ba->Int->Int
 | [],_=>0
 | t::l,v=>(if t.Var=v then t.Coef else 0)+cl l v
theorem Si (l m:List Ba) (v:Int):cl (l++m) v=cl l v+cl m v:=by
 induction l with
 | nil=>simp [cl]
 | cons t l ih=>simp only [List.cons_append,cl,ih]; omega
theorem Ayb {l m:List Ba} (h:l.Perm m) (v:Int):cl l v=cl m v:=by
 induction h with
 | nil=>rfl
 | cons t _ ih=>simp only [cl,ih]
 | swap a b l=>simp only [cl]; omega
 | trans _ _ h1 h2=>exact h1.trans h2
theorem Nu {l:List Ba} {v:Int} (h:∀t∈l,t.Var≠v):cl l v=0:=by
 induction l with
 | nil=>rfl
 | cons t l ih=>simp only [cl]; rw [if_neg (h t (by simp)),ih fun u hu=>h u (by simp [hu])]; rfl
structure Ih (L:List Ba):Prop where
 srt:L.Pairwise fun a b=>a.Var<b.Var
 nz:∀t∈L,t.Coef≠0
theorem Ih.ext:∀{L M:List Ba},Ih L->Ih M->(∀v,cl L v=cl M v)->L=M:=by
 intro L
 induction L with
 | nil=>
  intro M _ b h
  cases M with
  | nil=>rfl
  | cons t M=>
   have:=h t.Var
   simp only [cl,if_true] at this
   rw [Nu fun u hu=>by have:=(List.pairwise_cons.1 b.srt).1 u hu; omega] at this
   exact (b.nz t (by simp) (by omega)).elim
 | cons s L ih=>
  intro M c b h
  have g:cl (s::L) s.Var=s.Coef:=by
   simp only [cl,if_true]
   rw [Nu fun u hu=>by have:=(List.pairwise_cons.1 c.srt).1 u hu; omega]; omega
  cases M with
  | nil=>
   have:=h s.Var
   rw [g] at this
   exact (c.nz s (by simp) (by simpa [cl] using this)).elim
  | cons t M=>
   have ht:cl (t::M) t.Var=t.Coef:=by
    simp only [cl,if_true]
    rw [Nu fun u hu=>by have:=(List.pairwise_cons.1 b.srt).1 u hu; omega]; omega
   have f:s.Var=t.Var:=by
    rcases Int.lt_trichotomy s.Var t.Var with k | k | k
    .have h1:=h s.Var
     rw [g,Nu (l:=t::M) fun u hu=>by
      rcases List.mem_cons.1 hu with rfl | hu
      .omega
      .have:=(List.pairwise_cons.1 b.srt).1 u hu; omega] at h1
     exact (c.nz s (by simp) h1).elim
    .exact k
    .have h1:=h t.Var
     rw [ht,Nu (l:=s::L) fun u hu=>by
      rcases List.mem_cons.1 hu with rfl | hu
      .omega
      .have:=(List.pairwise_cons.1 c.srt).1 u hu; omega] at h1
     exact (b.nz t (by simp) h1.symm).elim
   have hc:s.Coef=t.Coef:=by rw [<-g,<-ht,h,f]
   have e:s=t:=by cases s; cases t; simp only at f hc; rw [f,hc]
   subst e
   rw [ih (M:=M) ⟨(List.pairwise_cons.1 c.srt).2,fun u hu=>c.nz u (by simp [hu])⟩ ⟨(List.pairwise_cons.1 b.srt).2,fun u hu=>b.nz u (by simp [hu])⟩ fun v=>by
    have:=h v
    simp only [cl] at this; omega]
noncomputable def Z0 (r:List Ba) (f:Int):Int×Int->Option ((Int×Int)⊕(Int×Int)):=fun (v44,v45)=>
 (show Option Bool from
 bif (decide (v44<(r.length:Int))) then (
 (Ag r v44).bind fun v46=>
 some (v46.Var==f)
 )
 else (
 some false
 )
 ).bind fun c=>
 bif c then (
 (Ag r v44).bind fun b=>
 some (.inl ((Ac (v44+1)),(Ac (v45+b.Coef))))
 )
 else (
 some (.inr (v44,v45))
 )
def LBd (l:List Ba):Prop:=∀t∈l,-1099511627776<=t.Coef/\t.Coef<=1099511627776
theorem Ayc {l:List Ba} (h:LBd l) (v:Int) : -(l.length*1099511627776:Int)<=cl l v/\cl l v<=(l.length*1099511627776:Int):=by
 induction l with
 | nil=>simp [cl]
 | cons t l ih=>
  have h1:=h t (by simp)
  have h2:=ih fun u hu=>h u (by simp [hu])
  simp only [cl,List.length_cons]
  split <;> omega
theorem Ayd {r:List Ba} {k:Nat} {t:Ba} (hk:r[k]? = some t) (G:r.length<=1000) (hb:LBd r) :
  ∃n:Nat,Al (Z0 r t.Var) ((k:Int),0)=some ((n:Int),cl ((r.take n).drop k) t.Var)/\k<n/\n<=r.length/\(∀u∈(r.take n).drop k,u.Var=t.Var)/\∀u,r[n]? = some u->u.Var≠t.Var:=by
 have x:=Ez hk
 obtain ⟨e,E,n,D,B⟩:=Lq (step:=Z0 r t.Var) (fun s=>∃n:Nat,s=((n:Int),cl ((r.take n).drop k) t.Var)/\k<=n/\n<=r.length/\∀u∈(r.take n).drop k,u.Var=t.Var) (fun s=>r.length-s.1.toNat)
  (fun e=>∃n:Nat,e=((n:Int),cl ((r.take n).drop k) t.Var)/\k<n/\n<=r.length/\(∀u∈(r.take n).drop k,u.Var=t.Var)/\∀u,r[n]? = some u->u.Var≠t.Var) (by
  rintro _ ⟨j,rfl,y,g,c⟩
  unfold Z0
  rcases Nat.lt_or_ge j r.length with h | h
  .have hx:r[j]? = some r[j]:=Cp h
   have i:=List.getElem_mem h
   generalize r[j]=b at hx i
   have A:=hb b i
   have z:=Ayc (l:=(r.take j).drop k) (fun u hu=>hb u (List.mem_of_mem_take (List.mem_of_mem_drop hu))) t.Var
   have q:((r.take j).drop k).length<=1000:=by simp; omega
   have hw:Ac (cl ((r.take j).drop k) t.Var+b.Coef)=cl ((r.take j).drop k) t.Var+b.Coef:=by
    have I:(((r.take j).drop k).length:Int)*1099511627776<=1000*1099511627776:=Int.mul_le_mul_of_nonneg_right (by omega) (by decide)
    rw [Ac,Bs] <;> omega
   have f:(r.take (j+1)).drop k=(r.take j).drop k++[b]:=by
    rw [Dy hx,List.drop_append_of_le_length (by simp; omega)]
   simp only [Am (by omega:(j:Int)<(r.length:Int)),cond_true,Cj rfl hx,Ad,Dr h (by omega),hw]
   by_cases hc:b.Var=t.Var
   .left
    rw [Fa hc]
    refine ⟨_,rfl,⟨j+1,?_,by omega,by omega,fun d hd=>?_⟩,by simp; omega⟩
    .rw [f,Si]
     simp [cl,hc]
    .rw [f] at hd
     rcases List.mem_append.1 hd with hd | hd
     .exact c d hd
     .simp only [List.mem_singleton] at hd
      rw [hd]; exact hc
   .right
    rw [C6 hc]
    refine ⟨_,rfl,j,rfl,?_,g,c,fun d hd=>by rw [hx] at hd; cases hd; exact hc⟩
    rcases Nat.lt_or_ge k j with h' | h'
    .exact h'
    .have:j=k:=by omega
     subst this
     rw [hk] at hx; cases hx
     exact (hc rfl).elim
  .right
   refine ⟨_,by simp only [As (by omega:¬(j:Int)<(r.length:Int)),cond_false,Ad],j,rfl,by omega,g,c,fun d hd=>?_⟩
   have:=Ez hd
   omega) ((k:Int),0) ⟨k,by simp [cl],by omega,by omega,fun u hu=>by simp at hu⟩
 exact ⟨n,by rw [<-D]; exact E,B⟩
noncomputable def Aer (r:List Ba):Int×List Ba->Option ((Int×List Ba)⊕List Ba):=fun (v37,b)=>
 bif (decide (v37<((r.length:Nat):Int))) then (
 (Ag r v37).bind fun v39=>
 (Al (Z0 r v39.Var) (v37,0)).bind fun (v49,v50)=>
 bif (v50 != (0:Int)) then (
 (Cf 16 b [(Ba.mk v39.Var v50)]).bind fun c=>
 some (.inl (v49,c))
 )
 else (
 some (.inl (v49,b))
 )
 )
 else (
 some (.inr b)
 )
theorem Aye {r:List Ba} (J:r.Pairwise fun a b=>a.Var<=b.Var) (M:r.length<=1000) (hb:LBd r):∃L,Al (Aer r) (0,[])=some L/\Ih L/\(∀v,cl L v=cl r v)/\L.length<=r.length:=by
 obtain ⟨L,S,R⟩:=Lq (step:=Aer r) (fun s=>∃(k:Nat) (L:List Ba),s=((k:Int),L)/\k<=r.length/\Ih L/\L.length<=k/\(∀v,cl L v=cl (r.take k) v)/\∀t∈L,∀u∈r.drop k,t.Var<u.Var) (fun s=>r.length-s.1.toNat)
  (fun L=>Ih L/\(∀v,cl L v=cl r v)/\L.length<=r.length) (by
  rintro _ ⟨k,L,rfl,hk,y,N,g,hd⟩
  unfold Aer
  rcases Nat.lt_or_ge k r.length with h | h
  .left
   have hx:r[k]? = some r[k]:=Cp h
   generalize r[k]=t at hx
   obtain ⟨n,I,G,D,n4,E⟩:=Ayd hx M hb
   have c:r.take n=r.take k++(r.take n).drop k:=by
    have h:=(List.take_append_drop k (r.take n)).symm
    rwa [List.take_take,Nat.min_eq_left (by omega)] at h
   have x:∀v,v≠t.Var->cl ((r.take n).drop k) v=0:=fun v g=>Nu fun u hu e=>g (by rw [<-e,n4 u hu])
   have j:∀u∈r.drop n,u∈r.drop k:=fun u hu=>by
    have:r.drop n=(r.drop k).drop (n-k):=by rw [List.drop_drop]; congr 1; omega
    rw [this] at hu
    exact List.mem_of_mem_drop hu
   have A:t∈r.drop k:=by rw [I3 hx]; simp
   have f:∀u∈r.drop n,t.Var<u.Var:=by
    intro u hu
    rcases Nat.lt_or_ge n r.length with h' | h'
    .have hy:r[n]? = some r[n]:=Cp h'
     generalize r[n]=w at hy
     have hw:=E w hy
     have hp:=List.pairwise_append.1 (by rw [List.take_append_drop]; exact J:(r.take n++r.drop n).Pairwise fun a b=>a.Var<=b.Var)
     have B:t∈r.take n:=by
      rw [c]
      have:(r.take n).drop k=t::(r.take n).drop (k+1):=I3 (by rw [List.getElem?_take_of_lt G]; exact hx)
      rw [this]; simp
     have z:w∈r.drop n:=by rw [I3 hy]; simp
     have a1:=hp.2.2 t B w z
     have i:=hp.2.1
     rw [I3 hy] at i hu
     rcases List.mem_cons.1 hu with rfl | hu
     .omega
     .have:=(List.pairwise_cons.1 i).1 u hu; omega
    .rw [List.drop_eq_nil_of_le h'] at hu; cases hu
   simp only [Am (by omega:(k:Int)<(r.length:Int)),cond_true,Cj rfl hx,Ad,I]
   by_cases h0:cl ((r.take n).drop k) t.Var=0
   .refine ⟨((n:Int),L),?_,⟨n,L,rfl,D,y,by omega,fun v=>?_,fun a ha u hu=>hd a ha u (j u hu)⟩,by simp; omega⟩
    .rw [h0]; rfl
    .have q:cl (r.take n) v=cl (r.take k) v+cl ((r.take n).drop k) v:=(congrArg (fun l=>cl l v) c).trans (Si _ _ _)
     rw [q,g]
     by_cases e:v=t.Var
     .rw [e,h0]; omega
     .rw [x v e]; omega
   .refine ⟨((n:Int),L++[⟨t.Var,cl ((r.take n).drop k) t.Var⟩]),?_,⟨n,_,rfl,D,⟨?_,?_⟩,by simp; omega,fun v=>?_,fun a ha u hu=>?_⟩,by simp; omega⟩
    .rw [Dx h0,cond_true,Du (by simp; omega)]; rfl
    .refine List.pairwise_append.2 ⟨y.srt,List.pairwise_singleton _ _,fun a ha b hb=>?_⟩
     simp only [List.mem_singleton] at hb
     subst hb
     exact hd a ha t A
    .intro a ha
     rcases List.mem_append.1 ha with ha | ha
     .exact y.nz a ha
     .simp only [List.mem_singleton] at ha
      subst ha; exact h0
    .have q:cl (r.take n) v=cl (r.take k) v+cl ((r.take n).drop k) v:=(congrArg (fun l=>cl l v) c).trans (Si _ _ _)
     rw [q,Si,g]
     simp only [cl]
     by_cases e:t.Var=v
     .rw [if_pos e,<-e]; omega
     .rw [if_neg e,x v (fun h=>e h.symm)]; omega
    .rcases List.mem_append.1 ha with ha | ha
     .exact hd a ha u (j u hu)
     .simp only [List.mem_singleton] at ha
      subst ha; exact f u hu
  .right
   have:k=r.length:=by omega
   subst this
   rw [List.take_length] at g
   exact ⟨L,by simp only [As (by omega:¬(r.length:Int)<(r.length:Int)),cond_false],y,g,N⟩) (0,[]) ⟨0,[],rfl,by omega,⟨List.Pairwise.nil,fun _ h=>by cases h⟩,by simp,fun v=>by simp [cl],fun _ h=>by cases h⟩
 exact ⟨L,S,R⟩
def Pu (c:Int) (L:List Ba):Bf×Int:=if C4 ⟨c,L⟩=true then (⟨c,L⟩,0) else (⟨0,[]⟩,9)
theorem Amk (c:Int) (ts:List Ba) (l:ts.length<=12) (hb:LBd ts):∃L,Qq c ts=some (Pu c L)/\Ih L/\∀v,cl L v=cl ts v:=by
 obtain ⟨R,h,b,g⟩:=Aya ts l
 obtain ⟨L,k,j,i,q⟩:=Aye g (by rw [b.length_eq]; omega) (fun t ht=>hb t (b.mem_iff.1 ht))
 refine ⟨L,?_,j,fun v=>by rw [i,Ayb b]⟩
 unfold Qq
 have f:Pb ts=some ([],ts):=by
  unfold Pb Lv
  rw [Du (by simp; omega)]; rfl
 rw [f,Ad]
 dsimp only
 rw [h,Ad,Mj b.length_eq.symm,Ad,<-b.length_eq]
 refine bnd k ?_
 rw [Kv,Ad]
 unfold Pu
 cases C4 ⟨c,L⟩ <;> rfl
end Go.Ab
namespace Go.Ab
open Go
theorem Aes {x:Bw} {k:Nat} {ts:List Aj} (h:Col k (Gg x) ts) (hk:k<34359738000) (q:ts.length<=1000) (s:∀m,∃z:Int,cf ts m=(z:Rat)):∃R,Im (plc ts) ts=some (R,0)/\IP x ts.length (k+2) (cf ts) R:=by
 obtain ⟨R,j,b,f,c,i⟩:=Ad9 (P:=Gg x) (fun m h=>h.cmo) (plc ts) ts h (by omega) q (fun g _ h2 h3=>Aee g h2 h3)
 refine ⟨R,j,b,f,fun t ht=>(c t ht).1,i,fun t ht=>?_⟩
 obtain ⟨z,l⟩:=s t.Mono
 have e:rq t.Coef=(z:Rat):=by rw [<-Zf b ht,f,l]
 exact ⟨z,e,Amh (b.coe t ht).1 e (c t ht).2⟩
theorem IsE.good {x:Bw} {A:List A6} {B:List Ent} (h:IsE A B) (i:Atk A) (g:∀a∈A,Ds x.Vars x.Res a.Lin=true) (k:Co A<=6):∀b∈B,Gg x ⟨[],b.1⟩:=by
 obtain ⟨gs,l,c,j,f,rfl⟩:=h
 intro b hb
 obtain ⟨h1,h2⟩:=Amf (vars:=x.Vars) (res:=x.Res) f (fun a ha=>⟨i.lin a (c.mem_iff.1 ha),g a (c.mem_iff.1 ha)⟩) [([],1)] 0 (fun b hb=>by
  simp only [List.mem_singleton] at hb
  subst hb
  exact ⟨⟨List.Pairwise.nil,fun _ h=>by cases h⟩,by simp [Cl],fun _ h=>by cases h⟩) b hb
 refine Ax6 h1 ?_
 rw [Vp c] at h2
 omega
theorem Aml {B:List Ent} {m:Bd}:∃z:Int,(1:Rat)*(ec B m:Rat)=(z:Rat):=⟨(ec B m:Int),by rw [Rat.intCast_natCast]; grind⟩
theorem Ayf {x:Bw} {A:List A6} (D:Atk A) (y:Co A<=6) (S:∀a∈A,Ds x.Vars x.Res a.Lin=true) (b1:List (ByteArray×Int)) (b2:List (ByteArray×List Dd)) (u s:Int) (q:List Ai) :
  ∃R B,Og ⟨[],A⟩ b1 b2 x.Data x.Vars u s q=some (R,0)/\IsE A B/\IP x 64 200000 (fun m=>(ec B m:Rat)) R:=by
 have f:rq (cR 1)=1:=by rw [Aeg]; rfl
 obtain ⟨out,B,V,G,E,U⟩:=Aep (c:=cR 1) (K:=3) (A:=A) ((Aed (k:=1) (by rw [Nm]; decide) (by decide)).mono (by decide)) (by decide) (by rw [f]; decide) D b1 b2 x.Data x.Vars u s q
 have M:out.length<=64:=Nat.le_trans U (Nat.le_trans (Nat.pow_le_pow_right (by decide) y) (by decide))
 have N:=G.good D S y
 obtain ⟨v,J,v2,v3,v4⟩:=Ps (k0:=2427) (k:=2427) (P:=Gg x) (fun m h=>h.cmo) out [] (Col.nil _ _) (fun t ht=>by
  obtain ⟨b,hb,l,_,j⟩:=E.mem ht
  exact ⟨j,by rw [l]; exact N b hb⟩) (Nat.le_refl _) (by omega) (by simp; omega)
 simp at v3
 have i:∀m,cf v m=1*(ec B m:Rat):=fun m=>by rw [v4,E.cf,f]; simp only [cf]; grind
 obtain ⟨R,L,g⟩:=Aes (x:=x) v2 (by omega) (by omega) (fun m=>by rw [i]; exact Aml)
 refine ⟨R,B,?_,G,g.cp,fun m=>by rw [g.val,i]; grind,g.mo,by have:=g.len; omega,fun t ht=>by
  obtain ⟨z,I,z2⟩:=g.int t ht
  exact ⟨z,I,by omega⟩⟩
 unfold Og
 rw [Vi,Ad,V,Ad]
 simp only [bne_self_eq_false,cond_false,H6,Ad]
 rw [show He out [] []=some (plc v,v) from J,Ad,L]; rfl
theorem Amm {l:Bf} {k:Int} (b:C4 l=true) (h0:0<=k) (c:k<=6):Atk [⟨l,k⟩]/\Co [(⟨l,k⟩:A6)]<=6:=by
 have hd:Co [(⟨l,k⟩:A6)]=k.toNat:=by simp [Co]
 exact ⟨⟨fun a ha=>by simp only [List.mem_singleton] at ha; subst ha; exact h0,fun a ha=>by simp only [List.mem_singleton] at ha; subst ha; exact b,by omega,by simp⟩,by omega⟩
theorem Amn {x:Bw} (j:CSz x) (q:Ft x) {l:Bf} {k:Int} (b:C4 l=true) (h0:0<=k) (s:k<=6) (c:Ds x.Vars x.Res l=true) :
  ∃R B,Jf x l k=some (R,0)/\IsE [⟨l,k⟩] B/\IP x 64 200000 (fun m=>(ec B m:Rat)) R:=by
 obtain ⟨f,hb,_⟩:=Alt j (ps:=[]) (fun p hp=>by cases hp) (by simp) ⟨q,fun p hp=>by cases hp⟩
 obtain ⟨a1,a2⟩:=Amm b h0 s
 obtain ⟨R,B,i,h,g⟩:=Ayf (x:=x) a1 a2 (fun a ha=>by simp only [List.mem_singleton] at ha; subst ha; exact c) f [] x.Res.Kind x.Res.Num x.Res.Args
 refine ⟨R,B,?_,h,g⟩
 unfold Jf
 rw [hb]
 simp only [Ad,bnt,cond_false,Kv,b,As (by omega:¬k<0),As (by omega:¬k>6)]
 rw [Ado f [] x.Data x.Vars x.Res l (by have:=(Lo b).1; omega),Ad,c]
 simp only [bnt,cond_false,i,Ad]
theorem Z1 (x:Bw) (l:Bf) (k:l.Terms.length<=1048576) (i:x.Vars.length<=1048576):Qm x l=some (Ds x.Vars x.Res l):=by
 unfold Qm
 have f:Ds x.Vars x.Res l=l.Terms.zipIdx.all (fun q=>Jn x.Vars x.Res q.1):=by
  unfold Ds
  rw [Bool.eq_iff_iff,List.all_eq_true,List.all_eq_true]
  constructor
  .rintro h ⟨a,j⟩ hq
   exact h a (Cw (List.mk_mem_zipIdx_iff_getElem?.1 hq))
  .intro h a ha
   obtain ⟨j,hj⟩:=List.getElem?_of_mem ha
   exact h (a,j) (List.mk_mem_zipIdx_iff_getElem?.2 hj)
 rw [f]
 refine (Uu l.Terms (fun q=>Jn x.Vars x.Res q.1) (fun j=>(j:Int)) rfl (by omega) (rt:=true) (rf:=false) ?_ ?_).trans (by rw [Yo])
 .intro j t ht _ h1 h2 h3
  simp only [h1,h2,h3,cond_true,Ad]
  by_cases e:t.Var = -1
  .rw [Fa e,cond_true]
   have:Jn x.Vars x.Res t=(x.Res.Kind==1):=by unfold Jn tyX; rw [if_pos e]
   rw [this]
   by_cases hk:x.Res.Kind=1
   .rw [Ek hk,Fa hk]
    exact ⟨fun _=>rfl,fun h=>by cases h⟩
   .rw [Dx hk,C6 hk]
    exact ⟨(fun h=>by cases h),fun _=>⟨.inl false,rfl,rfl⟩⟩
  .rw [C6 e,cond_false]
   have b:Jn x.Vars x.Res t=(match Ag x.Vars t.Var with | some u=>u.Kind==1 | none=>false):=by unfold Jn tyX; rw [if_neg e]; cases Ag x.Vars t.Var <;> rfl
   rw [b]
   by_cases c:t.Var<0
   .rw [Am c,Aij (.inl c)]
    exact ⟨(fun h=>by cases h),fun _=>⟨.inl false,rfl,rfl⟩⟩
   .rw [As c,cond_false]
    by_cases g:(x.Vars.length:Int)<=t.Var
    .rw [Am (by omega),Aij (.inr g)]
     exact ⟨(fun h=>by cases h),fun _=>⟨.inl false,rfl,rfl⟩⟩
    .rw [As (by omega),cond_false]
     have hx:x.Vars[t.Var.toNat]? = some x.Vars[t.Var.toNat]:=Cp (by omega)
     generalize x.Vars[t.Var.toNat]'(by omega)=u at hx
     rw [Cj (n:=t.Var.toNat) (by omega) hx]
     simp only [Ad]
     by_cases hk:u.Kind=1
     .rw [Ek hk,Fa hk]
      exact ⟨fun _=>rfl,fun h=>by cases h⟩
     .rw [Dx hk,C6 hk]
      exact ⟨(fun h=>by cases h),fun _=>⟨.inl false,rfl,rfl⟩⟩
 .intro h _
  exact ⟨.inr (),by simp only [h]; rfl,rfl⟩
end Go.Ab
namespace Go.Ab
open Go
theorem Vt {a:Bf} (h:C4 a=true):∀t∈a.Terms,-1048576<=t.Coef/\t.Coef<=1048576:=by
 intro t ht
 obtain ⟨j,hj⟩:=List.getElem?_of_mem ht
 unfold C4 at h
 rw [Dq,List.all_eq_true] at h
 have:=h.2 (t,j) (List.mk_mem_zipIdx_iff_getElem?.2 hj)
 unfold Me at this
 simp only [Dq,decide_eq_true_eq] at this
 exact ⟨this.1.2.2.2.1,this.1.2.2.2.2⟩
theorem Amo (a b:List Ba) (h:a.length+b.length<=1000000):Tj [a,b]=some (a++b) :=
 Aek (B:=16) (by decide) (gr:=Xj) (fun n h=>Aen n h) a b h
def Gj (t:Ba):Ba:=⟨t.Var,-t.Coef⟩
theorem Amp (l:List Ba) (v:Int):cl (l.map Gj) v = - cl l v:=by
 induction l with
 | nil=>rfl
 | cons t l ih=>
  simp only [List.map_cons,cl,ih,Gj]
  split <;> omega
theorem Ayg (ts:List Ba) (l:ts.length<=1000) (hb:∀t∈ts,-1048576<=t.Coef/\t.Coef<=1048576):Tk ts (-1)=some (ts.map Gj):=by
 unfold Tk
 have f:Pb ts=some ([],ts):=by
  unfold Pb Lv
  rw [Du (by simp; omega)]; rfl
 rw [f,Ad]
 dsimp only
 refine G5 ts.length (fun j=>((j:Int),(ts.take j).map Gj++ts.drop j)) (by simp) ?_ ⟨ts.map Gj,?_,rfl⟩
 .intro j hj
  have hx:ts[j]? = some ts[j]:=Cp hj
  have g:=List.getElem_mem hj
  generalize ts[j]=t at hx g
  have i:=hb t g
  have e:(ts.take j).map Gj++ts.drop j=(ts.take j).map Gj++t::ts.drop (j+1):=by rw [I3 hx]
  have b:((ts.take j).map Gj).length=j:=by simp; omega
  have k:Ag ((ts.take j).map Gj++ts.drop j) (j:Int)=some t:=by
   refine Cj rfl ?_
   rw [e]
   have:=Aej ((ts.take j).map Gj) (ts.drop (j+1)) t
   rwa [b] at this
  have hw:Ac (t.Coef * -1) = -t.Coef:=by rw [Ac,Bs] <;> omega
  have c:Cg ((ts.take j).map Gj++ts.drop j) (j:Int) (⟨t.Var,-t.Coef⟩:Ba)=(ts.take (j+1)).map Gj++ts.drop (j+1):=by
   rw [E9 (n:=j) rfl,e,Dy hx,List.map_append,List.append_assoc]
   have:∀(A R:List Ba) (x y:Ba),(A++x::R).set A.length y=A++y::R:=by
    intro A R x y
    induction A with
    | nil=>rfl
    | cons a A ih=>simp only [List.cons_append,List.length_cons,List.set_cons_succ,ih]
   have h:=this ((ts.take j).map Gj) (ts.drop (j+1)) t ⟨t.Var,-t.Coef⟩
   rw [b] at h
   rw [h]; rfl
  simp only [Am (by omega:(j:Int)<((ts.length:Nat):Int)),cond_true,k,Ad,Dr hj (by omega),hw,c]
 .simp
theorem Vu (a b:Bf) (h:a.Terms.length+b.Terms.length<=12) :
  (C4 a=true/\C4 b=true/\∃L,H7 a b=some (Pu (a.Const+b.Const) L)/\Ih L/\∀v,cl L v=cl a.Terms v+cl b.Terms v)\/((C4 a&&C4 b)=false/\H7 a b=some (⟨0,[]⟩,1)):=by
 unfold H7
 rw [Kv,Kv]
 cases ha:C4 a with
 | false=>exact .inr ⟨rfl,rfl⟩
 | true=>
  cases hb:C4 b with
  | false=>exact .inr ⟨rfl,rfl⟩
  | true=>
   left
   have h1:=Lo ha
   have h2:=Lo hb
   obtain ⟨L,g,f,c⟩:=Amk (a.Const+b.Const) (a.Terms++b.Terms) (by simp; omega) (fun t ht=>by
    rcases List.mem_append.1 ht with ht | ht
    .have:=Vt ha t ht; omega
    .have:=Vt hb t ht; omega)
   refine ⟨rfl,rfl,L,?_,f,fun v=>by rw [c,Si]⟩
   have w:Ac (a.Const+b.Const)=a.Const+b.Const:=by rw [Ac,Bs] <;> omega
   simp only [Ad,bnt,cond_false,Amo a.Terms b.Terms (by omega),w,g]
theorem Aet (a b:Bf) (h:a.Terms.length+b.Terms.length<=12) :
  (C4 a=true/\C4 b=true/\∃L,Ki a b=some (Pu (a.Const-b.Const) L)/\Ih L/\∀v,cl L v=cl a.Terms v-cl b.Terms v)\/((C4 a&&C4 b)=false/\Ki a b=some (⟨0,[]⟩,1)):=by
 unfold Ki
 rw [Kv,Kv]
 cases ha:C4 a with
 | false=>exact .inr ⟨rfl,rfl⟩
 | true=>
  cases hb:C4 b with
  | false=>exact .inr ⟨rfl,rfl⟩
  | true=>
   left
   have h1:=Lo ha
   have h2:=Lo hb
   obtain ⟨L,g,f,c⟩:=Amk (a.Const-b.Const) (a.Terms++b.Terms.map Gj) (by simp; omega) (fun t ht=>by
    rcases List.mem_append.1 ht with ht | ht
    .have:=Vt ha t ht; omega
    .obtain ⟨u,hu,rfl⟩:=List.mem_map.1 ht
     have:=Vt hb u hu
     show _<=-u.Coef/\-u.Coef<=_
     omega)
   refine ⟨rfl,rfl,L,?_,f,fun v=>by rw [c,Si,Amp]; omega⟩
   have w:Ac (a.Const-b.Const)=a.Const-b.Const:=by rw [Ac,Bs] <;> omega
   simp only [Ad,bnt,cond_false,Ayg b.Terms (by omega) (Vt hb),Amo a.Terms (b.Terms.map Gj) (by simp; omega),w,g]
theorem Ayh (a b:Bf) (c:a.Terms.length+b.Terms.length<=12):∃r,H7 a b=some r:=by
 rcases Vu a b c with ⟨_,_,L,h,_⟩ | ⟨_,h⟩ <;> exact ⟨_,h⟩
theorem Ayi (a b:Bf) (c:a.Terms.length+b.Terms.length<=12):∃r,Ki a b=some r:=by
 rcases Aet a b c with ⟨_,_,L,h,_⟩ | ⟨_,h⟩ <;> exact ⟨_,h⟩
theorem Z2 (a:F9) (j:a.E.Terms.length+a.F.Terms.length<=12):∃b,Jw a=some b/\(b=true↔C4 a.E=true/\C4 a.F=true/\0<=a.K/\a.K<=6/\((a.Kind=1/\∃s,H7 a.E a.F=some (s,0))\/(a.Kind=2/\∃s,Ki a.E a.F=some (s,0)))):=by
 obtain ⟨r,l⟩:=Ayh a.E a.F j
 obtain ⟨q,hq⟩:=Ayi a.E a.F j
 unfold Jw
 rw [Kv,Kv,l,hq]
 cases x:C4 a.E with
 | false=>exact ⟨false,rfl,by simp⟩
 | true=>
  cases u:C4 a.F with
  | false=>exact ⟨false,rfl,by simp⟩
  | true=>
   simp only [Ad,bnt,cond_false]
   by_cases h0:0<=a.K
   .rw [As (by omega)]
    by_cases k:a.K<=6
    .rw [As (by omega)]
     simp only [cond_false,Ad]
     by_cases f:a.Kind=1
     .rw [Fa f,cond_true]
      refine ⟨_,rfl,?_⟩
      constructor
      .intro h
       have h:=of_decide_eq_true (by simpa using h:decide (r.2=0)=true)
       exact ⟨trivial,trivial,h0,k,.inl ⟨f,r.1,by rw [<-h]⟩⟩
      .rintro ⟨_,_,_,_,⟨_,s,i⟩ | ⟨c,_⟩⟩
       .cases i; rfl
       .omega
     .rw [C6 f,cond_false]
      by_cases c:a.Kind=2
      .rw [Fa c,cond_true]
       refine ⟨_,rfl,?_⟩
       constructor
       .intro h
        have h:=of_decide_eq_true (by simpa using h:decide (q.2=0)=true)
        exact ⟨trivial,trivial,h0,k,.inr ⟨c,q.1,by rw [<-h]⟩⟩
       .rintro ⟨_,_,_,_,⟨g,_⟩ | ⟨_,s,i⟩⟩
        .exact (f g).elim
        .cases i; rfl
      .rw [C6 c,cond_false]
       exact ⟨false,rfl,by simp [f,c]⟩
    .rw [Am (by omega)]
     exact ⟨false,rfl,by simp; omega⟩
   .rw [Am (by omega)]
    exact ⟨false,rfl,by simp; omega⟩
noncomputable def Jp (x:Bw) (v f:Bool) (E F:Bf):Int:=bif !(v&&f) then 1 else bif !(Ds x.Vars x.Res E&&Ds x.Vars x.Res F) then 6 else 0
theorem Amq {x:Bw} (b:CSz x) (E F:Bf) (K:Int) (U:E.Terms.length<=6) (S:F.Terms.length<=6) :
  ∃R v f,Kh x ⟨2,E,F,K⟩=some (R,Jp x v f E F)/\Jw ⟨2,E,F,K⟩=some v/\Oa x []=some f/\(Jp x v f E F≠0->R = []) /\
   (Jp x v f E F=0->Ft x/\∃B C,IsE [⟨E,K⟩] B/\IsE [⟨F,K⟩] C/\IP x 128 200001 (fun m=>(ec B m:Rat)-(ec C m:Rat)) R):=by
 obtain ⟨v,i,v2⟩:=Z2 ⟨2,E,F,K⟩ (by show E.Terms.length+F.Terms.length<=12; omega)
 obtain ⟨f,f1,f2⟩:=Akp x b [] (fun t ht=>by cases ht)
 have M:=b.nv
 have q:=Z1 x E (by omega) (by omega)
 have j:=Z1 x F (by omega) (by omega)
 unfold Kh
 rw [i,f1,q,j]
 unfold Jp
 cases v with
 | false=>exact ⟨[],false,f,rfl,rfl,rfl,fun _=>rfl,fun h=>absurd (show (1:Int)=0 from h) (by decide)⟩
 | true=>
  cases f with
  | false=>exact ⟨[],true,false,rfl,rfl,rfl,fun _=>rfl,fun h=>absurd (show (1:Int)=0 from h) (by decide)⟩
  | true=>
   cases N:Ds x.Vars x.Res E with
   | false=>exact ⟨[],true,true,rfl,rfl,rfl,fun _=>rfl,fun h=>absurd (show (6:Int)=0 from h) (by decide)⟩
   | true=>
    cases hj:Ds x.Vars x.Res F with
    | false=>exact ⟨[],true,true,rfl,rfl,rfl,fun _=>rfl,fun h=>absurd (show (6:Int)=0 from h) (by decide)⟩
    | true=>
     obtain ⟨L,J,k0,g,_⟩:=v2.1 rfl
     have c:=(f2.1 rfl).1
     obtain ⟨P,B,I,G,D⟩:=Amn b c (l:=E) (k:=K) L k0 g N
     obtain ⟨Q,C,A,z,y⟩:=Amn b c (l:=F) (k:=K) J k0 g hj
     obtain ⟨R,u,s⟩:=Amj b c D y (by decide) (by decide)
     refine ⟨R,true,true,?_,rfl,rfl,fun h=>absurd rfl h,fun _=>⟨c,B,C,G,z,s⟩⟩
     simp only [bnt,Ad,cond_false,Bool.and_self,beq_self_eq_true,cond_true]
     unfold Xd
     simp only [I,A,u,Ad,bne_self_eq_false,cond_false]
theorem Amr (p:List Aj) (b:p.length<=1000) (h:∀t∈p,MSz t.Mono/\RB 2000000 t.Coef):My p p=some true:=by
 unfold My
 rw [bne_self_eq_false,cond_false]
 refine Iy p (fun j=>(j:Int)) rfl (by omega) ?_ ?_
 .intro j t hj hx h1 h2 h3
  obtain ⟨m1,m2⟩:=h t (Cw hx)
  simp only [h1,h2,h3,cond_true,Ad,Au2 _ _ m1,Adt,bne_self_eq_false,cond_false,Atd _ _ m2 (by decide)]
 .intro h
  exact ⟨.inr (),by simp only [h]; rfl,rfl⟩
theorem IP.alike {x:Bw} {n L:Nat} {f:Bd->Rat} {R:List Aj} (h:IP x n L f R) (c:n<=1000) (g:L<=1000000):My R R=some true :=
 Amr R (by have:=h.len; omega) fun t ht=>⟨(h.mo t ht).2,by
  obtain ⟨z,b,z2⟩:=h.int t ht
  exact (Zy (h.cp.coe t ht).1 b z2).mono (by omega)⟩
end Go.Ab
namespace Go.Ab
open Go
theorem Ayj:Xb=some true:=by kernel_rfl
end Go.Ab
namespace Go.Ab
open Go
theorem Ayk {x:Bw} {P:Bd->Prop} (g:∀m,P m->Gg x m) {k:Nat} {ts:List Aj} (h:Col k P ts) (hk:k<34359738000) (s:ts.length<=1000) (u:∀m,∃z:Int,cf ts m=(z:Rat)):∃R,Im (plc ts) ts=some (R,0)/\IP x ts.length (k+2) (cf ts) R/\∀t∈R,P t.Mono:=by
 obtain ⟨R,l,c,f,b,j⟩:=Ad9 (P:=P) (fun m h=>(g m h).cmo) (plc ts) ts h (by omega) s (fun i _ h2 h3=>Aee i h2 h3)
 refine ⟨R,l,⟨c,f,fun t ht=>g _ (b t ht).1,j,fun t ht=>?_⟩,fun t ht=>(b t ht).1⟩
 obtain ⟨z,q⟩:=u t.Mono
 have e:rq t.Coef=(z:Rat):=by rw [<-Zf c ht,f,q]
 exact ⟨z,e,Amh (c.coe t ht).1 e (b t ht).2⟩
def NoF (x:Bw) (D:Nat) (m:Bd):Prop:=Gg x m/\m.Factors = []/\Cl m.Atoms<=(D:Nat)
theorem NoF.mono {x:Bw} {D D':Nat} {m:Bd} (h:NoF x D m) (hd:D<=D'):NoF x D' m:=⟨h.1,h.2.1,by have:=h.2.2; omega⟩
theorem IsE.noF {x:Bw} {A:List A6} {B:List Ent} (h:IsE A B) (g:Atk A) (f:∀a∈A,Ds x.Vars x.Res a.Lin=true) (j:Co A<=6):∀b∈B,NoF x (Co A) ⟨[],b.1⟩:=by
 intro b hb
 refine ⟨h.good g f j b hb,rfl,?_⟩
 obtain ⟨gs,l,c,k,i,rfl⟩:=h
 obtain ⟨h1,h2⟩:=Amf (vars:=x.Vars) (res:=x.Res) i (fun a ha=>⟨g.lin a (c.mem_iff.1 ha),f a (c.mem_iff.1 ha)⟩) [([],1)] 0 (fun b hb=>by
  simp only [List.mem_singleton] at hb
  subst hb
  exact ⟨⟨List.Pairwise.nil,fun _ h=>by cases h⟩,by simp [Cl],fun _ h=>by cases h⟩) b hb
 rw [Vp c] at h2
 show Cl b.1<=_
 omega
theorem Ayl {x:Bw} {A:List A6} (E:Atk A) (D:Co A<=6) (U:∀a∈A,Ds x.Vars x.Res a.Lin=true) (b1:List (ByteArray×Int)) (b2:List (ByteArray×List Dd)) (y u:Int) (s:List Ai) :
  ∃R B,Og ⟨[],A⟩ b1 b2 x.Data x.Vars y u s=some (R,0)/\IsE A B/\IP x B.length (2429+B.length*2430) (fun m=>(ec B m:Rat)) R/\∀t∈R,NoF x (Co A) t.Mono:=by
 have f:rq (cR 1)=1:=by rw [Aeg]; rfl
 obtain ⟨out,B,X,G,j,V⟩:=Aep (c:=cR 1) (K:=3) (A:=A) ((Aed (k:=1) (by rw [Nm]; decide) (by decide)).mono (by decide)) (by decide) (by rw [f]; decide) E b1 b2 x.Data x.Vars y u s
 have N:out.length<=64:=Nat.le_trans V (Nat.le_trans (Nat.pow_le_pow_right (by decide) D) (by decide))
 have S:=G.noF E U D
 obtain ⟨v,J,v2,v3,v4⟩:=Ps (k0:=2427) (k:=2427) (P:=NoF x (Co A)) (fun m h=>h.1.cmo) out [] (Col.nil _ _) (fun t ht=>by
  obtain ⟨b,hb,q,_,l⟩:=j.mem ht
  exact ⟨l,by rw [q]; exact S b hb⟩) (Nat.le_refl _) (by omega) (by simp; omega)
 simp at v3
 have i:∀m,cf v m=1*(ec B m:Rat):=fun m=>by rw [v4,j.cf,f]; simp only [cf]; grind
 obtain ⟨R,M,g,L⟩:=Ayk (x:=x) (P:=NoF x (Co A)) (fun m h=>h.1) v2 (by omega) (by omega) (fun m=>by rw [i]; exact Aml)
 refine ⟨R,B,?_,G,⟨g.cp,fun m=>by rw [g.val,i]; grind,g.mo,by have:=g.len; have:=j.len; omega,fun t ht=>by
  obtain ⟨z,I,z2⟩:=g.int t ht
  exact ⟨z,I,by rw [<-j.len]; omega⟩⟩,L⟩
 unfold Og
 rw [Vi,Ad,X,Ad]
 simp only [bne_self_eq_false,cond_false,H6,Ad]
 rw [show He out [] []=some (plc v,v) from J,Ad,M]; rfl
theorem Gs.nil_of {c:List Grp} {A:List A6} (h:Gs c A):A = []->c = []:=by
 cases h with
 | nil=>exact fun _=>rfl
 | cons b _ _ _ _=>exact fun e=>absurd (List.append_eq_nil_iff.1 e).1 b
theorem IsE.one {a:A6} {B:List Ent} (h:IsE [a] B):B.length<=1:=by
 obtain ⟨gs,I,y,J,q,rfl⟩:=h
 have G:I = [a]:=List.perm_singleton.1 y
 rw [G] at q
 generalize c:[a]=X at q
 cases q with
 | nil=>cases c
 | @cons l N f g rest gs s R L A E=>
  have M:g.length+rest.length=1:=by
   have:=congrArg List.length c
   simpa using this.symm
  have z:g.length=1:=by
   have:=List.length_pos_iff.2 s
   have:rest.length≠1\/g.length=0:=by omega
   omega
  have b:rest = []:=List.length_eq_zero_iff.1 (by omega)
  subst b
  rw [List.append_nil] at c
  subst c
  have x:=E.nil_of rfl
  subst x
  .show (F1 [([],1)] l f (N+1)).length<=1
   have key:∀n,(∀i j,i<n->j<n->f i≠0->f j≠0->i=j)->(F1 [(([],1):Ent)] l f n).length<=1/\((F1 [(([],1):Ent)] l f n).length=1->∃i,i<n/\f i≠0):=by
    intro n
    induction n with
    | zero=>intro _; simp [F1]
    | succ n ih=>
     intro h
     obtain ⟨i1,i2⟩:=ih fun i j u hj=>h i j (by omega) (by omega)
     rw [Sg,List.length_append]
     by_cases h0:f n=0
     .rw [if_pos h0]
      refine ⟨by simpa using i1,fun e=>?_⟩
      obtain ⟨i,a1,a2⟩:=i2 (by simpa using e)
      exact ⟨i,by omega,a2⟩
     .rw [if_neg h0]
      have:(F1 [(([],1):Ent)] l f n).length≠1:=fun e=>by
       obtain ⟨i,a1,a2⟩:=i2 e
       have:=h i n (by omega) (by omega) a2 h0
       omega
      refine ⟨by simp only [List.length_map,List.length_singleton]; omega,fun _=>⟨n,by omega,h0⟩⟩
   refine (key (N+1) ?_).1
   rcases A with ⟨_,h2⟩ | ⟨_,h2,_⟩
   .have e:∀k,k<N+1->f k=if k=N then 1 else 0:=by
     refine Al1 fun n _=>?_
     rw [h2.2.2 n]
     have D:N=a.Deg.toNat:=by have:=h2.1; simpa [Co] using this
     rw [Aei (k:=N) (by omega) (fun j hj=>by simp [hj])]
     simp [prb,D]
    intro i j u hj h1 h2
    rw [e i u] at h1
    rw [e j hj] at h2
    split at h1
    .split at h2
     .omega
     .exact (h2 rfl).elim
    .exact (h1 rfl).elim
   .intro i j u hj _ _
    omega
theorem Aym {x:Bw} (s:CSz x) (u:Ft x) {l:Bf} {k:Int} (f:C4 l=true) (h0:0<=k) (y:k<=6) (g:Ds x.Vars x.Res l=true) :
  ∃R B,Jf x l k=some (R,0)/\IsE [⟨l,k⟩] B/\IP x 1 4900 (fun m=>(ec B m:Rat)) R/\∀t∈R,NoF x k.toNat t.Mono:=by
 obtain ⟨h,hb,_⟩:=Alt s (ps:=[]) (fun p hp=>by cases hp) (by simp) ⟨u,fun p hp=>by cases hp⟩
 obtain ⟨a1,a2⟩:=Amm f h0 y
 obtain ⟨R,B,q,c,b,j⟩:=Ayl (x:=x) a1 a2 (fun a ha=>by simp only [List.mem_singleton] at ha; subst ha; exact g) h [] x.Res.Kind x.Res.Num x.Res.Args
 refine ⟨R,B,?_,c,⟨b.cp,b.val,b.mo,Nat.le_trans b.len c.one,fun t ht=>by
  obtain ⟨z,i,z2⟩:=b.int t ht
  have:=c.one
  exact ⟨z,i,by omega⟩⟩,fun t ht=>(j t ht).mono (by simp [Co])⟩
 unfold Jf
 rw [hb]
 simp only [Ad,bnt,cond_false,Kv,f,As (by omega:¬k<0),As (by omega:¬k>6)]
 rw [Ado h [] x.Data x.Vars x.Res l (by have:=(Lo f).1; omega),Ad,g]
 simp only [bnt,cond_false,q,Ad]
end Go.Ab
namespace Go.Ab
open Go
theorem Aeu {l:List A6} (h:∀a∈l,1<=a.Deg):0<=Cl l:=by
 induction l with
 | nil=>simp [Cl]
 | cons a l ih=>
  have h1:=h a (by simp)
  have h2:=ih fun b hb=>h b (by simp [hb])
  unfold Cl at *
  simp only [List.map_cons,List.sum_cons]; omega
theorem Ams {l:List A6} (h:∀a∈l,1<=a.Deg) (j:Nat):0<=Cl (l.take j)/\Cl (l.take j)<=Cl l:=by
 refine ⟨Aeu fun a ha=>h a (List.mem_of_mem_take ha),?_⟩
 have e:=Zx (l.take j) (l.drop j)
 rw [List.take_append_drop] at e
 have:=Aeu (l:=l.drop j) fun a ha=>h a (List.mem_of_mem_drop ha)
 omega
theorem Ayn {x:Bw} {D:Nat} {m:Bd} (h:NoF x D m) (s:D<=6) (b1:List (ByteArray×Int)) (b2:List (ByteArray×List Dd)) (data:List A3) (vars:List Ai) (l k:Int) (i:List Ai) :
  M9 m b1 b2 data vars l k i=some (Cl m.Atoms,b1):=by
 obtain ⟨h1,h2,h3⟩:=h
 have f:=h1.cmo
 have hd:∀a∈m.Atoms,1<=a.Deg:=fun a ha=>(f.al a ha).2.2.1
 have q:=f.na
 unfold M9
 rw [h2]
 refine bnd (a:=(0,b1)) (Em (by simp)) ?_
 dsimp only
 refine G5 m.Atoms.length (fun j=>(Cl (m.Atoms.take j),(j:Int))) (by simp [Cl]) ?_ ⟨Cl m.Atoms,?_,rfl⟩
 .intro j hj
  have hx:m.Atoms[j]? = some m.Atoms[j]:=Cp hj
  have b:=List.getElem_mem hj
  generalize m.Atoms[j]=a at hx b
  have ha:=f.al a b
  have ht:=Ams hd j
  have c:=Ams hd (j+1)
  rw [Dy hx,Zx] at c
  have g:Cl [a]=a.Deg:=by simp [Cl]
  rw [g] at c
  have e:(if (7:Int)<a.Deg then 7 else a.Deg)=a.Deg:=if_neg (by omega)
  have w:Ac (Cl (m.Atoms.take j)+a.Deg)=Cl (m.Atoms.take j)+a.Deg:=by rw [Ac,Bs] <;> omega
  simp only [Am (by omega:(j:Int)<(m.Atoms.length:Int)),cond_true,Cj rfl hx,Ad,Am (by omega:Cl (m.Atoms.take j)<=6),e,w,Dr hj (by omega),Dy hx,Zx,g]
 .simp only [As (by omega:¬(m.Atoms.length:Int)<(m.Atoms.length:Int)),cond_false,List.take_length]
theorem Amt {x:Bw} {D:Nat} {t:Aj} (h:NoF x D t.Mono) (l:D<=6) (b1:List (ByteArray×Int)) (b2:List (ByteArray×List Dd)) (data:List A3) (vars:List Ai) (i g:Int) (f:List Ai) :
  ∃G,Q3 [t] b1 b2 data vars i g f=some (G,b1)/\0<=G/\G<=(D:Int):=by
 have hd:∀a∈t.Mono.Atoms,1<=a.Deg:=fun a ha=>(h.1.cmo.al a ha).2.2.1
 have h0:=Aeu hd
 have c:=h.2.2
 refine ⟨Cl t.Mono.Atoms,?_,h0,c⟩
 unfold Q3
 have i0:Ag [t] 0=some t:=rfl
 have k:Ac (0+1)=1:=by rw [Ac,Bs] <;> omega
 refine G5 1 (fun j=>if j=0 then (0,0,b1) else (Cl t.Mono.Atoms,1,b1)) rfl ?_ ⟨(Cl t.Mono.Atoms,b1),?_,rfl⟩
 .intro j hj
  have:j=0:=by omega
  subst this
  have e:(if Cl t.Mono.Atoms>0 then Cl t.Mono.Atoms else 0)=Cl t.Mono.Atoms:=by split <;> omega
  have b:=Ayn h l b1 b2 data vars i g f
  simp only [if_true,List.length_singleton,i0,Ad,b,e,k]
  rfl
 .rfl
noncomputable def eB (A:List A6):List Ent:=open Classical in if h:∃B,IsE A B then Classical.choose h else []
theorem Amu {A:List A6} {B:List Ent} (h:IsE A B):eB A=B:=by
 unfold eB
 rw [dif_pos ⟨B,h⟩]
 exact (Classical.choose_spec (⟨B,h⟩:∃B,IsE A B)).det h (List.Perm.refl _)
theorem Ayo {A i:List A6} (hp:A.Perm i):eB A=eB i:=by
 unfold eB
 by_cases h:∃B,IsE A B
 .obtain ⟨B,gs,C,g,f,c,b⟩:=h
  have h':IsE i B:=⟨gs,C,g.trans hp,f,c,b⟩
  rw [dif_pos ⟨B,⟨gs,C,g,f,c,b⟩⟩,dif_pos ⟨B,h'⟩]
  exact (Classical.choose_spec (⟨B,⟨gs,C,g,f,c,b⟩⟩:∃B,IsE A B)).det (Classical.choose_spec (⟨B,h'⟩:∃B,IsE i B)) hp
 .have h':¬∃B,IsE i B:=fun ⟨B,gs,C,g,f,c,b⟩=>h ⟨B,gs,C,g.trans hp.symm,f,c,b⟩
  rw [dif_neg h,dif_neg h']
noncomputable def Pv:List Aj->List Aj->Bd->Rat
 | t::_,u::_,m=>rq t.Coef*rq u.Coef*(ec (eB (t.Mono.Atoms++u.Mono.Atoms)) m:Rat)
 | _,_,_=>0
theorem Ayp (p q:List Aj) (m:Bd):Pv p q m=Pv q p m:=by
 cases p with
 | nil=>cases q <;> rfl
 | cons t p=>
  cases q with
  | nil=>rfl
  | cons u q=>
   show rq t.Coef*rq u.Coef*(ec (eB (t.Mono.Atoms++u.Mono.Atoms)) m:Rat)=rq u.Coef*rq t.Coef*(ec (eB (u.Mono.Atoms++t.Mono.Atoms)) m:Rat)
   rw [Ayo List.perm_append_comm,Rat.mul_comm (rq t.Coef)]
theorem Amv {x:Bw} {D:Nat} {m:Bd} (h:NoF x D m) (g:D<=6):Atk m.Atoms/\Co m.Atoms<=D/\(∀a∈m.Atoms,Ds x.Vars x.Res a.Lin=true)/\m.Atoms.length<=D:=by
 have c:=h.1.cmo
 have hd:∀l:List A6,(∀a∈l,1<=a.Deg)->(Co l:Int)=Cl l/\(l.length:Int)<=Cl l:=by
  intro l
  induction l with
  | nil=>intro _; simp [Co,Cl]
  | cons a l ih=>
   intro h
   have h1:=h a (by simp)
   obtain ⟨h2,h3⟩:=ih fun b hb=>h b (by simp [hb])
   unfold Cl at *
   simp only [Co,List.map_cons,List.sum_cons,List.length_cons]; omega
 have f:=hd m.Atoms fun a ha=>(c.al a ha).2.2.1
 have h3:=h.2.2
 refine ⟨⟨fun a ha=>by have:=(c.al a ha).2.2.1; omega,fun a ha=>(c.al a ha).1,by omega,by omega⟩,by omega,fun a ha=>?_,by omega⟩
 have hc:=h.1.1
 unfold I4 at hc
 simp only [Dq,List.all_eq_true] at hc
 obtain ⟨j,hj⟩:=List.getElem?_of_mem ha
 have:=hc.1.2 (a,j) (List.mk_mem_zipIdx_iff_getElem?.2 hj)
 unfold Mh at this
 simp only [Dq] at this
 exact this.1.2
end Go.Ab
namespace Go.Ab
open Go
theorem Amw {α:Type} {l:List α} (h:l.length<=1):l = []\/∃a,l = [a]:=by
 cases l with
 | nil=>exact .inl rfl
 | cons a l=>
  cases l with
  | nil=>exact .inr ⟨a,rfl⟩
  | cons b l=>simp at h
theorem Aev (x:Bw) (n L:Nat) (f:Bd->Rat) (b:∀m,f m=0):IP x n L f [] :=
 ⟨CP.nil,fun m=>(b m).symm,fun _ h=>(by cases h),by simp,fun _ h=>(by cases h)⟩
theorem Ayq {x:Bw} (hz:CSz x) (hf:Ft x) {D D':Nat} (hD:D+D'<=6) {f g:Bd->Rat} {p q:List Aj} (hp:IP x 1 4900 f p) (hq:IP x 1 4900 g q) (np:∀t∈p,NoF x D t.Mono) (nq:∀t∈q,NoF x D' t.Mono) :
  ∃R,Oh x p q=some (R,0)/\IP x 64 900000 (Pv p q) R:=by
 obtain ⟨X,hb⟩:=Aea hz hf (hp.can (by decide) (by decide)) (hq.can (by decide) (by decide))
 have l:Im [] []=some ([],0):=by
  obtain ⟨R,s,j⟩:=Aes (x:=x) (k:=0) (Col.nil 0 _) (by decide) (by simp) (fun m=>⟨0,rfl⟩)
  have:R = []:=List.length_eq_zero_iff.1 (by have:=j.len; simpa using this)
  rw [this] at s
  exact s
 have A:Ac (0+1)=1:=by rw [Ac,Bs] <;> omega
 rcases Amw hp.len with rfl | ⟨t,rfl⟩
 .refine ⟨[],?_,Aev x _ _ _ fun m=>by cases q <;> rfl⟩
  unfold Oh
  rw [hb]
  simp only [Ad,bnt,cond_false,List.length_nil,H6]
  rw [As (by decide),cond_false]
  simp only [Ad,cond_false]
  refine bnd (a:=.inr ([],[])) (Em (by rfl)) ?_
  simp only [l,Ad]
 .have ht:=np t (by simp)
  have J:=Amt ht (by omega) X [] x.Data x.Vars x.Res.Kind x.Res.Num x.Res.Args
  obtain ⟨G,g1,g2,g3⟩:=J
  have it:Ag [t] 0=some t:=rfl
  rcases Amw hq.len with rfl | ⟨u,rfl⟩
  .refine ⟨[],?_,Aev x _ _ _ fun m=>rfl⟩
   unfold Oh
   rw [hb]
   simp only [Ad,bnt,cond_false,List.length_nil,List.length_singleton,H6]
   rw [Am (by decide),As (by decide),cond_true,cond_false]
   simp only [Ad,cond_false]
   refine bnd (a:=.inr ([],[])) ?_ (by simp only [l,Ad])
   refine (Jd (s':=(1,[],[])) ?_).trans (Em ?_)
   .simp only [it,Ad]
    rw [Am (by decide),cond_true]
    refine bnd (a:=.inr (0,[],[])) (Em (by rfl)) ?_
    simp only [A]
   .rfl
  .have hu:=nq u (by simp)
   obtain ⟨G',U,a8,a7⟩:=Amt hu (by omega) X [] x.Data x.Vars x.Res.Kind x.Res.Num x.Res.Args
   have iu:Ag [u] 0=some u:=rfl
   obtain ⟨a1,a2,a3,a4⟩:=Amv ht (by omega)
   obtain ⟨c1,c2,c3,c4⟩:=Amv hu (by omega)
   obtain ⟨y,Z,y2⟩:=hp.int t (by simp)
   obtain ⟨z,Y,z2⟩:=hq.int u (by simp)
   have I:=Zy (hp.cp.coe t (by simp)).1 Z y2
   have E:=Zy (hq.cp.coe u (by simp)).1 Y z2
   obtain ⟨c,m1,m2,m3,m4⟩:=Adq I E (by decide) (by decide)
   have hA:Atk (t.Mono.Atoms++u.Mono.Atoms):=⟨fun a ha=>by
    rcases List.mem_append.1 ha with h | h
    .exact a1.deg a h
    .exact c1.deg a h,fun a ha=>by
    rcases List.mem_append.1 ha with h | h
    .exact a1.lin a h
    .exact c1.lin a h,by rw [Mk]; omega,by rw [List.length_append]; omega⟩
   have hs:Co (t.Mono.Atoms++u.Mono.Atoms)<=6:=by rw [Mk]; omega
   have hi:∀a∈t.Mono.Atoms++u.Mono.Atoms,Ds x.Vars x.Res a.Lin=true:=fun a ha=>by
    rcases List.mem_append.1 ha with h | h
    .exact a3 a h
    .exact c3 a h
   have M:rq c≠0:=by
    rw [m4]
    exact fun h=>by
     rcases Rat.mul_eq_zero.1 h with h | h
     .exact (hp.cp.coe t (by simp)).2 h
     .exact (hq.cp.coe u (by simp)).2 h
   obtain ⟨out,B,e1,e2,V,e4⟩:=Aep (c:=c) (K:=9804) (m2.mono (by decide)) (by decide) M hA X [] x.Data x.Vars x.Res.Kind x.Res.Num x.Res.Args
   have a6:out.length<=64:=Nat.le_trans e4 (Nat.le_trans (Nat.pow_le_pow_right (by decide) hs) (by decide))
   have hm:=e2.good (x:=x) hA hi hs
   obtain ⟨v,v1,v2,v3,v4⟩:=Ps (k0:=12228) (k:=12228) (P:=Gg x) (fun m h=>h.cmo) out [] (Col.nil _ _) (fun w hw=>by
    obtain ⟨b,hb,S,_,N⟩:=V.mem hw
    exact ⟨N,by rw [S]; exact hm b hb⟩) (Nat.le_refl _) (by omega) (by simp; omega)
   simp at v3
   have L:∀m,cf v m=Pv [t] [u] m:=fun m=>by
    rw [v4,V.cf,m4]
    show cf [] m+_=rq t.Coef*rq u.Coef*(ec (eB (t.Mono.Atoms++u.Mono.Atoms)) m:Rat)
    rw [Amu e2]
    simp only [cf]; grind
   obtain ⟨R,s,j⟩:=Aes (x:=x) v2 (by omega) (by omega) (fun m=>by
    rw [v4,V.cf,m4,Z,Y]
    exact ⟨y*z*(ec B m:Int),by rw [Rat.intCast_mul,Rat.intCast_mul,Rat.intCast_natCast]; simp only [cf]; grind⟩)
   refine ⟨R,?_,⟨j.cp,fun m=>by rw [j.val,L],j.mo,by have:=j.len; omega,fun w hw=>by
    obtain ⟨i,i1,i2⟩:=j.int w hw
    exact ⟨i,i1,by omega⟩⟩⟩
   have hj:M5 t.Mono u.Mono=some ⟨[],t.Mono.Atoms++u.Mono.Atoms⟩:=by
    rw [Amb _ _ (by rw [ht.2.1,hu.2.1]; simp) (by omega),ht.2.1,hu.2.1]; rfl
   have wG:Ac (G+G')=G+G':=by rw [Ac,Bs] <;> omega
   unfold Oh
   rw [hb]
   simp only [Ad,bnt,cond_false,List.length_singleton,H6]
   rw [Am (by decide),cond_true,cond_true,g1,Ad,U,Ad,wG,As (by omega)]
   simp only [Ad,cond_false]
   refine bnd (a:=.inr (plc v,v)) ?_ (by simp only [s,Ad])
   refine (Jd (s':=(1,plc v,v)) ?_).trans (Em ?_)
   .simp only [it,Ad]
    rw [Am (by decide),cond_true]
    refine bnd (a:=.inr (1,plc v,v)) ?_ (by simp only [A])
    refine (Jd (s':=(1,plc v,v)) ?_).trans (Em ?_)
    .simp only [iu,Ad,m1,hj,e1]
     rw [Am (by decide),cond_true]
     simp only [bne_self_eq_false,cond_false]
     rw [show He out [] []=some (plc v,v) from v1]
     simp only [Ad,A]
    .rfl
   .rfl
end Go.Ab
namespace Go.Ab
open Go
def sq:Nat->(Nat->Rat)->Rat
 | 0,_=>0
 | n+1,f=>sq n f+f n
theorem Aew {f g:Nat->Rat}:∀{n:Nat},(∀k,k<n->f k=g k)->sq n f=sq n g
 | 0,_=>rfl
 | n+1,h=>by simp only [sq]; rw [Aew fun k hk=>h k (by omega),h n (by omega)]
theorem Amx (f:Nat->Rat):∀n,sq (n+1) f=f 0+sq n (fun j=>f (j+1))
 | 0=>by simp only [sq]; grind
 | n+1=>by
  have:=Amx f n
  show sq (n+1) f+f (n+1)=f 0+(sq n (fun j=>f (j+1))+f (n+1))
  rw [this]; grind
theorem Amy (f:Nat->Rat):∀n,sq (n+1) (fun j=>f (n-j))=sq (n+1) f
 | 0=>rfl
 | n+1=>by
  rw [Amx,Aew (g:=fun j=>f (n-j)) (fun j _=>by show f (n+1-(j+1))=f (n-j); rw [Nat.add_sub_add_right]),Amy f n]
  show f (n+1-0)+sq (n+1) f=sq (n+1) f+f (n+1)
  rw [Nat.sub_zero]; grind
theorem IP.up {x:Bw} {n b L L':Nat} {f g:Bd->Rat} {R:List Aj} (h:IP x n L f R) (i:n<=b) (j:L<=L') (e:∀m,f m=g m):IP x b L' g R :=
 ⟨h.cp,fun m=>by rw [h.val,e],h.mo,Nat.le_trans h.len i,fun t ht=>by
  obtain ⟨z,c,z2⟩:=h.int t ht
  exact ⟨z,c,by omega⟩⟩
noncomputable def aP (x:Bw) (l:Bf) (k:Int):List Aj:=match Jf x l k with | some r=>r.1 | none=>[]
theorem Aex {x:Bw} (h:CSz x) (q:Ft x) {l:Bf} {k:Int} (i:C4 l=true) (h0:0<=k) (s:k<=6) (j:Ds x.Vars x.Res l=true) :
  Jf x l k=some (aP x l k,0)/\IP x 1 4900 (fun m=>(ec (eB [⟨l,k⟩]) m:Rat)) (aP x l k)/\∀t∈aP x l k,NoF x k.toNat t.Mono:=by
 obtain ⟨R,B,b,g,f,c⟩:=Aym h q i h0 s j
 have e:aP x l k=R:=by unfold aP; rw [b]
 rw [e,Amu g]
 exact ⟨b,f,c⟩
noncomputable def shF (x:Bw) (E F s:Bf) (K:Nat) (m:Bd):Rat:=(ec (eB [⟨s,(K:Int)⟩]) m:Rat)-sq (K+1) fun j=>Pv (aP x E (j:Int)) (aP x F ((K-j:Nat):Int)) m
theorem Ayr (x:Bw) (E F s:Bf) (K:Nat) (m:Bd):shF x E F s K m=shF x F E s K m:=by
 unfold shF
 congr 1
 rw [<-Amy]
 refine Aew fun j hj=>?_
 rw [Ayp,show K-(K-j)=j by omega]
theorem Ays {x:Bw} (b:CSz x) (c:Ft x) {E F:Bf} {K j:Nat} (s:C4 E=true) (q:C4 F=true) (i:Ds x.Vars x.Res E=true) (h:Ds x.Vars x.Res F=true) (y:K<=6) (hj:j<=K) :
  ∃R,Qo x ⟨1,E,F,(K:Int)⟩ (j:Int)=some (R,0)/\IP x 64 900000 (Pv (aP x E (j:Int)) (aP x F ((K-j:Nat):Int))) R:=by
 obtain ⟨a1,a2,a3⟩:=Aex b c (l:=E) (k:=(j:Int)) s (by omega) (by omega) i
 obtain ⟨b1,b2,u⟩:=Aex b c (l:=F) (k:=((K-j:Nat):Int)) q (by omega) (by omega) h
 obtain ⟨R,g,f⟩:=Ayq b c (D:=j) (D':=K-j) (by omega) a2 b2 (fun t ht=>(a3 t ht).mono (by omega)) (fun t ht=>(u t ht).mono (by omega))
 refine ⟨R,?_,f⟩
 have w:Ac ((K:Int)-(j:Int))=((K-j:Nat):Int):=by rw [Ac,Bs] <;> omega
 unfold Qo
 simp only [a1,Ad,bne_self_eq_false,cond_false,w,b1,g]
theorem Amz {l:List Ba} {v:Int} (h:cl l v≠0):∃t∈l,t.Var=v:=by
 rcases Classical.em (∃t∈l,t.Var=v) with h' | h'
 .exact h'
 .exact (h (Nu fun t ht e=>h' ⟨t,ht,e⟩)).elim
theorem Ih.cl {L:List Ba} (h:Ih L) {t:Ba} (ht:t∈L):Ab.cl L t.Var=t.Coef:=by
 induction L with
 | nil=>cases ht
 | cons s L ih=>
  simp only [Ab.cl]
  rcases List.mem_cons.1 ht with rfl | ht'
  .rw [if_pos rfl,Nu fun u hu=>by have:=(List.pairwise_cons.1 h.srt).1 u hu; omega]; omega
  .have:=(List.pairwise_cons.1 h.srt).1 t ht'
   rw [if_neg (by omega),ih ⟨(List.pairwise_cons.1 h.srt).2,fun u hu=>h.nz u (by simp [hu])⟩ ht']; omega
theorem Ayt {vars:List Ai} {res:Ai} {a b s:Bf} (c:Ih s.Terms) (h:∀v,cl s.Terms v=cl a.Terms v+cl b.Terms v) (ha:Ds vars res a=true) (hb:Ds vars res b=true):Ds vars res s=true:=by
 unfold Ds at *
 rw [List.all_eq_true] at *
 intro t ht
 have h1:=c.cl ht
 rw [h] at h1
 have h2:=c.nz t ht
 have key:∀u:Ba,u.Var=t.Var->Jn vars res u=true->Jn vars res t=true:=fun u e hu=>by unfold Jn at *; rw [<-e]; exact hu
 by_cases h3:cl a.Terms t.Var=0
 .obtain ⟨u,hu,e⟩:=Amz (l:=b.Terms) (v:=t.Var) (by omega)
  exact key u e (hb u hu)
 .obtain ⟨u,hu,e⟩:=Amz h3
  exact key u e (ha u hu)
theorem Ayu {x:Bw} (A:CSz x) (B:Ft x) {E F s:Bf} {K:Nat} (hE:C4 E=true) (hF:C4 F=true) (Y:Ds x.Vars x.Res E=true) (X:Ds x.Vars x.Res F=true) (hK:K<=6) (Z:H7 E F=some (s,0)) (U:C4 s=true) (V:Ds x.Vars x.Res s=true) :
  ∃R,Ta x ⟨1,E,F,(K:Int)⟩=some (R,0)/\IP x 500 900010 (shF x E F s K) R:=by
 obtain ⟨a1,a2,a3⟩:=Aex A B (l:=s) (k:=(K:Int)) U (by omega) (by omega) V
 unfold Ta
 simp only [Z,Ad,bne_self_eq_false,cond_false,a1]
 obtain ⟨r,L,I⟩:=E8 (J:=fun (z:Int×List Aj)=>match z with | (i,u)=>bif (i != (0:Int)) then some (([]:List Aj),i) else some (u,0)) (Q:=fun r=>∃R,r=(R,(0:Int))/\IP x 500 900010 (shF x E F s K) R)
  (step:=fun (z:Int×List Aj×Int)=>match z with
   | (v9,f,b)=>
    (show Option Bool from
    bif (decide (b<=(K:Int))) then (
    some (v9==(0:Int))
    )
    else (
    some false
    )
    ).bind fun v12=>
    bif v12 then (
    (Qo x ⟨1,E,F,(K:Int)⟩ b).bind fun c=>
    bif (c.2==(0:Int)) then (
    (M0 x f c.1).bind fun q=>
    some (.inl (q.2,q.1,(Ac (b+1))))
    )
    else (
    some (.inl (c.2,f,(Ac (b+1))))
    )
    )
    else (
    some (.inr (v9,f))
    )) (s:=(0,aP x s (K:Int),0))
  (fun y=>∃(j:Nat) (R:List Aj),y=(0,R,(j:Int))/\j<=K+1/\IP x (1+64*j) (900000+j) (fun m=>(ec (eB [⟨s,(K:Int)⟩]) m:Rat)-sq j fun j=>Pv (aP x E (j:Int)) (aP x F ((K-j:Nat):Int)) m) R) (fun y=>K+1-y.2.2.toNat)
  (fun e=>∃R,e=(0,R)/\IP x 500 900010 (shF x E F s K) R)
  ⟨0,_,rfl,by omega,a2.up (by omega) (by omega) fun m=>by simp only [sq]; grind⟩ (by
  rintro _ ⟨j,R,rfl,hj,g⟩
  rcases Nat.lt_or_ge j (K+1) with h | h
  .left
   obtain ⟨P,N,M⟩:=Ays A B hE hF Y X hK (by omega:j<=K)
   obtain ⟨S,G,D⟩:=Amj A B g (M.up (L':=900000+j) (Nat.le_refl _) (by omega) fun _=>rfl) (by omega) (by omega)
   refine ⟨(0,S,((j+1:Nat):Int)),?_,⟨j+1,S,rfl,by omega,D.up (by omega) (by omega) fun m=>by simp only [sq]; grind⟩,by simp; omega⟩
   simp only [Am (by omega:(j:Int)<=(K:Int)),cond_true,beq_self_eq_true,Ad,N,G,Dr h (by omega)]
  .right
   have:j=K+1:=by omega
   subst this
   refine ⟨(0,R),by simp only [As (by omega:¬((K+1:Nat):Int)<=(K:Int)),cond_false,Ad],R,rfl,g.up (by omega) (by omega) fun m=>rfl⟩) (by
  rintro _ ⟨R,rfl,g⟩
  exact ⟨_,rfl,R,rfl,g⟩)
 obtain ⟨R,rfl,g⟩:=I
 exact ⟨R,L,g⟩
theorem Am0 {x:Bw} (j:CSz x) (E F:Bf) (K:Int) (X:E.Terms.length<=6) (V:F.Terms.length<=6) :
  ∃R v f,Kh x ⟨1,E,F,K⟩=some (R,Jp x v f E F)/\Jw ⟨1,E,F,K⟩=some v/\Oa x []=some f/\(Jp x v f E F≠0->R = []) /\
   (Jp x v f E F=0->Ft x/\0<=K/\K<=6/\C4 E=true/\C4 F=true/\Ds x.Vars x.Res E=true/\Ds x.Vars x.Res F=true/\∃s,H7 E F=some (s,0)/\IP x 500 900010 (shF x E F s K.toNat) R):=by
 obtain ⟨v,D,v2⟩:=Z2 ⟨1,E,F,K⟩ (by show E.Terms.length+F.Terms.length<=12; omega)
 obtain ⟨f,f1,f2⟩:=Akp x j [] (fun t ht=>by cases ht)
 have U:=j.nv
 have I:=Z1 x E (by omega) (by omega)
 have G:=Z1 x F (by omega) (by omega)
 unfold Kh
 rw [D,f1,I,G]
 unfold Jp
 cases v with
 | false=>exact ⟨[],false,f,rfl,rfl,rfl,fun _=>rfl,fun h=>absurd (show (1:Int)=0 from h) (by decide)⟩
 | true=>
  cases f with
  | false=>exact ⟨[],true,false,rfl,rfl,rfl,fun _=>rfl,fun h=>absurd (show (1:Int)=0 from h) (by decide)⟩
  | true=>
   cases A:Ds x.Vars x.Res E with
   | false=>exact ⟨[],true,true,rfl,rfl,rfl,fun _=>rfl,fun h=>absurd (show (6:Int)=0 from h) (by decide)⟩
   | true=>
    cases hj:Ds x.Vars x.Res F with
    | false=>exact ⟨[],true,true,rfl,rfl,rfl,fun _=>rfl,fun h=>absurd (show (6:Int)=0 from h) (by decide)⟩
    | true=>
     obtain ⟨z,y,k0,i,hk⟩:=v2.1 rfl
     have k0:0<=K:=k0
     have i:K<=6:=i
     have B:=(f2.1 rfl).1
     rcases hk with ⟨_,s,g⟩ | ⟨h2,_⟩
     .rcases Vu E F (by omega) with ⟨_,_,L,c,N,M⟩ | ⟨_,c⟩
      .rw [g] at c
       have c:=Option.some.inj c
       unfold Pu at c
       by_cases hc:C4 ⟨E.Const+F.Const,L⟩=true
       .rw [if_pos hc] at c
        have k:s=⟨E.Const+F.Const,L⟩:=congrArg Prod.fst c
        subst k
        have S:=Ayt (vars:=x.Vars) (res:=x.Res) (a:=E) (b:=F) (s:=⟨E.Const+F.Const,L⟩) N M A hj
        have l:((K.toNat:Nat):Int)=K:=by omega
        obtain ⟨R,u,J⟩:=Ayu j B (K:=K.toNat) z y A hj (by omega) g hc S
        rw [l] at u
        refine ⟨R,true,true,?_,rfl,rfl,fun h=>absurd rfl h,fun _=>⟨B,k0,i,z,y,rfl,rfl,_,g,J⟩⟩
        have q:((1:Int)==2)=false:=rfl
        simp only [bnt,Ad,cond_false,Bool.and_self,q,u]
       .rw [if_neg hc] at c
        exact absurd (show (0:Int)=9 from congrArg Prod.snd c) (by decide)
      .rw [g] at c
       exact absurd (show (0:Int)=1 from congrArg Prod.snd (Option.some.inj c)) (by decide)
     .exact absurd (show (1:Int)=2 from h2) (by decide)
end Go.Ab
namespace Go.Ab
open Go
theorem Am1 (a b:Bf) (i:a.Terms.length+b.Terms.length<=12):H7 a b=H7 b a:=by
 rcases Vu a b i with ⟨_,_,L,c,g,f⟩ | ⟨h,c⟩
 .rcases Vu b a (by omega) with ⟨_,_,M,m1,m2,m3⟩ | ⟨h',m1⟩
  .have e:L=M:=g.ext m2 fun v=>by rw [f,m3]; omega
   rw [c,m1,e,Int.add_comm]
  .rename_i h1 h2
   rw [h1,h2] at h'; cases h'
 .rcases Vu b a (by omega) with ⟨h1,h2,_⟩ | ⟨h',m1⟩
  .rw [h1,h2] at h; cases h
  .rw [c,m1]
theorem Ayv {c:Int} {L:List Ba}:C4 ⟨c,L⟩=true↔(-1048576<=c/\c<=1048576/\L.length<=16)/\∀j t,L[j]? = some t->Me L t j=true:=by
 unfold C4
 simp only [Dq,decide_eq_true_eq,List.all_eq_true]
 constructor
 .rintro ⟨h1,h2⟩
  exact ⟨h1,fun j t hj=>h2 (t,j) (List.mk_mem_zipIdx_iff_getElem?.2 hj)⟩
 .rintro ⟨h1,h2⟩
  refine ⟨h1,?_⟩
  rintro ⟨t,j⟩ hq
  exact h2 j t (List.mk_mem_zipIdx_iff_getElem?.1 hq)
theorem Ayw {L:List Ba} {t:Ba} {j:Nat} (h:Me L t j=true):Me (L.map Gj) (Gj t) j=true:=by
 unfold Me at *
 simp only [Dq,decide_eq_true_eq] at *
 refine ⟨⟨h.1.1,h.1.2.1,by show -t.Coef≠0; have:=h.1.2.2.1; omega,by show _<=-t.Coef; have:=h.1.2.2.2.2; omega,by show -t.Coef<=_; have:=h.1.2.2.2.1; omega⟩,?_⟩
 have h2:=h.2
 unfold Nq at *
 rw [List.getElem?_map]
 cases b:L[j-1]? with
 | none=>rw [b] at h2; exact h2
 | some u=>rw [b] at h2; exact h2
theorem Ayx {c:Int} {L:List Ba} (h:C4 ⟨c,L⟩=true):C4 ⟨-c,L.map Gj⟩=true:=by
 rw [Ayv] at *
 obtain ⟨⟨h1,h2,h3⟩,f⟩:=h
 refine ⟨⟨by omega,by omega,by simpa using h3⟩,fun j t hj=>?_⟩
 rw [List.getElem?_map] at hj
 cases b:L[j]? with
 | none=>rw [b] at hj; cases hj
 | some u=>
  rw [b] at hj
  cases hj
  exact Ayw (f j u b)
theorem Ih.neg {L:List Ba} (h:Ih L):Ih (L.map Gj):=by
 refine ⟨?_,?_⟩
 .rw [List.pairwise_map]
  exact h.srt
 .intro t ht
  obtain ⟨u,hu,rfl⟩:=List.mem_map.1 ht
  have:=h.nz u hu
  show -u.Coef≠0
  omega
theorem Am2 {a b:Bf} (k:a.Terms.length+b.Terms.length<=12) (h:∃s,Ki a b=some (s,0)):∃s,Ki b a=some (s,0):=by
 obtain ⟨s,f⟩:=h
 rcases Aet a b k with ⟨ha,hb,L,c,j,i⟩ | ⟨_,c⟩
 .rcases Aet b a (by omega) with ⟨_,_,M,m1,m2,m3⟩ | ⟨h',m1⟩
  .have e:M=L.map Gj:=m2.ext j.neg fun v=>by rw [m3,Amp,i]; omega
   rw [f] at c
   have c:=Option.some.inj c
   unfold Pu at c
   by_cases hc:C4 ⟨a.Const-b.Const,L⟩=true
   .have g:=Ayx hc
    rw [show -(a.Const-b.Const)=b.Const-a.Const by omega,<-e] at g
    rw [m1]
    unfold Pu
    rw [if_pos g]
    exact ⟨_,rfl⟩
   .rw [if_neg hc] at c
    exact absurd (show (0:Int)=9 from congrArg Prod.snd c) (by decide)
  .rw [hb,ha] at h'; cases h'
 .rw [f] at c
  exact absurd (show (0:Int)=1 from congrArg Prod.snd (Option.some.inj c)) (by decide)
theorem Am3 {k:Int} {E F:Bf} {K:Int} {v w:Bool} (g:E.Terms.length+F.Terms.length<=12) (q:Jw ⟨k,E,F,K⟩=some v) (hw:Jw ⟨k,F,E,K⟩=some w):v=w:=by
 obtain ⟨u,j,v2⟩:=Z2 ⟨k,E,F,K⟩ g
 obtain ⟨w',i,l⟩:=Z2 ⟨k,F,E,K⟩ (by show F.Terms.length+E.Terms.length<=12; omega)
 rw [q] at j
 rw [hw] at i
 cases j
 cases i
 rw [Bool.eq_iff_iff,v2,l]
 have hc:=Am1 E F g
 constructor
 .rintro ⟨h1,h2,h3,h,c⟩
  refine ⟨h2,h1,h3,h,?_⟩
  rcases c with ⟨c,s,f⟩ | ⟨c,f⟩
  .exact .inl ⟨c,s,by show H7 F E=_; rw [<-hc]; exact f⟩
  .exact .inr ⟨c,Am2 g f⟩
 .rintro ⟨h1,h2,h3,h,c⟩
  refine ⟨h2,h1,h3,h,?_⟩
  rcases c with ⟨c,s,f⟩ | ⟨c,f⟩
  .exact .inl ⟨c,s,by show H7 E F=_; rw [hc]; exact f⟩
  .exact .inr ⟨c,Am2 (a:=F) (b:=E) (by omega) f⟩
theorem Sj (x:Bw) (v f:Bool) (E F:Bf):Jp x v f E F=Jp x v f F E:=by
 unfold Jp
 rw [Bool.and_comm (Ds x.Vars x.Res E)]
theorem Ayy:My [] []=some true:=Amr [] (by simp) (fun _ h=>by cases h)
theorem Ayz (x:Bw) (e f:Bf) (k:Int) (c:CSz x) (he:e.Terms.length<=1048576) (hf:f.Terms.length<=1048576):Xa x e f k=some true:=by
 unfold Xa
 rw [Ayj]
 unfold Xc
 simp only [Ad,bnt,cond_false]
 by_cases h1:(x.Data.length:Int)<=2
 .rw [Am h1,cond_true]
  by_cases h2:(x.Vars.length:Int)<=6
  .rw [Am h2]
   simp only [Ad,bnt,cond_false]
   by_cases h3:(e.Terms.length:Int)>4
   .rw [Am h3]; rfl
   .rw [As h3]
    by_cases z:(f.Terms.length:Int)>4
    .rw [Am z]; rfl
    .rw [As z]
     have i:e.Terms.length+f.Terms.length<=12:=by omega
     obtain ⟨P,h,f1,p1,p2,Z,Y,X⟩:=Am0 c e f k (by omega) (by omega)
     obtain ⟨Q,v2,f2,V,U,u,N,M⟩:=Am0 c f e k (by omega) (by omega)
     obtain ⟨R,v3,f3,L,J,q,I,G⟩:=Amq c e f k (by omega) (by omega)
     obtain ⟨S,v4,f4,E,D,l,B,A⟩:=Amq c f e k (by omega) (by omega)
     have ev:h=v2:=Am3 i p2 U
     have j:v3=v4:=Am3 i J D
     rw [Z] at u q l
     cases u
     cases q
     cases l
     subst ev
     subst j
     have b:My P Q=some true:=by
      by_cases h0:Jp x h f1 e f=0
      .obtain ⟨y,k0,k6,_,_,_,_,s,hs,i1⟩:=X h0
       obtain ⟨_,_,_,_,_,_,_,s',g,i2⟩:=M (by rw [Sj]; exact h0)
       rw [<-Am1 e f i,hs] at g
       cases g
       have:P=Q:=i1.ext i2 fun m=>Ayr x e f s k.toNat m
       rw [<-this]
       exact i1.alike (by decide) (by decide)
      .rw [Y h0,N (by rw [Sj]; exact h0)]
       exact Ayy
     simp only [Ad,cond_false,p1,V,L,E,Sj x h f1 f e,Sj x v3 f1 f e,bne_self_eq_false,b,bnt]
     by_cases h0:Jp x v3 f1 e f=0
     .rw [Ek h0,cond_false]
      obtain ⟨y,B1,C1,b1,c1,i1⟩:=G h0
      obtain ⟨_,B2,C2,b2,c2,i2⟩:=A (by rw [Sj]; exact h0)
      have e1:B1=C2:=b1.det c2 (List.Perm.refl _)
      have e2:C1=B2:=c1.det b2 (List.Perm.refl _)
      subst e1 e2
      obtain ⟨T,t1,t2⟩:=Ax7 c y i1 i2 (by decide) (by decide)
      have hT:T = []:=t2.ext (Aev x 0 0 (fun _=>0) fun _=>rfl) fun m=>by grind
      rw [t1,hT]; rfl
     .rw [Dx h0,cond_true,I h0,B (by rw [Sj]; exact h0)]
      rfl
  .rw [As h2]; rfl
 .rw [As h1]; rfl
end Go.Ab
