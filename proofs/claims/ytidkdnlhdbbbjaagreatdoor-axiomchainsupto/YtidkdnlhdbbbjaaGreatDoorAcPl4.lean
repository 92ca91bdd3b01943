/- Plain laws: what the plain functions answer. -/
import Derived.Test.YtidkdnlhdbbbjaaGreatDoorAcPl3
namespace Go.Ab
open Go
theorem Axj (a b:Bc):L1 a b=some (De a.Var b.Var):=by
 unfold L1
 rw [Lc]; rfl
theorem Nk {a b:Int}:De a b<0↔a<b:=by unfold De; split <;> (try split) <;> omega
theorem Axk:Mt (fun a b:Bc=>De a.Var b.Var) :=
 ⟨fun x h=>by have:=Nk.1 h; omega,fun x y z h1 h2=>by have:=Nk.1 h1; have:=Nk.1 h2; exact Nk.2 (by omega),fun x y z h1 h2 h=>by
  have:=Nk.1 h
  have:=mt Nk.2 h1
  have:=mt Nk.2 h2
  omega⟩
theorem Axl (c:List Bc) (g:c.length<=12):∃R,Ql c=some R/\R.Perm c/\R.Pairwise (fun a b=>a.Var<=b.Var):=by
 obtain ⟨R,h1,h2,h3⟩:=Alo (cmp:=L1) Axk c (fun x _ y _=>Axj x y) (by omega)
 obtain ⟨v,f⟩:=Ak6 (n:=c.length) (by omega)
 refine ⟨R,?_,h2,h3.imp fun {a b} h=>?_⟩
 .unfold Ql
  rw [Nat.ble_eq_true_of_le g,cond_true]
  unfold Ab0
  rw [f,Ae]
  have hp:Ty 0 (c.length:Int) v c=some R:=by
   unfold Ty
   have e:Xl 0 (c.length:Int) c=Vf L1 0 (c.length:Int) c:=rfl
   have w:Ac ((c.length:Int)-0)=(c.length:Int):=by rw [Ac,Bv] <;> omega
   refine bnd (a:=R) (Fg ?_) rfl
   rw [w,Am (by omega),cond_true,e,h1,Ae,Md h2.length_eq.symm]; rfl
  rw [hp,Ae,Md h2.length_eq.symm]; rfl
 .have:=mt Nk.2 h
  omega
def cl:List Bc->Int->Int
 | [],_=>0
 | t::l,v=>(if t.Var=v then t.Coef else 0)+cl l v
theorem R9 (l m:List Bc) (v:Int):cl (l++m) v=cl l v+cl m v:=by
 induction l with
 | nil=>simp [cl]
 | cons t l ih=>simp only [List.cons_append,cl,ih]; omega
theorem Axm {l m:List Bc} (h:l.Perm m) (v:Int):cl l v=cl m v:=by
 induction h with
 | nil=>rfl
 | cons t _ ih=>simp only [cl,ih]
 | swap a b l=>simp only [cl]; omega
 | trans _ _ h1 h2=>exact h1.trans h2
theorem Sa {l:List Bc} {v:Int} (h:∀t∈l,t.Var≠v):cl l v=0:=by
 induction l with
 | nil=>rfl
 | cons t l ih=>simp only [cl]; rw [if_neg (h t (by simp)),ih fun u hu=>h u (by simp [hu])]; rfl
structure Mf (L:List Bc):Prop where
 srt:L.Pairwise fun a b=>a.Var<b.Var
 nz:∀t∈L,t.Coef≠0
theorem Mf.ext:∀{L M:List Bc},Mf L->Mf M->(∀v,cl L v=cl M v)->L=M:=by
 intro L
 induction L with
 | nil=>
  intro M _ b h
  cases M with
  | nil=>rfl
  | cons t M=>
   have:=h t.Var
   simp only [cl,if_true] at this
   rw [Sa fun u hu=>by have:=(List.pairwise_cons.1 b.srt).1 u hu; omega] at this
   exact (b.nz t (by simp) (by omega)).elim
 | cons s L ih=>
  intro M c b h
  have g:cl (s::L) s.Var=s.Coef:=by
   simp only [cl,if_true]
   rw [Sa fun u hu=>by have:=(List.pairwise_cons.1 c.srt).1 u hu; omega]; omega
  cases M with
  | nil=>
   have:=h s.Var
   rw [g] at this
   exact (c.nz s (by simp) (by simpa [cl] using this)).elim
  | cons t M=>
   have ht:cl (t::M) t.Var=t.Coef:=by
    simp only [cl,if_true]
    rw [Sa fun u hu=>by have:=(List.pairwise_cons.1 b.srt).1 u hu; omega]; omega
   have f:s.Var=t.Var:=by
    rcases Int.lt_trichotomy s.Var t.Var with k | k | k
    .have h1:=h s.Var
     rw [g,Sa (l:=t::M) fun u hu=>by
      rcases List.mem_cons.1 hu with rfl | hu
      .omega
      .have:=(List.pairwise_cons.1 b.srt).1 u hu; omega] at h1
     exact (c.nz s (by simp) h1).elim
    .exact k
    .have h1:=h t.Var
     rw [ht,Sa (l:=s::L) fun u hu=>by
      rcases List.mem_cons.1 hu with rfl | hu
      .omega
      .have:=(List.pairwise_cons.1 c.srt).1 u hu; omega] at h1
     exact (b.nz t (by simp) h1.symm).elim
   have hc:s.Coef=t.Coef:=by rw [<-g,<-ht,h,f]
   have e:s=t:=by cases s; cases t; simp only at f hc; rw [f,hc]
   subst e
   rw [ih (M:=M) ⟨(List.pairwise_cons.1 c.srt).2,fun u hu=>c.nz u (by simp [hu])⟩ ⟨(List.pairwise_cons.1 b.srt).2,fun u hu=>b.nz u (by simp [hu])⟩ fun v=>by
    have:=h v
    simp only [cl] at this; omega]
noncomputable def Zr (r:List Bc) (f:Int):Int×Int->Option ((Int×Int)⊕(Int×Int)):=fun (v44,v45)=>
 (show Option Bool from
 bif (decide (v44<(r.length:Int))) then (
 (Ag r v44).bind fun v46=>
 some (v46.Var==f)
 )
 else (
 some false
 )
 ).bind fun c=>
 bif c then (
 (Ag r v44).bind fun b=>
 some (.inl ((Ac (v44+1)),(Ac (v45+b.Coef))))
 )
 else (
 some (.inr (v44,v45))
 )
def LBd (l:List Bc):Prop:=∀t∈l,-1099511627776<=t.Coef/\t.Coef<=1099511627776
theorem Axn {l:List Bc} (h:LBd l) (v:Int) : -(l.length*1099511627776:Int)<=cl l v/\cl l v<=(l.length*1099511627776:Int):=by
 induction l with
 | nil=>simp [cl]
 | cons t l ih=>
  have h1:=h t (by simp)
  have h2:=ih fun u hu=>h u (by simp [hu])
  simp only [cl,List.length_cons]
  split <;> omega
theorem Axo {r:List Bc} {k:Nat} {t:Bc} (hk:r[k]? = some t) (G:r.length<=1000) (hb:LBd r) :
  ∃n:Nat,Al (Zr r t.Var) ((k:Int),0)=some ((n:Int),cl ((r.take n).drop k) t.Var)/\k<n/\n<=r.length/\(∀u∈(r.take n).drop k,u.Var=t.Var)/\∀u,r[n]? = some u->u.Var≠t.Var:=by
 have x:=Ey hk
 obtain ⟨e,E,n,D,B⟩:=Lj (step:=Zr r t.Var) (fun s=>∃n:Nat,s=((n:Int),cl ((r.take n).drop k) t.Var)/\k<=n/\n<=r.length/\∀u∈(r.take n).drop k,u.Var=t.Var) (fun s=>r.length-s.1.toNat)
  (fun e=>∃n:Nat,e=((n:Int),cl ((r.take n).drop k) t.Var)/\k<n/\n<=r.length/\(∀u∈(r.take n).drop k,u.Var=t.Var)/\∀u,r[n]? = some u->u.Var≠t.Var) (by
  rintro _ ⟨j,rfl,y,g,c⟩
  unfold Zr
  rcases Nat.lt_or_ge j r.length with h | h
  .have hx:r[j]? = some r[j]:=Cp h
   have i:=List.getElem_mem h
   generalize r[j]=b at hx i
   have A:=hb b i
   have z:=Axn (l:=(r.take j).drop k) (fun u hu=>hb u (List.mem_of_mem_take (List.mem_of_mem_drop hu))) t.Var
   have q:((r.take j).drop k).length<=1000:=by simp; omega
   have hw:Ac (cl ((r.take j).drop k) t.Var+b.Coef)=cl ((r.take j).drop k) t.Var+b.Coef:=by
    have I:(((r.take j).drop k).length:Int)*1099511627776<=1000*1099511627776:=Int.mul_le_mul_of_nonneg_right (by omega) (by decide)
    rw [Ac,Bv] <;> omega
   have f:(r.take (j+1)).drop k=(r.take j).drop k++[b]:=by
    rw [D4 hx,List.drop_append_of_le_length (by simp; omega)]
   simp only [Am (by omega:(j:Int)<(r.length:Int)),cond_true,Ck rfl hx,Ae,Dv h (by omega),hw]
   by_cases hc:b.Var=t.Var
   .left
    rw [E8 hc]
    refine ⟨_,rfl,⟨j+1,?_,by omega,by omega,fun d hd=>?_⟩,by simp; omega⟩
    .rw [f,R9]
     simp [cl,hc]
    .rw [f] at hd
     rcases List.mem_append.1 hd with hd | hd
     .exact c d hd
     .simp only [List.mem_singleton] at hd
      rw [hd]; exact hc
   .right
    rw [C5 hc]
    refine ⟨_,rfl,j,rfl,?_,g,c,fun d hd=>by rw [hx] at hd; cases hd; exact hc⟩
    rcases Nat.lt_or_ge k j with h' | h'
    .exact h'
    .have:j=k:=by omega
     subst this
     rw [hk] at hx; cases hx
     exact (hc rfl).elim
  .right
   refine ⟨_,by simp only [Av (by omega:¬(j:Int)<(r.length:Int)),cond_false,Ae],j,rfl,by omega,g,c,fun d hd=>?_⟩
   have:=Ey hd
   omega) ((k:Int),0) ⟨k,by simp [cl],by omega,by omega,fun u hu=>by simp at hu⟩
 exact ⟨n,by rw [<-D]; exact E,B⟩
noncomputable def Aed (r:List Bc):Int×List Bc->Option ((Int×List Bc)⊕List Bc):=fun (v37,b)=>
 bif (decide (v37<((r.length:Nat):Int))) then (
 (Ag r v37).bind fun v39=>
 (Al (Zr r v39.Var) (v37,0)).bind fun (v49,v50)=>
 bif (v50 != (0:Int)) then (
 (Ce 16 b [(Bc.mk v39.Var v50)]).bind fun c=>
 some (.inl (v49,c))
 )
 else (
 some (.inl (v49,b))
 )
 )
 else (
 some (.inr b)
 )
theorem Axp {r:List Bc} (J:r.Pairwise fun a b=>a.Var<=b.Var) (M:r.length<=1000) (hb:LBd r):∃L,Al (Aed r) (0,[])=some L/\Mf L/\(∀v,cl L v=cl r v)/\L.length<=r.length:=by
 obtain ⟨L,S,R⟩:=Lj (step:=Aed r) (fun s=>∃(k:Nat) (L:List Bc),s=((k:Int),L)/\k<=r.length/\Mf L/\L.length<=k/\(∀v,cl L v=cl (r.take k) v)/\∀t∈L,∀u∈r.drop k,t.Var<u.Var) (fun s=>r.length-s.1.toNat)
  (fun L=>Mf L/\(∀v,cl L v=cl r v)/\L.length<=r.length) (by
  rintro _ ⟨k,L,rfl,hk,y,N,g,hd⟩
  unfold Aed
  rcases Nat.lt_or_ge k r.length with h | h
  .left
   have hx:r[k]? = some r[k]:=Cp h
   generalize r[k]=t at hx
   obtain ⟨n,I,G,D,n4,E⟩:=Axo hx M hb
   have c:r.take n=r.take k++(r.take n).drop k:=by
    have h:=(List.take_append_drop k (r.take n)).symm
    rwa [List.take_take,Nat.min_eq_left (by omega)] at h
   have x:∀v,v≠t.Var->cl ((r.take n).drop k) v=0:=fun v g=>Sa fun u hu e=>g (by rw [<-e,n4 u hu])
   have j:∀u∈r.drop n,u∈r.drop k:=fun u hu=>by
    have:r.drop n=(r.drop k).drop (n-k):=by rw [List.drop_drop]; congr 1; omega
    rw [this] at hu
    exact List.mem_of_mem_drop hu
   have A:t∈r.drop k:=by rw [I0 hx]; simp
   have f:∀u∈r.drop n,t.Var<u.Var:=by
    intro u hu
    rcases Nat.lt_or_ge n r.length with h' | h'
    .have hy:r[n]? = some r[n]:=Cp h'
     generalize r[n]=w at hy
     have hw:=E w hy
     have hp:=List.pairwise_append.1 (by rw [List.take_append_drop]; exact J:(r.take n++r.drop n).Pairwise fun a b=>a.Var<=b.Var)
     have B:t∈r.take n:=by
      rw [c]
      have:(r.take n).drop k=t::(r.take n).drop (k+1):=I0 (by rw [List.getElem?_take_of_lt G]; exact hx)
      rw [this]; simp
     have z:w∈r.drop n:=by rw [I0 hy]; simp
     have a1:=hp.2.2 t B w z
     have i:=hp.2.1
     rw [I0 hy] at i hu
     rcases List.mem_cons.1 hu with rfl | hu
     .omega
     .have:=(List.pairwise_cons.1 i).1 u hu; omega
    .rw [List.drop_eq_nil_of_le h'] at hu; cases hu
   simp only [Am (by omega:(k:Int)<(r.length:Int)),cond_true,Ck rfl hx,Ae,I]
   by_cases h0:cl ((r.take n).drop k) t.Var=0
   .refine ⟨((n:Int),L),?_,⟨n,L,rfl,D,y,by omega,fun v=>?_,fun a ha u hu=>hd a ha u (j u hu)⟩,by simp; omega⟩
    .rw [h0]; rfl
    .have q:cl (r.take n) v=cl (r.take k) v+cl ((r.take n).drop k) v:=(congrArg (fun l=>cl l v) c).trans (R9 _ _ _)
     rw [q,g]
     by_cases e:v=t.Var
     .rw [e,h0]; omega
     .rw [x v e]; omega
   .refine ⟨((n:Int),L++[⟨t.Var,cl ((r.take n).drop k) t.Var⟩]),?_,⟨n,_,rfl,D,⟨?_,?_⟩,by simp; omega,fun v=>?_,fun a ha u hu=>?_⟩,by simp; omega⟩
    .rw [Dq h0,cond_true,Ds (by simp; omega)]; rfl
    .refine List.pairwise_append.2 ⟨y.srt,List.pairwise_singleton _ _,fun a ha b hb=>?_⟩
     simp only [List.mem_singleton] at hb
     subst hb
     exact hd a ha t A
    .intro a ha
     rcases List.mem_append.1 ha with ha | ha
     .exact y.nz a ha
     .simp only [List.mem_singleton] at ha
      subst ha; exact h0
    .have q:cl (r.take n) v=cl (r.take k) v+cl ((r.take n).drop k) v:=(congrArg (fun l=>cl l v) c).trans (R9 _ _ _)
     rw [q,R9,g]
     simp only [cl]
     by_cases e:t.Var=v
     .rw [if_pos e,<-e]; omega
     .rw [if_neg e,x v (fun h=>e h.symm)]; omega
    .rcases List.mem_append.1 ha with ha | ha
     .exact hd a ha u (j u hu)
     .simp only [List.mem_singleton] at ha
      subst ha; exact f u hu
  .right
   have:k=r.length:=by omega
   subst this
   rw [List.take_length] at g
   exact ⟨L,by simp only [Av (by omega:¬(r.length:Int)<(r.length:Int)),cond_false],y,g,N⟩) (0,[]) ⟨0,[],rfl,by omega,⟨List.Pairwise.nil,fun _ h=>by cases h⟩,by simp,fun v=>by simp [cl],fun _ h=>by cases h⟩
 exact ⟨L,S,R⟩
def Zs (c:Int) (L:List Bc):Bn×Int:=if Dx ⟨c,L⟩=true then (⟨c,L⟩,0) else (⟨0,[]⟩,9)
theorem Al3 (c:Int) (ts:List Bc) (l:ts.length<=12) (hb:LBd ts):∃L,Qh c ts=some (Zs c L)/\Mf L/\∀v,cl L v=cl ts v:=by
 obtain ⟨R,h,b,g⟩:=Axl ts l
 obtain ⟨L,k,j,i,q⟩:=Axp g (by rw [b.length_eq]; omega) (fun t ht=>hb t (b.mem_iff.1 ht))
 refine ⟨L,?_,j,fun v=>by rw [i,Axm b]⟩
 unfold Qh
 have f:O1 ts=some ([],ts):=by
  unfold O1 Ln
  rw [Ds (by simp; omega)]; rfl
 rw [f,Ae]
 dsimp only
 rw [h,Ae,Md b.length_eq.symm,Ae,<-b.length_eq]
 refine bnd k ?_
 rw [Ld,Ae]
 unfold Zs
 cases Dx ⟨c,L⟩ <;> rfl
end Go.Ab
namespace Go.Ab
open Go
theorem Axq {x:Ci} {k:Nat} {ts:List Aj} (h:Col k (G6 x) ts) (hk:k<34359738000) (q:ts.length<=1000) (s:∀m,∃z:Int,cf ts m=(z:Rat)):∃R,Jp (plc ts) ts=some (R,0)/\IP x ts.length (k+2) (cf ts) R:=by
 obtain ⟨R,j,b,f,c,i⟩:=Ak7 (P:=G6 x) (fun m h=>h.cmo) (plc ts) ts h (by omega) q (fun g _ h2 h3=>Ale g h2 h3)
 refine ⟨R,j,b,f,fun t ht=>(c t ht).1,i,fun t ht=>?_⟩
 obtain ⟨z,l⟩:=s t.Mono
 have e:rq t.Coef=(z:Rat):=by rw [<-Ado b ht,f,l]
 exact ⟨z,e,Axg (b.coe t ht).1 e (c t ht).2⟩
theorem IsE.good {x:Ci} {A:List A9} {B:List Ent} (h:IsE A B) (i:Atk A) (g:∀a∈A,F7 x.Vars x.Res a.Lin=true) (k:C8 A<=6):∀b∈B,G6 x ⟨[],b.1⟩:=by
 obtain ⟨gs,l,c,j,f,rfl⟩:=h
 intro b hb
 obtain ⟨h1,h2⟩:=Axe (vars:=x.Vars) (res:=x.Res) f (fun a ha=>⟨i.lin a (c.mem_iff.1 ha),g a (c.mem_iff.1 ha)⟩) [([],1)] 0 (fun b hb=>by
  simp only [List.mem_singleton] at hb
  subst hb
  exact ⟨⟨List.Pairwise.nil,fun _ h=>by cases h⟩,by simp [Dy],fun _ h=>by cases h⟩) b hb
 refine Axf h1 ?_
 rw [Zl c] at h2
 omega
theorem Axr {B:List Ent} {m:Bh}:∃z:Int,(1:Rat)*(ec B m:Rat)=(z:Rat):=⟨(ec B m:Int),by rw [Rat.intCast_natCast]; grind⟩
theorem Axs {x:Ci} {A:List A9} (D:Atk A) (y:C8 A<=6) (S:∀a∈A,F7 x.Vars x.Res a.Lin=true) (b1:List (ByteArray×Int)) (b2:List (ByteArray×List Dh)) (u s:Int) (q:List Ai) :
  ∃R B,Tc ⟨[],A⟩ b1 b2 x.Data x.Vars u s q=some (R,0)/\IsE A B/\IP x 64 200000 (fun m=>(ec B m:Rat)) R:=by
 have f:rq (cR 1)=1:=by rw [Alh]; rfl
 obtain ⟨out,B,V,G,E,U⟩:=Axc (c:=cR 1) (K:=3) (A:=A) ((Alb (k:=1) (by rw [O4]; decide) (by decide)).mono (by decide)) (by decide) (by rw [f]; decide) D b1 b2 x.Data x.Vars u s q
 have M:out.length<=64:=Nat.le_trans U (Nat.le_trans (Nat.pow_le_pow_right (by decide) y) (by decide))
 have N:=G.good D S y
 obtain ⟨v,J,v2,v3,v4⟩:=U8 (k0:=2427) (k:=2427) (P:=G6 x) (fun m h=>h.cmo) out [] (Col.nil _ _) (fun t ht=>by
  obtain ⟨b,hb,l,_,j⟩:=E.mem ht
  exact ⟨j,by rw [l]; exact N b hb⟩) (Nat.le_refl _) (by omega) (by simp; omega)
 simp at v3
 have i:∀m,cf v m=1*(ec B m:Rat):=fun m=>by rw [v4,E.cf,f]; simp only [cf]; grind
 obtain ⟨R,L,g⟩:=Axq (x:=x) v2 (by omega) (by omega) (fun m=>by rw [i]; exact Axr)
 refine ⟨R,B,?_,G,g.cp,fun m=>by rw [g.val,i]; grind,g.mo,by have:=g.len; omega,fun t ht=>by
  obtain ⟨z,I,z2⟩:=g.int t ht
  exact ⟨z,I,by omega⟩⟩
 unfold Tc
 rw [Zi,Ae,V,Ae]
 simp only [bne_self_eq_false,cond_false,Ka,Ae]
 rw [show H5 out [] []=some (plc v,v) from J,Ae,L]; rfl
theorem Axt {l:Bn} {k:Int} (b:Dx l=true) (h0:0<=k) (c:k<=6):Atk [⟨l,k⟩]/\C8 [(⟨l,k⟩:A9)]<=6:=by
 have hd:C8 [(⟨l,k⟩:A9)]=k.toNat:=by simp [C8]
 exact ⟨⟨fun a ha=>by simp only [List.mem_singleton] at ha; subst ha; exact h0,fun a ha=>by simp only [List.mem_singleton] at ha; subst ha; exact b,by omega,by simp⟩,by omega⟩
theorem Al4 {x:Ci} (j:CSz x) (q:Gq x) {l:Bn} {k:Int} (b:Dx l=true) (h0:0<=k) (s:k<=6) (c:F7 x.Vars x.Res l=true) :
  ∃R B,Lt x l k=some (R,0)/\IsE [⟨l,k⟩] B/\IP x 64 200000 (fun m=>(ec B m:Rat)) R:=by
 obtain ⟨f,hb,_⟩:=Av8 j (ps:=[]) (fun p hp=>by cases hp) (by simp) ⟨q,fun p hp=>by cases hp⟩
 obtain ⟨a1,a2⟩:=Axt b h0 s
 obtain ⟨R,B,i,h,g⟩:=Axs (x:=x) a1 a2 (fun a ha=>by simp only [List.mem_singleton] at ha; subst ha; exact c) f [] x.Res.Kind x.Res.Num x.Res.Args
 refine ⟨R,B,?_,h,g⟩
 unfold Lt
 rw [hb]
 simp only [Ae,bnt,cond_false,Ld,b,Av (by omega:¬k<0),Av (by omega:¬k>6)]
 rw [Aj2 f [] x.Data x.Vars x.Res l (by have:=(Me b).1; omega),Ae,c]
 simp only [bnt,cond_false,i,Ae]
theorem Al5 (x:Ci) (l:Bn) (k:l.Terms.length<=1048576) (i:x.Vars.length<=1048576):Qf x l=some (F7 x.Vars x.Res l):=by
 unfold Qf
 have f:F7 x.Vars x.Res l=l.Terms.zipIdx.all (fun q=>Lf x.Vars x.Res q.1):=by
  unfold F7
  rw [Bool.eq_iff_iff,List.all_eq_true,List.all_eq_true]
  constructor
  .rintro h ⟨a,j⟩ hq
   exact h a (Cv (List.mk_mem_zipIdx_iff_getElem?.1 hq))
  .intro h a ha
   obtain ⟨j,hj⟩:=List.getElem?_of_mem ha
   exact h (a,j) (List.mk_mem_zipIdx_iff_getElem?.2 hj)
 rw [f]
 refine (Ul l.Terms (fun q=>Lf x.Vars x.Res q.1) (fun j=>(j:Int)) rfl (by omega) (rt:=true) (rf:=false) ?_ ?_).trans (by rw [Yg])
 .intro j t ht _ h1 h2 h3
  simp only [h1,h2,h3,cond_true,Ae]
  by_cases e:t.Var = -1
  .rw [E8 e,cond_true]
   have:Lf x.Vars x.Res t=(x.Res.Kind==1):=by unfold Lf tyX; rw [if_pos e]
   rw [this]
   by_cases hk:x.Res.Kind=1
   .rw [D3 hk,E8 hk]
    exact ⟨fun _=>rfl,fun h=>by cases h⟩
   .rw [Dq hk,C5 hk]
    exact ⟨(fun h=>by cases h),fun _=>⟨.inl false,rfl,rfl⟩⟩
  .rw [C5 e,cond_false]
   have b:Lf x.Vars x.Res t=(match Ag x.Vars t.Var with | some u=>u.Kind==1 | none=>false):=by unfold Lf tyX; rw [if_neg e]; cases Ag x.Vars t.Var <;> rfl
   rw [b]
   by_cases c:t.Var<0
   .rw [Am c,Ah0 (.inl c)]
    exact ⟨(fun h=>by cases h),fun _=>⟨.inl false,rfl,rfl⟩⟩
   .rw [Av c,cond_false]
    by_cases g:(x.Vars.length:Int)<=t.Var
    .rw [Am (by omega),Ah0 (.inr g)]
     exact ⟨(fun h=>by cases h),fun _=>⟨.inl false,rfl,rfl⟩⟩
    .rw [Av (by omega),cond_false]
     have hx:x.Vars[t.Var.toNat]? = some x.Vars[t.Var.toNat]:=Cp (by omega)
     generalize x.Vars[t.Var.toNat]'(by omega)=u at hx
     rw [Ck (n:=t.Var.toNat) (by omega) hx]
     simp only [Ae]
     by_cases hk:u.Kind=1
     .rw [D3 hk,E8 hk]
      exact ⟨fun _=>rfl,fun h=>by cases h⟩
     .rw [Dq hk,C5 hk]
      exact ⟨(fun h=>by cases h),fun _=>⟨.inl false,rfl,rfl⟩⟩
 .intro h _
  exact ⟨.inr (),by simp only [h]; rfl,rfl⟩
end Go.Ab
namespace Go.Ab
open Go
theorem Vl {a:Bn} (h:Dx a=true):∀t∈a.Terms,-1048576<=t.Coef/\t.Coef<=1048576:=by
 intro t ht
 obtain ⟨j,hj⟩:=List.getElem?_of_mem ht
 unfold Dx at h
 rw [bae,List.all_eq_true] at h
 have:=h.2 (t,j) (List.mk_mem_zipIdx_iff_getElem?.2 hj)
 unfold Uy at this
 simp only [bae,decide_eq_true_eq] at this
 exact ⟨this.1.2.2.2.1,this.1.2.2.2.2⟩
theorem Al6 (a b:List Bc) (h:a.length+b.length<=1000000):S9 [a,b]=some (a++b) :=
 Ad7 (B:=16) (by decide) (gr:=Xa) (fun n h=>Aea n h) a b h
def Ie (t:Bc):Bc:=⟨t.Var,-t.Coef⟩
theorem Axu (l:List Bc) (v:Int):cl (l.map Ie) v = - cl l v:=by
 induction l with
 | nil=>rfl
 | cons t l ih=>
  simp only [List.map_cons,cl,ih,Ie]
  split <;> omega
theorem Axv (ts:List Bc) (l:ts.length<=1000) (hb:∀t∈ts,-1048576<=t.Coef/\t.Coef<=1048576):Ta ts (-1)=some (ts.map Ie):=by
 unfold Ta
 have f:O1 ts=some ([],ts):=by
  unfold O1 Ln
  rw [Ds (by simp; omega)]; rfl
 rw [f,Ae]
 dsimp only
 refine Ho ts.length (fun j=>((j:Int),(ts.take j).map Ie++ts.drop j)) (by simp) ?_ ⟨ts.map Ie,?_,rfl⟩
 .intro j hj
  have hx:ts[j]? = some ts[j]:=Cp hj
  have g:=List.getElem_mem hj
  generalize ts[j]=t at hx g
  have i:=hb t g
  have e:(ts.take j).map Ie++ts.drop j=(ts.take j).map Ie++t::ts.drop (j+1):=by rw [I0 hx]
  have b:((ts.take j).map Ie).length=j:=by simp; omega
  have k:Ag ((ts.take j).map Ie++ts.drop j) (j:Int)=some t:=by
   refine Ck rfl ?_
   rw [e]
   have:=Ad6 ((ts.take j).map Ie) (ts.drop (j+1)) t
   rwa [b] at this
  have hw:Ac (t.Coef * -1) = -t.Coef:=by rw [Ac,Bv] <;> omega
  have c:Cf ((ts.take j).map Ie++ts.drop j) (j:Int) (⟨t.Var,-t.Coef⟩:Bc)=(ts.take (j+1)).map Ie++ts.drop (j+1):=by
   rw [E7 (n:=j) rfl,e,D4 hx,List.map_append,List.append_assoc]
   have:∀(A R:List Bc) (x y:Bc),(A++x::R).set A.length y=A++y::R:=by
    intro A R x y
    induction A with
    | nil=>rfl
    | cons a A ih=>simp only [List.cons_append,List.length_cons,List.set_cons_succ,ih]
   have h:=this ((ts.take j).map Ie) (ts.drop (j+1)) t ⟨t.Var,-t.Coef⟩
   rw [b] at h
   rw [h]; rfl
  simp only [Am (by omega:(j:Int)<((ts.length:Nat):Int)),cond_true,k,Ae,Dv hj (by omega),hw,c]
 .simp
theorem Axw (a b:Bn) (h:a.Terms.length+b.Terms.length<=12) :
  (Dx a=true/\Dx b=true/\∃L,Lp a b=some (Zs (a.Const+b.Const) L)/\Mf L/\∀v,cl L v=cl a.Terms v+cl b.Terms v)\/((Dx a&&Dx b)=false/\Lp a b=some (⟨0,[]⟩,1)):=by
 unfold Lp
 rw [Ld,Ld]
 cases ha:Dx a with
 | false=>exact .inr ⟨rfl,rfl⟩
 | true=>
  cases hb:Dx b with
  | false=>exact .inr ⟨rfl,rfl⟩
  | true=>
   left
   have h1:=Me ha
   have h2:=Me hb
   obtain ⟨L,g,f,c⟩:=Al3 (a.Const+b.Const) (a.Terms++b.Terms) (by simp; omega) (fun t ht=>by
    rcases List.mem_append.1 ht with ht | ht
    .have:=Vl ha t ht; omega
    .have:=Vl hb t ht; omega)
   refine ⟨rfl,rfl,L,?_,f,fun v=>by rw [c,R9]⟩
   have w:Ac (a.Const+b.Const)=a.Const+b.Const:=by rw [Ac,Bv] <;> omega
   simp only [Ae,bnt,cond_false,Al6 a.Terms b.Terms (by omega),w,g]
theorem Axx (a b:Bn) (h:a.Terms.length+b.Terms.length<=12) :
  (Dx a=true/\Dx b=true/\∃L,Lq a b=some (Zs (a.Const-b.Const) L)/\Mf L/\∀v,cl L v=cl a.Terms v-cl b.Terms v)\/((Dx a&&Dx b)=false/\Lq a b=some (⟨0,[]⟩,1)):=by
 unfold Lq
 rw [Ld,Ld]
 cases ha:Dx a with
 | false=>exact .inr ⟨rfl,rfl⟩
 | true=>
  cases hb:Dx b with
  | false=>exact .inr ⟨rfl,rfl⟩
  | true=>
   left
   have h1:=Me ha
   have h2:=Me hb
   obtain ⟨L,g,f,c⟩:=Al3 (a.Const-b.Const) (a.Terms++b.Terms.map Ie) (by simp; omega) (fun t ht=>by
    rcases List.mem_append.1 ht with ht | ht
    .have:=Vl ha t ht; omega
    .obtain ⟨u,hu,rfl⟩:=List.mem_map.1 ht
     have:=Vl hb u hu
     show _<=-u.Coef/\-u.Coef<=_
     omega)
   refine ⟨rfl,rfl,L,?_,f,fun v=>by rw [c,R9,Axu]; omega⟩
   have w:Ac (a.Const-b.Const)=a.Const-b.Const:=by rw [Ac,Bv] <;> omega
   simp only [Ae,bnt,cond_false,Axv b.Terms (by omega) (Vl hb),Al6 a.Terms (b.Terms.map Ie) (by simp; omega),w,g]
theorem Axy (a b:Bn) (c:a.Terms.length+b.Terms.length<=12):∃r,Lp a b=some r:=by
 rcases Axw a b c with ⟨_,_,L,h,_⟩ | ⟨_,h⟩ <;> exact ⟨_,h⟩
theorem Axz (a b:Bn) (c:a.Terms.length+b.Terms.length<=12):∃r,Lq a b=some r:=by
 rcases Axx a b c with ⟨_,_,L,h,_⟩ | ⟨_,h⟩ <;> exact ⟨_,h⟩
theorem Ax0 (a:Gd) (j:a.E.Terms.length+a.F.Terms.length<=12):∃b,Lo a=some b/\(b=true↔Dx a.E=true/\Dx a.F=true/\0<=a.K/\a.K<=6/\((a.Kind=1/\∃s,Lp a.E a.F=some (s,0))\/(a.Kind=2/\∃s,Lq a.E a.F=some (s,0)))):=by
 obtain ⟨r,l⟩:=Axy a.E a.F j
 obtain ⟨q,hq⟩:=Axz a.E a.F j
 unfold Lo
 rw [Ld,Ld,l,hq]
 cases x:Dx a.E with
 | false=>exact ⟨false,rfl,by simp⟩
 | true=>
  cases u:Dx a.F with
  | false=>exact ⟨false,rfl,by simp⟩
  | true=>
   simp only [Ae,bnt,cond_false]
   by_cases h0:0<=a.K
   .rw [Av (by omega)]
    by_cases k:a.K<=6
    .rw [Av (by omega)]
     simp only [cond_false,Ae]
     by_cases f:a.Kind=1
     .rw [E8 f,cond_true]
      refine ⟨_,rfl,?_⟩
      constructor
      .intro h
       have h:=of_decide_eq_true (by simpa using h:decide (r.2=0)=true)
       exact ⟨trivial,trivial,h0,k,.inl ⟨f,r.1,by rw [<-h]⟩⟩
      .rintro ⟨_,_,_,_,⟨_,s,i⟩ | ⟨c,_⟩⟩
       .cases i; rfl
       .omega
     .rw [C5 f,cond_false]
      by_cases c:a.Kind=2
      .rw [E8 c,cond_true]
       refine ⟨_,rfl,?_⟩
       constructor
       .intro h
        have h:=of_decide_eq_true (by simpa using h:decide (q.2=0)=true)
        exact ⟨trivial,trivial,h0,k,.inr ⟨c,q.1,by rw [<-h]⟩⟩
       .rintro ⟨_,_,_,_,⟨g,_⟩ | ⟨_,s,i⟩⟩
        .exact (f g).elim
        .cases i; rfl
      .rw [C5 c,cond_false]
       exact ⟨false,rfl,by simp [f,c]⟩
    .rw [Am (by omega)]
     exact ⟨false,rfl,by simp; omega⟩
   .rw [Am (by omega)]
    exact ⟨false,rfl,by simp; omega⟩
noncomputable def Pm (x:Ci) (v f:Bool) (E F:Bn):Int:=bif !(v&&f) then 1 else bif !(F7 x.Vars x.Res E&&F7 x.Vars x.Res F) then 6 else 0
theorem Aee {x:Ci} (b:CSz x) (E F:Bn) (K:Int) (U:E.Terms.length<=6) (S:F.Terms.length<=6) :
  ∃R v f,Mu x ⟨2,E,F,K⟩=some (R,Pm x v f E F)/\Lo ⟨2,E,F,K⟩=some v/\Qd x []=some f/\(Pm x v f E F≠0->R = []) /\
   (Pm x v f E F=0->Gq x/\∃B C,IsE [⟨E,K⟩] B/\IsE [⟨F,K⟩] C/\IP x 128 200001 (fun m=>(ec B m:Rat)-(ec C m:Rat)) R):=by
 obtain ⟨v,i,v2⟩:=Ax0 ⟨2,E,F,K⟩ (by show E.Terms.length+F.Terms.length<=12; omega)
 obtain ⟨f,f1,f2⟩:=Aul x b [] (fun t ht=>by cases ht)
 have M:=b.nv
 have q:=Al5 x E (by omega) (by omega)
 have j:=Al5 x F (by omega) (by omega)
 unfold Mu
 rw [i,f1,q,j]
 unfold Pm
 cases v with
 | false=>exact ⟨[],false,f,rfl,rfl,rfl,fun _=>rfl,fun h=>absurd (show (1:Int)=0 from h) (by decide)⟩
 | true=>
  cases f with
  | false=>exact ⟨[],true,false,rfl,rfl,rfl,fun _=>rfl,fun h=>absurd (show (1:Int)=0 from h) (by decide)⟩
  | true=>
   cases N:F7 x.Vars x.Res E with
   | false=>exact ⟨[],true,true,rfl,rfl,rfl,fun _=>rfl,fun h=>absurd (show (6:Int)=0 from h) (by decide)⟩
   | true=>
    cases hj:F7 x.Vars x.Res F with
    | false=>exact ⟨[],true,true,rfl,rfl,rfl,fun _=>rfl,fun h=>absurd (show (6:Int)=0 from h) (by decide)⟩
    | true=>
     obtain ⟨L,J,k0,g,_⟩:=v2.1 rfl
     have c:=(f2.1 rfl).1
     obtain ⟨P,B,I,G,D⟩:=Al4 b c (l:=E) (k:=K) L k0 g N
     obtain ⟨Q,C,A,z,y⟩:=Al4 b c (l:=F) (k:=K) J k0 g hj
     obtain ⟨R,u,s⟩:=Axh b c D y (by decide) (by decide)
     refine ⟨R,true,true,?_,rfl,rfl,fun h=>absurd rfl h,fun _=>⟨c,B,C,G,z,s⟩⟩
     simp only [bnt,Ae,cond_false,Bool.and_self,beq_self_eq_true,cond_true]
     unfold W4
     simp only [I,A,u,Ae,bne_self_eq_false,cond_false]
theorem Ax1 (p:List Aj) (b:p.length<=1000) (h:∀t∈p,MSz t.Mono/\RB 2000000 t.Coef):Qa p p=some true:=by
 unfold Qa
 rw [bne_self_eq_false,cond_false]
 refine Iv p (fun j=>(j:Int)) rfl (by omega) ?_ ?_
 .intro j t hj hx h1 h2 h3
  obtain ⟨m1,m2⟩:=h t (Cv hx)
  simp only [h1,h2,h3,cond_true,Ae,At4 _ _ m1,Adl,bne_self_eq_false,cond_false,Asf _ _ m2 (by decide)]
 .intro h
  exact ⟨.inr (),by simp only [h]; rfl,rfl⟩
theorem IP.alike {x:Ci} {n L:Nat} {f:Bh->Rat} {R:List Aj} (h:IP x n L f R) (c:n<=1000) (g:L<=1000000):Qa R R=some true :=
 Ax1 R (by have:=h.len; omega) fun t ht=>⟨(h.mo t ht).2,by
  obtain ⟨z,b,z2⟩:=h.int t ht
  exact (Al1 (h.cp.coe t ht).1 b z2).mono (by omega)⟩
end Go.Ab
namespace Go.Ab
open Go
theorem Ax2:W2=some true:=by kernel_rfl
theorem Ax3 (x:Ci) (e f g:Bn) (k:Int) (b:CSz x) (he:e.Terms.length<=1048576) (hf:f.Terms.length<=1048576) (hg:g.Terms.length<=1048576):W1 x e f g k=some true:=by
 unfold W1
 rw [Ax2]
 unfold W3
 have B:=b.nv
 simp only [Ae,bnt,cond_false]
 by_cases h1:(x.Data.length:Int)<=2
 .rw [Am h1,cond_true]
  by_cases h2:(x.Vars.length:Int)<=6
  .rw [Am h2]
   simp only [Ae,bnt,cond_false]
   by_cases h3:(e.Terms.length:Int)>3
   .rw [Am h3]; rfl
   .rw [Av h3]
    by_cases i:(f.Terms.length:Int)>3
    .rw [Am i]; rfl
    .rw [Av i]
     by_cases h:(g.Terms.length:Int)>3
     .rw [Am h]; rfl
     .rw [Av h]
      obtain ⟨P,j,f1,A,_,_,p4,z⟩:=Aee b e f k (by omega) (by omega)
      obtain ⟨Q,v2,f2,y,_,_,q4,u⟩:=Aee b f g k (by omega) (by omega)
      obtain ⟨R,v3,f3,s,_,_,r4,q⟩:=Aee b e g k (by omega) (by omega)
      simp only [Ae,cond_false,A,y,s]
      by_cases a1:Pm x j f1 e f=0
      .by_cases a2:Pm x v2 f2 f g=0
       .by_cases a3:Pm x v3 f3 e g=0
        .rw [D3 a1,D3 a2,D3 a3]
         simp only [cond_false,Ae]
         obtain ⟨E,B1,Y,b1,N,i1⟩:=z a1
         obtain ⟨_,B2,X,b2,M,i2⟩:=u a2
         obtain ⟨_,Z,V,U,L,i3⟩:=q a3
         obtain ⟨S,l,c⟩:=Axi b E i1 i2 (by decide) (by decide)
         have J:B1=Z:=b1.det U (List.Perm.refl _)
         have I:Y=B2:=N.det b2 (List.Perm.refl _)
         have G:X=V:=M.det L (List.Perm.refl _)
         subst J I G
         have D:S=R:=c.ext i3 fun m=>by grind
         subst D
         rw [l]
         simp only [Ae,beq_self_eq_true,cond_true,c.alike (by decide) (by decide)]
        .rw [D3 a1,D3 a2,Dq a3]; rfl
       .rw [D3 a1,Dq a2]; rfl
      .rw [Dq a1]; rfl
  .rw [Av h2]; rfl
 .rw [Av h1]; rfl
end Go.Ab
