/- Plain laws: what the plain functions answer. -/
import Derived.Test.YtpedagkdpokpkaaGreatDoorAkPl1
namespace Go.Ab
open Go
theorem Ao9 (d x N:Nat) (f:Nat->Nat):∀M,(∀a,a<M->a+d<N)->sm N (fun k=>Kw M d f k*bc x k)=sm M (fun a=>f a*bc x a)*bc x d:=by
 intro M
 induction M with
 | zero=>intro _; rw [Ux (fun k _=>by simp [Kw,sm])]; simp [sm]
 | succ M ih=>
  intro h
  have e:∀k,Kw (M+1) d f k*bc x k=Kw M d f k*bc x k+f M*(Rc M d k*bc x k):=fun k=>by
   show (Kw M d f k+f M*Rc M d k)*bc x k=_
   rw [Nat.add_mul,Nat.mul_assoc]
  rw [Uw (fun k _=>e k),Qy,ih (fun a ha=>h a (by omega)),Af3,Qz x M d N (h M (by omega))]
  show _=(sm M (fun a=>f a*bc x a)+f M*bc x M)*bc x d
  rw [Nat.add_mul,Nat.mul_assoc (f M)]
def prb (x:Nat):List B5->Nat
 | []=>1
 | a::l=>bc x a.Deg.toNat*prb x l
def Jv:List B5->Nat
 | []=>0
 | a::l=>a.Deg.toNat+Jv l
theorem Apa (x:Nat) (l m:List B5):prb x (l++m)=prb x l*prb x m:=by
 induction l with
 | nil=>simp [prb]
 | cons a l ih=>simp only [List.cons_append,prb,ih,Nat.mul_assoc]
theorem Af8 (l m:List B5):Jv (l++m)=Jv l+Jv m:=by
 induction l with
 | nil=>simp [Jv]
 | cons a l ih=>simp only [List.cons_append,Jv,ih,Nat.add_assoc]
def PwN (l:List B5) (N:Nat) (f:Nat->Nat):Prop:=N=Jv l/\f N≠0/\∀x,sm (N+1) (fun k=>f k*bc x k)=prb x l
theorem PwN.le {l:List B5} {N:Nat} {f:Nat->Nat} (h:PwN l N f) {k:Nat} (hk:k<N+1):f k<=prb k l:=by
 have h1:=h.2.2 k
 have h2:f k*bc k k<=sm (N+1) (fun j=>f j*bc k j):=by
  have:∀n,k<n->f k*bc k k<=sm n (fun j=>f j*bc k j):=by
   intro n
   induction n with
   | zero=>intro h; omega
   | succ n ih=>
    intro h
    show _<=sm n _+f n*bc k n
    rcases Nat.lt_or_ge k n with h' | h'
    .have:=ih h'; omega
    .have:k=n:=by omega
     subst this; omega
  exact this _ hk
 rw [Od,Nat.mul_one] at h2
 omega
theorem PwN.step {l:List B5} {N:Nat} {f:Nat->Nat} (h:PwN l N f) (a:B5):PwN (l++[a]) (N+a.Deg.toNat) (Kw (N+1) a.Deg.toNat f):=by
 refine ⟨by rw [Af8,h.1]; simp [Jv],?_,fun x=>?_⟩
 .have e:Kw (N+1) a.Deg.toNat f (N+a.Deg.toNat)=Kw N a.Deg.toNat f (N+a.Deg.toNat)+f N*Rc N a.Deg.toNat (N+a.Deg.toNat):=rfl
  have:=Nat.mul_pos (Nat.pos_of_ne_zero h.2.1) (Ao8 N a.Deg.toNat)
  omega
 .rw [Ao9 _ x _ f (N+1) (fun b ha=>by omega),h.2.2 x,Apa]
  simp [prb]
end Go.Ab
namespace Go.Ab
open Go
theorem Apb {α:Type} (n:Nat) (h:n<=1000000):Ix (α:=α) (n:Int)=some []:=by
 unfold Ix
 rw [Ba (by omega),Ba (by omega)]; rfl
abbrev Ent:=List B5×Nat
inductive Rep (c:Rat) (K:Nat):List Az->List Ent->Prop
 | nil:Rep c K [] []
 | cons {t:Az} {b:Ent} {ts:List Az} {bs:List Ent}:t.Mono=⟨[],b.1⟩->rq t.Coef=c*(b.2:Rat)->RB K t.Coef->Rep c K ts bs->Rep c K (t::ts) (b::bs)
theorem Rep.len {c:Rat} {K:Nat} {b:List Az} {bs:List Ent} (h:Rep c K b bs):b.length=bs.length:=by
 induction h with
 | nil=>rfl
 | cons _ _ _ _ ih=>simp [ih]
theorem Rep.app {c:Rat} {K:Nat} {g f:List Az} {bs cs:List Ent} (h:Rep c K g bs) (h':Rep c K f cs):Rep c K (g++f) (bs++cs):=by
 induction h with
 | nil=>exact h'
 | cons a b d _ ih=>exact .cons a b d ih
theorem Rep.mono {c:Rat} {K g:Nat} {f:List Az} {bs:List Ent} (h:Rep c K f bs) (hk:K<=g):Rep c g f bs:=by
 induction h with
 | nil=>exact .nil
 | cons a b d _ ih=>exact .cons a b (d.mono hk) ih
theorem Rep.get {c:Rat} {K:Nat} {f:List Az} {bs:List Ent} (h:Rep c K f bs):∀{j:Nat} {t:Az},f[j]? = some t->∃b,bs[j]? = some b/\t.Mono=⟨[],b.1⟩/\rq t.Coef=c*(b.2:Rat)/\RB K t.Coef:=by
 induction h with
 | nil=>intro j t h; simp at h
 | @cons t b f bs a1 a2 a3 _ ih=>
  intro j u hj
  cases j with
  | zero=>
   simp only [List.getElem?_cons_zero,Option.some.injEq] at hj
   subst hj
   exact ⟨b,rfl,a1,a2,a3⟩
  | succ j=>
   simp only [List.getElem?_cons_succ] at hj
   simpa using ih hj
end Go.Ab
namespace Go.Ab
open Go
structure Atk (A:List B5):Prop where
 deg:∀a∈A,0<=a.Deg
 lin:∀a∈A,Cd a.Lin=true
 sum:Jv A<=12
 len:A.length<=12
theorem Gf {a:Ao} (h:Cd a=true):a.Terms.length<=16/\-1048576<=a.Const/\a.Const<=1048576:=by
 unfold Cd at h
 simp only [bae,decide_eq_true_eq] at h
 exact ⟨h.1.2.2,h.1.1,h.1.2.1⟩
theorem Atk.sub {A B:List B5} (h:Atk (A++B)):Atk A/\Atk B:=by
 have h1:=h.sum
 have h2:=h.len
 rw [Af8] at h1
 rw [List.length_append] at h2
 exact ⟨⟨fun a ha=>h.deg a (by simp [ha]),fun a ha=>h.lin a (by simp [ha]),by omega,by omega⟩,⟨fun a ha=>h.deg a (by simp [ha]),fun a ha=>h.lin a (by simp [ha]),by omega,by omega⟩⟩
end Go.Ab
namespace Go.Ab
open Go
end Go.Ab
namespace Go.Ab
open Go
def ec:List Ent->Ce->Nat
 | [],_=>0
 | b::bs,m=>(if Dz ⟨[],b.1⟩ m=0 then b.2 else 0)+ec bs m
theorem Rep.mem {c:Rat} {K:Nat} {f:List Az} {bs:List Ent} (h:Rep c K f bs) {t:Az} (ht:t∈f):∃b∈bs,t.Mono=⟨[],b.1⟩/\rq t.Coef=c*(b.2:Rat)/\RB K t.Coef:=by
 obtain ⟨j,hj⟩:=List.getElem?_of_mem ht
 obtain ⟨b,b1,b2⟩:=h.get hj
 exact ⟨b,lmo b1,b2⟩
def Aaj (L:Nat) (p:List Az):Prop:=∀t∈p,∃z:Int,rq t.Coef=(z:Rat)/\Bc z.natAbs<=L
theorem Apc {a:Ai} {z:Int} (ha:Fs a) (h:rq a=(z:Rat)):a=Ca (decide (z<0)) z.natAbs 1:=by
 refine Afk ha (Ku _ _ _ (by decide)) ?_
 rw [h,I8 _ _ _ (by decide),Aae]
 congr 1
 unfold sg
 by_cases h:z<0
 .rw [Ba h,if_pos rfl]; omega
 .rw [Bb h,if_neg (by decide)]; omega
theorem Apd {a:Ai} {z:Int} {L:Nat} (ha:Fs a) (h:rq a=(z:Rat)) (b:Bc z.natAbs<=L):RB (L+1) a:=by
 rw [Apc ha h]
 exact I7 _ _ _ _ (by omega) (by rw [Kr]; omega) (by omega)
theorem Aaj.of {p:List Az} {L:Nat} (hc:CP p) (h:∀m,∃z:Int,cf p m=(z:Rat)/\Bc z.natAbs<=L):Aaj L p:=fun t ht=>by
 obtain ⟨z,b,z2⟩:=h t.Mono
 exact ⟨z,by rw [<-An9 hc ht]; exact b,z2⟩
structure IP (x:Df) (n L:Nat) (f:Ce->Rat) (R:List Az):Prop where
 cp:CP R
 val:∀m,cf R m=f m
 mo:∀t∈R,Qw x t.Mono
 len:R.length<=n
 int:Aaj L R
theorem IP.can {x:Df} {n L:Nat} {f:Ce->Rat} {R:List Az} (h:IP x n L f R) (c:n<=1000) (g:L<=1000000):Hw x R :=
 Hw.of h.cp h.mo (fun t ht=>by
  obtain ⟨z,b,z2⟩:=h.int t ht
  exact (Apd (h.cp.coe t ht).1 b z2).mono (by omega)) (by have:=h.len; omega)
theorem IP.ext {x y:Df} {n L b c:Nat} {f g:Ce->Rat} {R S:List Az} (h:IP x n L f R) (h':IP y b c g S) (e:∀m,f m=g m):R=S:=CP.ext h.cp h'.cp fun m=>by rw [h.val,h'.val,e]
end Go.Ab
namespace Go.Ab
open Go
theorem Ape (a b:Ax):Ji a b=some (D2 a.Var b.Var):=by
 unfold Ji
 rw [Ang]; rfl
theorem Kx {a b:Int}:D2 a b<0↔a<b:=by unfold D2; split <;> (try split) <;> omega
theorem Apf:Sp (fun a b:Ax=>D2 a.Var b.Var) :=
 ⟨fun x h=>by have:=Kx.1 h; omega,fun x y z h1 h2=>by have:=Kx.1 h1; have:=Kx.1 h2; exact Kx.2 (by omega),fun x y z h1 h2 h=>by
  have:=Kx.1 h
  have:=mt Kx.2 h1
  have:=mt Kx.2 h2
  omega⟩
theorem Apg (c:List Ax) (g:c.length<=12):∃R,N1 c=some R/\R.Perm c/\R.Pairwise (fun a b=>a.Var<=b.Var):=by
 obtain ⟨R,h1,h2,h3⟩:=Ao6 (cmp:=Ji) Apf c (fun x _ y _=>Ape x y) (by omega)
 obtain ⟨v,f⟩:=Aoh (n:=c.length) (by omega)
 refine ⟨R,?_,h2,h3.imp fun {a b} h=>?_⟩
 .unfold N1
  rw [Nat.ble_eq_true_of_le g,cond_true]
  unfold Yx
  rw [f,Ag]
  have hp:P6 0 (c.length:Int) v c=some R:=by
   unfold P6
   have e:Tn 0 (c.length:Int) c=Aah Ji 0 (c.length:Int) c:=rfl
   have w:Ac ((c.length:Int)-0)=(c.length:Int):=by rw [Ac,Cj] <;> omega
   refine bnd (a:=R) (M4 ?_) rfl
   rw [w,Ba (by omega),cond_true,e,h1,Ag,Aac h2.length_eq.symm]; rfl
  rw [hp,Ag,Aac h2.length_eq.symm]; rfl
 .have:=mt Kx.2 h
  omega
def cl:List Ax->Int->Int
 | [],_=>0
 | t::l,v=>(if t.Var=v then t.Coef else 0)+cl l v
theorem Im (l m:List Ax) (v:Int):cl (l++m) v=cl l v+cl m v:=by
 induction l with
 | nil=>simp [cl]
 | cons t l ih=>simp only [List.cons_append,cl,ih]; omega
theorem Aph {l m:List Ax} (h:l.Perm m) (v:Int):cl l v=cl m v:=by
 induction h with
 | nil=>rfl
 | cons t _ ih=>simp only [cl,ih]
 | swap a b l=>simp only [cl]; omega
 | trans _ _ h1 h2=>exact h1.trans h2
theorem Og {l:List Ax} {v:Int} (h:∀t∈l,t.Var≠v):cl l v=0:=by
 induction l with
 | nil=>rfl
 | cons t l ih=>simp only [cl]; rw [if_neg (h t (by simp)),ih fun u hu=>h u (by simp [hu])]; rfl
structure Ha (L:List Ax):Prop where
 srt:L.Pairwise fun a b=>a.Var<b.Var
 nz:∀t∈L,t.Coef≠0
theorem Ha.ext:∀{L M:List Ax},Ha L->Ha M->(∀v,cl L v=cl M v)->L=M:=by
 intro L
 induction L with
 | nil=>
  intro M _ b h
  cases M with
  | nil=>rfl
  | cons t M=>
   have:=h t.Var
   simp only [cl,if_true] at this
   rw [Og fun u hu=>by have:=(List.pairwise_cons.1 b.srt).1 u hu; omega] at this
   exact (b.nz t (by simp) (by omega)).elim
 | cons s L ih=>
  intro M c b h
  have g:cl (s::L) s.Var=s.Coef:=by
   simp only [cl,if_true]
   rw [Og fun u hu=>by have:=(List.pairwise_cons.1 c.srt).1 u hu; omega]; omega
  cases M with
  | nil=>
   have:=h s.Var
   rw [g] at this
   exact (c.nz s (by simp) (by simpa [cl] using this)).elim
  | cons t M=>
   have ht:cl (t::M) t.Var=t.Coef:=by
    simp only [cl,if_true]
    rw [Og fun u hu=>by have:=(List.pairwise_cons.1 b.srt).1 u hu; omega]; omega
   have f:s.Var=t.Var:=by
    rcases Int.lt_trichotomy s.Var t.Var with k | k | k
    .have h1:=h s.Var
     rw [g,Og (l:=t::M) fun u hu=>by
      rcases List.mem_cons.1 hu with rfl | hu
      .omega
      .have:=(List.pairwise_cons.1 b.srt).1 u hu; omega] at h1
     exact (c.nz s (by simp) h1).elim
    .exact k
    .have h1:=h t.Var
     rw [ht,Og (l:=s::L) fun u hu=>by
      rcases List.mem_cons.1 hu with rfl | hu
      .omega
      .have:=(List.pairwise_cons.1 c.srt).1 u hu; omega] at h1
     exact (b.nz t (by simp) h1.symm).elim
   have hc:s.Coef=t.Coef:=by rw [<-g,<-ht,h,f]
   have e:s=t:=by cases s; cases t; simp only at f hc; rw [f,hc]
   subst e
   rw [ih (M:=M) ⟨(List.pairwise_cons.1 c.srt).2,fun u hu=>c.nz u (by simp [hu])⟩ ⟨(List.pairwise_cons.1 b.srt).2,fun u hu=>b.nz u (by simp [hu])⟩ fun v=>by
    have:=h v
    simp only [cl] at this; omega]
noncomputable def Uy (r:List Ax) (f:Int):Int×Int->Option ((Int×Int)⊕(Int×Int)):=fun (v44,v45)=>
 (show Option Bool from
 bif (decide (v44<(r.length:Int))) then (
 (Af r v44).bind fun v46=>
 some (v46.Var==f)
 )
 else (
 some false
 )
 ).bind fun c=>
 bif c then (
 (Af r v44).bind fun b=>
 some (.inl ((Ac (v44+1)),(Ac (v45+b.Coef))))
 )
 else (
 some (.inr (v44,v45))
 )
def LBd (l:List Ax):Prop:=∀t∈l,-1099511627776<=t.Coef/\t.Coef<=1099511627776
theorem Api {l:List Ax} (h:LBd l) (v:Int) : -(l.length*1099511627776:Int)<=cl l v/\cl l v<=(l.length*1099511627776:Int):=by
 induction l with
 | nil=>simp [cl]
 | cons t l ih=>
  have h1:=h t (by simp)
  have h2:=ih fun u hu=>h u (by simp [hu])
  simp only [cl,List.length_cons]
  split <;> omega
theorem Apj {r:List Ax} {k:Nat} {t:Ax} (hk:r[k]? = some t) (G:r.length<=1000) (hb:LBd r) :
  ∃n:Nat,An (Uy r t.Var) ((k:Int),0)=some ((n:Int),cl ((r.take n).drop k) t.Var)/\k<n/\n<=r.length/\(∀u∈(r.take n).drop k,u.Var=t.Var)/\∀u,r[n]? = some u->u.Var≠t.Var:=by
 have x:=Fe hk
 obtain ⟨e,E,n,D,B⟩:=M5 (step:=Uy r t.Var) (fun s=>∃n:Nat,s=((n:Int),cl ((r.take n).drop k) t.Var)/\k<=n/\n<=r.length/\∀u∈(r.take n).drop k,u.Var=t.Var) (fun s=>r.length-s.1.toNat)
  (fun e=>∃n:Nat,e=((n:Int),cl ((r.take n).drop k) t.Var)/\k<n/\n<=r.length/\(∀u∈(r.take n).drop k,u.Var=t.Var)/\∀u,r[n]? = some u->u.Var≠t.Var) (by
  rintro _ ⟨j,rfl,y,g,c⟩
  unfold Uy
  rcases Nat.lt_or_ge j r.length with h | h
  .have hx:r[j]? = some r[j]:=Cr h
   have i:=List.getElem_mem h
   generalize r[j]=b at hx i
   have A:=hb b i
   have z:=Api (l:=(r.take j).drop k) (fun u hu=>hb u (List.mem_of_mem_take (List.mem_of_mem_drop hu))) t.Var
   have q:((r.take j).drop k).length<=1000:=by simp; omega
   have hw:Ac (cl ((r.take j).drop k) t.Var+b.Coef)=cl ((r.take j).drop k) t.Var+b.Coef:=by
    have I:(((r.take j).drop k).length:Int)*1099511627776<=1000*1099511627776:=Int.mul_le_mul_of_nonneg_right (by omega) (by decide)
    rw [Ac,Cj] <;> omega
   have f:(r.take (j+1)).drop k=(r.take j).drop k++[b]:=by
    rw [F6 hx,List.drop_append_of_le_length (by simp; omega)]
   simp only [Ba (by omega:(j:Int)<(r.length:Int)),cond_true,Ew rfl hx,Ag,F5 h (by omega),hw]
   by_cases hc:b.Var=t.Var
   .left
    rw [Fd hc]
    refine ⟨_,rfl,⟨j+1,?_,by omega,by omega,fun d hd=>?_⟩,by simp; omega⟩
    .rw [f,Im]
     simp [cl,hc]
    .rw [f] at hd
     rcases List.mem_append.1 hd with hd | hd
     .exact c d hd
     .simp only [List.mem_singleton] at hd
      rw [hd]; exact hc
   .right
    rw [C6 hc]
    refine ⟨_,rfl,j,rfl,?_,g,c,fun d hd=>by rw [hx] at hd; cases hd; exact hc⟩
    rcases Nat.lt_or_ge k j with h' | h'
    .exact h'
    .have:j=k:=by omega
     subst this
     rw [hk] at hx; cases hx
     exact (hc rfl).elim
  .right
   refine ⟨_,by simp only [Bb (by omega:¬(j:Int)<(r.length:Int)),cond_false,Ag],j,rfl,by omega,g,c,fun d hd=>?_⟩
   have:=Fe hd
   omega) ((k:Int),0) ⟨k,by simp [cl],by omega,by omega,fun u hu=>by simp at hu⟩
 exact ⟨n,by rw [<-D]; exact E,B⟩
noncomputable def Aak (r:List Ax):Int×List Ax->Option ((Int×List Ax)⊕List Ax):=fun (v37,b)=>
 bif (decide (v37<((r.length:Nat):Int))) then (
 (Af r v37).bind fun v39=>
 (An (Uy r v39.Var) (v37,0)).bind fun (v49,v50)=>
 bif (v50 != (0:Int)) then (
 (Bz 16 b [(Ax.mk v39.Var v50)]).bind fun c=>
 some (.inl (v49,c))
 )
 else (
 some (.inl (v49,b))
 )
 )
 else (
 some (.inr b)
 )
theorem Apk {r:List Ax} (J:r.Pairwise fun a b=>a.Var<=b.Var) (M:r.length<=1000) (hb:LBd r):∃L,An (Aak r) (0,[])=some L/\Ha L/\(∀v,cl L v=cl r v)/\L.length<=r.length:=by
 obtain ⟨L,S,R⟩:=M5 (step:=Aak r) (fun s=>∃(k:Nat) (L:List Ax),s=((k:Int),L)/\k<=r.length/\Ha L/\L.length<=k/\(∀v,cl L v=cl (r.take k) v)/\∀t∈L,∀u∈r.drop k,t.Var<u.Var) (fun s=>r.length-s.1.toNat)
  (fun L=>Ha L/\(∀v,cl L v=cl r v)/\L.length<=r.length) (by
  rintro _ ⟨k,L,rfl,hk,y,N,g,hd⟩
  unfold Aak
  rcases Nat.lt_or_ge k r.length with h | h
  .left
   have hx:r[k]? = some r[k]:=Cr h
   generalize r[k]=t at hx
   obtain ⟨n,I,G,D,n4,E⟩:=Apj hx M hb
   have c:r.take n=r.take k++(r.take n).drop k:=by
    have h:=(List.take_append_drop k (r.take n)).symm
    rwa [List.take_take,Nat.min_eq_left (by omega)] at h
   have x:∀v,v≠t.Var->cl ((r.take n).drop k) v=0:=fun v g=>Og fun u hu e=>g (by rw [<-e,n4 u hu])
   have j:∀u∈r.drop n,u∈r.drop k:=fun u hu=>by
    have:r.drop n=(r.drop k).drop (n-k):=by rw [List.drop_drop]; congr 1; omega
    rw [this] at hu
    exact List.mem_of_mem_drop hu
   have A:t∈r.drop k:=by rw [Mf hx]; simp
   have f:∀u∈r.drop n,t.Var<u.Var:=by
    intro u hu
    rcases Nat.lt_or_ge n r.length with h' | h'
    .have hy:r[n]? = some r[n]:=Cr h'
     generalize r[n]=w at hy
     have hw:=E w hy
     have hp:=List.pairwise_append.1 (by rw [List.take_append_drop]; exact J:(r.take n++r.drop n).Pairwise fun a b=>a.Var<=b.Var)
     have B:t∈r.take n:=by
      rw [c]
      have:(r.take n).drop k=t::(r.take n).drop (k+1):=Mf (by rw [List.getElem?_take_of_lt G]; exact hx)
      rw [this]; simp
     have z:w∈r.drop n:=by rw [Mf hy]; simp
     have a1:=hp.2.2 t B w z
     have i:=hp.2.1
     rw [Mf hy] at i hu
     rcases List.mem_cons.1 hu with rfl | hu
     .omega
     .have:=(List.pairwise_cons.1 i).1 u hu; omega
    .rw [List.drop_eq_nil_of_le h'] at hu; cases hu
   simp only [Ba (by omega:(k:Int)<(r.length:Int)),cond_true,Ew rfl hx,Ag,I]
   by_cases h0:cl ((r.take n).drop k) t.Var=0
   .refine ⟨((n:Int),L),?_,⟨n,L,rfl,D,y,by omega,fun v=>?_,fun a ha u hu=>hd a ha u (j u hu)⟩,by simp; omega⟩
    .rw [h0]; rfl
    .have q:cl (r.take n) v=cl (r.take k) v+cl ((r.take n).drop k) v:=(congrArg (fun l=>cl l v) c).trans (Im _ _ _)
     rw [q,g]
     by_cases e:v=t.Var
     .rw [e,h0]; omega
     .rw [x v e]; omega
   .refine ⟨((n:Int),L++[⟨t.Var,cl ((r.take n).drop k) t.Var⟩]),?_,⟨n,_,rfl,D,⟨?_,?_⟩,by simp; omega,fun v=>?_,fun a ha u hu=>?_⟩,by simp; omega⟩
    .rw [Jn h0,cond_true,D7 (by simp; omega)]; rfl
    .refine List.pairwise_append.2 ⟨y.srt,List.pairwise_singleton _ _,fun a ha b hb=>?_⟩
     simp only [List.mem_singleton] at hb
     subst hb
     exact hd a ha t A
    .intro a ha
     rcases List.mem_append.1 ha with ha | ha
     .exact y.nz a ha
     .simp only [List.mem_singleton] at ha
      subst ha; exact h0
    .have q:cl (r.take n) v=cl (r.take k) v+cl ((r.take n).drop k) v:=(congrArg (fun l=>cl l v) c).trans (Im _ _ _)
     rw [q,Im,g]
     simp only [cl]
     by_cases e:t.Var=v
     .rw [if_pos e,<-e]; omega
     .rw [if_neg e,x v (fun h=>e h.symm)]; omega
    .rcases List.mem_append.1 ha with ha | ha
     .exact hd a ha u (j u hu)
     .simp only [List.mem_singleton] at ha
      subst ha; exact f u hu
  .right
   have:k=r.length:=by omega
   subst this
   rw [List.take_length] at g
   exact ⟨L,by simp only [Bb (by omega:¬(r.length:Int)<(r.length:Int)),cond_false],y,g,N⟩) (0,[]) ⟨0,[],rfl,by omega,⟨List.Pairwise.nil,fun _ h=>by cases h⟩,by simp,fun v=>by simp [cl],fun _ h=>by cases h⟩
 exact ⟨L,S,R⟩
def Oh (c:Int) (L:List Ax):Ao×Int:=if Cd ⟨c,L⟩=true then (⟨c,L⟩,0) else (⟨0,[]⟩,9)
theorem Af9 (c:Int) (b:List Ax) (q:b.length<=12) (hb:LBd b):∃L,Ns c b=some (Oh c L)/\Ha L/\∀v,cl L v=cl b v:=by
 obtain ⟨R,i,f,h⟩:=Apg b q
 obtain ⟨L,l,k,j,s⟩:=Apk h (by rw [f.length_eq]; omega) (fun t ht=>hb t (f.mem_iff.1 ht))
 refine ⟨L,?_,k,fun v=>by rw [j,Aph f]⟩
 unfold Ns
 have g:L7 b=some ([],b):=by
  unfold L7 Ib
  rw [D7 (by simp; omega)]; rfl
 rw [g,Ag]
 dsimp only
 rw [i,Ag,Aac f.length_eq.symm,Ag,<-f.length_eq]
 refine bnd l ?_
 rw [Il,Ag]
 unfold Oh
 cases Cd ⟨c,L⟩ <;> rfl
end Go.Ab
namespace Go.Ab
open Go
end Go.Ab
namespace Go.Ab
open Go
theorem Ky {a:Ao} (h:Cd a=true):∀t∈a.Terms,-1048576<=t.Coef/\t.Coef<=1048576:=by
 intro t ht
 obtain ⟨j,hj⟩:=List.getElem?_of_mem ht
 unfold Cd at h
 rw [bae,List.all_eq_true] at h
 have:=h.2 (t,j) (List.mk_mem_zipIdx_iff_getElem?.2 hj)
 unfold Ik at this
 simp only [bae,decide_eq_true_eq] at this
 exact ⟨this.1.2.2.2.1,this.1.2.2.2.2⟩
theorem Aga (a b:List Ax) (h:a.length+b.length<=1000000):Pi [a,b]=some (a++b) :=
 Ao7 (B:=16) (by decide) (gr:=S0) (fun n h=>Apb n h) a b h
def Gg (t:Ax):Ax:=⟨t.Var,-t.Coef⟩
theorem Apl (l:List Ax) (v:Int):cl (l.map Gg) v = - cl l v:=by
 induction l with
 | nil=>rfl
 | cons t l ih=>
  simp only [List.map_cons,cl,ih,Gg]
  split <;> omega
theorem Apm (b:List Ax) (q:b.length<=1000) (hb:∀t∈b,-1048576<=t.Coef/\t.Coef<=1048576):Pj b (-1)=some (b.map Gg):=by
 unfold Pj
 have g:L7 b=some ([],b):=by
  unfold L7 Ib
  rw [D7 (by simp; omega)]; rfl
 rw [g,Ag]
 dsimp only
 refine Jo b.length (fun j=>((j:Int),(b.take j).map Gg++b.drop j)) (by simp) ?_ ⟨b.map Gg,?_,rfl⟩
 .intro j hj
  have hx:b[j]? = some b[j]:=Cr hj
  have i:=List.getElem_mem hj
  generalize b[j]=t at hx i
  have k:=hb t i
  have e:(b.take j).map Gg++b.drop j=(b.take j).map Gg++t::b.drop (j+1):=by rw [Mf hx]
  have c:((b.take j).map Gg).length=j:=by simp; omega
  have l:Af ((b.take j).map Gg++b.drop j) (j:Int)=some t:=by
   refine Ew rfl ?_
   rw [e]
   have:=Aai ((b.take j).map Gg) (b.drop (j+1)) t
   rwa [c] at this
  have hw:Ac (t.Coef * -1) = -t.Coef:=by rw [Ac,Cj] <;> omega
  have f:Bt ((b.take j).map Gg++b.drop j) (j:Int) (⟨t.Var,-t.Coef⟩:Ax)=(b.take (j+1)).map Gg++b.drop (j+1):=by
   rw [Ep (n:=j) rfl,e,F6 hx,List.map_append,List.append_assoc]
   have:∀(A R:List Ax) (x y:Ax),(A++x::R).set A.length y=A++y::R:=by
    intro A R x y
    induction A with
    | nil=>rfl
    | cons a A ih=>simp only [List.cons_append,List.length_cons,List.set_cons_succ,ih]
   have h:=this ((b.take j).map Gg) (b.drop (j+1)) t ⟨t.Var,-t.Coef⟩
   rw [c] at h
   rw [h]; rfl
  simp only [Ba (by omega:(j:Int)<((b.length:Nat):Int)),cond_true,l,Ag,F5 hj (by omega),hw,f]
 .simp
theorem Agb (a b:Ao) (h:a.Terms.length+b.Terms.length<=12) :
  (Cd a=true/\Cd b=true/\∃L,Iz a b=some (Oh (a.Const+b.Const) L)/\Ha L/\∀v,cl L v=cl a.Terms v+cl b.Terms v)\/((Cd a&&Cd b)=false/\Iz a b=some (⟨0,[]⟩,1)):=by
 unfold Iz
 rw [Il,Il]
 cases ha:Cd a with
 | false=>exact .inr ⟨rfl,rfl⟩
 | true=>
  cases hb:Cd b with
  | false=>exact .inr ⟨rfl,rfl⟩
  | true=>
   left
   have h1:=Gf ha
   have h2:=Gf hb
   obtain ⟨L,g,f,c⟩:=Af9 (a.Const+b.Const) (a.Terms++b.Terms) (by simp; omega) (fun t ht=>by
    rcases List.mem_append.1 ht with ht | ht
    .have:=Ky ha t ht; omega
    .have:=Ky hb t ht; omega)
   refine ⟨rfl,rfl,L,?_,f,fun v=>by rw [c,Im]⟩
   have w:Ac (a.Const+b.Const)=a.Const+b.Const:=by rw [Ac,Cj] <;> omega
   simp only [Ag,bnt,cond_false,Aga a.Terms b.Terms (by omega),w,g]
theorem Agc (a b:Ao) (h:a.Terms.length+b.Terms.length<=12) :
  (Cd a=true/\Cd b=true/\∃L,I0 a b=some (Oh (a.Const-b.Const) L)/\Ha L/\∀v,cl L v=cl a.Terms v-cl b.Terms v)\/((Cd a&&Cd b)=false/\I0 a b=some (⟨0,[]⟩,1)):=by
 unfold I0
 rw [Il,Il]
 cases ha:Cd a with
 | false=>exact .inr ⟨rfl,rfl⟩
 | true=>
  cases hb:Cd b with
  | false=>exact .inr ⟨rfl,rfl⟩
  | true=>
   left
   have h1:=Gf ha
   have h2:=Gf hb
   obtain ⟨L,g,f,c⟩:=Af9 (a.Const-b.Const) (a.Terms++b.Terms.map Gg) (by simp; omega) (fun t ht=>by
    rcases List.mem_append.1 ht with ht | ht
    .have:=Ky ha t ht; omega
    .obtain ⟨u,hu,rfl⟩:=List.mem_map.1 ht
     have:=Ky hb u hu
     show _<=-u.Coef/\-u.Coef<=_
     omega)
   refine ⟨rfl,rfl,L,?_,f,fun v=>by rw [c,Im,Apl]; omega⟩
   have w:Ac (a.Const-b.Const)=a.Const-b.Const:=by rw [Ac,Cj] <;> omega
   simp only [Ag,bnt,cond_false,Apm b.Terms (by omega) (Ky hb),Aga a.Terms (b.Terms.map Gg) (by simp; omega),w,g]
theorem Apn (a b:Ao) (c:a.Terms.length+b.Terms.length<=12):∃r,Iz a b=some r:=by
 rcases Agb a b c with ⟨_,_,L,h,_⟩ | ⟨_,h⟩ <;> exact ⟨_,h⟩
theorem Agd (a b:Ao) (c:a.Terms.length+b.Terms.length<=12):∃r,I0 a b=some r:=by
 rcases Agc a b c with ⟨_,_,L,h,_⟩ | ⟨_,h⟩ <;> exact ⟨_,h⟩
theorem Apo (a:Ds) (j:a.E.Terms.length+a.F.Terms.length<=12):∃b,Iy a=some b/\(b=true↔Cd a.E=true/\Cd a.F=true/\0<=a.K/\a.K<=6/\((a.Kind=1/\∃s,Iz a.E a.F=some (s,0))\/(a.Kind=2/\∃s,I0 a.E a.F=some (s,0)))):=by
 obtain ⟨r,l⟩:=Apn a.E a.F j
 obtain ⟨q,hq⟩:=Agd a.E a.F j
 unfold Iy
 rw [Il,Il,l,hq]
 cases x:Cd a.E with
 | false=>exact ⟨false,rfl,by simp⟩
 | true=>
  cases u:Cd a.F with
  | false=>exact ⟨false,rfl,by simp⟩
  | true=>
   simp only [Ag,bnt,cond_false]
   by_cases h0:0<=a.K
   .rw [Bb (by omega)]
    by_cases k:a.K<=6
    .rw [Bb (by omega)]
     simp only [cond_false,Ag]
     by_cases f:a.Kind=1
     .rw [Fd f,cond_true]
      refine ⟨_,rfl,?_⟩
      constructor
      .intro h
       have h:=of_decide_eq_true (by simpa using h:decide (r.2=0)=true)
       exact ⟨trivial,trivial,h0,k,.inl ⟨f,r.1,by rw [<-h]⟩⟩
      .rintro ⟨_,_,_,_,⟨_,s,i⟩ | ⟨c,_⟩⟩
       .cases i; rfl
       .omega
     .rw [C6 f,cond_false]
      by_cases c:a.Kind=2
      .rw [Fd c,cond_true]
       refine ⟨_,rfl,?_⟩
       constructor
       .intro h
        have h:=of_decide_eq_true (by simpa using h:decide (q.2=0)=true)
        exact ⟨trivial,trivial,h0,k,.inr ⟨c,q.1,by rw [<-h]⟩⟩
       .rintro ⟨_,_,_,_,⟨g,_⟩ | ⟨_,s,i⟩⟩
        .exact (f g).elim
        .cases i; rfl
      .rw [C6 c,cond_false]
       exact ⟨false,rfl,by simp [f,c]⟩
    .rw [Ba (by omega)]
     exact ⟨false,rfl,by simp; omega⟩
   .rw [Ba (by omega)]
    exact ⟨false,rfl,by simp; omega⟩
end Go.Ab
namespace Go.Ab
open Go
theorem App:Sr=some true:=by kernel_rfl
end Go.Ab
namespace Go.Ab
open Go
theorem Mm {S E α:Type} {step:S->Option (S⊕E)} {s0:S} (l:List α) (I:Nat->S->Prop) (Q:E->Prop) (h0:I 0 s0) (g:l.length<4611686018427387904)
  (f:∀(j:Nat) (x:α) (s:S),j<l.length->l[j]? = some x->decide ((j:Int)<(l.length:Int))=true->Af l (j:Int)=some x->Ac ((j:Int)+1)=((j+1:Nat):Int)->I j s->∃b,step s=some (.inl b)/\I (j+1) b)
  (h:decide ((l.length:Int)<(l.length:Int))=false->∀s,I l.length s->∃e,step s=some (.inr e)/\Q e):∃e,An step s0=some e/\Q e:=by
 have key:∀n,n<=l.length->∃s,I n s/\An step s0=An step s:=by
  intro n
  induction n with
  | zero=>exact fun _=>⟨s0,h0,rfl⟩
  | succ n ih=>
   intro i
   obtain ⟨s,h1,h2⟩:=ih (by omega)
   have hx:l[n]? = some l[n]:=Cr (by omega)
   obtain ⟨b,h3,c⟩:=f n _ s (by omega) hx (Ba (by omega)) (Ew rfl hx) (F5 (n:=l.length) (by omega) g) h1
   exact ⟨b,c,by rw [h2,Sd h3]⟩
 obtain ⟨s,h1,h2⟩:=key l.length (Nat.le_refl _)
 obtain ⟨e,h3,c⟩:=h (by simp) s h1
 exact ⟨e,by rw [h2,M4 h3],c⟩
theorem Apq {α:Type} (f:α->Int) (l:List α) (h:∀j x,l[j]? = some x->Jt f l x j=true):l.Pairwise fun a b=>f a<f b:=by
 have step:∀j x y,l[j]? = some x->l[j+1]? = some y->f x<f y:=by
  intro j x y hx hy
  have:=h (j+1) y hy
  unfold Jt at this
  rw [Nat.add_sub_cancel,hx] at this
  simpa using this
 have c:∀d j x y,l[j]? = some x->l[j+d+1]? = some y->f x<f y:=by
  intro d
  induction d with
  | zero=>exact fun j x y h1 h2=>step j x y h1 h2
  | succ d ih=>
   intro j x y h1 h2
   have g:l[j+d+1]? = some (l[j+d+1]'(by have:=Fe h2; omega)):=Cr _
   have a1:=ih j x _ h1 g
   have a2:=step _ _ _ g h2
   omega
 rw [List.pairwise_iff_getElem]
 intro i j q hj k
 obtain ⟨d,hd⟩:∃d,j=i+d+1:=⟨j-i-1,by omega⟩
 subst hd
 exact c d i _ _ (Cr q) (Cr hj)
theorem Apr {a:Ao} (h:Cd a=true):Ha a.Terms:=by
 unfold Cd at h
 rw [bae] at h
 have ht:∀j x,a.Terms[j]? = some x->Ik a.Terms x j=true:=fun j x hx=>Ql h.2 hx
 refine ⟨Apq (·.Var) a.Terms fun j x hx=>?_,fun t b=>?_⟩
 .have:=ht j x hx
  unfold Ik at this
  rw [bae] at this
  exact this.2
 .obtain ⟨j,hj⟩:=List.getElem?_of_mem b
  have:=ht j t hj
  unfold Ik at this
  rw [bae,decide_eq_true_eq] at this
  exact this.1.2.2.1
theorem Aps {α:Type} (g:α->Int) (b:List α) (n:Nat) (v:Int) (u:n<=b.length) (hb:n<=1000000) :
  ∃k:Nat,k<=n/\(∀(i:Nat) (y:α),i<k->b[i]? = some y->g y<v)/\(∀y,k<n->b[k]? = some y->v<=g y) /\
   An (S:=Int) (E:=Int) (fun v2=>
    bif (decide (v2<((n:Nat):Int))) then (
    (Dj b 0 n v2).bind fun v3=>
    bif (decide (g v3<v)) then some (.inl (Ac (v2+1)))
    else some (.inr v2))
    else some (.inr v2)) 0=some (k:Int):=by
 obtain ⟨e,h1,k,h2,h3,q,j⟩:=M5 (step:=(fun v2:Int=>
    bif (decide (v2<((n:Nat):Int))) then (
    (Dj b 0 n v2).bind fun v3=>
    bif (decide (g v3<v)) then some (.inl (Ac (v2+1)))
    else some (.inr v2))
    else some (.inr v2):Int->Option (Int⊕Int))) (fun s=>∃k:Nat,s=(k:Int)/\k<=n/\∀(i:Nat) (y:α),i<k->b[i]? = some y->g y<v) (fun s=>n-s.toNat)
  (fun e=>∃k:Nat,e=(k:Int)/\k<=n/\(∀(i:Nat) (y:α),i<k->b[i]? = some y->g y<v)/\(∀y,k<n->b[k]? = some y->v<=g y)) (by
   rintro s ⟨k,rfl,hk,c⟩
   rcases Nat.lt_or_ge k n with h | h
   .have hx:b[k]? = some (b[k]'(by omega)):=Cr _
    generalize b[k]'_=x at hx
    rw [Ba (by omega:(k:Int)<(n:Int)),cond_true,I9 (l:=b) (off:=0) (n:=n) (i:=(k:Int)) rfl h (by rw [Nat.zero_add]; exact hx),Ag]
    by_cases e:g x<v
    .rw [Ba e,cond_true,F5 h (by omega)]
     refine .inl ⟨_,rfl,⟨k+1,rfl,by omega,fun i y f hy=>?_⟩,by simp only [Int.toNat_natCast]; omega⟩
     rcases Nat.lt_or_ge i k with h' | h'
     .exact c i y h' hy
     .have:i=k:=by omega
      subst this
      rw [hx] at hy; cases hy; exact e
    .rw [Bb e,cond_false]
     exact .inr ⟨_,rfl,k,rfl,hk,c,fun y _ hy=>by rw [hx] at hy; cases hy; omega⟩
   .have:k=n:=by omega
    subst this
    exact .inr ⟨(k:Int),by rw [Bb (by omega)]; rfl,k,rfl,hk,c,fun y hy=>by omega⟩) 0 ⟨0,rfl,by omega,fun i y f=>by omega⟩
 subst h2
 exact ⟨k,h3,q,j,h1⟩
theorem Apt {α:Type} {L:List α} {k:Nat} {t:α} (h:L[k]? = some t):L.drop k=t::L.drop (k+1):=Mf h
theorem Aal (L:List Ax) (k:Nat) (v:Int):cl L v=cl (L.take k) v+cl (L.drop k) v:=by
 rw [<-Im,List.take_append_drop]
structure LSt (M:Int) (n:Nat) (b:List Ax):Prop where
 le:n<=b.length
 asc:Ha (b.take n)
 bd:∀t∈b.take n,-M<=t.Coef/\t.Coef<=M
theorem Apu {M Mc:Int} {n:Nat} {b:List Ax} (h:LSt M n b) {v c:Int} (hc : -Mc<=c/\c<=Mc) (ai:0<=M) (hM:M+Mc<=1000000000000) (hb:b.length<=100000) :
  ∃(n':Nat) (o:List Ax),N2 n v c b=some (n',o)/\o.length<=b.length+1/\LSt (M+Mc) n' o/\∀w,cl (o.take n') w=cl (b.take n) w+(if v=w then c else 0):=by
 have ah:=h.le
 obtain ⟨k,k1,k2,k3,k4⟩:=Aps (fun t:Ax=>t.Var) b n v h.le (by omega)
 have ae:(b.take n).length=n:=by rw [List.length_take]; omega
 have s:∀i,i<n->(b.take n)[i]? = b[i]?:=fun i f=>by rw [List.getElem?_take,if_pos f]
 have ag:0<=Mc:=by omega
 unfold N2
 rw [k4,Ag]
 by_cases Z:∃t,k<n/\b[k]? = some t/\t.Var=v
 .obtain ⟨t,h1,N,hv⟩:=Z
  have h2:(b.take n)[k]? = some t:=by rw [s k h1]; exact N
  have af:=h.bd t (lmo h2)
  have w:Ac (t.Coef+c)=t.Coef+c:=by rw [Ac,Cj] <;> omega
  have a7:Dj b 0 n (k:Int)=some t:=I9 rfl h1 (by rw [Nat.zero_add]; exact N)
  have B:Bt b (((0:Nat):Int)+(k:Int)) (Ax.mk t.Var (t.Coef+c))=b.set k ⟨t.Var,t.Coef+c⟩:=Ep (n:=k) (by omega) _
  have ac:(b.set k ⟨t.Var,t.Coef+c⟩)[k]? = some ⟨t.Var,t.Coef+c⟩:=by rw [List.getElem?_set,if_pos rfl,if_pos (Fe N)]
  have L:Dj (b.set k ⟨t.Var,t.Coef+c⟩) 0 n (k:Int)=some ⟨t.Var,t.Coef+c⟩:=I9 rfl h1 (by rw [Nat.zero_add]; exact ac)
  simp only [Ba (by omega:(k:Int)<(n:Int)),cond_true,a7,Ag,Fd hv,w,B,L]
  have D:(b.set k ⟨t.Var,t.Coef+c⟩).take n=(b.take n).set k ⟨t.Var,t.Coef+c⟩:=by rw [List.take_set]
  have J:(b.set k ⟨t.Var,t.Coef+c⟩).length=b.length:=List.length_set
  have hd:=Apt h2
  by_cases G:t.Coef+c=0
  .rw [Fd G,cond_true]
   have S:Jd n (k:Int)=some k:=by
    unfold Jd
    rw [if_pos (by omega)]; simp
   rw [S,Ag]
   obtain ⟨o,d1,d2,d3,d4⟩:=Aot 16 (b.set k ⟨t.Var,t.Coef+c⟩) n k (by omega) h1 (by rw [J]; omega) (by omega)
   have ab:((b.take n).set k ⟨t.Var,t.Coef+c⟩).take k++((b.take n).set k ⟨t.Var,t.Coef+c⟩).drop (k+1)=(b.take n).take k++(b.take n).drop (k+1):=by
    rw [List.take_set_of_le (Nat.le_refl _),List.drop_set_of_lt (by omega)]
   rw [D,ab] at d4
   have A:((b.take n).take k++(b.take n).drop (k+1)).Sublist (b.take n):=by
    have h1:((b.take n).drop (k+1)).Sublist ((b.take n).drop k):=by rw [hd]; exact List.sublist_cons_self _ _
    have:=(List.Sublist.refl ((b.take n).take k)).append h1
    rwa [List.take_append_drop] at this
   refine ⟨n-1,o,d1,by omega,⟨d2,by rw [d4]; exact ⟨h.asc.srt.sublist A,fun u hu=>h.asc.nz u (A.subset hu)⟩,fun u hu=>?_⟩,fun w=>?_⟩
   .rw [d4] at hu
    have:=h.bd u (A.subset hu); omega
   .rw [d4,Im,Aal (b.take n) k w,hd]
    simp only [cl,hv]
    split <;> omega
  .rw [C6 G,cond_false]
   have V:∀w,cl ((b.take n).set k ⟨t.Var,t.Coef+c⟩) w=cl (b.take n) w+(if v=w then c else 0):=fun w=>by
    rw [List.set_eq_take_append_cons_drop,if_pos (by omega),Im,Aal (b.take n) k w,hd]
    simp only [cl,hv]
    split <;> omega
   refine ⟨n,b.set k ⟨t.Var,t.Coef+c⟩,rfl,by omega,⟨by omega,?_,fun u hu=>?_⟩,fun w=>by rw [D]; exact V w⟩
   .rw [D]
    refine ⟨?_,fun u hu=>?_⟩
    .rw [List.pairwise_iff_getElem]
     intro i j f hj aa
     have g:∀(q:Nat) (hq:q<((b.take n).set k ⟨t.Var,t.Coef+c⟩).length),(((b.take n).set k ⟨t.Var,t.Coef+c⟩)[q]).Var=((b.take n)[q]'(by rw [List.length_set] at hq; exact hq)).Var:=by
      intro q hq
      rw [List.getElem_set]
      split
      .rename_i e
       subst e
       have:=Cr (l:=b.take n) (i:=k) (by omega)
       rw [h2] at this
       rw [<-Option.some.inj this]
      .rfl
     rw [g i f,g j hj]
     exact (List.pairwise_iff_getElem.1 h.asc.srt) i j _ _ aa
    .rcases List.mem_or_eq_of_mem_set hu with hu | rfl
     .exact h.asc.nz u hu
     .exact G
   .rw [D] at hu
    rcases List.mem_or_eq_of_mem_set hu with hu | rfl
    .have:=h.bd u hu; omega
    .show -(M+Mc)<=t.Coef+c/\t.Coef+c<=M+Mc
     omega
 .have U:∀t,k<n->b[k]? = some t->t.Var≠v:=fun t hk ht e=>Z ⟨t,hk,ht,e⟩
  have hq:(bif decide ((k:Int)<(n:Int)) then (Dj b 0 n (k:Int)).bind fun v5=>some (v5.Var==v) else some false)=some false:=by
   by_cases h1:k<n
   .have hx:b[k]? = some (b[k]'(by omega)):=Cr _
    generalize b[k]'_=x at hx
    rw [Ba (by omega:(k:Int)<(n:Int)),cond_true,I9 (l:=b) (off:=0) (n:=n) (i:=(k:Int)) rfl h1 (by rw [Nat.zero_add]; exact hx),Ag,C6 (U x h1 hx)]
   .rw [Bb (by omega)]; rfl
  erw [hq]
  simp only [Ag,cond_false]
  by_cases G:c=0
  .rw [Fd G,cond_true]
   refine ⟨n,b,rfl,by omega,⟨h.le,h.asc,fun u hu=>?_⟩,fun w=>?_⟩
   .have:=h.bd u hu; omega
   .rw [G]
    split <;> omega
  .rw [C6 G,cond_false]
   have ad:Jc 16 b n [(Ax.mk 0 0)]=some (Co b n [(Ax.mk 0 0)],n+1):=by
    unfold Jc
    rw [if_pos ⟨h.le,by simp; omega⟩]; rfl
   rw [ad,Ag]
   dsimp only
   obtain ⟨z,g1,g2,g3⟩:=Aos b n k (Ax.mk 0 0) ⟨v,c⟩ h.le k1 (by omega)
   erw [g1]
   rw [Ag]
   have Y:z[k]? = some (z[k]'(by omega)):=Cr _
   rw [I9 (l:=z) (off:=0) (n:=n+1) (i:=(k:Int)) rfl (by omega) (by rw [Nat.zero_add]; exact Y),Ag]
   have B:Bt z (((0:Nat):Int)+(k:Int)) (Ax.mk v c)=z.set k ⟨v,c⟩:=Ep (n:=k) (by omega) _
   rw [B]
   refine ⟨n+1,z.set k ⟨v,c⟩,rfl,by rw [List.length_set]; omega,⟨by rw [List.length_set]; omega,?_,fun u hu=>?_⟩,fun w=>?_⟩
   .rw [g3]
    refine ⟨?_,fun u hu=>?_⟩
    .rw [List.pairwise_append]
     refine ⟨h.asc.srt.sublist (List.take_sublist _ _),?_,?_⟩
     .rw [List.pairwise_cons]
      refine ⟨fun u hu=>?_,h.asc.srt.sublist (List.drop_sublist _ _)⟩
      obtain ⟨i,f⟩:=List.getElem?_of_mem hu
      rw [List.getElem?_drop] at f
      have a6:=Fe f
      have E:k<n:=by omega
      have hx:b[k]? = some (b[k]'(by omega)):=Cr _
      have a1:=k3 _ E hx
      have a2:=U _ E hx
      by_cases e:i=0
      .subst e
       rw [Nat.add_zero,s k E,hx] at f
       cases f
       show v<_
       omega
      .have X:k<(b.take n).length:=by omega
       have a3:=(List.pairwise_iff_getElem.1 h.asc.srt) k (k+i) X a6 (by omega)
       rw [Cr a6] at f
       cases f
       have a4:(b.take n)[k]=b[k]'(by omega):=by
        have:=s k E
        rw [Cr X,hx] at this
        exact Option.some.inj this
       rw [a4] at a3
       show v<_
       omega
     .intro u hu y hy
      obtain ⟨i,f⟩:=List.getElem?_of_mem hu
      rw [List.getElem?_take] at f
      split at f
      .rename_i a8
       have I:i<n:=by omega
       rw [s i I] at f
       have a1:=k2 i u a8 f
       rcases List.mem_cons.1 hy with rfl | hy
       .exact a1
       .obtain ⟨q,hq⟩:=List.getElem?_of_mem hy
        rw [List.getElem?_drop] at hq
        have R:=Fe hq
        have a3:=(List.pairwise_iff_getElem.1 h.asc.srt) i (k+q) (by omega) R (by omega)
        rw [Cr R] at hq
        cases hq
        have a4:(b.take n)[i]'(by omega)=u:=by
         have:=s i I
         rw [Cr (by omega),f] at this
         exact Option.some.inj this
        rw [a4] at a3
        exact a3
      .cases f
    .rw [List.mem_append,List.mem_cons] at hu
     rcases hu with hu | rfl | hu
     .exact h.asc.nz u (List.mem_of_mem_take hu)
     .exact G
     .exact h.asc.nz u (List.mem_of_mem_drop hu)
   .rw [g3,List.mem_append,List.mem_cons] at hu
    rcases hu with hu | rfl | hu
    .have:=h.bd u (List.mem_of_mem_take hu); omega
    .show -(M+Mc)<=c/\c<=M+Mc
     omega
    .have:=h.bd u (List.mem_of_mem_drop hu); omega
   .rw [g3,Im,Aal (b.take n) k w]
    simp only [cl]
    omega
theorem Age (a b:Ao) (z:Int) (u:z=1\/z = -1) (ha:Cd a=true) (hb:Cd b=true):∃L,Nu a b z=some ⟨a.Const+z*b.Const,L⟩/\Ha L/\∀v,cl L v=cl a.Terms v+z*cl b.Terms v:=by
 have Z:=Gf ha
 have Y:=Gf hb
 have U:=Ky ha
 have S:=Ky hb
 unfold Nu
 rw [D7 (by simp; omega),Ag,List.nil_append]
 have G:Ac (z*b.Const)=z*b.Const:=by rcases u with rfl | rfl <;> (rw [Ac,Cj] <;> omega)
 have E:Ac (a.Const+z*b.Const)=a.Const+z*b.Const:=by rcases u with rfl | rfl <;> (rw [Ac,Cj] <;> omega)
 rw [G,E]
 obtain ⟨⟨o,n⟩,R,D,B⟩:=Mm (step:=(fun (h,q,l)=>
   bif (decide (h<(b.Terms.length:Int))) then (
   (Af b.Terms h).bind fun k=>
   (N2 l k.Var (Ac (z*k.Coef)) q).bind fun v21=>
   some (.inl ((Ac (h+1)),v21.2,v21.1)))
   else some (.inr (q,l)):Int×List Ax×Nat->Option ((Int×List Ax×Nat)⊕(List Ax×Nat)))) (s0:=(0,a.Terms,a.Terms.length)) b.Terms
  (fun j s=>s.1=(j:Int)/\s.2.1.length<=16+j/\LSt (1048576*(1+j)) s.2.2 s.2.1/\∀v,cl (s.2.1.take s.2.2) v=cl a.Terms v+z*cl (b.Terms.take j) v)
  (fun e=>Ha (e.1.take e.2)/\e.2<=e.1.length/\∀v,cl (e.1.take e.2) v=cl a.Terms v+z*cl b.Terms v)
  ⟨rfl,by dsimp only; omega,⟨Nat.le_refl _,by rw [List.take_length]; exact Apr ha,fun t ht=>by rw [List.take_length] at ht; have:=U t ht; omega⟩,fun v=>by rw [List.take_length,List.take_zero]; simp [cl]⟩ (by omega)
  (by
   rintro j x ⟨i,o,n⟩ hj hx h1 h2 h3 ⟨y,A,f,g⟩
   dsimp only at y A f g ⊢
   subst y
   have N:=S x (lmo hx)
   have w:Ac (z*x.Coef)=z*x.Coef:=by rcases u with rfl | rfl <;> (rw [Ac,Cj] <;> omega)
   obtain ⟨X,o',M,V,J,I⟩:=Apu f (v:=x.Var) (c:=z*x.Coef) (Mc:=1048576) (by rcases u with rfl | rfl <;> omega) (by omega) (by omega) (by omega)
   rw [h1,cond_true,h2,Ag,w,M,Ag,h3]
   refine ⟨_,rfl,rfl,by dsimp only; omega,?_,fun v=>?_⟩
   .have e:(1048576*(1+(j:Int))+1048576)=1048576*(1+((j+1:Nat):Int)):=by omega
    rw [<-e]; exact J
   .dsimp only
    rw [I,g,F6 hx,Im]
    simp only [cl]
    rcases u with rfl | rfl <;> (split <;> omega))
  (by
   rintro h1 ⟨i,o,n⟩ ⟨y,A,f,g⟩
   dsimp only at y A f g ⊢
   subst y
   rw [h1,cond_false]
   refine ⟨_,rfl,f.asc,f.le,fun v=>by dsimp only; rw [g,List.take_length]⟩)
 dsimp only at D B
 have ht:Lj o n=some (o.take n):=by
  unfold Lj
  rw [if_pos B.1]
 refine ⟨o.take n,bnd R ?_,D,B.2⟩
 dsimp only
 rw [ht,Ag]
theorem Agf (c:Int) (L:List Ax):Nt ⟨c,L⟩=some (Oh c L):=by
 unfold Nt Oh
 rw [Mi,Ag]
 cases h:Cd ⟨c,L⟩ <;> simp
theorem Apv (a b:Ao) (h:a.Terms.length+b.Terms.length<=12):Pp a b=Iz a b:=by
 unfold Pp
 rw [Mi,Mi]
 rcases Agb a b h with ⟨h1,h2,L,h3,k,j⟩ | ⟨h1,h2⟩
 .obtain ⟨l,g,f,c⟩:=Age a b 1 (.inl rfl) h1 h2
  have i:l=L:=f.ext k fun v=>by rw [c,j]; omega
  subst i
  rw [h1,h2,h3]
  simp only [Ag,bnt,cond_false,g,Agf]
  rw [show a.Const+1*b.Const=a.Const+b.Const by omega]
 .rw [h2]
  cases ha:Cd a with
  | false=>rfl
  | true=>rw [ha] at h1; rw [show Cd b=false from h1]; rfl
theorem Agg (a b:Ao) (h:a.Terms.length+b.Terms.length<=12):Nj a b=I0 a b:=by
 unfold Nj
 rw [Mi,Mi]
 rcases Agc a b h with ⟨h1,h2,L,h3,k,j⟩ | ⟨h1,h2⟩
 .obtain ⟨l,g,f,c⟩:=Age a b (-1) (.inr rfl) h1 h2
  have i:l=L:=f.ext k fun v=>by rw [c,j]; omega
  subst i
  rw [h1,h2,h3]
  simp only [Ag,bnt,cond_false,g,Agf]
  rw [show a.Const+(-1)*b.Const=a.Const-b.Const by omega]
 .rw [h2]
  cases ha:Cd a with
  | false=>rfl
  | true=>rw [ha] at h1; rw [show Cd b=false from h1]; rfl
theorem Apw (a:Ds) (b:a.E.Terms.length+a.F.Terms.length<=12):Pd a=Iy a:=by
 unfold Pd Iy
 rw [Apv _ _ b,Agg _ _ b,Mi,Mi,Il,Il]
end Go.Ab
namespace Go.Ab
open Go
theorem Agh {S E R α:Type} {step:S->Option (S⊕E)} {s0:S} {J:E->Option R} (l:List α) (p:α->Bool) (F:α->R) (d:R) (b:Nat->S) (h0:s0=b 0) (q:l.length<4611686018427387904)
  (g:∀(j:Nat) (x:α),l[j]? = some x->decide ((j:Int)<(l.length:Int))=true->Af l (j:Int)=some x->Ac ((j:Int)+1)=((j+1:Nat):Int) ->
   (p x=false->step (b j)=some (.inl (b (j+1))))/\(p x=true->∃e,step (b j)=some (.inr e)/\J e=some (F x)))
  (y:decide ((l.length:Int)<(l.length:Int))=false->∃e,step (b l.length)=some (.inr e)/\J e=some d):(An step s0).bind J=some ((l.find? p).elim d F):=by
 cases h:l.find? p with
 | none=>
  have u:=List.find?_eq_none.1 h
  refine Jo l.length b h0 (fun j hj=>?_) (y (by simp))
  have hx:l[j]? = some l[j]:=Cr hj
  exact (g j _ hx (Ba (by omega)) (Ew rfl hx) (F5 hj q)).1 (by simpa using u _ (List.getElem_mem hj))
 | some x=>
  obtain ⟨hp,i,s,hx,k⟩:=List.find?_eq_some_iff_getElem.1 h
  have f:l[i]? = some x:=by rw [Cr s,hx]
  refine Jo i b h0 (fun j hj=>?_) ((g i x f (Ba (by omega)) (Ew rfl f) (F5 s q)).2 hp)
  have c:l[j]? = some l[j]:=Cr (by omega)
  exact (g j _ c (Ba (by omega)) (Ew rfl c) (F5 (n:=l.length) (by omega) q)).1 (by simpa using k j hj)
def fc (l:List Ax) (v:Int):Int:=(l.find? fun t=>t.Var==v).elim 0 (·.Coef)
theorem Apx {l:List Ax} {M:Int} (h:∀t∈l,-M<=t.Coef/\t.Coef<=M) (c:0<=M) (v:Int) : -M<=fc l v/\fc l v<=M:=by
 unfold fc
 cases b:l.find? fun t=>t.Var==v with
 | none=>exact ⟨by show -M<=0; omega,c⟩
 | some t=>exact h t (List.mem_of_find?_eq_some b)
theorem Apy {l:List Ax} {v:Int} (h:∀t∈l,t.Var≠v):fc l v=0:=by
 unfold fc
 rw [List.find?_eq_none.2 fun t ht=>by rw [C6 (h t ht)]; decide]; rfl
theorem Apz (a:Ao) (v:Int) (b:a.Terms.length<=1048576):Pm a v=some (fc a.Terms v):=by
 unfold Pm
 refine Agh a.Terms (fun t=>t.Var==v) (·.Coef) 0 (fun j=>(j:Int)) rfl (by omega) ?_ ?_
 .intro j x hx h1 h2 h3
  simp only [h1,h2,h3,cond_true,Ag]
  cases hb:x.Var==v with
  | true=>exact ⟨(fun h=>by cases h),fun _=>⟨_,rfl,rfl⟩⟩
  | false=>exact ⟨(fun _=>rfl),fun h=>by cases h⟩
 .intro h1
  exact ⟨_,by simp only [h1]; rfl,rfl⟩
theorem Agi (a:Ao) (v:Int) (b:a.Terms.length<=1048576):Ka a v=some (fc a.Terms v):=by
 unfold Ka
 refine Agh a.Terms (fun t=>t.Var==v) (·.Coef) 0 (fun j=>(j:Int)) rfl (by omega) ?_ ?_
 .intro j x hx h1 h2 h3
  simp only [h1,h2,h3,cond_true,Ag]
  cases hb:x.Var==v with
  | true=>exact ⟨(fun h=>by cases h),fun _=>⟨_,rfl,rfl⟩⟩
  | false=>exact ⟨(fun _=>rfl),fun h=>by cases h⟩
 .intro h1
  exact ⟨_,by simp only [h1]; rfl,rfl⟩
def C9 (fs:List Ao):List Int:=fs.flatMap fun f=>f.Terms.map (·.Var)
theorem Aam {fs:List Ao} {v:Int} (h:v ∉ C9 fs):∀f∈fs,fc f.Terms v=0:=fun f b=>
 Apy fun t ht e=>h (List.mem_flatMap.2 ⟨f,b,List.mem_map.2 ⟨t,ht,e⟩⟩)
theorem Uz {fs:List Ao} {M:Nat} (h:∀f∈fs,f.Terms.length<=M):(C9 fs).length<=fs.length*M:=by
 induction fs with
 | nil=>simp [C9]
 | cons f fs ih=>
  have h1:=h f (by simp)
  have h2:=ih fun g b=>h g (by simp [b])
  unfold C9 at *
  rw [List.flatMap_cons,List.length_append,List.length_map,List.length_cons,Nat.succ_mul]; omega
theorem Agj (fs:List Ao) (s:fs.length<=1000000) (hb:(C9 fs).length<=1000000) :
  ∃V,No fs=some V/\V.length<=(C9 fs).length/\∀y,y∈V↔y∈C9 fs:=by
 obtain ⟨m,o,q,l,i⟩:=Aop ((C9 fs).mergeSort fun x y=>decide (x<=y)) (Aol _) (by rw [List.length_mergeSort]; omega)
 refine ⟨o.take m,?_,?_,?_⟩
 .unfold No
  refine Aev fs (fun j=>((j:Int),C9 (fs.take j))) rfl (by omega) ?_ ?_
  .intro j f hj k h1 h2 h3
   have c:(C9 (fs.take j)).length+(f.Terms.map (·.Var)).length<=1000000:=Nat.le_trans (Afz (fun f:Ao=>f.Terms.map (fun t:Ax=>t.Var)) k) hb
   rw [List.length_map] at c
   simp only [h1,h2,h3,cond_true,Ag]
   refine Aoq f.Terms (fun t=>t.Var) (C9 (fs.take j)) c ?_
   show some (Sum.inl (_,_))=_
   rw [F6 k]
   unfold C9
   rw [List.flatMap_append]
   simp
  .intro h1
   refine ⟨C9 fs,by simp only [h1]; rw [List.take_length]; rfl,?_⟩
   rw [Aok,Ag]
   unfold Ec
   rw [if_pos (by rw [List.length_mergeSort]),Ag]
   have:Nw (C9 fs).length ((C9 fs).mergeSort fun x y=>decide (x<=y))=some (m,o):=by
    rw [<-q,List.length_mergeSort]
   rw [this,Ag]
   unfold Lj
   rw [if_pos l]; rfl
 .have g:(o.take m).Nodup:=i.up.imp (fun h=>by omega)
  have b:∀y∈o.take m,y∈C9 fs:=fun y hy=>by
   have:=(i.mem y).1 hy
   rw [List.take_length] at this
   exact List.mem_mergeSort.1 this
  exact List.Nodup.length_le_of_subset g b
 .intro y
  rw [i.mem y,List.take_length,List.mem_mergeSort]
theorem Ap0 (L:List Int) (v:Int) (z:L.length<=1000000):∃o,Lr L v=some o/\o.length<=L.length+1/\∀y,y∈o↔(y=v\/y∈L):=by
 obtain ⟨e,h1,k,h2,h3⟩:=M5 (step:=(fun v2:Int=>
    bif (decide (v2<(L.length:Int))) then (
    (Af L v2).bind fun v3=>
    bif (decide (v3<v)) then some (.inl (Ac (v2+1)))
    else some (.inr v2))
    else some (.inr v2):Int->Option (Int⊕Int))) (fun s=>∃k:Nat,s=(k:Int)/\k<=L.length) (fun s=>L.length-s.toNat)
  (fun e=>∃k:Nat,e=(k:Int)/\k<=L.length) (by
   rintro s ⟨k,rfl,hk⟩
   rcases Nat.lt_or_ge k L.length with h | h
   .have hx:L[k]? = some (L[k]'h):=Cr _
    generalize L[k]'_=x at hx
    rw [Ba (by omega:(k:Int)<(L.length:Int)),cond_true,Ew rfl hx,Ag]
    by_cases e:x<v
    .rw [Ba e,cond_true,F5 h (by omega)]
     exact .inl ⟨_,rfl,⟨k+1,rfl,by omega⟩,by simp only [Int.toNat_natCast]; omega⟩
    .rw [Bb e,cond_false]
     exact .inr ⟨_,rfl,k,rfl,hk⟩
   .exact .inr ⟨(k:Int),by rw [Bb (by omega)]; rfl,k,rfl,hk⟩) 0 ⟨0,rfl,by omega⟩
 subst h2
 unfold Lr
 rw [h1,Ag]
 have g:Ef L 0 (k:Int)=some (L.take k):=by
  unfold Ef
  rw [if_pos (by omega)]; simp
 have f:Ef L (k:Int) (L.length:Int)=some (L.drop k):=by
  unfold Ef
  rw [if_pos (by omega)]; simp
 have b:((Ef L 0 (k:Int)).bind fun q=>(Bz 8 [] q).bind fun u=>(Bz 8 u [v]).bind fun l=>(Ef L (k:Int) (L.length:Int)).bind fun i=>(Bz 8 l i).bind fun j=>some j)=some (L.take k++[v]++L.drop k):=by
  rw [g,Ag,D7 (by simp; omega),Ag,D7 (by simp; omega),Ag,f,Ag,D7 (by simp; omega)]; rfl
 have c:∃o,some (L.take k++[v]++L.drop k)=some o/\o.length<=L.length+1/\∀y,y∈o↔(y=v\/y∈L):=by
  refine ⟨_,rfl,by simp; omega,fun y=>?_⟩
  have e:y∈L↔y∈L.take k\/y∈L.drop k:=by rw [<-List.mem_append,List.take_append_drop]
  rw [e]
  simp only [List.mem_append,List.mem_singleton]
  constructor
  .rintro ((h | h) | h)
   .exact .inr (.inl h)
   .exact .inl h
   .exact .inr (.inr h)
  .rintro (h | h | h)
   .exact .inl (.inr h)
   .exact .inl (.inl h)
   .exact .inr h
 rcases Nat.lt_or_ge k L.length with h | h
 .have hx:L[k]? = some (L[k]'h):=Cr _
  generalize L[k]'_=x at hx
  rw [Ba (by omega:(k:Int)<(L.length:Int)),cond_true,Ew rfl hx,Ag,Ag]
  by_cases e:x=v
  .rw [Fd e,cond_true]
   refine ⟨L,rfl,by omega,fun y=>⟨.inr,?_⟩⟩
   rintro (rfl | h')
   .rw [<-e]; exact lmo hx
   .exact h'
  .rw [C6 e,cond_false,b]; exact c
 .rw [Bb (by omega),cond_false,Ag,cond_false,b]; exact c
theorem Aan (fs:List Ao) (hl:fs.length<=1000000) (hb:(C9 fs).length<=1000000) :
  ∃V,Nf fs=some V/\V.length<=(C9 fs).length/\∀y,y∈V↔y∈C9 fs:=by
 obtain ⟨V,Z,Y,X⟩:=Mm (step:=(fun (v12,l)=>
   bif (decide (l<(fs.length:Int))) then (
   (Af fs l).bind fun A=>
   (An (S:=((List Int)×Int)) (E:=((List Int)×Int)) (fun (c,b)=>
   bif (decide (b<(A.Terms.length:Int))) then (
   (Af fs l).bind fun v20=>
   (Af v20.Terms b).bind fun v21=>
   (Lr c v21.Var).bind fun v22=>
   some (.inl (v22,(Ac (b+1)))))
   else some (.inr (c,b))) (v12,0)).bind fun (v23,v24)=>
   some (.inl (v23,(Ac (l+1)))))
   else some (.inr v12):List Int×Int->Option ((List Int×Int)⊕List Int))) (s0:=([],0)) fs
  (fun j s=>s.2=(j:Int)/\s.1.length<=(C9 (fs.take j)).length/\∀y,y∈s.1↔y∈C9 (fs.take j))
  (fun V=>V.length<=(C9 fs).length/\∀y,y∈V↔y∈C9 fs) ⟨rfl,by simp,fun y=>by simp [C9]⟩ (by omega)
  (by
   rintro j f ⟨L,i⟩ hj G h1 h2 h3 ⟨k,x,u⟩
   dsimp only at k x u ⊢
   subst k
   rw [h1,cond_true,h2,Ag]
   have D:(C9 (fs.take j)).length+(f.Terms.map (·.Var)).length<=(C9 fs).length:=Afz (fun f:Ao=>f.Terms.map (fun t:Ax=>t.Var)) G
   rw [List.length_map] at D
   obtain ⟨⟨L',i'⟩,g1,g2,g3⟩:=Mm (step:=(fun (c,b)=>
     bif (decide (b<(f.Terms.length:Int))) then (
     (some f).bind fun v20=>
     (Af v20.Terms b).bind fun v21=>
     (Lr c v21.Var).bind fun v22=>
     some (.inl (v22,(Ac (b+1)))))
     else some (.inr (c,b)):List Int×Int->Option ((List Int×Int)⊕(List Int×Int)))) (s0:=(L,0)) f.Terms
    (fun q s=>s.2=(q:Int)/\s.1.length<=(C9 (fs.take j)).length+q/\∀y,y∈s.1↔(y∈C9 (fs.take j)\/y∈(f.Terms.take q).map (·.Var)))
    (fun e=>e.1.length<=(C9 (fs.take j)).length+f.Terms.length/\∀y,y∈e.1↔(y∈C9 (fs.take j)\/y∈f.Terms.map (·.Var))) ⟨rfl,x,fun y=>by simpa using u y⟩ (by omega)
    (by
     rintro q t ⟨M,i⟩ hq ht B U R ⟨k,z,g⟩
     dsimp only at k z g ⊢
     subst k
     obtain ⟨o,N,r2,J⟩:=Ap0 M t.Var (by omega)
     rw [B,cond_true,Ag,U,Ag,N,Ag,R]
     refine ⟨_,rfl,rfl,by dsimp only; omega,fun y=>?_⟩
     dsimp only
     rw [J,g,F6 ht,List.map_append,List.mem_append]
     simp only [List.map_cons,List.map_nil,List.mem_singleton]
     constructor
     .rintro (h | h | h)
      .exact .inr (.inr h)
      .exact .inl h
      .exact .inr (.inl h)
     .rintro (h | h | h)
      .exact .inr (.inl h)
      .exact .inr (.inr h)
      .exact .inl h)
    (by
     rintro B ⟨M,i⟩ ⟨k,z,g⟩
     dsimp only at k z g ⊢
     subst k
     rw [B,cond_false]
     exact ⟨_,rfl,z,fun y=>by dsimp only; rw [g,List.take_length]⟩)
   dsimp only at g2 g3
   have I:C9 (fs.take (j+1))=C9 (fs.take j)++f.Terms.map (·.Var):=by
    rw [F6 G]
    unfold C9
    rw [List.flatMap_append]
    simp
   refine ⟨(L',((j+1:Nat):Int)),bnd g1 ?_,rfl,by dsimp only; rw [I,List.length_append,List.length_map]; exact g2,fun y=>by dsimp only; rw [g3,I,List.mem_append]⟩
   dsimp only
   rw [h3])
  (by
   rintro h1 ⟨L,i⟩ ⟨k,x,u⟩
   dsimp only at k x u ⊢
   subst k
   rw [h1,cond_false]
   rw [List.take_length] at x u
   exact ⟨_,rfl,x,u⟩)
 exact ⟨V,bnd Z rfl,Y,X⟩
theorem Agk (a:Ao):Nd a=some (Cd a):=by
 have b:∀n,Nn n=some (decide (-1048576<=n/\n<=1048576)):=fun n=>by
  unfold Nn
  by_cases h:(-1048576:Int)<=n <;> simp [h]
 unfold Nd Cd
 rw [b]
 simp only [Ag]
 by_cases h1 : -1048576<=a.Const/\a.Const<=1048576
 .rw [Ba h1]
  by_cases h2:a.Terms.length<=16
  .rw [Bb (by omega:¬(a.Terms.length:Int)>16),Ba ⟨h1.1,h1.2,h2⟩]
   simp only [bnt,cond_false,Ag,Bool.true_and]
   refine (T9 a.Terms (fun q=>Ik a.Terms q.1 q.2) (fun j=>(j:Int)) rfl (by omega) (rt:=true) (rf:=false) ?_ ?_).trans (by rw [L9])
   .intro j x hx _ h1 h2 h3
    simp only [h1,h2,h3,cond_true,Ag,b,Z1 (·.Var) a.Terms hx (by omega),Ik]
    by_cases g2:x.Coef=0
    .rw [Fd g2,Bb (fun h=>h.2.2.1 g2)]
     exact ⟨(fun h=>by cases h),fun _=>⟨.inl false,rfl,rfl⟩⟩
    by_cases g3 : -1048576<=x.Coef/\x.Coef<=1048576
    .by_cases g1:x.Var < -1
     .rw [C6 g2,Ba g3,Ba g1,Bb (fun h=>by omega)]
      exact ⟨(fun h=>by cases h),fun _=>⟨.inl false,rfl,rfl⟩⟩
     by_cases g4:x.Var>=3000
     .rw [C6 g2,Ba g3,Bb g1,Ba g4,Bb (fun h=>by omega)]
      exact ⟨(fun h=>by cases h),fun _=>⟨.inl false,rfl,rfl⟩⟩
     rw [C6 g2,Ba g3,Bb g1,Bb g4,Ba ⟨by omega,by omega,g2,g3.1,g3.2⟩]
     cases Jt (·.Var) a.Terms x j with
     | true=>exact ⟨fun _=>rfl,fun h=>by cases h⟩
     | false=>exact ⟨(fun h=>by cases h),fun _=>⟨.inl false,rfl,rfl⟩⟩
    .rw [C6 g2,Bb g3,Bb (fun h=>g3 h.2.2.2)]
     exact ⟨(fun h=>by cases h),fun _=>⟨.inl false,rfl,rfl⟩⟩
   .intro h _
    exact ⟨.inr (),by simp only [h]; rfl,rfl⟩
  .rw [Ba (by omega:(a.Terms.length:Int)>16),Bb (fun h=>h2 h.2.2)]; rfl
 .rw [Bb h1,Bb (fun h : -1048576<=a.Const/\a.Const<=1048576/\a.Terms.length<=16=>h1 ⟨h.1,h.2.1⟩)]; rfl
theorem Aao (fs:List Ao) (c:fs.length<=5) (hb:∀f∈fs,f.Terms.length<=4):Pb fs=some (fs.all Cd)/\Nb fs=some (fs.all Cd):=by
 have ha:=Uz hb
 constructor
 .unfold Pb
  rw [Bb (by omega),cond_false]
  refine (Jp fs Cd (fun j=>(j:Int)) rfl (by omega) (rt:=true) (rf:=false) ?_ ?_).trans (by rw [L9])
  .intro j x hx h1 h2 h3
   simp only [h1,h2,h3,cond_true,Ag,Il]
   cases Cd x with
   | true=>exact ⟨(fun _=>rfl),fun h=>by cases h⟩
   | false=>exact ⟨(fun h=>by cases h),fun _=>⟨_,rfl,rfl⟩⟩
  .intro h1
   obtain ⟨V,b,v2,_⟩:=Agj fs (by omega) (by omega)
   refine ⟨.inr (),by simp only [h1]; rfl,?_⟩
   dsimp only
   rw [b,Ag,Ba (by omega)]
 .unfold Nb
  rw [Bb (by omega),cond_false]
  refine (Jp fs Cd (fun j=>(j:Int)) rfl (by omega) (rt:=true) (rf:=false) ?_ ?_).trans (by rw [L9])
  .intro j x hx h1 h2 h3
   simp only [h1,h2,h3,cond_true,Ag,Agk]
   cases Cd x with
   | true=>exact ⟨(fun _=>rfl),fun h=>by cases h⟩
   | false=>exact ⟨(fun h=>by cases h),fun _=>⟨_,rfl,rfl⟩⟩
  .intro h1
   obtain ⟨V,b,v2,_⟩:=Aan fs (by omega) (by omega)
   refine ⟨.inr (),by simp only [h1]; rfl,?_⟩
   dsimp only
   rw [b,Ag,Ba (by omega)]
theorem Q0 (x:Rat):Gx x<0↔x<0:=by
 unfold Gx
 split
 .rename_i h; exact ⟨fun _=>h,fun _=>by decide⟩
 .rename_i h
  split <;> exact ⟨fun h'=>absurd h' (by decide),fun h'=>absurd h' h⟩
theorem Ap1 (x:Rat):Gx x>0↔0<x:=by
 unfold Gx
 split
 .rename_i h; exact ⟨fun h'=>absurd h' (by decide),fun h'=>by grind⟩
 .rename_i h
  split
  .rename_i h'; exact ⟨fun _=>h',fun _=>by decide⟩
  .rename_i h'; exact ⟨fun h=>absurd h (by decide),fun h=>absurd h h'⟩
def Gi (fs:List Ao) (b:List Ai):Bool:=decide (fs.length=b.length)&&b.all fun p=>!decide (rq p<0)
theorem Aap (fs:List Ao) (b:List Ai) (f:b.length<=1048576) (hb:∀p∈b,RB 1048576 p):Pc fs b=some (Gi fs b)/\Nk fs b=some (Gi fs b):=by
 have key:∀p∈b,decide (Gx (rq p)<0)=decide (rq p<0):=fun p _=>decide_eq_decide.2 (Q0 _)
 unfold Gi
 constructor
 .unfold Pc
  by_cases h:fs.length=b.length
  .rw [Kl (by omega),cond_false,Ba h,Bool.true_and]
   refine (Jp b (fun p=>!decide (rq p<0)) (fun j=>(j:Int)) rfl (by omega) (rt:=true) (rf:=false) ?_ ?_).trans (by rw [L9])
   .intro j x hx h1 h2 h3
    have c:=lmo hx
    simp only [h1,h2,h3,cond_true,Ag,(Kv (hb x c) (by omega)).1,key x c]
    cases decide (rq x<0) with
    | true=>exact ⟨(fun h=>by cases h),fun _=>⟨_,rfl,rfl⟩⟩
    | false=>exact ⟨(fun _=>rfl),fun h=>by cases h⟩
   .intro h1
    exact ⟨.inr (),by simp only [h1]; rfl,rfl⟩
  .rw [Jn (by omega),cond_true,Bb h]; rfl
 .unfold Nk
  refine (Jp b (fun p=>!decide (rq p<0)) (fun j=>(j:Int)) rfl (by omega) (rt:=decide (fs.length=b.length)) (rf:=false) ?_ ?_).trans ?_
  .intro j x hx h1 h2 h3
   have c:=lmo hx
   simp only [h1,h2,h3,cond_true,Ag,(Kv (hb x c) (by omega)).2,key x c]
   cases decide (rq x<0) with
   | true=>exact ⟨(fun h=>by cases h),fun _=>⟨_,rfl,rfl⟩⟩
   | false=>exact ⟨(fun _=>rfl),fun h=>by cases h⟩
  .intro h1
   refine ⟨.inr (),by simp only [h1]; rfl,?_⟩
   dsimp only
   congr 1
   by_cases h:fs.length=b.length
   .rw [Ba h,Fd (by omega)]
   .rw [Bb h,C6 (by omega)]
  .congr 1
   cases b.all fun p=>!decide (rq p<0) with
   | true=>rw [cond_true,Bool.and_true]
   | false=>rw [cond_false,Bool.and_false]
end Go.Ab
namespace Go.Ab
open Go
def dq (P:Ao->Int):List Ao->List Ai->Rat
 | f::fs,p::b=>rq p*(P f:Rat)+dq P fs b
 | _,_=>0
theorem Agl (P:Ao->Int):∀(fs:List Ao) (b:List Ai) (f:Ao) (p:Ai),fs.length=b.length->dq P (fs++[f]) (b++[p])=dq P fs b+rq p*(P f:Rat)
 | [],[],f,p,_=>by simp only [List.nil_append,dq]; grind
 | g::fs,q::b,f,p,h=>by
  simp only [List.cons_append,dq,Agl P fs b f p (by simpa using h)]; grind
 | [],q::b,f,p,h=>by simp at h
 | g::fs,[],f,p,h=>by simp at h
theorem U1 {P:Ao->Int}:∀{fs:List Ao} {b:List Ai},(∀f∈fs,P f=0)->dq P fs b=0
 | [],_,_=>by simp only [dq]
 | g::fs,[],_=>by simp only [dq]
 | g::fs,q::b,h=>by
  simp only [dq]
  rw [U1 (fs:=fs) fun f c=>h f (by simp [c]),h g (by simp)]
  simp only [Rat.intCast_zero]; grind
theorem U2 {P:Ao->Int} {fs:List Ao} {b:List Ai} {j:Nat} {f:Ao} {p:Ai} (c:fs[j]? = some f) (hp:b[j]? = some p):dq P (fs.take (j+1)) (b.take (j+1))=dq P (fs.take j) (b.take j)+rq p*(P f:Rat):=by
 rw [F6 c,F6 hp,Agl]
 have:=Fe c
 have:=Fe hp
 rw [List.length_take,List.length_take]; omega
theorem Aaq (a:Ai):(⟨a.Neg,a.Num,a.Den⟩:Ai)=a:=rfl
theorem Agm {K:Nat} (B:Ao->Option Int) (P:Ao->Int) (fs:List Ao) (g:Ao) (x:List Ai) (hl:fs.length=x.length) (hn:fs.length<=200) (hb:∀p∈x,RB 1048576 p) (I:B g=some (P g)) (J:∀f∈fs,B f=some (P f)) (bg : -1048576<=P g/\P g<=1048576) (bf:∀f∈fs,-1048576<=P f/\P f<=1048576) (hK:K=3+200*1048584) :
  ∃r,((B g).bind fun v3=>(Ee v3).bind fun v4=>
   (An (S:=(Int×Bool×(List Int)×(List Int))) (E:=(Bool×(List Int)×(List Int))) (fun (b,k,h,c)=>
   bif (decide (b<(fs.length:Int))) then (
   (Af fs b).bind fun v17=>
   (B v17).bind fun l=>
   bif (l != (0:Int)) then (
   (Af x b).bind fun v20=>
   (Ee l).bind fun v21=>
   (Ez v20 v21).bind fun v22=>
   (Jj (Ai.mk k h c) v22).bind fun v23=>
   some (.inl ((Ac (b+1)),v23.Neg,v23.Num,v23.Den)))
   else (
   some (.inl ((Ac (b+1)),k,h,c))))
   else (some (.inr (k,h,c)))) (0,v4.Neg,v4.Num,v4.Den)).bind fun (v24,v25,v26)=>some (Ai.mk v24 v25 v26))=some r/\RB K r/\rq r=(P g:Rat)-dq P fs x:=by
 obtain ⟨z,N,z2,z3,z4⟩:=Af1 (P g) (by omega) (by omega)
 rw [I,Ag,N,Ag]
 obtain ⟨⟨n,u,d⟩,e1,e2,e3⟩:=Mm (step:=(fun (b,k,h,c)=>
   bif (decide (b<(fs.length:Int))) then (
   (Af fs b).bind fun v17=>
   (B v17).bind fun l=>
   bif (l != (0:Int)) then (
   (Af x b).bind fun v20=>
   (Ee l).bind fun v21=>
   (Ez v20 v21).bind fun v22=>
   (Jj (Ai.mk k h c) v22).bind fun v23=>
   some (.inl ((Ac (b+1)),v23.Neg,v23.Num,v23.Den)))
   else (
   some (.inl ((Ac (b+1)),k,h,c))))
   else (some (.inr (k,h,c))):Int×Bool×List Int×List Int->Option ((Int×Bool×List Int×List Int)⊕(Bool×List Int×List Int)))) (s0:=(0,z.Neg,z.Num,z.Den)) fs
  (fun j s=>s.1=(j:Int)/\RB (3+j*1048584) ⟨s.2.1,s.2.2.1,s.2.2.2⟩/\rq ⟨s.2.1,s.2.2.1,s.2.2.2⟩=(P g:Rat)-dq P (fs.take j) (x.take j))
  (fun e=>RB (3+fs.length*1048584) ⟨e.1,e.2.1,e.2.2⟩/\rq ⟨e.1,e.2.1,e.2.2⟩=(P g:Rat)-dq P fs x)
  ⟨rfl,z2.mono (by omega),by dsimp only; rw [Aaq,z4,List.take_zero]; simp only [dq]; grind⟩ (by omega)
  (by
   rintro j f ⟨i,n,u,d⟩ hj L h1 h2 h3 ⟨D,A,hq⟩
   dsimp only at D A hq ⊢
   subst D
   have M:=lmo L
   have q:x[j]? = some (x[j]'(by omega)):=Cr _
   generalize x[j]'_=p at q
   have G:=lmo q
   have a1:=bf f M
   rw [h1,cond_true,h2,Ag,J f M,Ag]
   by_cases h0:P f=0
   .rw [Kl h0,cond_false,h3]
    refine ⟨_,rfl,rfl,A.mono (by omega),?_⟩
    dsimp only
    rw [hq,U2 L q,h0]
    simp only [Rat.intCast_zero]; grind
   .rw [Jn h0,cond_true,Ew rfl q,Ag]
    obtain ⟨y,V,U,y3,R⟩:=Af1 (P f) (by omega) (by omega)
    obtain ⟨m,m1,m2,m3,m4⟩:=Anu (hb p G) U (by omega) (by omega)
    obtain ⟨s,Z,Y,s3,X⟩:=Aov A m2 (by omega) (by omega)
    rw [V,Ag,m1,Ag,Z,Ag,h3]
    refine ⟨_,rfl,rfl,Y.mono (by omega),?_⟩
    dsimp only
    rw [Aaq,X,hq,m4,R,U2 L q]; grind)
  (by
   rintro h1 ⟨i,n,u,d⟩ ⟨D,A,hq⟩
   dsimp only at D A hq ⊢
   subst D
   rw [h1,cond_false]
   refine ⟨_,rfl,A,?_⟩
   dsimp only
   rw [hq,List.take_length,hl,List.take_length])
 refine ⟨⟨n,u,d⟩,bnd e1 rfl,e2.mono ?_,e3⟩
 have:fs.length*1048584<=200*1048584:=Nat.mul_le_mul_right _ hn
 omega
theorem U3 {a:Ao} (h:Cd a=true) (v:Int) : -1048576<=fc a.Terms v/\fc a.Terms v<=1048576:=Apx (Ky h) (by decide) v
abbrev KQ:Nat:=3+200*1048584
theorem Ap2 (fs:List Ao) (g:Ao) (b:List Ai) (v:Int) (k:fs.length=b.length) (j:fs.length<=200) (hb:∀p∈b,RB 1048576 p) (c:Cd g=true) (i:∀f∈fs,Cd f=true) :
  ∃r,Pn fs g b v=some r/\RB KQ r/\rq r=(fc g.Terms v:Rat)-dq (fun f=>fc f.Terms v) fs b:=by
 have hc:∀f,Cd f=true->Lt f v=some (fc f.Terms v):=fun f h=>by
  unfold Lt
  rw [Apz f v (by have:=(Gf h).1; omega)]; rfl
 exact Agm (fun f=>Lt f v) (fun f=>fc f.Terms v) fs g b k j hb (hc g c) (fun f h=>hc f (i f h)) (U3 c v) (fun f h=>U3 (i f h) v) rfl
theorem Ap3 (fs:List Ao) (g:Ao) (b:List Ai) (i:fs.length=b.length) (c:fs.length<=200) (hb:∀p∈b,RB 1048576 p) (j:Cd g=true) (k:∀f∈fs,Cd f=true) :
  ∃r,Tw fs g b=some r/\RB KQ r/\rq r=(g.Const:Rat)-dq (fun f=>f.Const) fs b :=
 Agm (fun f=>Po f) (fun f=>f.Const) fs g b i c hb rfl (fun f _=>rfl) (Gf j).2 (fun f h=>(Gf (k f h)).2) rfl
theorem Aar (x:Rat):Gx x≠0↔x≠0:=not_congr (Uv x)
def Hx (fs:List Ao) (g:Ao) (b:List Ai):Prop:=∀v,dq (fun f=>fc f.Terms v) fs b=(fc g.Terms v:Rat)
open Classical in
theorem Agn (fs:List Ao) (g:Ao) (ps:List Ai) (hl:fs.length=ps.length) (hn:fs.length<=5) (h4:∀f∈fs,f.Terms.length<=4) (hb:∀p∈ps,RB 1048576 p) (hg:Cd g=true) (hf:∀f∈fs,Cd f=true) :
  ∃r,Nh fs g ps=some (r,decide (Hx fs g ps))/\(Hx fs g ps->RB KQ r/\rq r=(g.Const:Rat)-dq (fun f=>f.Const) fs ps):=by
 obtain ⟨r2,r21,r22,r23⟩:=Ap3 fs g ps hl (by omega) hb hg hf
 have hcl:Pl fs=some ([],fs):=by
  unfold Pl Ib
  rw [D7 (by simp; omega)]; rfl
 have hal:(C9 (fs++[g])).length<=1000000:=by
  have h1:=Uz h4
  have h2:=(Gf hg).1
  unfold C9 at *
  rw [List.flatMap_append,List.length_append]
  simp only [List.flatMap_cons,List.flatMap_nil,List.append_nil,List.length_map]
  omega
 obtain ⟨V,v1,v2,v3⟩:=Agj (fs++[g]) (by simp; omega) hal
 have hVA:V.all (fun v=>decide (dq (fun f=>fc f.Terms v) fs ps=(fc g.Terms v:Rat)))=decide (Hx fs g ps):=by
  rw [Bool.eq_iff_iff,List.all_eq_true,decide_eq_true_eq]
  constructor
  .intro h v
   by_cases hv:v∈V
   .simpa using h v hv
   .have hv':v ∉ C9 (fs++[g]):=fun h=>hv ((v3 v).2 h)
    have hz:=Aam hv'
    rw [U1 fun f hf'=>hz f (by simp [hf']),hz g (by simp)]; rfl
  .intro h v _
   exact decide_eq_true (h v)
 unfold Nh
 rw [hcl,Ag]
 dsimp only
 rw [D7 (by simp; omega),Ag,v1,Ag]
 have key:=Jp (step:=(fun v12=>
   bif (decide (v12<(V.length:Int))) then (
   (Af V v12).bind fun v13=>
   (Pn fs g ps v13).bind fun v15=>
   (Fp v15).bind fun v16=>
   bif (v16 != (0:Int)) then (
   some (.inr (.inl ((Ai.mk false [] []),false))))
   else (
   some (.inl (Ac (v12+1)))))
   else (some (.inr (.inr ()))):Int->Option (Int⊕((Ai×Bool)⊕Unit)))) (s0:=0) (J:=fun z=>match z with
    | .inl (r17,r18)=>some (r17,r18)
    | .inr _=>(Tw fs g ps).bind fun v19=>some (v19,true)) V (fun v=>decide (dq (fun f=>fc f.Terms v) fs ps=(fc g.Terms v:Rat))) (fun j=>(j:Int)) rfl (by omega) (rt:=(r2,true)) (rf:=((Ai.mk false [] []),false)) (by
   intro j x hx h1 h2 h3
   obtain ⟨r,d1,d2,d3⟩:=Ap2 fs g ps x hl (by omega) hb hg hf
   simp only [h1,h2,h3,cond_true,Ag,d1,(Kv d2 (by decide)).1]
   constructor
   .intro h
    have h:=of_decide_eq_true h
    rw [Kl ((Uv _).2 (by rw [d3,h]; grind))]; rfl
   .intro h
    have h:=of_decide_eq_false h
    rw [Jn ((Aar _).2 (by rw [d3]; intro e; exact h (by grind)))]
    exact ⟨_,rfl,rfl⟩) (by
   intro h1
   refine ⟨.inr (),?_,?_⟩ <;> first | (simp only [h1]; rfl) | (simp only [r21]; rfl))
 rw [hVA] at key
 by_cases hA:Hx fs g ps
 .rw [decide_eq_true hA] at key ⊢
  exact ⟨r2,key,fun _=>⟨r22,r23⟩⟩
 .rw [decide_eq_false hA] at key ⊢
  exact ⟨_,key,fun h=>(hA h).elim⟩
def Q1 (fs:List Ao) (b:List Ai):Prop:=Hx fs ⟨0,[]⟩ b/\dq (fun f=>f.Const) fs b<0
theorem Ap4:Cd ⟨0,[]⟩=true:=by decide
open Classical in
theorem Ap5 (fs:List Ao) (ps:List Ai) (hl:fs.length=ps.length) (hn:fs.length<=5) (h4:∀f∈fs,f.Terms.length<=4) (hb:∀p∈ps,RB 1048576 p) (hf:∀f∈fs,Cd f=true) :
  Ni fs ps=some (decide (Q1 fs ps)):=by
 obtain ⟨r,r1,r2⟩:=Agn fs ⟨0,[]⟩ ps hl hn h4 hb Ap4 hf
 unfold Ni
 rw [r1,Ag]
 by_cases hA:Hx fs ⟨0,[]⟩ ps
 .obtain ⟨r3,r4⟩:=r2 hA
  rw [decide_eq_true hA,cond_true,(Kv r3 (by decide)).1,Ag]
  congr 1
  refine decide_eq_decide.2 ?_
  rw [Ap1,r4]
  unfold Q1
  constructor
  .intro h; exact ⟨hA,by simp only [Rat.intCast_zero] at h; grind⟩
  .rintro ⟨_,h⟩; simp only [Rat.intCast_zero]; grind
 .rw [decide_eq_false hA,cond_false,decide_eq_false fun h=>hA h.1]
def Mn (fs:List Ao) (g:Ao) (b:List Ai):Prop:=(Hx fs g b/\dq (fun f=>f.Const) fs b<=(g.Const:Rat))\/Q1 fs b
open Classical in
theorem Aas (fs:List Ao) (g:Ao) (ps:List Ai) (hn:fs.length<=5) (h4:∀f∈fs,f.Terms.length<=4) (hp:ps.length<=1048576) (hb:∀p∈ps,RB 1048576 p) :
  Lm fs g ps=some (fs.all Cd&&(Cd g&&(Gi fs ps&&decide (Mn fs g ps)))):=by
 unfold Lm
 rw [(Aao fs hn h4).1]
 cases hv:fs.all Cd with
 | false=>rfl
 | true=>
  rw [Il]
  cases hg:Cd g with
  | false=>rfl
  | true=>
   rw [(Aap fs ps hp hb).1]
   cases hm:Gi fs ps with
   | false=>rfl
   | true=>
    have hl:fs.length=ps.length:=by
     unfold Gi at hm
     rw [bae,decide_eq_true_eq] at hm
     exact hm.1
    have hf:=List.all_eq_true.1 hv
    obtain ⟨r,r1,r2⟩:=Agn fs g ps hl hn h4 hb hg hf
    have hr:=Ap5 fs ps hl hn h4 hb hf
    simp only [Ag,bnt,cond_false,r1,hr,Bool.true_and]
    by_cases hA:Hx fs g ps
    .obtain ⟨r3,r4⟩:=r2 hA
     rw [decide_eq_true hA,cond_true,(Kv r3 (by decide)).1,Ag]
     by_cases hc:dq (fun f=>f.Const) fs ps<=(g.Const:Rat)
     .rw [Ba (by have:=mt (Q0 (rq r)).1 (by rw [r4]; grind); omega),cond_true]
      congr 1
      exact (decide_eq_true (.inl ⟨hA,hc⟩)).symm
     .rw [Bb (by have:=(Q0 (rq r)).2 (by rw [r4]; grind); omega),cond_false]
      congr 1
      exact decide_eq_decide.2 ⟨.inr,fun h=>h.resolve_left fun h=>hc h.2⟩
    .rw [decide_eq_false hA,cond_false]
     congr 1
     exact decide_eq_decide.2 ⟨.inr,fun h=>h.resolve_left fun h=>hA h.1⟩
theorem Ago {α:Type} {l:List α} {n:Nat} {x:α} (i:Nat) (b:n<l.length):(Bt l (n:Int) x)[i]? = if i=n then some x else l[i]?:=by
 rw [Ep (n:=n) rfl,List.getElem?_set]
 by_cases h:n=i
 .subst h; simp [b]
 .rw [if_neg h,if_neg (Ne.symm h)]
def Cmb (fs:List Ao) (b:List Ai) (V:List Int) (j:Nat->Nat) (o:List Ai):Prop :=
 o.length=V.length/\∀i v,V[i]? = some v->∃x,o[i]? = some x/\RB (3+j i*1048584) x/\rq x=dq (fun f=>fc f.Terms v) (fs.take (j i)) (b.take (j i))
theorem Agp (fs:List Ao) (k:List Ai) (V:List Int) (hl:fs.length=k.length) (hn:fs.length<=200) (hV:V.length<=1000) (hb:∀p∈k,RB 1048576 p) (hf:∀f∈fs,Cd f=true) :
  ∃L c,Nl fs k V=some (L,c)/\Cmb fs k V (fun _=>fs.length) L/\RB KQ c/\rq c=dq (fun f=>f.Const) fs k:=by
 obtain ⟨z,_,z1,z2,z3,z4⟩:=Qx 0 (by decide) (by decide)
 unfold Nl
 rw [z1,Ag]
 have ah:Dv 56 (V.length:Int) (V.length:Int) ((Ai.mk false [] []):Ai)=some (List.replicate V.length (Ai.mk false [] [])):=by
  rw [I4 (n:=V.length) (c:=V.length) rfl rfl (by omega) (by omega) (by omega)]
 rw [ah,Ag]
 obtain ⟨o0,a1,a2,a3⟩:=Mm (step:=(fun (v7,o8)=>
   bif (decide (v7<(V.length:Int))) then (
   (Af o8 v7).bind fun v9=>
   some (.inl ((Ac (v7+1)),(Bt o8 v7 z))))
   else (some (.inr o8)):Int×List Ai->Option ((Int×List Ai)⊕List Ai))) (s0:=(0,List.replicate V.length (Ai.mk false [] []))) V
  (fun j s=>s.1=(j:Int)/\s.2.length=V.length/\∀i,i<j->s.2[i]? = some z) (fun o=>o.length=V.length/\∀i,i<V.length->o[i]? = some z) ⟨rfl,by simp,fun i h=>by omega⟩ (by omega)
  (by
   rintro j x ⟨i,o⟩ hj hx h1 h2 h3 ⟨h,ho,hz⟩
   dsimp only at h ho hz ⊢
   subst h
   have af:o[j]? = some (o[j]'(by omega)):=Cr _
   rw [h1,cond_true,Ew rfl af,Ag,h3]
   refine ⟨_,rfl,rfl,?_,fun i h=>?_⟩
   .dsimp only
    rw [Ep (n:=j) rfl,List.length_set,ho]
   .dsimp only
    rw [Ago i (by omega)]
    split
    .rfl
    .exact hz i (by omega))
  (by
   rintro h1 ⟨i,o⟩ ⟨h,ho,hz⟩
   dsimp only at h ho hz ⊢
   subst h
   rw [h1,cond_false]
   exact ⟨_,rfl,ho,hz⟩)
 have ai:Cmb fs k V (fun _=>0) o0:=by
  refine ⟨a2,fun i v I=>⟨z,a3 i (Fe I),z2.mono (by omega),?_⟩⟩
  rw [z4,List.take_zero,List.take_zero]; rfl
 obtain ⟨⟨n,u,d,o⟩,b1,b2,b3,b4⟩:=Mm (step:=(fun (A,v39,v40,v41,a8)=>
   bif (decide (A<(fs.length:Int))) then (
   (Af k A).bind fun ad=>
   (Af fs A).bind fun v44=>
   (G4 v44.Const).bind fun v45=>
   (Ie ad v45).bind fun v46=>
   (Hk (Ai.mk v39 v40 v41) v46).bind fun U=>
   (An (S:=(Int×(List Ai))) (E:=(Int×(List Ai))) (fun (b,g)=>
   bif (decide (b<(V.length:Int))) then (
   (Af g b).bind fun v59=>
   (Af k A).bind fun v60=>
   (Af fs A).bind fun R=>
   (Af V b).bind fun N=>
   (Ka R N).bind fun M=>
   (G4 M).bind fun v64=>
   (Ie v60 v64).bind fun J=>
   (Hk v59 J).bind fun v66=>
   (Af g b).bind fun v67=>
   some (.inl ((Ac (b+1)),(Bt g b v66))))
   else (some (.inr (b,g)))) (0,a8)).bind fun (ak,ae)=>
   some (.inl ((Ac (A+1)),U.Neg,U.Num,U.Den,ae)))
   else (some (.inr (v39,v40,v41,a8))):Int×Bool×List Int×List Int×List Ai->Option ((Int×Bool×List Int×List Int×List Ai)⊕(Bool×List Int×List Int×List Ai)))) (s0:=(0,z.Neg,z.Num,z.Den,o0)) fs
  (fun j s=>s.1=(j:Int)/\RB (3+j*1048584) ⟨s.2.1,s.2.2.1,s.2.2.2.1⟩/\rq ⟨s.2.1,s.2.2.1,s.2.2.2.1⟩=dq (fun f=>f.Const) (fs.take j) (k.take j)/\Cmb fs k V (fun _=>j) s.2.2.2.2)
  (fun e=>RB (3+fs.length*1048584) ⟨e.1,e.2.1,e.2.2.1⟩/\rq ⟨e.1,e.2.1,e.2.2.1⟩=dq (fun f=>f.Const) fs k/\Cmb fs k V (fun _=>fs.length) e.2.2.2)
  ⟨rfl,z2.mono (by omega),by show rq z=dq _ (fs.take 0) (k.take 0); rw [z4,List.take_zero,List.take_zero]; rfl,ai⟩ (by omega)
  (by
   rintro j f ⟨i,n,u,d,o⟩ hj Y h1 h2 h3 ⟨h,hB,hq,hC⟩
   dsimp only at h hB hq hC ⊢
   subst h
   have hm:=lmo Y
   have B:k[j]? = some (k[j]'(by omega)):=Cr _
   generalize k[j]'_=p at B
   have aa:=lmo B
   have ab:=hf f hm
   have aj:=Gf ab
   obtain ⟨y,_,y1,y2,y3,y4⟩:=Qx f.Const (by omega) (by omega)
   obtain ⟨m,_,m1,m2,m3,m4⟩:=Afn (hb p aa) y2 (by omega) (by omega)
   obtain ⟨s,_,s1,s2,s3,s4⟩:=Z5 hB m2 (by omega) (by omega)
   rw [h1,cond_true,Ew rfl B,Ag,h2,Ag,y1,Ag,m1,Ag,s1,Ag]
   obtain ⟨⟨i',o'⟩,g1,g2⟩:=Mm (step:=(fun (b,g)=>
     bif (decide (b<(V.length:Int))) then (
     (Af g b).bind fun v59=>
     (some p).bind fun v60=>
     (some f).bind fun R=>
     (Af V b).bind fun N=>
     (Ka R N).bind fun M=>
     (G4 M).bind fun v64=>
     (Ie v60 v64).bind fun J=>
     (Hk v59 J).bind fun v66=>
     (Af g b).bind fun v67=>
     some (.inl ((Ac (b+1)),(Bt g b v66))))
     else (some (.inr (b,g))):Int×List Ai->Option ((Int×List Ai)⊕(Int×List Ai)))) (s0:=(0,o)) V
    (fun q s=>s.1=(q:Int)/\Cmb fs k V (fun i=>if i<q then j+1 else j) s.2) (fun e=>Cmb fs k V (fun _=>j+1) e.2)
    ⟨rfl,hC.1,fun i v I=>by
     obtain ⟨x,Z,G,D⟩:=hC.2 i v I
     exact ⟨x,Z,by dsimp only; rw [if_neg (by omega)]; exact G,by dsimp only; rw [if_neg (by omega)]; exact D⟩⟩ (by omega)
    (by
     rintro q v ⟨i,o⟩ hq I k1 k2 k3 ⟨h,l⟩
     dsimp only at h l ⊢
     subst h
     obtain ⟨x,Z,G,D⟩:=l.2 q v I
     dsimp only at G D
     rw [if_neg (by omega)] at G D
     have am:=U3 ab v
     obtain ⟨t,_,t1,t2,t3,t4⟩:=Qx (fc f.Terms v) (by omega) (by omega)
     obtain ⟨w,_,w1,w2,w3,w4⟩:=Afn (hb p aa) t2 (by omega) (by omega)
     obtain ⟨r,_,r1,r2,r3,r4⟩:=Z5 G w2 (by omega) (by omega)
     rw [k1,cond_true,Ew rfl Z,Ag,Ag,Ag,k2,Ag,Agi f v (by omega),Ag,t1,Ag,w1,Ag,r1,Ag,Ag,k3]
     have ag:q<o.length:=Fe Z
     refine ⟨_,rfl,rfl,?_,fun i v' X=>?_⟩
     .dsimp only
      rw [Ep (n:=q) rfl,List.length_set,l.1]
     .dsimp only
      rw [Ago i ag]
      by_cases e:i=q
      .subst e
       rw [I] at X; cases X
       rw [if_pos rfl,if_pos (by omega)]
       refine ⟨r,rfl,r2.mono (by omega),?_⟩
       rw [r4,D,w4,t4,U2 Y B]
      .rw [if_neg e]
       obtain ⟨x',ac,a7,a6⟩:=l.2 i v' X
       have e2:(if i<q then j+1 else j)=(if i<q+1 then j+1 else j):=by
        by_cases e2:i<q
        .rw [if_pos e2,if_pos (by omega)]
        .rw [if_neg e2,if_neg (by omega)]
       dsimp only at a7 a6 ⊢
       rw [<-e2]
       exact ⟨x',ac,a7,a6⟩)
    (by
     rintro k1 ⟨i,o⟩ ⟨h,l⟩
     dsimp only at h l ⊢
     subst h
     rw [k1,cond_false]
     refine ⟨_,rfl,l.1,fun i v I=>?_⟩
     obtain ⟨x,Z,G,D⟩:=l.2 i v I
     dsimp only at G D
     rw [if_pos (Fe I)] at G D
     exact ⟨x,Z,G,D⟩)
   refine ⟨(((j+1:Nat):Int),s.Neg,s.Num,s.Den,o'),bnd g1 ?_,rfl,s2.mono (by omega),?_,g2⟩
   .dsimp only
    rw [h3]
   .dsimp only
    rw [Aaq,s4,hq,m4,y4,U2 Y B])
  (by
   rintro h1 ⟨i,n,u,d,o⟩ ⟨h,hB,hq,hC⟩
   dsimp only at h hB hq hC ⊢
   subst h
   rw [h1,cond_false]
   refine ⟨_,rfl,hB,?_,hC⟩
   dsimp only
   rw [hq,List.take_length,hl,List.take_length])
 have hk:3+fs.length*1048584<=KQ:=by
  have:fs.length*1048584<=200*1048584:=Nat.mul_le_mul_right _ hn
  unfold KQ; omega
 exact ⟨o,⟨n,u,d⟩,bnd a1 (bnd b1 rfl),b4,b2.mono hk,b3⟩
end Go.Ab
namespace Go.Ab
open Go
open Classical in
theorem Ap6 (fs:List Ao) (ps:List Ai) (hn:fs.length<=5) (h4:∀f∈fs,f.Terms.length<=4) (hp:ps.length<=1048576) (hb:∀p∈ps,RB 1048576 p) :
  Pe fs ps=some (fs.all Cd&&(Gi fs ps&&decide (Q1 fs ps))):=by
 unfold Pe
 rw [(Aao fs hn h4).2]
 cases hv:fs.all Cd with
 | false=>rfl
 | true=>
  rw [(Aap fs ps hp hb).2]
  cases hm:Gi fs ps with
  | false=>rfl
  | true=>
   have hl:fs.length=ps.length:=by
    unfold Gi at hm
    rw [bae,decide_eq_true_eq] at hm
    exact hm.1
   have hf:=List.all_eq_true.1 hv
   have hal:=Uz h4
   obtain ⟨V,v1,v2,v3⟩:=Aan fs (by omega) (by omega)
   obtain ⟨L,c,c1,c2,c3,c4⟩:=Agp fs ps V hl (by omega) (by omega) hb hf
   have hLA:L.all (fun x=>decide (rq x=0))=decide (Hx fs ⟨0,[]⟩ ps):=by
    rw [Bool.eq_iff_iff,List.all_eq_true,decide_eq_true_eq]
    constructor
    .intro h v
     by_cases hv:v∈V
     .obtain ⟨i,hi⟩:=List.getElem?_of_mem hv
      obtain ⟨x,x1,_,x3⟩:=c2.2 i v hi
      have:=of_decide_eq_true (h x (lmo x1))
      rw [List.take_length,hl,List.take_length] at x3
      rw [<-x3,this]; rfl
     .have hv':v ∉ C9 fs:=fun h=>hv ((v3 v).2 h)
      rw [U1 (Aam hv')]; rfl
    .intro h x hx
     obtain ⟨i,hi⟩:=List.getElem?_of_mem hx
     have hil:=Fe hi
     have hvi:V[i]? = some (V[i]'(by rw [<-c2.1]; exact hil)):=Cr _
     generalize V[i]'_=v at hvi
     obtain ⟨y,y1,_,y3⟩:=c2.2 i v hvi
     rw [hi] at y1; cases y1
     rw [List.take_length,hl,List.take_length] at y3
     exact decide_eq_true (y3.trans ((h _).trans rfl))
   simp only [Ag,bnt,cond_false,v1,c1,Bool.true_and]
   refine (Jp L (fun x=>decide (rq x=0)) (fun j=>(j:Int)) rfl (by rw [c2.1]; omega) (rt:=decide (dq (fun f=>f.Const) fs ps<0)) (rf:=false) ?_ ?_).trans ?_
   .intro j x hx h1 h2 h3
    have hil:=Fe hx
    have hvi:V[j]? = some (V[j]'(by rw [<-c2.1]; exact hil)):=Cr _
    obtain ⟨y,y1,y2,_⟩:=c2.2 j _ hvi
    rw [hx] at y1; cases y1
    dsimp only at y2
    have hk:3+fs.length*1048584<34359738000:=by omega
    simp only [h1,h2,h3,cond_true,Ag,(Kv y2 hk).2]
    constructor
    .intro h
     rw [Kl ((Uv _).2 (of_decide_eq_true h))]; rfl
    .intro h
     rw [Jn ((Aar _).2 (of_decide_eq_false h))]
     exact ⟨_,rfl,rfl⟩
   .intro h1
    refine ⟨.inr (),by simp only [h1]; rfl,?_⟩
    dsimp only
    rw [(Kv c3 (by decide)).2,Ag]
    congr 1
    rw [decide_eq_decide,Q0,c4]
   .rw [hLA]
    congr 1
    by_cases hA:Hx fs ⟨0,[]⟩ ps
    .rw [decide_eq_true hA,cond_true]
     exact decide_eq_decide.2 ⟨fun h=>⟨hA,h⟩,fun h=>h.2⟩
    .rw [decide_eq_false hA,cond_false,decide_eq_false fun h=>hA h.1]
open Classical in
theorem Aat (fs:List Ao) (g:Ao) (ps:List Ai) (hn:fs.length<=5) (h4:∀f∈fs,f.Terms.length<=4) (hp:ps.length<=1048576) (hb:∀p∈ps,RB 1048576 p) :
  Ln fs g ps=some (fs.all Cd&&(Cd g&&(Gi fs ps&&decide (Mn fs g ps)))):=by
 unfold Ln
 rw [(Aao fs hn h4).2]
 cases hv:fs.all Cd with
 | false=>rfl
 | true=>
  rw [Agk]
  cases hg:Cd g with
  | false=>rfl
  | true=>
   rw [(Aap fs ps hp hb).2]
   cases hm:Gi fs ps with
   | false=>rfl
   | true=>
    have hl:fs.length=ps.length:=by
     unfold Gi at hm
     rw [bae,decide_eq_true_eq] at hm
     exact hm.1
    have hf:=List.all_eq_true.1 hv
    have hc:=Ap6 fs ps hn h4 hp hb
    rw [hv,hm,Bool.true_and,Bool.true_and] at hc
    simp only [Ag,bnt,cond_false,hc,Bool.true_and]
    by_cases hR:Q1 fs ps
    .rw [decide_eq_true hR,cond_true,decide_eq_true (p:=Mn fs g ps) (.inr hR)]
    .rw [decide_eq_false hR,cond_false]
     have hal:(C9 (fs++[g])).length<=36:=by
      have h1:=Uz h4
      have h2:=(Gf hg).1
      unfold C9 at *
      rw [List.flatMap_append,List.length_append]
      simp only [List.flatMap_cons,List.flatMap_nil,List.append_nil,List.length_map]
      omega
     obtain ⟨V,v1,v2,v3⟩:=Aan (fs++[g]) (by simp; omega) (by omega)
     obtain ⟨L,c,c1,c2,c3,c4⟩:=Agp fs ps V hl (by omega) (by omega) hb hf
     have hVA:V.all (fun v=>decide (dq (fun f=>fc f.Terms v) fs ps=(fc g.Terms v:Rat)))=decide (Hx fs g ps):=by
      rw [Bool.eq_iff_iff,List.all_eq_true,decide_eq_true_eq]
      constructor
      .intro h v
       by_cases hv:v∈V
       .simpa using h v hv
       .have hv':v ∉ C9 (fs++[g]):=fun h=>hv ((v3 v).2 h)
        have hz:=Aam hv'
        rw [U1 fun f hf'=>hz f (by simp [hf']),hz g (by simp)]; rfl
      .intro h v _
       exact decide_eq_true (h v)
     rw [D7 (by simp; omega),Ag,List.nil_append,D7 (by simp; omega),Ag,v1,Ag,c1,Ag]
     obtain ⟨y,_,y1,y2,y3,y4⟩:=Qx g.Const (by have:=(Gf hg).2; omega) (by have:=(Gf hg).2; omega)
     refine (Jp V (fun v=>decide (dq (fun f=>fc f.Terms v) fs ps=(fc g.Terms v:Rat))) (fun j=>(j:Int)) rfl (by omega) (rt:=decide (dq (fun f=>f.Const) fs ps<=(g.Const:Rat))) (rf:=false) ?_ ?_).trans ?_
     .intro j v hv h1 h2 h3
      obtain ⟨x,x1,x2,x3⟩:=c2.2 j v hv
      rw [List.take_length,hl,List.take_length] at x3
      have hbg:=U3 hg v
      obtain ⟨t,_,t1,t2,t3,t4⟩:=Qx (fc g.Terms v) (by omega) (by omega)
      have hk:3+fs.length*1048584<17179868000:=by omega
      simp only [h1,h2,h3,cond_true,Ag,Ew rfl x1,Agi g v (by have:=(Gf hg).1; omega),t1,Af2 x2 t2 hk (by decide)]
      constructor
      .intro h
       have h:=of_decide_eq_true h
       rw [Kl ((Uv _).2 (by rw [x3,t4,h]; grind))]; rfl
      .intro h
       have h:=of_decide_eq_false h
       rw [Jn ((Aar _).2 (by rw [x3,t4]; intro e; exact h (by grind)))]
       exact ⟨_,rfl,rfl⟩
     .intro h1
      refine ⟨.inr (),by simp only [h1]; rfl,?_⟩
      dsimp only
      rw [y1,Ag,Af2 y2 c3 (by decide) (by decide),Ag]
      congr 1
      have hs:=Q0 (rq y-rq c)
      rw [decide_eq_decide,<-c4,<-y4]
      constructor
      .intro h
       have:¬(rq y-rq c<0):=fun h'=>by have:=hs.2 h'; omega
       grind
      .intro h
       have:¬(Gx (rq y-rq c)<0):=fun h'=>by have:=hs.1 h'; grind
       omega
     .rw [hVA]
      congr 1
      by_cases hA:Hx fs g ps
      .rw [decide_eq_true hA,cond_true]
       exact decide_eq_decide.2 ⟨fun h=>.inl ⟨hA,h⟩,fun h=>(h.resolve_right hR).2⟩
      .rw [decide_eq_false hA,cond_false,decide_eq_false fun h:Mn fs g ps=>h.elim (fun h=>hA h.1) hR]
theorem Ap7 (fs:List Ao) (n m:Int) (g:fs.length<=1048576) (ht:∀f∈fs,f.Terms.length<=1048576):∃b,O6 fs n m=some b/\(b=true->(fs.length:Int)<=n/\∀f∈fs,(f.Terms.length:Int)<=m):=by
 unfold O6
 by_cases h:(fs.length:Int)>n
 .rw [Ba h]
  exact ⟨false,rfl,fun h=>by cases h⟩
 .rw [Bb h,cond_false]
  refine ⟨fs.all fun f=>!decide ((f.Terms.length:Int)>m),(Jp fs (fun f=>!decide ((f.Terms.length:Int)>m)) (fun j=>(j:Int)) rfl (by omega) (rt:=true) (rf:=false) ?_ ?_).trans (by rw [L9]),fun h'=>⟨by omega,fun f c=>?_⟩⟩
  .intro j x hx h1 h2 h3
   simp only [h1,h2,h3,cond_true,Ag]
   cases decide ((x.Terms.length:Int)>m) with
   | true=>exact ⟨(fun h=>by cases h),fun _=>⟨_,rfl,rfl⟩⟩
   | false=>exact ⟨(fun _=>rfl),fun h=>by cases h⟩
  .intro h1
   exact ⟨.inr (),by simp only [h1]; rfl,rfl⟩
  .have:=List.all_eq_true.1 h' f c
   simp only [Bool.not_eq_true',decide_eq_false_iff_not] at this
   omega
theorem Agq (c:List Ai) (n:Int) (f:c.length<=1048576):∃b,Na c n=some b:=by
 unfold Na
 by_cases h:(c.length:Int)>n
 .rw [Ba h]; exact ⟨false,rfl⟩
 .rw [Bb h,cond_false]
  have hk:∀a:Ai,O9 a=some (decide (a.Num.length<=2)&&decide (a.Den.length<=2)):=fun a=>by
   unfold O9
   by_cases h1:a.Num.length<=2
   .rw [Ba (by omega),cond_true,Ba h1]
    by_cases h2:a.Den.length<=2
    .rw [Ba (by omega),Ba h2]; rfl
    .rw [Bb (by omega),Bb h2]; rfl
   .rw [Bb (by omega),Bb h1]; rfl
  refine ⟨_,(Jp c (fun a=>decide (a.Num.length<=2)&&decide (a.Den.length<=2)) (fun j=>(j:Int)) rfl (by omega) (rt:=true) (rf:=false) ?_ ?_)⟩
  .intro j x hx h1 h2 h3
   simp only [h1,h2,h3,cond_true,Ag,hk]
   cases (decide (x.Num.length<=2)&&decide (x.Den.length<=2)) with
   | true=>exact ⟨(fun _=>rfl),fun h=>by cases h⟩
   | false=>exact ⟨(fun h=>by cases h),fun _=>⟨_,rfl,rfl⟩⟩
  .intro h1
   exact ⟨.inr (),by simp only [h1]; rfl,rfl⟩
theorem Agr (a:Ao) (h:a.Terms.length<=1048576):Ng a=some a:=by
 unfold Ng Pk
 rw [D7 (by simp; omega)]; rfl
theorem Ap8 (a:Ds) (c:a.E.Terms.length+a.F.Terms.length<=12):∃l,Nc a=some l/\Pa a=some l:=by
 unfold Nc Pa
 rw [Apw a c,Agg _ _ c,Agr a.E (by omega),Agr a.F (by omega)]
 obtain ⟨b,hb,_⟩:=Apo a c
 obtain ⟨r,f⟩:=Agd a.E a.F c
 rw [hb,f]
 cases b with
 | false=>exact ⟨[],rfl,rfl⟩
 | true=>
  simp only [Ag,bnt,cond_false]
  cases a.Kind==1 with
  | true=>exact ⟨_,rfl,rfl⟩
  | false=>exact ⟨_,rfl,rfl⟩
open Classical in
theorem Ap9 (fs:List Ao) (a:Ds) (p q:List Ai) (hl:a.E.Terms.length+a.F.Terms.length<=12) (hn:fs.length<=5) (h4:∀f∈fs,f.Terms.length<=4) (hp:p.length<=1048576) (hpb:∀r∈p,RB 1048576 r) (hq:q.length<=1048576) (hqb:∀r∈q,RB 1048576 r) :
  ∃b,O7 fs a p q=some b/\O8 fs a p q=some b:=by
 obtain ⟨l,l1,l2⟩:=Ap8 a hl
 unfold O7 O8
 rw [l1,l2,Ag,Ag]
 by_cases h1:l.length=1
 .rw [Fd (by omega:(l.length:Int)=1),cond_true,cond_true]
  have hx:l[0]? = some (l[0]'(by omega)):=Cr _
  generalize l[0]'_=g at hx
  have i0:Af l 0=some g:=Ew (n:=0) rfl hx
  rw [i0,Ag,Aas fs g p hn h4 hp hpb,Ag]
  by_cases h0:q.length=0
  .rw [Fd (by omega:(q.length:Int)=0),cond_true,Ag,Aat fs g p hn h4 hp hpb,Ag]
   refine ⟨_,?_,rfl⟩
   cases (fs.all Cd&&(Cd g&&(Gi fs p&&decide (Mn fs g p)))) <;> rfl
  .rw [C6 (by omega:(q.length:Int)≠0),cond_false]
   refine ⟨false,?_,rfl⟩
   cases (fs.all Cd&&(Cd g&&(Gi fs p&&decide (Mn fs g p)))) <;> rfl
 .rw [C6 (by omega:(l.length:Int)≠1),cond_false,cond_false]
  by_cases h2:l.length=2
  .rw [Fd (by omega:(l.length:Int)=2),cond_true,cond_true]
   have hx:l[0]? = some (l[0]'(by omega)):=Cr _
   generalize l[0]'_=g at hx
   have hy:l[1]? = some (l[1]'(by omega)):=Cr _
   generalize l[1]'_=g' at hy
   have i0:Af l 0=some g:=Ew (n:=0) rfl hx
   have i1:Af l 1=some g':=Ew (n:=1) rfl hy
   rw [i0,i1,Ag,Ag,Ag,Ag,Aas fs g p hn h4 hp hpb,Aas fs g' q hn h4 hq hqb,Aat fs g p hn h4 hp hpb,Aat fs g' q hn h4 hq hqb]
   simp only [Ag]
   cases (fs.all Cd&&(Cd g&&(Gi fs p&&decide (Mn fs g p)))) with
   | true=>exact ⟨_,rfl,rfl⟩
   | false=>exact ⟨_,rfl,rfl⟩
  .rw [C6 (by omega:(l.length:Int)≠2),cond_false,cond_false]
   exact ⟨_,rfl,rfl⟩
theorem Aqa (fs:List Ao) (a:Ds) (p q:List Ai) (x:fs.length<=1048576) (ht:∀f∈fs,f.Terms.length<=1048576) (I:a.E.Terms.length<=1048576) (G:a.F.Terms.length<=1048576)
  (hp:p.length<=1048576) (g:∀r∈p,RB 1048576 r) (hq:q.length<=1048576) (c:∀r∈q,RB 1048576 r):Sq fs a p q=some true:=by
 unfold Sq
 rw [App]
 obtain ⟨b1,u,s⟩:=Ap7 fs 5 4 x ht
 obtain ⟨b2,k⟩:=Agq p 6 hp
 obtain ⟨B,j⟩:=Agq q 6 hq
 rw [u,k,j]
 unfold Ss
 simp only [Ag,bnt,cond_false]
 cases b1 with
 | false=>rfl
 | true=>
  obtain ⟨D,l⟩:=s rfl
  simp only [bnt,cond_false]
  by_cases i:(a.E.Terms.length:Int)<=4
  .rw [Ba i,cond_true]
   by_cases h:(a.F.Terms.length:Int)<=4
   .rw [Ba h]
    simp only [Ag,bnt,cond_false]
    cases b2 with
    | false=>rfl
    | true=>
     simp only [bnt,cond_false]
     cases B with
     | false=>rfl
     | true=>
      simp only [bnt,cond_false,Ag]
      obtain ⟨b,A,z⟩:=Ap9 fs a p q (by omega) (by omega) (fun f y=>by have:=l f y; omega) hp g hq c
      rw [A,z]
      simp only [Ag,beq_self_eq_true]
   .rw [Bb h]; rfl
  .rw [Bb i]; rfl
end Go.Ab
