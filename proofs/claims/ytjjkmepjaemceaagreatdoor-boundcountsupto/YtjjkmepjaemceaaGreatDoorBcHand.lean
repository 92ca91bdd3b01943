/- Contracts of strings.Builder and strconv.Itoa. -/
import Derived.Test.YtjjkmepjaemceaaGreatDoorBcTy
import Derived.Test.YtjjkmepjaemceaaGreatDoorBcHandB
import Derived.Shelf.Strconv.Itoa3
namespace Go.Ab
open Go Go.Proofs Go.Shelf
set_option maxRecDepth 100000
def An9:Ren:={f:=fun x=>match x with | 171=>193 | 243=>260 | 246=>315 | 283=>334 | 284=>335 | 285=>336 | 286=>337 | 129=>218 | 317=>353 | 318=>354 | 319=>355 | 320=>356 | 337=>358 | 338=>359 | n=>n,t:=fun x=>match x with | 3=>3 | 9=>9 | 2=>2 | 4=>4 | 171=>371 | 0=>0 | 53=>128 | 37=>230 | 5=>5 | 173=>373 | 212=>388 | 51=>129 | 20=>20 | 213=>389 | 46=>188 | 232=>391 | 233=>392 | n=>n,g:=fun x=>match x with | 17=>0 | 18=>1 | 19=>2 | n=>n}
theorem Afo:LaysM.n171 Go.Proofs.Tryz.prog An9:=by
 constructor
 constructor
 all_goals first | kernel_rfl | (intro w; kernel_rfl)
theorem St.grown {σ:Bk} {F:Bk} {W w:World} (s:St σ ι0 H0 F W w) (k:Nat) (os:Array Obj):St σ ι0 H0 F W (Sort.grow (w.drewN k) os):=by
 have hk:∀(b:Nat) (o:Obj),w.heap[b]? = some o->(Sort.grow (w.drewN k) os).heap[b]? = some o:=by
  intro b o h
  have c:=(Array.getElem?_eq_some_iff.1 h).1
  show (w.heap++os)[b]? = _
  rw [Array.getElem?_append_left c]; exact h
 exact ⟨fun b o h=>hk b o (s.sto b o h),fun b o h=>⟨hk b o (s.fra b o h).1,(s.fra b o h).2⟩,fun _=>rfl,(fun _ _ _ f=>by cases f),s.os,s.tape,s.output,s.glo⟩
theorem Aoa {σ:Bk} {ι:Ci} {H:Hp} {F:Bk} {W w:World} (s:St σ ι H F W w):Lib.TabIs Go.Proofs.Tryz.prog w "internal/strconv.uint64pow10" .u64 Lib.pow10Tab:=by
 obtain ⟨E,fr,e⟩:=s.glo
 have h:=s.sto _ _ e
 have g:Go.Proofs.Tryz.prog.globalNamed "internal/strconv.uint64pow10" = some 0:=Afo.m17
 unfold Lib.TabIs World.var?
 rw [g]
 simp only [Option.bind_some,h]
theorem Xr {σ:Bk} {ι:Ci} {H:Hp} {x:AV} {vs:Array Value} (h:Ld σ ι H [x] vs):∃v,vs = #[v]/\Conc σ ι H x v:=by
 obtain ⟨h1,h2⟩:=h
 have h1:vs.size=1:=h1
 refine ⟨vs[0],?_,h2 0 x _ rfl (by simp [h1])⟩
 apply Array.ext
 .simp [h1]
 .intro i hi b
  have:i=0:=by omega
  subst this; rfl
theorem Aob {a0:Int} {r:ByteArray} (h:Uj a0=some r):Bb Go.Proofs.Tryz.prog 193 [Af .i64 a0] (Co r):=by
 unfold Uj at h
 split at h
 .rename_i hc
  cases h
  refine ⟨⟨_,Tryz.func193,by kernel_rfl,by kernel_rfl⟩,fun σ F W w vs s b=>?_⟩
  obtain ⟨v,rfl,c⟩:=Xr b
  have c:=c.val_inv
  subst c
  have:=Any.strconv_Itoa Afo a0 hc.1 hc.2 w (Aoa s)
  refine this.mono ?_
  rintro e w' ⟨rfl,k,os,rfl⟩
  exact ⟨_,σ,rfl,Bk.le_refl σ,s.grown k os,.of_val _⟩
 .cases h
theorem Aa2 (o:Cf) (os:List Cf):hp (o::os) 0=o:=rfl
theorem Aoc (x:AV) (rest:List Cf):Cm Go.Proofs.Tryz.prog 258 [.loc 0 0] (.cells 232 [.loc 0 0,x]::rest) (.tup []) (.cells 232 [.loc 0 0,x]::rest):=by
 refine ⟨⟨_,Tryz.func258,by kernel_rfl,by kernel_rfl⟩,fun σ F W w ι vs s f=>?_⟩
 obtain ⟨v,rfl,k⟩:=Xr f
 obtain ⟨b,hb,k⟩:=k.loc_inv
 subst k
 have l:=s.obj 0
 unfold C5 at l
 rw [Aa2] at l
 obtain ⟨A,C,y,_,_,h3,u,z⟩:=l
 rw [hb] at y; cases y
 have u:C.size=2:=u
 have g:C[0]? = some C[0]:=by simp [u]
 have q:=z 0 (.loc 0 0) C[0] rfl g
 obtain ⟨b2,h,j⟩:=q.loc_inv
 rw [hb] at h; cases h
 have cell:w.cell? ⟨b,0,none⟩=some (.pointer (some ⟨b,0,none⟩)):=by
  rw [Jh h3,g,j]
 refine (Tryz.check_used b w cell).mono ?_
 rintro e w' ⟨rfl,rfl⟩
 exact ⟨_,σ,ι,rfl,Le.refl _ _ _,s,.tup _ _ rfl (fun i c v h1 _=>by cases h1)⟩
theorem Aod (x:AV) (rest:List Cf):Cm Go.Proofs.Tryz.prog 258 [.loc 0 0] (.cells 232 [.val (.pointer none),x]::rest) (.tup []) (.cells 232 [.loc 0 0,x]::rest):=by
 refine ⟨⟨_,Tryz.func258,by kernel_rfl,by kernel_rfl⟩,fun σ F W w ι vs s j=>?_⟩
 obtain ⟨v,rfl,q⟩:=Xr j
 obtain ⟨b,hb,q⟩:=q.loc_inv
 subst q
 have u:=s.obj 0
 unfold C5 at u
 rw [Aa2] at u
 obtain ⟨E,C,A,_,_,h3,g,z⟩:=u
 rw [hb] at A; cases A
 have g:C.size=2:=g
 have k:C[0]? = some C[0]:=by simp [g]
 have l:=(z 0 (.val (.pointer none)) C[0] rfl k).val_inv
 have cell:w.cell? ⟨b,0,none⟩=some (.pointer none):=by
  rw [Jh h3,k,l]
 refine (Tryz.check_fresh b w cell (by simp [World.shape?,h3,g]) (by simp [World.frozen?,h3])).mono ?_
 rintro e w' ⟨rfl,rfl⟩
 obtain ⟨s',le⟩:=s.setBox 0 232 [.val (.pointer none),x] [.loc 0 0,x] rfl b hb #[.pointer (some ⟨b,0,none⟩),C[1]] rfl (by
  intro i c v h1 h2
  match i with
  | 0=>simp at h1 h2; subst h1; subst h2; exact .loc 0 0 b hb
  | 1=>simp at h1 h2; subst h1; subst h2; exact z 1 x _ rfl (by simp [g])
  | i+2=>simp at h1)
 have D:Bs (hp (.cells 232 [.val (.pointer none),x]::rest)) 0 (.cells 232 [.loc 0 0,x])=hp (.cells 232 [.loc 0 0,x]::rest):=by
  funext i
  cases i with
  | zero=>rfl
  | succ i=>rfl
 have B:w.setCell ⟨b,0,none⟩ (.pointer (some ⟨b,0,none⟩))=w.setRow b #[.pointer (some ⟨b,0,none⟩),C[1]]:=by
  have h:C.setIfInBounds 0 (.pointer (some ⟨b,0,none⟩)) = #[.pointer (some ⟨b,0,none⟩),C[1]]:=by
   apply Array.ext
   .simp [g]
   .intro i hi y
    match i with
    | 0=>simp
    | 1=>rw [Array.getElem_setIfInBounds_ne _ (by decide)]; rfl
    | i+2=>simp at y; omega
  have f:(w.setCell ⟨b,0,none⟩ (.pointer (some ⟨b,0,none⟩))).heap=(w.setRow b #[.pointer (some ⟨b,0,none⟩),C[1]]).heap:=by
   apply Array.ext_getElem?
   intro i
   simp only [World.setCell,World.setRow,Array.getElem?_modify]
   split
   .rename_i e; subst e
    rw [h3]; simp [h]
   .rfl
  unfold World.setCell World.setRow at f ⊢
  simp only at f
  rw [f]
 rw [D] at s' le
 rw [B]
 exact ⟨_,σ,ι,rfl,le,s',.tup _ _ rfl (fun i c v h1 _=>by cases h1)⟩
theorem Aoe {l:List Int} (h:∀x∈l,0<=x/\x<256) {j:Nat} {x:UInt8} (hx:(Gr l)[j]? = some x):l[j]? = some (x.toNat:Int):=by
 simp only [Gr,List.getElem?_map,Option.map_eq_some_iff] at hx
 obtain ⟨y,hy,rfl⟩:=hx
 have b:=h y (List.mem_of_getElem? hy)
 rw [hy]
 congr 1
 have:y.toNat<256:=by omega
 simp only [UInt8.toNat_ofNat']
 omega
theorem Aof {p:AV} {l:List Int} {r:ByteArray} (h:W0 l=some r):Cm Go.Proofs.Tryz.prog 195 [.loc 0 0] [.cells 232 [p,.arr 1 l.length 0 l.length],.rows 5 1 (List.map (Af .u8) l)] (Co r) [.cells 232 [p,.arr 1 l.length 0 l.length],.dead]:=by
 unfold W0 at h
 split at h
 .rename_i hc
  obtain ⟨E,X⟩:=hc
  cases h
  refine ⟨⟨_,Tryz.func195,by kernel_rfl,by kernel_rfl⟩,fun σ F W w ι vs s J=>?_⟩
  obtain ⟨v,rfl,N⟩:=Xr J
  obtain ⟨b,hb,N⟩:=N.loc_inv
  subst N
  have u:=s.obj 0
  unfold C5 at u
  rw [Aa2] at u
  obtain ⟨b',C,e1,_,_,h3,M,h5⟩:=u
  rw [hb] at e1; cases e1
  have M:C.size=2:=M
  have hC:C = #[C[0],C[1]]:=by
   apply Array.ext
   .simp [M]
   .intro i hi S
    match i with
    | 0=>rfl
    | 1=>rfl
    | i+2=>simp at S; omega
  have V:=h5 1 (.arr 1 l.length 0 l.length) C[1] rfl (by simp [M])
  have I:hp [Cf.cells 232 [p,.arr 1 l.length 0 l.length],.rows 5 1 (List.map (Af .u8) l)] 1 = .rows 5 1 (List.map (Af .u8) l):=rfl
  have k:=V.arr_inv I (by simp)
  have hor:=s.obj 1
  unfold C5 at hor
  rw [I] at hor
  obtain ⟨_,G,hor⟩:=hor
  rw [List.length_map] at G
  rcases hor with ⟨_,B⟩ | ⟨g,q,D,hg,g1,g2,g3,g4,g5,g6⟩
  .exact (E (by simpa using B)).elim
  .rw [List.length_map] at g5
   unfold Iy at k
   rw [hg] at k
   simp only [Nat.zero_mul,Nat.zero_add,Nat.sub_zero] at k
   obtain ⟨ht,A⟩:=k
   have c:(Gr l).length=l.length:=by simp [Gr]
   have f:∀(j:Nat) (x:UInt8),(Gr l)[j]? = some x->D[j]? = some (Value.int .u8 x.toNat):=by
    intro j x hx
    have hj:=Aoe X hx
    obtain ⟨gg,q1,q2,q3⟩:=g6
    have y:(List.map (Af .u8) l)[j]? = some (Af .u8 x.toNat):=by rw [List.getElem?_map,hj]; rfl
    have R:j<(List.map (Af .u8) l).length:=(List.getElem?_eq_some_iff.1 y).1
    have q4:=q3 j 0 R (by omega)
    have q5:=(q2 j _ 0 _ y rfl).1
    have:gg j 0=Value.int .u8 x.toNat:=by
     generalize gg j 0=z at q5
     cases q5; rfl
    rw [this] at q4
    simpa using q4
   have a1:w.heap[b]? = some (.cells #[C[0],.slice (some ⟨g,0,none⟩) (Gr l).length q] 232 (0,0)):=by
    rw [h3]; congr 1; rw [c]
    have:C[1] = .slice (some ⟨g,0,none⟩) l.length q:=A
    rw [<-this,<-hC]
   have a6:l.length<=D.size:=by rw [g4]; omega
   have call:=Tryz.builder_str b g q C[0] D (Gr l) w (by intro e; apply E; rw [<-List.length_eq_zero_iff,<-c,e]; rfl) a1 g3 (by rw [c]; exact g5) (by rw [c]; exact a6) (by rw [c]; omega) f
   refine call.mono ?_
   rintro e w' ⟨rfl,rfl⟩
   have le:Le σ ι (hp [Cf.cells 232 [p,.arr 1 l.length 0 l.length],.rows 5 1 (List.map (Af .u8) l)]) σ ι (Bs (hp [Cf.cells 232 [p,.arr 1 l.length 0 l.length],.rows 5 1 (List.map (Af .u8) l)]) 1 .dead):=by
    have:=Le.upd (ι:=ι) (H:=hp [Cf.cells 232 [p,.arr 1 l.length 0 l.length],.rows 5 1 (List.map (Af .u8) l)]) (Bk.le_refl σ) 1 (ι 1) .dead ⟨fun _ e=>e,(fun _ e=>by cases e),(fun _ E1 a8 a7 e=>by cases e)⟩
    rwa [J0] at this
   have eH:Bs (hp [Cf.cells 232 [p,.arr 1 l.length 0 l.length],.rows 5 1 (List.map (Af .u8) l)]) 1 .dead=hp [Cf.cells 232 [p,.arr 1 l.length 0 l.length],.dead]:=by
    funext i
    match i with
    | 0=>rfl
    | 1=>rfl
    | i+2=>rfl
   have s2:St σ ι (Bs (hp [Cf.cells 232 [p,.arr 1 l.length 0 l.length],.rows 5 1 (List.map (Af .u8) l)]) 1 .dead) F W (w.drew.freeze ⟨g,0,none⟩ (Gr l).length):=by
    have U:∀b,b≠g->(w.drew.freeze ⟨g,0,none⟩ (Gr l).length).heap[b]? = w.heap[b]?:=by
     intro b hb
     unfold World.freeze
     split
     .rfl
     .simp only [Array.getElem?_modify]
      rw [if_neg (Ne.symm hb)]; rfl
    refine s.touch 1 g (fun _ _=>rfl) (fun x e=>Dm _ _ e) le U (fun _ _=>rfl) (fun o u=>by rw [g1] at u; cases u) ?_ g2 ?_ ?_ ?_ ?_ ?_
    .intro x hx L Y
     exact hx (s.inj x 1 g L rfl Y (by rw [hg]; rfl))
    .intro b0 L
     rw [Cy] at L; cases L
    .unfold C5
     rw [Cy]; trivial
    .unfold World.freeze; split <;> rfl
    .unfold World.freeze; split <;> rfl
    .unfold World.freeze; split <;> rfl
   rw [eH] at le s2
   exact ⟨_,σ,ι,rfl,le,s2,.of_val _⟩
 .cases h
end Go.Ab
