/- Contracts of strings.Builder and strconv.Itoa. -/
import Derived.Test.YtbobikfnkmhgnaaGreatDoorPbTy
import Derived.Test.YtbobikfnkmhgnaaGreatDoorPbHandB
import Derived.Shelf.Strconv.Itoa4
import Derived.KernelRfl
import Derived.Shelf.Sort.Plain
import Derived.Shelf.SlSortCmp.WholeK
import Derived.Shelf.Spec.SlicesGrow
namespace Go.Ab
open Go Go.Proofs Go.Shelf
set_option maxRecDepth 100000
def Ajw:Ren:={f:=fun x=>match x with | 171=>166 | 243=>234 | 246=>285 | 283=>331 | 284=>332 | 285=>333 | 286=>334 | 129=>268 | 317=>365 | 318=>366 | 319=>367 | 320=>368 | 337=>379 | 338=>380 | 173=>256 | n=>n,t:=fun x=>match x with | 3=>3 | 9=>9 | 2=>2 | 4=>4 | 171=>362 | 0=>0 | 53=>105 | 37=>197 | 5=>5 | 173=>364 | 212=>397 | 51=>106 | 20=>20 | 213=>398 | 46=>246 | 232=>414 | 233=>415 | n=>n,g:=fun x=>match x with | 17=>0 | 18=>1 | 19=>2 | n=>n}
theorem Ajx:LaysM.n171 Go.Proofs.Tryz.prog Ajw:=by
 constructor
 constructor
 all_goals first | kernel_rfl | (intro w; kernel_rfl)
theorem St.grown {σ:Aw} {F:Aw} {W w:World} (s:St σ ι0 H0 F W w) (k:Nat) (os:Array Obj):St σ ι0 H0 F W (Sort.grow (w.drewN k) os):=by
 have hk:∀(b:Nat) (o:Obj),w.heap[b]? = some o->(Sort.grow (w.drewN k) os).heap[b]? = some o:=by
  intro b o h
  have c:=(Array.getElem?_eq_some_iff.1 h).1
  show (w.heap++os)[b]? = _
  rw [Array.getElem?_append_left c]; exact h
 exact ⟨fun b o h=>hk b o (s.sto b o h),fun b o h=>⟨hk b o (s.fra b o h).1,(s.fra b o h).2⟩,fun _=>rfl,(fun _ _ _ f=>by cases f),s.os,s.tape,s.output,s.glo,Nat.le_trans s.drw (Nat.le_add_right _ _)⟩
theorem Ajy {σ:Aw} {ι:Bq} {H:Hp} {F:Aw} {W w:World} (s:St σ ι H F W w):Lib.TabIs Go.Proofs.Tryz.prog w "internal/strconv.uint64pow10" .u64 Lib.pow10Tab:=by
 obtain ⟨E,fr,e⟩:=s.glo
 have h:=s.sto _ _ e
 have g:Go.Proofs.Tryz.prog.globalNamed "internal/strconv.uint64pow10" = some 0:=Ajx.m17
 unfold Lib.TabIs World.var?
 rw [g]
 simp only [Option.bind_some,h]
theorem T6 {σ:Aw} {ι:Bq} {H:Hp} {x:AV} {vs:Array Value} (h:K0 σ ι H [x] vs):∃v,vs = #[v]/\Conc σ ι H x v:=by
 obtain ⟨h1,h2⟩:=h
 have h1:vs.size=1:=h1
 refine ⟨vs[0],?_,h2 0 x _ rfl (by simp [h1])⟩
 apply Array.ext
 .simp [h1]
 .intro i hi b
  have:i=0:=by omega
  subst this; rfl
theorem Atx {a0:Int} {r:ByteArray} (h:Mt a0=some r):Ar Go.Proofs.Tryz.prog 166 [O .i64 a0] (Dl r):=by
 unfold Mt at h
 split at h
 .rename_i hc
  cases h
  refine ⟨⟨_,Tryz.func166,by kernel_rfl,by kernel_rfl⟩,fun σ F W w vs s b=>?_⟩
  obtain ⟨v,rfl,c⟩:=T6 b
  have c:=c.val_inv
  subst c
  have:=Any.strconv_Itoa Ajx a0 hc.1 hc.2 w (Ajy s)
  refine this.mono ?_
  rintro e w' ⟨rfl,k,os,rfl⟩
  exact ⟨_,σ,rfl,Aw.le_refl σ,s.grown k os,.of_val _⟩
 .cases h
theorem Aty:LaysM.n173 Go.Proofs.Tryz.prog Ajw:=by
 constructor
 constructor
 all_goals first | kernel_rfl | (intro w; kernel_rfl)
theorem Aeq {σ:Aw} {ι:Bq} {H:Hp} {x y:AV} {vs:Array Value} (h:K0 σ ι H [x,y] vs):∃v u,vs = #[v,u]/\Conc σ ι H x v/\Conc σ ι H y u:=by
 obtain ⟨h1,h2⟩:=h
 have h1:vs.size=2:=h1
 refine ⟨vs[0],vs[1],?_,h2 0 x _ rfl (by simp [h1]),h2 1 y _ rfl (by simp [h1])⟩
 apply Array.ext
 .simp [h1]
 .intro i hi b
  rcases (by omega:i=0\/i=1) with h | h
  .subst h; rfl
  .subst h; rfl
theorem Atz {a0 a1:Int} {r:ByteArray} (h:Zg a0 a1=some r):Ar Go.Proofs.Tryz.prog 256 [O .i64 a0,O .i64 a1] (Dl r):=by
 unfold Zg at h
 cases hb:a1==10 with
 | false=>rw [hb] at h; cases h
 | true=>
  rw [hb] at h
  have hb:=eq_of_beq hb
  subst hb
  have h:Mt a0=some r:=h
  unfold Mt at h
  split at h
  .rename_i hc
   cases h
   refine ⟨⟨_,Tryz.func256,by kernel_rfl,by kernel_rfl⟩,fun σ F W w vs s b=>?_⟩
   obtain ⟨v,u,rfl,c,hu⟩:=Aeq b
   have c:=c.val_inv
   have hu:=hu.val_inv
   subst c; subst hu
   have:=Any.strconv_FormatInt_10 Aty a0 hc.1 hc.2 w (Ajy s)
   refine this.mono ?_
   rintro e w' ⟨rfl,k,os,rfl⟩
   exact ⟨_,σ,rfl,Aw.le_refl σ,s.grown k os,.of_val _⟩
  .cases h
theorem Xa (o:Bj) (os:List Bj):hp (o::os) 0=o:=rfl
theorem At0 (x:AV) (rest:List Bj):Bw Go.Proofs.Tryz.prog 233 [.loc 0 0] (.cells 199 [.loc 0 0,x]::rest) (.tup []) (.cells 199 [.loc 0 0,x]::rest):=by
 refine ⟨⟨_,Tryz.func233,by kernel_rfl,by kernel_rfl⟩,fun σ F W w ι vs s f=>?_⟩
 obtain ⟨v,rfl,k⟩:=T6 f
 obtain ⟨b,hb,k⟩:=k.loc_inv
 subst k
 have l:=s.obj 0
 unfold Cl at l
 rw [Xa] at l
 obtain ⟨A,C,y,_,_,h3,u,z⟩:=l
 rw [hb] at y; cases y
 have u:C.size=2:=u
 have g:C[0]? = some C[0]:=by simp [u]
 have q:=z 0 (.loc 0 0) C[0] rfl g
 obtain ⟨b2,h,j⟩:=q.loc_inv
 rw [hb] at h; cases h
 have cell:w.cell? ⟨b,0,none⟩=some (.pointer (some ⟨b,0,none⟩)):=by
  rw [Ip h3,g,j]
 refine (Tryz.check_used b w cell).mono ?_
 rintro e w' ⟨rfl,rfl⟩
 exact ⟨_,σ,ι,rfl,Le.refl _ _ _,s,.tup _ _ rfl (fun i c v h1 _=>by cases h1)⟩
theorem At1 (x:AV) (rest:List Bj):Bw Go.Proofs.Tryz.prog 233 [.loc 0 0] (.cells 199 [.val (.pointer none),x]::rest) (.tup []) (.cells 199 [.loc 0 0,x]::rest):=by
 refine ⟨⟨_,Tryz.func233,by kernel_rfl,by kernel_rfl⟩,fun σ F W w ι vs s j=>?_⟩
 obtain ⟨v,rfl,q⟩:=T6 j
 obtain ⟨b,hb,q⟩:=q.loc_inv
 subst q
 have u:=s.obj 0
 unfold Cl at u
 rw [Xa] at u
 obtain ⟨E,C,A,_,_,h3,g,z⟩:=u
 rw [hb] at A; cases A
 have g:C.size=2:=g
 have k:C[0]? = some C[0]:=by simp [g]
 have l:=(z 0 (.val (.pointer none)) C[0] rfl k).val_inv
 have cell:w.cell? ⟨b,0,none⟩=some (.pointer none):=by
  rw [Ip h3,k,l]
 refine (Tryz.check_fresh b w cell (by simp [World.shape?,h3,g]) (by simp [World.frozen?,h3])).mono ?_
 rintro e w' ⟨rfl,rfl⟩
 obtain ⟨s',le⟩:=s.setBox 0 199 [.val (.pointer none),x] [.loc 0 0,x] rfl b hb #[.pointer (some ⟨b,0,none⟩),C[1]] rfl (by
  intro i c v h1 h2
  match i with
  | 0=>simp at h1 h2; subst h1; subst h2; exact .loc 0 0 b hb
  | 1=>simp at h1 h2; subst h1; subst h2; exact z 1 x _ rfl (by simp [g])
  | i+2=>simp at h1)
 have D:A5 (hp (.cells 199 [.val (.pointer none),x]::rest)) 0 (.cells 199 [.loc 0 0,x])=hp (.cells 199 [.loc 0 0,x]::rest):=by
  funext i
  cases i with
  | zero=>rfl
  | succ i=>rfl
 have B:w.setCell ⟨b,0,none⟩ (.pointer (some ⟨b,0,none⟩))=w.setRow b #[.pointer (some ⟨b,0,none⟩),C[1]]:=by
  have h:C.setIfInBounds 0 (.pointer (some ⟨b,0,none⟩)) = #[.pointer (some ⟨b,0,none⟩),C[1]]:=by
   apply Array.ext
   .simp [g]
   .intro i hi y
    match i with
    | 0=>simp
    | 1=>rw [Array.getElem_setIfInBounds_ne _ (by decide)]; rfl
    | i+2=>simp at y; omega
  have f:(w.setCell ⟨b,0,none⟩ (.pointer (some ⟨b,0,none⟩))).heap=(w.setRow b #[.pointer (some ⟨b,0,none⟩),C[1]]).heap:=by
   apply Array.ext_getElem?
   intro i
   simp only [World.setCell,World.setRow,Array.getElem?_modify]
   split
   .rename_i e; subst e
    rw [h3]; simp [h]
   .rfl
  unfold World.setCell World.setRow at f ⊢
  simp only at f
  rw [f]
 rw [D] at s' le
 rw [B]
 exact ⟨_,σ,ι,rfl,le,s',.tup _ _ rfl (fun i c v h1 _=>by cases h1)⟩
theorem At2 {l:List Int} (h:∀x∈l,0<=x/\x<256) {j:Nat} {x:UInt8} (hx:(D6 l)[j]? = some x):l[j]? = some (x.toNat:Int):=by
 simp only [D6,List.getElem?_map,Option.map_eq_some_iff] at hx
 obtain ⟨y,hy,rfl⟩:=hx
 have b:=h y (List.mem_of_getElem? hy)
 rw [hy]
 congr 1
 have:y.toNat<256:=by omega
 simp only [UInt8.toNat_ofNat']
 omega
theorem St.kill {σ:Aw} {ι:Bq} {H:Hp} {F:Aw} {W w:World} (s:St σ ι H F W w) (h:Nat):St σ ι (A5 H h .dead) F W w/\Le σ ι H σ ι (A5 H h .dead):=by
 have le:Le σ ι H σ ι (A5 H h .dead):=by
  have:=Le.upd (ι:=ι) (H:=H) (Aw.le_refl σ) h (ι h) .dead ⟨fun _ e=>e,(fun _ e=>by cases e),(fun _ k j i e=>by cases e)⟩
  rwa [G7] at this
 obtain ⟨f1,f2⟩:=s.fresh
 refine ⟨s.touch h w.heap.size (fun _ _=>rfl) (fun x e=>C2 _ _ e) le (fun _ _=>rfl) (fun _ _=>rfl) (fun o g=>by rw [f1] at g; cases g) ?_ f2 ?_ ?_ rfl rfl rfl,le⟩
 .intro x _ c f
  have:=(s.block c f).1
  omega
 .intro b c
  rw [Ch] at c; cases c
 .unfold Cl
  rw [Ch]; trivial
theorem St.fbox {σ:Aw} {ι:Bq} {H:Hp} {F:Aw} {W w:World} (s0:St σ ι H F W w) {T:TypeId} {p x:AV} {s:ByteArray} {b:Nat} {C:Array Value} (f:H 0 = .cells T [p,x]) (hb:ι 0 = .box b) (h3:w.heap[b]? = some (.cells C T (0,0)))
  (hc:∀v,C[1]? = some v->CC σ (.fb s) v):St σ ι (A5 H 0 (.cells T [p,.fb s])) F W w/\Le σ ι H σ ι (A5 H 0 (.cells T [p,.fb s])):=by
 have g:=s0.obj 0
 unfold Cl at g
 rw [f] at g
 obtain ⟨u,z,k,g1,g2,g3,g4,g5⟩:=g
 rw [hb] at k; cases k
 rw [h3] at g3; cases g3
 have le:Le σ ι H σ ι (A5 H 0 (.cells T [p,.fb s])):=by
  have:=Le.upd (ι:=ι) (H:=H) (Aw.le_refl σ) 0 (ι 0) (.cells T [p,.fb s]) (by rw [f]; exact ⟨fun _ e=>e,(fun _ e=>by cases e),(fun _ _ _ _ e=>by cases e)⟩)
  rwa [G7] at this
 refine ⟨s0.touch 0 b (fun _ _=>rfl) (fun x e=>C2 _ _ e) le (fun x e=>rfl) (fun _ _=>rfl) (fun o e=>by rw [g1] at e; cases e) ?_ g2 ?_ ?_ rfl rfl rfl,le⟩
 .intro x e l h
  exact e (s0.inj x 0 b l (by rw [f]; rfl) h (by rw [hb]; rfl))
 .intro q _ j
  exact .inr ⟨by rw [f]; rfl,j⟩
 .unfold Cl
  rw [Ch]
  refine ⟨b,C,hb,g1,g2,h3,by simpa using g4,fun i c v x y=>?_⟩
  match i with
  | 0=>exact (g5 0 c v x y).mono le
  | 1=>cases x; exact .cc (hc v y)
  | i+2=>cases x
theorem At3 {p:AV}:Bw Go.Proofs.Tryz.prog 168 [.loc 0 0] [.cells 199 [p,.arr 1 0 0 0],.rows 5 1 []] (Dl .empty) [.cells 199 [p,.fb .empty],.dead]:=by
 refine ⟨⟨_,Tryz.func168,by kernel_rfl,by kernel_rfl⟩,fun σ F W w ι vs s z=>?_⟩
 obtain ⟨v,rfl,j⟩:=T6 z
 obtain ⟨b,hb,j⟩:=j.loc_inv
 subst j
 have M:=s.obj 0
 unfold Cl at M
 rw [Xa] at M
 obtain ⟨b',C,Y,_,_,h3,B,h5⟩:=M
 rw [hb] at Y; cases Y
 have B:C.size=2:=B
 have hC:C = #[C[0],C[1]]:=by
  apply Array.ext
  .simp [B]
  .intro i hi N
   match i with
   | 0=>rfl
   | 1=>rfl
   | i+2=>simp at N; omega
 have R:=h5 1 (.arr 1 0 0 0) C[1] rfl (by simp [B])
 have y:hp [Bj.cells 199 [p,.arr 1 0 0 0],.rows 5 1 []] 1 = .rows 5 1 []:=rfl
 have c:=R.arr_inv y (by simp)
 have hor:=s.obj 1
 unfold Cl at hor
 rw [y] at hor
 obtain ⟨_,V,hor⟩:=hor
 have eH:A5 (A5 (hp [Bj.cells 199 [p,.arr 1 0 0 0],.rows 5 1 []]) 1 .dead) 0 (.cells 199 [p,.fb .empty])=hp [Bj.cells 199 [p,.fb .empty],.dead]:=by
  funext i
  match i with
  | 0=>rfl
  | 1=>rfl
  | i+2=>rfl
 have go:∀(a q:Option Addr) (cap:Nat) (A:Aw) (k:World),C[1] = .slice a 0 cap->k.heap[b]? = w.heap[b]?->(Builtin.unsafeSliceData_ #[197] 271 #[.slice a 0 cap]).run Go.Proofs.Tryz.prog w.drew = .ok (.pointer q) k ->
   Le σ ι (hp [Bj.cells 199 [p,.arr 1 0 0 0],.rows 5 1 []]) A ι (hp [Bj.cells 199 [p,.arr 1 0 0 0],.rows 5 1 []])->St A ι (hp [Bj.cells 199 [p,.arr 1 0 0 0],.rows 5 1 []]) F W k ->
   Calls Go.Proofs.Tryz.prog 168 #[.pointer (some ⟨b,0,none⟩)] w fun e w'=>∃v E G,e = .returned v/\Le σ ι (hp [Bj.cells 199 [p,.arr 1 0 0 0],.rows 5 1 []]) E G (hp [Bj.cells 199 [p,.fb .empty],.dead])/\St E G (hp [Bj.cells 199 [p,.fb .empty],.dead]) F W w'/\Conc E G (hp [Bj.cells 199 [p,.fb .empty],.dead]) (Dl .empty) v:=by
  intro a q cap A k f x S le I
  have h:w.heap[b]? = some (.cells #[C[0],.slice a 0 cap] 199 (0,0)):=by
   rw [h3]; congr 1; rw [<-f,<-hC]
  refine (Tryz.builder_str0 b cap C[0] a q w k h (x.trans h) S).mono ?_
  rintro e w' ⟨rfl,rfl⟩
  obtain ⟨Z,J⟩:=I.kill 1
  obtain ⟨U,u⟩:=Z.fbox (b:=b) (C:=#[C[0],.slice a 0 cap]) (s:=.empty) (by rfl) hb ((x.trans h)) (fun v j=>by simp at j; subst j; exact .fbn _ _ _ rfl)
  rw [eH] at U u
  exact ⟨_,A,ι,rfl,(le.trans J).trans u,U,.of_val _⟩
 rcases hor with ⟨hi,_⟩ | ⟨g,l,D,hg,g1,g2,g3,g4,g5,g6⟩
 .unfold Fo at c
  rw [hi] at c
  exact go none none 0 σ w.drew c.1 rfl rfl (Le.refl _ _ _) (s.drew _)
 .unfold Fo at c
  rw [hg] at c
  simp only [Nat.zero_mul,Nat.zero_add,Nat.sub_zero] at c
  obtain ⟨_,f⟩:=c
  by_cases ht:l=0
  .subst ht
   obtain ⟨I,L⟩:=(s.drew (w.drawn+1)).newFrozen (.view ⟨g,0,none⟩ 5)
   have X:=(Array.getElem?_eq_some_iff.1 h3).1
   refine go _ _ 0 _ (w.drew.alloc (.view ⟨g,0,none⟩ 5)) f ?_ (Lib.run_unsafeSliceData_zero _ _ _ 5 Go.Proofs.Tryz.underlying271 _ _ (5,D.size) (by
    have:w.drew.heap[g]? = some (.cells D 5 (0,0)):=g3
    simp [World.shape?,this])) L I
   show (w.heap.push _)[b]? = _
   rw [Array.getElem?_push,if_neg (by omega)]
  .exact go _ _ l σ w.drew f rfl (Lib.run_unsafeSliceData_row _ _ _ _ _ _ ht) (Le.refl _ _ _) (s.drew _)
theorem Ajz {p:AV} {l:List Int} {r:ByteArray} (h:Vc l=some r):Bw Go.Proofs.Tryz.prog 168 [.loc 0 0] [.cells 199 [p,.arr 1 l.length 0 l.length],.rows 5 1 (List.map (O .u8) l)] (Dl r) [.cells 199 [p,.fb r],.dead]:=by
 unfold Vc at h
 split at h
 .rename_i aa
  cases h
  by_cases u:l = []
  .subst u; exact At3
  refine ⟨⟨_,Tryz.func168,by kernel_rfl,by kernel_rfl⟩,fun σ F W w ι vs s S=>?_⟩
  obtain ⟨v,rfl,A⟩:=T6 S
  obtain ⟨b,hb,A⟩:=A.loc_inv
  subst A
  have B:=s.obj 0
  unfold Cl at B
  rw [Xa] at B
  obtain ⟨b',C,e1,_,_,h3,Y,h5⟩:=B
  rw [hb] at e1; cases e1
  have Y:C.size=2:=Y
  have hC:C = #[C[0],C[1]]:=by
   apply Array.ext
   .simp [Y]
   .intro i hi a7
    match i with
    | 0=>rfl
    | 1=>rfl
    | i+2=>simp at a7; omega
  have a8:=h5 1 (.arr 1 l.length 0 l.length) C[1] rfl (by simp [Y])
  have N:hp [Bj.cells 199 [p,.arr 1 l.length 0 l.length],.rows 5 1 (List.map (O .u8) l)] 1 = .rows 5 1 (List.map (O .u8) l):=rfl
  have y:=a8.arr_inv N (by simp)
  have hor:=s.obj 1
  unfold Cl at hor
  rw [N] at hor
  obtain ⟨_,M,hor⟩:=hor
  rw [List.length_map] at M
  rcases hor with ⟨_,J⟩ | ⟨g,q,D,hg,g1,g2,g3,g4,g5,g6⟩
  .exact (u (by simpa using J)).elim
  .rw [List.length_map] at g5
   unfold Fo at y
   rw [hg] at y
   simp only [Nat.zero_mul,Nat.zero_add,Nat.sub_zero] at y
   obtain ⟨ht,I⟩:=y
   have c:(D6 l).length=l.length:=by simp [D6]
   have f:∀(j:Nat) (x:UInt8),(D6 l)[j]? = some x->D[j]? = some (Value.int .u8 x.toNat):=by
    intro j x hx
    have hj:=At2 aa hx
    obtain ⟨gg,q1,q2,q3⟩:=g6
    have G:(List.map (O .u8) l)[j]? = some (O .u8 x.toNat):=by rw [List.getElem?_map,hj]; rfl
    have a1:j<(List.map (O .u8) l).length:=(List.getElem?_eq_some_iff.1 G).1
    have q4:=q3 j 0 a1 (by omega)
    have q5:=(q2 j _ 0 _ G rfl).1
    have:gg j 0=Value.int .u8 x.toNat:=by
     generalize gg j 0=z at q5
     cases q5; rfl
    rw [this] at q4
    simpa using q4
   have U:w.heap[b]? = some (.cells #[C[0],.slice (some ⟨g,0,none⟩) (D6 l).length q] 199 (0,0)):=by
    rw [h3]; congr 1; rw [c]
    have:C[1] = .slice (some ⟨g,0,none⟩) l.length q:=I
    rw [<-this,<-hC]
   have V:l.length<=D.size:=by rw [g4]; omega
   have call:=Tryz.builder_str b g q C[0] D (D6 l) w (by intro e; apply u; rw [<-List.length_eq_zero_iff,<-c,e]; rfl) U g3 (by rw [c]; exact g5) (by rw [c]; exact V) (by rw [c]; omega) f
   refine call.mono ?_
   rintro e w' ⟨rfl,rfl⟩
   have L:(D6 l).length≠0:=by rw [c]; simpa using u
   have a6:σ.le (A5 σ g (some (.cells D 5 (0,(D6 l).length)))):=by
    intro b' o' hb'
    rw [C2 _ _ (by intro e; subst e; rw [g1] at hb'; cases hb')]; exact hb'
   have Z:(w.drew.freeze ⟨g,0,none⟩ (D6 l).length).heap[g]? = some (.cells D 5 (0,(D6 l).length)):=by
    unfold World.freeze
    rw [if_neg L]
    simp only [Array.getElem?_modify,if_true]
    have:w.drew.heap[g]? = some (.cells D 5 (0,0)):=g3
    rw [this]
    simp
   have R:∀b,b≠g->(w.drew.freeze ⟨g,0,none⟩ (D6 l).length).heap[b]? = w.heap[b]?:=by
    intro b hb
    unfold World.freeze
    split
    .rfl
    .simp only [Array.getElem?_modify]
     rw [if_neg (Ne.symm hb)]; rfl
   have le:Le σ ι (hp [Bj.cells 199 [p,.arr 1 l.length 0 l.length],.rows 5 1 (List.map (O .u8) l)]) (A5 σ g (some (.cells D 5 (0,(D6 l).length)))) ι (A5 (hp [Bj.cells 199 [p,.arr 1 l.length 0 l.length],.rows 5 1 (List.map (O .u8) l)]) 1 .dead):=by
    have:=Le.upd (ι:=ι) (H:=hp [Bj.cells 199 [p,.arr 1 l.length 0 l.length],.rows 5 1 (List.map (O .u8) l)]) a6 1 (ι 1) .dead ⟨fun _ e=>e,(fun _ e=>by cases e),(fun _ E1 ae ad e=>by cases e)⟩
    rwa [G7] at this
   have eH:A5 (A5 (hp [Bj.cells 199 [p,.arr 1 l.length 0 l.length],.rows 5 1 (List.map (O .u8) l)]) 1 .dead) 0 (.cells 199 [p,.fb ⟨(D6 l).toArray⟩])=hp [Bj.cells 199 [p,.fb ⟨(D6 l).toArray⟩],.dead]:=by
    funext i
    match i with
    | 0=>rfl
    | 1=>rfl
    | i+2=>rfl
   have ac:b≠g:=by
    intro e
    have:=s.inj 0 1 g rfl rfl (by rw [hb,e]; rfl) (by rw [hg]; rfl)
    cases this
   have s2:St (A5 σ g (some (.cells D 5 (0,(D6 l).length)))) ι (A5 (hp [Bj.cells 199 [p,.arr 1 l.length 0 l.length],.rows 5 1 (List.map (O .u8) l)]) 1 .dead) F W (w.drew.freeze ⟨g,0,none⟩ (D6 l).length):=by
    refine s.touch (hdrw:=by unfold World.freeze; split <;> exact Nat.le_succ _) 1 g (fun _ _=>rfl) (fun x e=>C2 _ _ e) le R (fun x e=>C2 _ _ e) (fun o B=>by rw [Ch] at B; cases B; exact Z) ?_ g2 ?_ ?_ ?_ ?_ ?_
    .intro x hx X ab
     exact hx (s.inj x 1 g X rfl ab (by rw [hg]; rfl))
    .intro b0 X
     rw [Ch] at X; cases X
    .unfold Cl
     rw [Ch]; trivial
    .unfold World.freeze; split <;> rfl
    .unfold World.freeze; split <;> rfl
    .unfold World.freeze; split <;> rfl
   obtain ⟨s3,E⟩:=s2.fbox (b:=b) (C:=#[C[0],.slice (some ⟨g,0,none⟩) (D6 l).length q]) (s:=⟨(D6 l).toArray⟩) (by rfl) hb ((R b ac).trans U) (fun v A=>by
    simp only [List.getElem?_toArray,List.getElem?_cons_succ,List.getElem?_cons_zero,Option.some.injEq] at A
    subst A
    have k:(ByteArray.mk (D6 l).toArray).size=(D6 l).length:=by simp [ByteArray.size]
    rw [<-k]
    refine .fb _ g q D (by rw [Ch,k]) (by rw [k]; exact L) (by rw [k,c]; omega) (by rw [k,c]; exact V) (by rw [k,c]; omega) (fun j x hx=>f j x (by simpa using hx)))
   rw [eH] at s3 E
   exact ⟨_,_,ι,rfl,le.trans E,s3,.of_val _⟩
 .cases h
theorem Aj0 {p:AV} {f r:ByteArray} (h:(bif Nat.beq f.size 0 then none else some f)=some r):Bw Go.Proofs.Tryz.prog 168 [.loc 0 0] [.cells 199 [p,.fb f]] (Dl r) [.cells 199 [p,.fb f]]:=by
 have q:r.size≠0/\f=r:=by
  cases hb:Nat.beq f.size 0 with
  | true=>rw [hb] at h; cases h
  | false=>rw [hb] at h; cases h; exact ⟨(fun e=>by rw [e] at hb; exact Bool.noConfusion hb),rfl⟩
 clear h
 obtain ⟨q,E⟩:=q
 subst E
 refine ⟨⟨_,Tryz.func168,by kernel_rfl,by kernel_rfl⟩,fun σ F W w ι vs s y=>?_⟩
 obtain ⟨v,rfl,B⟩:=T6 y
 obtain ⟨b,hb,B⟩:=B.loc_inv
 subst B
 have G:=s.obj 0
 unfold Cl at G
 rw [Xa] at G
 obtain ⟨Z,C,R,_,_,h3,A,V⟩:=G
 rw [hb] at R; cases R
 have A:C.size=2:=A
 have M:C = #[C[0],C[1]]:=by
  apply Array.ext
  .simp [A]
  .intro i hi I
   match i with
   | 0=>rfl
   | 1=>rfl
   | i+2=>simp at I; omega
 have l:=V 1 (.fb f) C[1] rfl (by simp [A])
 generalize C[1]=u at M l
 generalize C[0]=S at M
 subst M
 cases l with
 | cc l=>
  cases l with
  | fbn _ a cap h0=>exact (q h0).elim
  | fb _ g cap D U h0 z L Y J=>
   have N:=s.sto _ _ U
   have k:f.data.toList.length=f.size:=by rw [Array.length_toList]; rfl
   have call:=Tryz.builder_str b g cap S D f.data.toList w (by intro e; rw [e] at k; exact h0 k.symm) (by rw [k]; exact h3) N (by rw [k]; exact z) (by rw [k]; exact L) (by rw [k]; omega) (fun j x hx=>J j x (by simpa using hx))
   refine call.mono ?_
   rintro e w' ⟨rfl,rfl⟩
   have hw:w.drew.freeze ⟨g,0,none⟩ f.data.toList.length=w.drew:=by
    unfold World.freeze
    split
    .rfl
    .have:w.drew.heap.modify g (fun o=>match o with | .cells c elem (lo,hi)=>.cells c elem (if lo==hi then (0,0+f.data.toList.length) else (min lo 0,max hi (0+f.data.toList.length))) | o=>o)=w.drew.heap:=by
      apply Array.ext_getElem?
      intro i
      rw [Array.getElem?_modify]
      split
      .rename_i e
       subst e
       have:w.drew.heap[g]? = some (.cells D 5 (0,f.size)):=N
       rw [this]
       simp [k,Ne.symm h0]
      .rfl
     exact congrArg (fun h=>{w.drew with heap:=h}) this
   rw [hw]
   have X:(⟨f.data.toList.toArray⟩:ByteArray)=f:=by simp
   rw [X]
   exact ⟨_,σ,ι,rfl,Le.refl _ _ _,s.drew _,.of_val _⟩
end Go.Ab
namespace Go.Ab
open Go Go.Proofs
set_option linter.unusedVariables false
class OK {α:Type} (o:Option α) (G:outParam (α->Prop)):Prop where
 ok:∀{r:α},o=some r->G r
theorem okz {α:Type} {G:α->Prop}:OK (none:Option α) G:=⟨fun h=>by cases h⟩
section
variable {P:Program} {C:Cfg} {Qn:Nat->Bn->Hp->Prop} {Qe:Nat->Nat->Bn->Hp->Prop} {Qr:Nat->Bn->Hp->Prop} {n:Nat} {e:Bn} {H:Hp} {β:Type} {r:β}
variable {T:Cs} {an:Nat->Ann} {nl:Nat->List (Nat×Nat)} {ops:Array Oper} {o:Oper} {os:List Oper} {acc:Ha} {K:Nat->Bn->Hp->Ha->Prop}
theorem Fh {p:Nat×Bool} {s:Nat} {b:Bool} {m m':Option β} (h:(bif b then m else m')=some r) (h1:b=true->m=some r->En (Eg P T an nl ops (o::os) n (A5 e s (.val (.bool true))) H acc K))
  (h2:b=false->m'=some r->En (Eg P T an nl ops (o::os) n (A5 e s (.val (.bool false))) H acc K)) (hg:o.guard=some p:=by exact rfl) (hs:(ops[p.1]?).bind (·.dst)=some s:=by exact rfl) (hb:e s = .val (.bool b):=by exact rfl):En (Eg P T an nl ops (o::os) n e H acc K):=Atb h h1 h2 hb
theorem nw {c:Code} (k:wc P C c Qn Qe Qr n e H):En (wc P C c Qn Qe Qr n e H):=.mk k
theorem Cj {S E:Type} {o:S⊕E} {J:E->Option β} {x:E} (h:some (Sum.inr x)=some o) (hx:∀x,Sum.inr x=o->J x=some r:=by assumption):J x=some r:=hx x (Option.some.inj h)
theorem lpj {S:Type} {o:S} {J:S->Option β} {x:S} (h:some x=some o) (hx:∀y,y=o->J y=some r:=by assumption):J x=some r:=hx x (Option.some.inj h)
theorem lpn {S E:Type} {o:S⊕E} {s':S} {K:Nat->Bn->Hp->Prop} {iv:S->List (Nat×AV)} {hv:S->List (Nat×Bj)} {inv:S->Prop} {n0:Nat} {H0:Hp} (h:some (Sum.inl s')=some o) (hn:∀s' n' e' H',Sum.inl s'=o->F8 e' (iv s')->F9 H' (Ck H0 (hv s')) n0 n0->inv s'->K n' e' H':=by assumption)
  (hs:F8 e (iv s'):=by (repeat refine ⟨rfl,?_⟩); exact trivial) (hh:F9 H (Ck H0 (hv s')) n0 n0:=by (repeat refine ⟨⟨rfl,rfl⟩,?_⟩); exact trivial) (hi:inv s':=by first | trivial | exact rfl | ((repeat refine Fy ?_ _ _); first | exact rfl | assumption)):K n e H:=hn s' n e H (Option.some.inj h) hs hh hi
theorem jnn {S E:Type} {o x:E} {s:S} {J:S->Prop} {K:Nat->Bn->Hp->Prop} {iv:S->List (Nat×AV)} {hv:S->List (Nat×Bj)} {n0:Nat} {H0:Hp} (h:some x=some o) (hn:∀s n' e' H',J s->F8 e' (iv s)->F9 H' (Ck H0 (hv s)) n0 n0->K n' e' H':=by assumption) (hJ:J s:=by exact Option.some.inj h)
  (hs:F8 e (iv s):=by (repeat refine ⟨rfl,?_⟩); exact trivial) (hh:F9 H (Ck H0 (hv s)) n0 n0:=by (repeat refine ⟨⟨rfl,rfl⟩,?_⟩); exact trivial):K n e H:=hn s n e H hJ hs hh
theorem Be {α:Type} {o:Option α} {m:α->Option β} {f:FuncId} {args:List AV} {G:α->Prop} {ra:α->AV} {K:Eff->Nat->Prop} (h:o.bind m=some r) [i:OK o G] (k:∀v,m v=some r->K ⟨ra v,[],[]⟩ n) (hG:∀v,G v->Ar P f args (ra v):=by exact fun _ h=>h) (hf:args.all AV.free=true:=by exact rfl):F6 P n H f args K :=
 C9 h fun v hv h=>F6.mk _ (hG v (i.ok hv)) hf (k v h)
theorem Aj1 {α:Type} {o:Option α} {m:α->Option β} {f:FuncId} {args args':List AV} {G:α->Prop} {ra:α->AV} {K:Eff->Nat->Prop} (h:o.bind m=some r) [i:OK o G] (k:∀v,m v=some r->K ⟨ra v,[],[]⟩ n) (hG:∀v,G v->Ar P f args' (ra v):=by exact fun _ h=>h) (hs:Nx args args':=by (repeat first | refine ⟨Sub.refl _,?_⟩ | refine ⟨Sub.nil _,?_⟩); exact trivial) (hf:args.all AV.free=true:=by exact rfl):F6 P n H f args K :=
 C9 h fun v hv h=>F6.mk _ (Ar.sub (hG v (i.ok hv)) hs (Sub.refl _)) hf (k v h)
theorem Bb {α:Type} {o:Option α} {m:α->Option β} {f:FuncId} {args largs:List AV} {G:α->Prop} {ra:α->AV} {hs:List Bj} {hs':α->List Bj} {K:Eff->Nat->Prop} (l:List Nat) (h:o.bind m=some r) [i:OK o G] (k:∀v,m v=some r->K ⟨ren (Du n l) (ra v),wrs (Du n l) 0 hs++B7 (Du n l) l.length ((hs' v).length-l.length),wrs (Du n l) 0 (hs' v)⟩ (n+((hs' v).length-l.length)))
  (hG:∀v,G v->Bw P f largs hs (ra v) (hs' v):=by exact fun _ h=>h) (ha:largs.map (ren (Du n l))=args:=by exact rfl) (ok:∀v,Sg n l largs hs (ra v) (hs' v)=true:=by exact fun _=>rfl) (hh:Po H (wrs (Du n l) 0 hs):=by (repeat refine ⟨rfl,?_⟩); exact trivial):F6 P n H f args K :=
 C9 h fun v hv h=>F6.act l largs hs (ra v) (hs' v) (hG v (i.ok hv)) ha (ok v) hh (k v h)
theorem Bt {α:Type} {l:List α} {f:α->AV} {ys:List AV} {i:Int} {m:α->Option β} {K:Nat->AV->Prop} (h:(Af l i).bind m=some r) (k:∀(n:Nat) (x:α),i=n->l[n]? = some x->m x=some r->K n (f x)) (he:ys=l.map f:=by first | exact rfl | exact Jf _ | exact Kk _):U3 ys i K:=Ai3 he h k
theorem Hs {α:Type} {l:List α} {f:α->AV} {ys:List AV} {i:Int} {m:α->Option β} {K:Nat->Prop} {len kk:Nat} (h:(Af l i).bind m=some r) (k:∀(n:Nat) (x:α),i=n->l[n]? = some x->m x=some r->K n) (he:ys=l.map f:=by first | exact rfl | exact Jf _ | exact Kk _) (hl:len=l.length:=by first | exact rfl | assumption | exact Iv (by assumption) | ((repeat refine Fy ?_ _ _); first | exact rfl | assumption)) (hk:kk=l.length:=by first | exact rfl | assumption | exact Iv (by assumption) | ((repeat refine Fy ?_ _ _); first | exact rfl | assumption)):Pp len kk ys i K:=Atc he hl hk h k
theorem Mc {α:Type} {l:List α} {f:α->AV} {ys:List AV} {i:Int} {m:α->Option β} {K:Nat->Prop} {off len kk:Nat} (h:(Fq l off len i).bind m=some r) (k:∀(n:Nat) (x:α),i=n->l[off+n]? = some x->m x=some r->K n) (he:ys=l.map f:=by first | exact rfl | exact Jf _ | exact Kk _) (hk:kk=l.length:=by first | exact rfl | assumption | exact Iv (by assumption) | ((repeat refine Fy ?_ _ _); first | exact rfl | assumption)):Pp len kk ys i K:=Atd he hk h k
theorem Ox {α:Type} {l:List α} {f:α->AV} {ys:List AV} {K:Int->Prop} (k:K (l.length:Int)) (he:ys=l.map f:=by first | exact rfl | exact Jf _ | exact Kk _):K7 ys K:=Ai9 he k
theorem Oy {α:Type} {l:List α} {f:α->AV} {ys:List AV} {kk:Nat} {K:Prop} (k:K) (he:ys=l.map f:=by first | exact rfl | exact Jf _ | exact Kk _) (hk:kk=l.length:=by first | exact rfl | assumption | exact Iv (by assumption) | ((repeat refine Fy ?_ _ _); first | exact rfl | assumption)):Fv kk ys K:=Atn he hk k
theorem Oz {K:Prop} (k:K):Fv 0 [] K:=.mk rfl k
theorem O0 {α:Type} {l:List α} {f:α->AV} {ys:List AV} {n i kk:Nat} {x:α} {K:AV->Prop} (k:K (f x)) (he:ys=l.map f:=by first | exact rfl | exact Jf _ | exact Kk _) (hk:kk=l.length:=by first | exact rfl | assumption | exact Iv (by assumption) | ((repeat refine Fy ?_ _ _); first | exact rfl | assumption)) (hi:i=n/\l[n]? = some x:=by first | exact ⟨Nat.zero_add _,by assumption⟩ | exact ⟨rfl,by assumption⟩):Kb kk i ys K:=Atg he hk hi.1 hi.2 k
theorem Aj2 {α:Type} {l:List α} {f:α->AV} {ys:List AV} {n i:Nat} {j:Int} {x:α} {p:AV} {K:List AV->Prop} (k:K ((Ci l j x).map f)) (he:ys=l.map f:=by first | exact rfl | exact Jf _ | exact Kk _) (hp:p=f x:=by exact rfl) (hi:i=n/\j=(n:Int):=by first | exact ⟨Nat.zero_add _,by assumption⟩ | exact ⟨rfl,by assumption⟩ | exact ⟨rfl,Ads _ (by assumption)⟩):U4 ys i p K:=H6 he hp hi.1 hi.2 k
theorem J4 {α:Type} {l ys:List α} {f:α->AV} {xs zs:List AV} {b kk len:Nat} {m:List α->Option β} {K:List AV->Nat->Prop} {KP:List AV->Nat->Nat->Prop} (h:(B3 b l ys).bind m=some r) (k:∀o:List α,m o=some r->K (o.map f) o.length) (he:xs=l.map f/\zs=ys.map f:=by first | exact ⟨rfl,rfl⟩ | (refine ⟨?_,?_⟩; rotate_left; exact rfl; exact rfl)) (hk:kk=l.length:=by first | exact rfl | assumption | exact Iv (by assumption) | ((repeat refine Fy ?_ _ _); first | exact rfl | assumption)) (hl:len=l.length:=by first | exact rfl | assumption | exact Iv (by assumption) | ((repeat refine Fy ?_ _ _); first | exact rfl | assumption)):K1 xs zs kk len b K KP:=Adu he.1 he.2 hk hl h k
theorem Aj3 {l:List Int} {s:ByteArray} {xs:List AV} {b kk len:Nat} {m:List Int->Option β} {K:List AV->Nat->Prop} {KP:List AV->Nat->Nat->Prop} (h:(B3 b l (Lf s)).bind m=some r) (k:∀o:List Int,m o=some r->K (o.map fun n=>.val (.int .u8 n)) o.length) (he:xs=l.map fun n=>.val (.int .u8 n):=by exact rfl) (hk:kk=l.length:=by first | exact rfl | assumption | exact Iv (by assumption) | ((repeat refine Fy ?_ _ _); first | exact rfl | assumption)) (hl:len=l.length:=by first | exact rfl | assumption | exact Iv (by assumption) | ((repeat refine Fy ?_ _ _); first | exact rfl | assumption)):K1 xs (H3 s) kk len b K KP:=Ati he hk hl h k
class GL {α:Type} (g:List α->List AV) (f:outParam (α->AV)):Prop where
 eq:∀l,g l=l.map f
instance:GL Bl Dw:=⟨Jf⟩
instance:GL Hr Ev:=⟨Kk⟩
theorem Aj4 {α:Type} {g:List α->List AV} {f:α->AV} [i:GL g f] {l ys:List α} {zs:List AV} {b kk len:Nat} {m:List α->Option β} {K:List AV->Nat->Prop} {KP:List AV->Nat->Nat->Prop} (h:(B3 b l ys).bind m=some r) (k:∀o:List α,m o=some r->K (g o) o.length) (hz:zs=ys.map f:=by first | exact rfl | exact GL.eq _) (hk:kk=l.length:=by first | exact rfl | assumption | exact Iv (by assumption) | ((repeat refine Fy ?_ _ _); first | exact rfl | assumption)) (hl:len=l.length:=by first | exact rfl | assumption | exact Iv (by assumption) | ((repeat refine Fy ?_ _ _); first | exact rfl | assumption)):K1 (g l) zs kk len b K KP:=Atj i.eq (i.eq l) hz hk hl h k
theorem Aj5 {α:Type} {ys:List α} {f:α->AV} {zs:List AV} {b:Nat} {m:List α->Option β} {K:List AV->Nat->Prop} (h:(B3 b [] ys).bind m=some r) (k:∀o:List α,m o=some r->K (o.map f) o.length) (hz:zs=ys.map f:=by exact rfl):Pr zs b K:=Adv hz h k
theorem Aj6 {α:Type} {g:List α->List AV} {f:α->AV} [i:GL g f] {ys:List α} {zs:List AV} {b:Nat} {m:List α->Option β} {K:List AV->Nat->Prop} (h:(B3 b [] ys).bind m=some r) (k:∀o:List α,m o=some r->K (g o) o.length) (hz:zs=g ys:=by exact rfl):Pr zs b K:=Atl i.eq (hz.trans (i.eq ys)) h k
theorem G3 {α:Type} {z:α} {f:α->AV} {za:AV} {len cap:Int} {b:Nat} {m:List α->Option β} {K:Nat->List AV->Prop} (h:(Ez b len cap z).bind m=some r) (k:∀o:List α,m o=some r->K o.length (o.map f)) (hz:za=f z:=by first | exact (rfl:_=O _ _) | exact (rfl:_=Ao _) | exact rfl):Sh len cap b za K:=Atm hz h k
theorem Lq {α:Type} {l:List α} {f:α->AV} {ys:List AV} {lo hi:Int} {m:List α->Option β} {K:List AV->Prop} (h:(E7 l lo hi).bind m=some r) (k:∀l':List α,m l'=some r->K (l'.map f)) (he:ys=l.map f:=by first | exact rfl | exact Jf _ | exact Kk _):Pq ys lo hi K:=Ai8 he h k
theorem Aae {α:Type} {l:List α} {f:α->AV} {ys:List AV} {lo:Int} {m:List α->Option β} {K:List AV->Prop} (h:(E7 l lo l.length).bind m=some r) (k:∀l':List α,m l'=some r->K (l'.map f)) (he:ys=l.map f:=by first | exact rfl | exact Jf _ | exact Kk _):Pq ys lo ys.length K:=Ath he h k
theorem Ff {S E:Type} {step:S->Option (S⊕E)} {s0:S} {J:E->Option β} {b:Code} (h:(Al step s0).bind J=some r) (iv:S->List (Nat×AV)) (hv:S->List (Nat×Bj)) (inv:S->Prop)
  (body:∀(s:S) (u:Nat->Value) (K:Nat->Bn->Hp->Prop) (o:S⊕E),step s=some o->(∀x,.inr x=o->J x=some r)->(∀s' n' e' H',.inl s'=o->F8 e' (iv s')->F9 H' (Ck H (hv s')) n n->inv s'->K n' e' H')->inv s ->
   wc P C b K Qe Qr n (I7 (Et b) e u (iv s)) (Ck H (hv s)))
  (hb:∀s,Jx n (iv s) (hv s)=true:=by exact fun _=>rfl) (hs:F8 e (iv s0):=by (repeat refine ⟨rfl,?_⟩); exact trivial) (hh:F9 H (Ck H (hv s0)) n n:=by (repeat refine ⟨⟨rfl,rfl⟩,?_⟩); exact trivial) (h0:inv s0:=by first | exact rfl | assumption | exact Iv (by assumption) | ((repeat refine Fy ?_ _ _); first | exact rfl | assumption)):wc P C (.loop b) Qn Qe Qr n e H:=Ajh h iv hv inv hb hs hh h0 body
theorem A3 {S E:Type} {step:S->Option (S⊕E)} {s0:S} {J:E->Option β} {b:Code} (h:(Al step s0).bind J=some r) (iv:S->List (Nat×AV)) (hv:S->List (Nat×Bj))
  (body:∀(s:S) (u:Nat->Value) (K:Nat->Bn->Hp->Prop) (o:S⊕E),step s=some o->(∀x,.inr x=o->J x=some r)->(∀s' n' e' H',.inl s'=o->F8 e' (iv s')->F9 H' (Ck H (hv s')) n n->True->K n' e' H') ->
   wc P C b K Qe Qr n (I7 (Et b) e u (iv s)) (Ck H (hv s)))
  (hb:∀s,Jx n (iv s) (hv s)=true:=by exact fun _=>rfl) (hs:F8 e (iv s0):=by (repeat refine ⟨rfl,?_⟩); exact trivial) (hh:F9 H (Ck H (hv s0)) n n:=by (repeat refine ⟨⟨rfl,rfl⟩,?_⟩); exact trivial):wc P C (.loop b) Qn Qe Qr n e H:=Ajh h iv hv (fun _=>True) hb hs hh trivial fun s u K o h1 h2 h3 _=>body s u K o h1 h2 h3
theorem Aaf {S S':Type} {c:Code} {o:Option S'} {m:S'->Option β} (inj:S->S') (h:o.bind m=some r) (iv:S->List (Nat×AV)) (hv:S->List (Nat×Bj))
  (k1:∀x,o=some x->∀(K:Nat->Bn->Hp->Prop),(∀s n' e' H',inj s=x->F8 e' (iv s)->F9 H' (Ck H (hv s)) n n->K n' e' H')->(∀y,y=x->m y=some r)->wc P C c K Qe Qr n e H)
  (k2:∀(s:S) (u:Nat->Value),m (inj s)=some r->Qn n (I7 (Et c) e u (iv s)) (Ck H (hv s))) (hb:∀s,Jx n (iv s) (hv s)=true:=by exact fun _=>rfl):wc P C c Qn Qe Qr n e H :=
 N1 h fun x hx hj=>Lh (fun s=>inj s=x) iv hv hb (fun K hK=>k1 x hx K hK hj) fun s u hs=>k2 s u (hj _ hs)
theorem Bx {S:Type} {c:Code} {o:Option S} {m:S->Option β} (h:o.bind m=some r) (iv:S->List (Nat×AV)) (hv:S->List (Nat×Bj))
  (k1:∀x,o=some x->∀(K:Nat->Bn->Hp->Prop),(∀s n' e' H',s=x->F8 e' (iv s)->F9 H' (Ck H (hv s)) n n->K n' e' H')->(∀y,y=x->m y=some r)->wc P C c K Qe Qr n e H)
  (k2:∀(s:S) (u:Nat->Value),m s=some r->Qn n (I7 (Et c) e u (iv s)) (Ck H (hv s))) (hb:∀s,Jx n (iv s) (hv s)=true:=by exact fun _=>rfl):wc P C c Qn Qe Qr n e H:=Aaf (fun s=>s) h iv hv k1 k2 hb
abbrev C0:Cfg:={T:=Cf,an:=fun _=>.ask}
theorem pw {f:FuncId} {fn:Func} {c:Code} {args:List AV} {r:AV} (C:Cfg) (hf:Go.Proofs.Tryz.prog.funcs[f]? = some fn) (hv:wc Go.Proofs.Tryz.prog C c (fun _ e H=>Pu C.T fn.results.toList (· = r) e H) (fun _ _ _ _=>False) (fun _ e H=>Pu C.T fn.results.toList (· = r) e H) 0 (So args) H0)
   (hT:C.T=Cf:=by exact rfl) (hb:fn.body=some c:=by exact rfl) (hname:(fn.name == "runtime.NumGoroutine")=false:=by kernel_rfl) (hok:Sp fn c args.length=true:=by kernel_rfl) (hfree:r.free=true:=by exact rfl):Ar Go.Proofs.Tryz.prog f args r:=Ato (by rw [hT]; exact Ajk) U8 hf hb hname hok hfree hv
theorem aw {f:FuncId} {fn:Func} {c:Code} {args:List AV} {r:AV} {hs hs':List Bj} (C:Cfg) (fz:Bool) (hf:Go.Proofs.Tryz.prog.funcs[f]? = some fn) (hv:wc Go.Proofs.Tryz.prog C c (fun _ e H=>Py C.T fz fn.results.toList r hs' e H) (fun _ _ _ _=>False) (fun _ e H=>Py C.T fz fn.results.toList r hs' e H) hs.length (So args) (hp hs))
   (hT:C.T=Cf:=by exact rfl) (hb:fn.body=some c:=by exact rfl) (hname:(fn.name == "runtime.NumGoroutine")=false:=by kernel_rfl) (hok:Sp fn c args.length=true:=by kernel_rfl) (hok':Adn hs r hs'=true:=by exact rfl):Bw Go.Proofs.Tryz.prog f args hs r hs':=Atp fz (by rw [hT]; exact Ajk) U8 hf hb hname hok hok' hv
end
theorem opk {P:Program} {T:Cs} {an:Nat->Ann} {nl:Nat->List (Nat×Nat)} {o:Oper} {n:Nat} {e:Bn} {H:Hp} {acc:Ha} {K:Nat->Bn->Hp->Ha->Prop} (k:opK P T an nl o n e H acc K):opK P T an nl o n e H acc K:=k
theorem cnd {t:Bool} {A B:Prop} (k:bif t then A else B):bif t then A else B:=k
structure Hd (Q:Prop):Prop where
 get:Q
theorem Z {P Q:Prop} (k:Q) (h:Hd Q->P:=by
  intro q
  repeat first
    | ((with_reducible show En (Eg _ _ _ _ _ (_::_) _ _ _ _ _)); (first | refine nx ?_ | refine Nz ?_ | refine Ny ?_))
    | ((with_reducible refine opk ?_); conv=>whnf
       first
      | ((with_reducible show En _); refine nw ?_)
      | ((with_reducible show Gt _ _ _); refine Gt.mk _ rfl ?_)
      | ((with_reducible show K7 _ _); refine Ox ?_)
      | ((with_reducible show Kb _ _ _ _); refine O0 ?_)
      | ((with_reducible show Fv _ _ _); (first | refine Oy ?_ | refine Oz ?_)))
    | ((with_reducible show En (Eg _ _ _ _ _ [] _ _ _ _ _)); refine Ld ?_)
    | ((with_reducible show En (wc _ _ _ _ _ _ _ _ _)); refine nw ?_)
    | with_reducible refine As ?_
    | with_reducible refine B1 ?_
    | with_reducible refine Adz ?_
    | with_reducible refine J0 ?_
    | with_reducible refine Iw ?_
    | with_reducible refine E8 ?_
    | with_reducible refine Aje ?_
    | with_reducible refine Ad1 ?_
    | with_reducible refine Ad0 ?_
    | ((with_reducible refine cnd ?_); first | refine E6 rfl ?_ | refine Adi rfl ?_)
    | ((with_reducible show Lc _ _ _); refine Lc.mk (by kernel_rfl) ?_)
    | ((with_reducible show wc _ _ (.cond _ _ _) _ _ _ _ _ _); first | refine Zj ?_ | refine P2 ?_)
    | refine nw ?_
    | refine nx ?_
    | refine Ld ?_
    | refine Nz ?_
    | refine Ny ?_
    | (conv=>whnf
       first
      | ((with_reducible show En _); refine nw ?_)
      | ((with_reducible show Gt _ _ _); refine Gt.mk _ rfl ?_)
      | ((with_reducible show K7 _ _); refine Ox ?_)
      | ((with_reducible show Kb _ _ _ _); refine O0 ?_)
      | ((with_reducible show Fv _ _ _); (first | refine Oy ?_ | refine Oz ?_)))
  exact q.get):P:=h ⟨k⟩
theorem ZS {P Q:Prop} (k:Q) (h:Hd Q->P:=by
  intro q
  repeat first
    | ((with_reducible show En (Eg _ _ _ _ _ (_::_) _ _ _ _ _)); (first | refine nx ?_ | refine Nz ?_ | refine Ny ?_))
    | ((with_reducible refine opk ?_); conv=>whnf
       first
      | ((with_reducible show En _); refine nw ?_)
      | ((with_reducible show Gt _ _ _); refine Gt.mk _ rfl ?_)
      | ((with_reducible show K7 _ _); refine Ox ?_)
      | ((with_reducible show Kb _ _ _ _); refine O0 ?_)
      | ((with_reducible show Fv _ _ _); (first | refine Oy ?_ | refine Oz ?_)))
    | ((with_reducible show En (Eg _ _ _ _ _ [] _ _ _ _ _)); refine Ld ?_)
    | ((with_reducible show En (wc _ _ _ _ _ _ _ _ _)); refine nw ?_)
    | with_reducible refine As ?_
    | with_reducible refine Adz ?_
    | with_reducible refine J0 ?_
    | with_reducible refine Iw ?_
    | with_reducible refine E8 ?_
    | with_reducible refine Ad1 ?_
    | with_reducible refine Ad0 ?_
    | ((with_reducible refine cnd ?_); first | refine E6 rfl ?_ | refine Adi rfl ?_)
    | ((with_reducible show Lc _ _ _); refine Lc.mk (by kernel_rfl) ?_)
    | ((with_reducible show wc _ _ (.cond _ _ _) _ _ _ _ _ _); first | refine Zj ?_ | refine P2 ?_)
    | refine nw ?_
    | refine nx ?_
    | refine Ld ?_
    | refine Nz ?_
    | refine Ny ?_
    | (conv=>whnf
       first
      | ((with_reducible show En _); refine nw ?_)
      | ((with_reducible show Gt _ _ _); refine Gt.mk _ rfl ?_)
      | ((with_reducible show K7 _ _); refine Ox ?_)
      | ((with_reducible show Kb _ _ _ _); refine O0 ?_)
      | ((with_reducible show Fv _ _ _); (first | refine Oy ?_ | refine Oz ?_)))
  exact q.get):P:=h ⟨k⟩
theorem ZO {P Q:Prop} (k:Q) (h:Hd Q->P:=by
  intro q
  repeat first
    | ((with_reducible show En (Eg _ _ _ _ _ (_::_) _ _ _ _ _)); (first | refine nx ?_ | refine Nz ?_ | refine Ny ?_))
    | ((with_reducible refine opk ?_); conv=>whnf
       first
      | ((with_reducible show Gt _ _ _); refine Gt.mk _ rfl ?_)
      | ((with_reducible show K7 _ _); refine Ox ?_)
      | ((with_reducible show Kb _ _ _ _); refine O0 ?_)
      | ((with_reducible show Fv _ _ _); (first | refine Oy ?_ | refine Oz ?_)))
    | ((with_reducible show En (Eg _ _ _ _ _ [] _ _ _ _ _)); refine Ld ?_)
    | ((with_reducible show Lc _ _ _); refine Lc.mk (by kernel_rfl) ?_)
    | refine nx ?_
    | refine Ld ?_
    | refine Nz ?_
    | refine Ny ?_
    | (conv=>whnf
       first
      | ((with_reducible show Gt _ _ _); refine Gt.mk _ rfl ?_)
      | ((with_reducible show K7 _ _); refine Ox ?_)
      | ((with_reducible show Kb _ _ _ _); refine O0 ?_)
      | ((with_reducible show Fv _ _ _); (first | refine Oy ?_ | refine Oz ?_)))
  exact q.get):P:=h ⟨k⟩
theorem Y {P:Prop} (h:P:=by
  repeat' first
    | ((with_reducible show En (Eg _ _ _ _ _ (_::_) _ _ _ _ _)); first | refine nx ?_ | refine Nz ?_ | refine Ny ?_ | refine Fh h (fun _ h=>?_) (fun _ h=>?_))
    | ((with_reducible refine opk ?_); conv=>whnf
       first
      | ((with_reducible show En _); refine nw ?_)
      | ((with_reducible show Gt _ _ _); refine Gt.mk _ rfl ?_)
      | ((with_reducible show K7 _ _); refine Ox ?_)
      | ((with_reducible show F6 _ _ _ _ _ _); (first | refine Be h (fun _ h=>?_) | refine Aj1 h (fun _ h=>?_)))
      | ((with_reducible show U3 _ _ _); refine Bt h (fun _ _ _ _ h=>?_))
      | ((with_reducible show Pp _ _ _ _ _); (first | refine Hs h (fun _ _ _ _ h=>?_) | refine Mc h (fun _ _ _ _ h=>?_)))
      | ((with_reducible show Kb _ _ _ _); refine O0 ?_)
      | ((with_reducible show U4 _ _ _ _); refine Aj2 ?_)
      | ((with_reducible show K1 _ _ _ _ _ _ _); (first | refine Aj3 h (fun _ h=>?_) | refine J4 h (fun _ h=>?_) | refine Aj4 h (fun _ h=>?_)))
      | ((with_reducible show Pr _ _ _); (first | refine Aj5 h (fun _ h=>?_) | refine Aj6 h (fun _ h=>?_)))
      | ((with_reducible show Sh _ _ _ _ _); refine G3 h (fun _ h=>?_))
      | ((with_reducible show Pq _ _ _ _); (first | refine Aae h (fun _ h=>?_) | refine Lq h (fun _ h=>?_)))
      | ((with_reducible show Fv _ _ _); (first | refine Oy ?_ | refine Oz ?_))
      | ((with_reducible show Yy _ _ _); refine Lg h (fun _ h=>?_))
      | ((with_reducible show Ys _ _ _ _); refine Ve h (fun _ h=>?_))
      | ((with_reducible show Yt _ _ _); refine Zh h (fun _ h=>?_))
      | ((with_reducible show Yv _ _ _ _); refine Ajb h (fun _ h=>?_))
      | ((with_reducible show Yu _ _ _ _); refine Ajc h (fun _ h=>?_))
      | ((with_reducible show Yw _ _ _ _); refine Adx h (fun _ _ _ _ h=>?_))
      | ((with_reducible show Yz _ _); refine Gd h (fun h=>?_))
      | ((with_reducible show Y0 _ _ _ _ _); refine Ai6 h (fun _ h=>?_))
      | ((with_reducible show Y1 _ _ _ _); refine Ai7 h (fun _ h=>?_)))
    | ((with_reducible show En (Eg _ _ _ _ _ [] _ _ _ _ _)); refine Ld ?_)
    | ((with_reducible show En (wc _ _ _ _ _ _ _ _ _)); refine nw ?_)
    | with_reducible refine As ?_
    | with_reducible refine B1 ?_
    | with_reducible refine Adz ?_
    | with_reducible refine J0 ?_
    | with_reducible refine Iw ?_
    | with_reducible refine E8 ?_
    | with_reducible refine Aje ?_
    | with_reducible refine Ad1 ?_
    | with_reducible refine Ad0 ?_
    | ((with_reducible refine cnd ?_); first | refine E6 rfl ?_ | refine Adi rfl ?_)
    | ((with_reducible show wc _ _ (.cond _ _ _) _ _ _ _ _ _); first | refine Am h (fun _ h=>?_) (fun _ h=>?_) | refine Zj ?_ | refine P2 ?_)
    | ((with_reducible show Lc _ _ _); refine Lc.mk (by kernel_rfl) ?_)
    | refine nx ?_
    | refine Ld ?_
    | refine Nz ?_
    | refine Ny ?_
    | refine Fh h (fun _ h=>?_) (fun _ h=>?_)
    | exact lpn h
    | exact jnn h
    | replace h:=Cj h
    | replace h:=lpj h
    | refine nw ?_
    | (conv=>whnf
       first
      | ((with_reducible show En _); refine nw ?_)
      | ((with_reducible show Gt _ _ _); refine Gt.mk _ rfl ?_)
      | ((with_reducible show K7 _ _); refine Ox ?_)
      | ((with_reducible show F6 _ _ _ _ _ _); (first | refine Be h (fun _ h=>?_) | refine Aj1 h (fun _ h=>?_)))
      | ((with_reducible show U3 _ _ _); refine Bt h (fun _ _ _ _ h=>?_))
      | ((with_reducible show Pp _ _ _ _ _); (first | refine Hs h (fun _ _ _ _ h=>?_) | refine Mc h (fun _ _ _ _ h=>?_)))
      | ((with_reducible show Kb _ _ _ _); refine O0 ?_)
      | ((with_reducible show U4 _ _ _ _); refine Aj2 ?_)
      | ((with_reducible show K1 _ _ _ _ _ _ _); (first | refine Aj3 h (fun _ h=>?_) | refine J4 h (fun _ h=>?_) | refine Aj4 h (fun _ h=>?_)))
      | ((with_reducible show Pr _ _ _); (first | refine Aj5 h (fun _ h=>?_) | refine Aj6 h (fun _ h=>?_)))
      | ((with_reducible show Sh _ _ _ _ _); refine G3 h (fun _ h=>?_))
      | ((with_reducible show Pq _ _ _ _); (first | refine Aae h (fun _ h=>?_) | refine Lq h (fun _ h=>?_)))
      | ((with_reducible show Fv _ _ _); (first | refine Oy ?_ | refine Oz ?_))
      | ((with_reducible show Yy _ _ _); refine Lg h (fun _ h=>?_))
      | ((with_reducible show Ys _ _ _ _); refine Ve h (fun _ h=>?_))
      | ((with_reducible show Yt _ _ _); refine Zh h (fun _ h=>?_))
      | ((with_reducible show Yv _ _ _ _); refine Ajb h (fun _ h=>?_))
      | ((with_reducible show Yu _ _ _ _); refine Ajc h (fun _ h=>?_))
      | ((with_reducible show Yw _ _ _ _); refine Adx h (fun _ _ _ _ h=>?_))
      | ((with_reducible show Yz _ _); refine Gd h (fun h=>?_))
      | ((with_reducible show Y0 _ _ _ _ _); refine Ai6 h (fun _ h=>?_))
      | ((with_reducible show Y1 _ _ _ _); refine Ai7 h (fun _ h=>?_)))
    | (have h:=Option.some.inj h; subst h; exact rfl)
    | (cases h; (repeat refine ⟨rfl,?_⟩); exact trivial)
    | (cases h; done)
):P:=h
end Go.Ab
namespace Go.Ab
open Go Go.Proofs
set_option maxRecDepth 10000
set_option linter.unusedVariables false
theorem At4 {a0 r:List Dk} (h:B3 16 [] a0=some r):Ar Go.Proofs.Tryz.prog 147 [Au 2 G2 a0] (Au 2 G2 r):=by
 have h:((B3 16 [] a0).bind fun o=>some o)=some r:=by rw [h]; rfl
 refine pw {T:=Cf,an:=(fun s=>bif Nat.beq s 5 then .own else .ask),nl:=(fun s=>bif Nat.beq s 2 then [(0,2)] else [])} Tryz.func147 ?_
 refine As ?_
 refine B1 ?_
 refine ZO ?_
 refine As (As ?_)
 refine Lh (fun b:Bool=>b=true->a0 = []) (fun b=>[(4,Ao b)]) (fun _=>[]) (fun _=>rfl) ?_ ?_
 .intro K hK
  refine Ad3 0 ?_
  intro v hv
  obtain ⟨p,c,rfl,hp⟩:=hv 2 (a0.map G2) rfl
  refine B1 ?_
  refine nx ?_
  refine nx ?_
  refine Ld ?_
  refine hK p.isNone _ _ _ (fun e=>?_) ⟨rfl,trivial⟩ trivial
  cases p with
  | none=>simpa using hp rfl
  | some _=>cases e
 .rintro b _ hb
  cases b with
  | true=>
   have hb:=hb rfl
   subst hb
   have h:some ([]:List Dk)=some r:=by rw [<-h]; rfl
   exact Y
  | false=>
   refine Z ?_
   exact Y
theorem At5 {a0:List Bh} {r:List Bh×List Bh} (h:Sx 40 a0=some r):Bw Go.Proofs.Tryz.prog 171 [Au 3 De a0] [] (.arr 1 r.2.length 0 r.2.length) [.rows 85 3 (r.1.map De),.rows 85 3 (r.2.map De)]:=by
 have h:((B3 40 [] a0).bind fun o=>some (([]:List Bh),o))=some r:=h
 refine aw {T:=Cf,an:=(fun s=>bif Nat.beq s 5 then .own else bif Nat.beq s 2 then .own else .ask),nl:=(fun _=>[])} false Tryz.func171 ?_
 refine As ?_
 refine B1 ?_
 refine ZO ?_
 refine As (As ?_)
 refine Lh (fun b:Bool=>b=true->a0 = []) (fun b=>[(4,Ao b)]) (fun _=>[]) (fun _=>rfl) ?_ ?_
 .intro K hK
  refine Ad3 0 ?_
  intro v hv
  obtain ⟨p,c,rfl,hp⟩:=hv 3 (a0.map De) rfl
  refine B1 ?_
  refine nx ?_
  refine nx ?_
  refine Ld ?_
  refine hK p.isNone _ _ _ (fun e=>?_) ⟨rfl,trivial⟩ ⟨⟨rfl,rfl⟩,trivial⟩
  cases p with
  | none=>simpa using hp rfl
  | some _=>cases e
 .rintro b _ hb
  cases b with
  | true=>
   have hb:=hb rfl
   subst hb
   have h:some (([]:List Bh),([]:List Bh))=some r:=by rw [<-h]; rfl
   cases h
   refine ZO ?_
   exact Y
  | false=>
   refine Z ?_
   refine ZO ?_
   refine J4 h (fun _ h=>?_)
   exact Y
theorem At6 {a0:List Ba} {r:List Ba×List Ba} (h:Sx 40 a0=some r):Bw Go.Proofs.Tryz.prog 177 [Au 3 Dc a0] [] (.arr 1 r.2.length 0 r.2.length) [.rows 91 3 (r.1.map Dc),.rows 91 3 (r.2.map Dc)]:=by
 have h:((B3 40 [] a0).bind fun o=>some (([]:List Ba),o))=some r:=h
 refine aw {T:=Cf,an:=(fun s=>bif Nat.beq s 5 then .own else bif Nat.beq s 2 then .own else .ask),nl:=(fun _=>[])} false Tryz.func177 ?_
 refine As ?_
 refine B1 ?_
 refine ZO ?_
 refine As (As ?_)
 refine Lh (fun b:Bool=>b=true->a0 = []) (fun b=>[(4,Ao b)]) (fun _=>[]) (fun _=>rfl) ?_ ?_
 .intro K hK
  refine Ad3 0 ?_
  intro v hv
  obtain ⟨p,c,rfl,hp⟩:=hv 3 (a0.map Dc) rfl
  refine B1 ?_
  refine nx ?_
  refine nx ?_
  refine Ld ?_
  refine hK p.isNone _ _ _ (fun e=>?_) ⟨rfl,trivial⟩ ⟨⟨rfl,rfl⟩,trivial⟩
  cases p with
  | none=>simpa using hp rfl
  | some _=>cases e
 .rintro b _ hb
  cases b with
  | true=>
   have hb:=hb rfl
   subst hb
   have h:some (([]:List Ba),([]:List Ba))=some r:=by rw [<-h]; rfl
   cases h
   refine ZO ?_
   exact Y
  | false=>
   refine Z ?_
   refine ZO ?_
   refine J4 h (fun _ h=>?_)
   exact Y
end Go.Ab
namespace Go.Ab
open Go Go.Proofs Go.Shelf
set_option maxRecDepth 100000
set_option linter.unusedVariables false
theorem Cl.up {σ:Aw} {ι:Bq} {H:Hp} {F:Aw} {w w':World} {x:Nat} (h:Cl σ ι H F w x) (hk:∀(b:Nat) (o:Obj),w.heap[b]? = some o->w'.heap[b]? = some o):Cl σ ι H F w' x:=by
 unfold Cl at h ⊢
 cases hx:H x with
 | none=>rw [hx] at h; exact h
 | dead=>trivial
 | cells E cs=>
  rw [hx] at h
  obtain ⟨b,C,h1,h2,h3,g,f⟩:=h
  exact ⟨b,C,h1,h2,h3,hk _ _ g,f⟩
 | rows E sz xs=>
  rw [hx] at h
  obtain ⟨h0,h1,h2⟩:=h
  refine ⟨h0,h1,?_⟩
  rcases h2 with h2 | ⟨b,c,C,q,l,k,j,i⟩
  .exact .inl h2
  .exact .inr ⟨b,c,C,q,l,k,hk _ _ j,i⟩
 | map es=>
  rw [hx] at h
  obtain ⟨b,M,t,h1,h2,h3,g,f⟩:=h
  exact ⟨b,M,t,h1,h2,h3,hk _ _ g,f⟩
theorem St.growG {σ:Aw} {ι:Bq} {H:Hp} {F:Aw} {W w:World} (s:St σ ι H F W w) (k:Nat) (os:Array Obj):St σ ι H F W (Sort.grow (Sort.ahead w k) os):=by
 have hk:∀(b:Nat) (o:Obj),w.heap[b]? = some o->(Sort.grow (Sort.ahead w k) os).heap[b]? = some o:=by
  intro b o h
  have c:=(Array.getElem?_eq_some_iff.1 h).1
  show (w.heap++os)[b]? = _
  rw [Array.getElem?_append_left c]; exact h
 exact ⟨fun b o h=>hk b o (s.sto b o h),fun b o h=>⟨hk b o (s.fra b o h).1,(s.fra b o h).2⟩,fun h=>(s.obj h).up hk,s.inj,s.os,s.tape,s.output,s.glo,Nat.le_trans s.drw (Nat.le_add_right _ _)⟩
theorem At7 {α:Type} [Inhabited α] (enc:α->Value) (w:World) (b:Nat) (d:Array α) (C:Array Value) (E:TypeId) (h:w.heap[b]? = some (.cells C E (0,0))):Sort.putRow enc w b 0 d=w.setRow b (Sort.putCells enc 0 d C):=by
 have c:(Sort.putRow enc w b 0 d).heap=(w.setRow b (Sort.putCells enc 0 d C)).heap:=by
  apply Array.ext_getElem?
  intro i
  simp only [Sort.putRow,Sort.mapBlock,World.setRow,Array.getElem?_modify]
  split
  .rename_i e; subst e
   rw [h]; simp [Sort.onCells]
  .rfl
 unfold Sort.putRow Sort.mapBlock World.setRow at c ⊢
 simp only at c
 rw [c]
end Go.Ab
namespace Go.Ab
open Go Go.Proofs Go.Shelf Go.Sort
set_option maxRecDepth 100000
set_option linter.unusedVariables false
theorem At8 {v:Value} (h:D7 v=true):v.oneCell'=true:=by cases v <;> first | rfl | cases h
theorem At9 {σ:Aw} {ι:Bq} {H:Hp} {f:FuncId} {v:Value} (h:Conc σ ι H (.fn f []) v):v = .func (.func f) #[] #[]:=by
 cases h with
 | cc h=>cases h
 | fn _ _ vs b _=>
  have:vs = #[]:=Array.size_eq_zero_iff.1 (by simpa using b)
  rw [this]
def Aj7 {α:Type} (σ:Aw) (eA:α->AV) (sz:Nat) (S:List α) (x:α) (c:List Value):Prop :=
 x∈S/\(eA x).cells.length=sz/\c.length=sz/\∀(j:Nat) (a:AV) (v:Value),(eA x).cells[j]? = some a->c[j]? = some v->CC σ a v/\D7 v=true
abbrev Md {α:Type} (σ:Aw) (eA:α->AV) (sz:Nat) (S:List α):Type:={p:α×List Value // Aj7 σ eA sz S p.1 p.2}
theorem Aua {σ:Aw} {W w':World} (g:∀b o,W.heap[b]? = some o->σ b=some o) (s:St σ ι0 H0 (fun _=>none) W w'):∃q f,w'=grow (W.drewN q) f:=by
 have hk:∀b o,W.heap[b]? = some o->w'.heap[b]? = some o:=fun b o h=>s.sto b o (g b o h)
 have j:W.heap.size<=w'.heap.size:=by
  rcases Nat.eq_zero_or_pos W.heap.size with h | h
  .omega
  .have:=hk (W.heap.size-1) _ (Array.getElem?_eq_getElem (by omega))
   have:=(Array.getElem?_eq_some_iff.1 this).1
   omega
 refine ⟨w'.drawn-W.drawn,w'.heap.extract W.heap.size w'.heap.size,?_⟩
 have c:w'.heap=W.heap++w'.heap.extract W.heap.size w'.heap.size:=by
  apply Array.ext_getElem?
  intro i
  by_cases hi:i<W.heap.size
  .rw [Array.getElem?_append_left hi,Array.getElem?_eq_getElem hi]
   exact hk i _ (Array.getElem?_eq_getElem hi)
  .rw [Array.getElem?_append_right (by omega)]
   by_cases hj:i<w'.heap.size
   .rw [Array.getElem?_eq_getElem hj,Array.getElem?_eq_getElem (by simp; omega)]
    simp only [Array.getElem_extract]
    congr 2
    omega
   .rw [Array.getElem?_eq_none (by omega),Array.getElem?_eq_none (by simp; omega)]
 have h1:=s.os
 have h2:=s.tape
 have h3:=s.output
 have k:=s.drw
 cases w' with
 | mk heap tape drawn os output=>
  simp only at h1 h2 h3 k c
  unfold grow World.drewN
  simp only [World.mk.injEq]
  exact ⟨c,h2,by omega,h1,h3⟩
theorem Aub {ρ:Ren} {α:Type} {eA:α->AV} {E:TypeId} {sz f g:Nat} {cmp:α->α->Option Int} (L:SlLaysF0.n6 Go.Proofs.Tryz.prog ρ) (hf:ρ.f 6=f) (a7:Yr Go.Proofs.Tryz.prog f)
  (aE:∀w,(isAgg (ρ.t 24)).run Go.Proofs.Tryz.prog w = .ok true w) (zE:∀w,(Go.sizeOf (ρ.t 24)).run Go.Proofs.Tryz.prog w = .ok sz w) (eg:∀args w,(callFunc g args).run Go.Proofs.Tryz.prog w = .ok (.enter g args) w)
  (ay:∀x y n,cmp x y=some n->Ar Go.Proofs.Tryz.prog g [eA x,eA y] (O .i64 n)) (b3:∀x,∃cs,eA x = .agg cs) {l r:List α} (h:P3 cmp l=some r) (ak:l≠[]) :
  Bw Go.Proofs.Tryz.prog f [.arr 0 l.length 0 l.length,.fn g []] [.rows E sz (l.map eA)] (.tup []) [.rows E sz (r.map eA)]:=by
 obtain ⟨cf,law,be,I,A⟩:=Ats h
 refine ⟨a7,fun σ F W w ι vs s ax=>?_⟩
 obtain ⟨v,v2,rfl,G,b6⟩:=Aeq ax
 obtain rfl:=At9 b6
 have hh:hp [.rows E sz (l.map eA)] 0 = .rows E sz (l.map eA):=rfl
 have R:=G.arr_inv hh (by simp)
 have hor:=s.obj 0
 unfold Cl at hor
 rw [hh] at hor
 obtain ⟨U,ao,hor⟩:=hor
 rw [List.length_map] at ao
 rcases hor with ⟨_,ai⟩ | ⟨b,V,D,hb,g1,g2,g3,g4,g5,g6⟩
 .exact (ak (by simpa using ai)).elim
 rw [List.length_map] at g5
 unfold Fo at R
 rw [hb] at R
 simp only [Nat.zero_mul,Nat.sub_zero] at R
 obtain ⟨ht,ab⟩:=R
 subst ab
 obtain ⟨gg,q1,q2,q3⟩:=g6
 have aa:∀(i:Nat) (x:α),l[i]? = some x->(l.map eA)[i]? = some (eA x):=fun i x hx=>by rw [List.getElem?_map,hx]; rfl
 have a1:∀(i:Nat) (hi:i<l.length),Aj7 σ eA sz l l[i] ((List.range sz).map (gg i)):=by
  intro i hi
  have hx:l[i]? = some l[i]:=List.getElem?_eq_getElem hi
  refine ⟨List.getElem_mem hi,q1 i _ (aa i _ hx),by simp,fun j a v ha G=>?_⟩
  rw [List.getElem?_map,Option.map_eq_some_iff] at G
  obtain ⟨k,hk,rfl⟩:=G
  have ba:k=j:=by
   have:=(List.getElem?_eq_some_iff.1 hk).2
   simpa using this.symm
  subst ba
  exact q2 i _ k a (aa i _ hx) ha
 have hpos:0<l.length:=List.length_pos_iff.2 ak
 let d:Array (Md σ eA sz l):=Array.ofFn fun i:Fin l.length=>⟨(l[i.1],(List.range sz).map (gg i.1)),a1 i.1 i.2⟩
 haveI:Inhabited (Md σ eA sz l):=⟨⟨(l[0],(List.range sz).map (gg 0)),a1 0 hpos⟩⟩
 have B:d.size=l.length:=by simp [d]
 have bb:∀i (hi:i<l.length),d[i]! = ⟨(l[i],(List.range sz).map (gg i)),a1 i hi⟩:=fun i hi=>by
  rw [getElem!_pos d i (by rw [B]; exact hi)]; simp [d]
 let enc:Md σ eA sz l->List Value:=fun p=>p.1.2
 have hk:∀x:Md σ eA sz l,(enc x).length=sz:=fun x=>x.2.2.2.1
 have h1:∀x:Md σ eA sz l,∀v∈enc x,v.oneCell'=true:=by
  intro x v G
  obtain ⟨j,hj⟩:=List.getElem?_of_mem G
  have q:=(List.getElem?_eq_some_iff.1 hj).1
  rw [hk x] at q
  have ha:(eA x.1.1).cells[j]? = some ((eA x.1.1).cells[j]'(by rw [x.2.2.1]; exact q)):=List.getElem?_eq_getElem _
  exact At8 (x.2.2.2.2 j _ v ha hj).2
 let a8:Md σ eA sz l->Md σ eA sz l->Int:=fun x y=>cf x.1.1 y.1.1
 have hO:SWO (ltOf a8):=by
  constructor
  .intro x; exact decide_eq_false (law.irr x.1.1)
  .intro x y z Y X
   exact decide_eq_true (law.trs _ _ _ (of_decide_eq_true Y) (of_decide_eq_true X))
  .intro x y z Y X
   exact decide_eq_false (law.ntr _ _ _ (of_decide_eq_false Y) (of_decide_eq_false X))
 have hH:HoldsK enc sz w b 0 d:=by
  intro t Z
  rw [size_flatK,B] at Z
  have ad:t / sz<l.length:=Nat.div_lt_of_lt_mul (by rw [Nat.mul_comm]; exact Z)
  have ac:t % sz<sz:=Nat.mod_lt _ U
  rw [get_flatK _ _ _ _ (by rw [B]; exact Z),bb _ ad]
  have e:=q3 (t / sz) (t % sz) (by rw [List.length_map]; exact ad) ac
  rw [show t / sz*sz+t % sz=t by rw [Nat.mul_comm]; exact Nat.div_add_mod t sz] at e
  refine ⟨?_,?_⟩
  .rw [Nat.zero_add,Ip g3,e]
   show some _=some (id _)
   congr 1
   show gg _ _=((List.range sz).map (gg (t / sz)))[t % sz]!
   rw [getElem!_pos _ _ (by simpa using ac)]
   simp
  .simp [World.frozen?,g3]
 have hblk:b<w.heap.size:=(Array.getElem?_eq_some_iff.1 g3).1
 have hC:CmpLays Go.Proofs.Tryz.prog g #[] enc sz a8 b 0 d.size w:=by
  intro m os dk hs x y
  generalize b5:sortWorldK enc sz w b 0 m dk os=S
  have aq:∀b' o,σ b'=some o->S.heap[b']? = some o:=by
   intro b' o ho
   have aj:b≠b':=by
    rintro rfl
    rw [g1] at ho; cases ho
   have e:=s.sto b' o ho
   have q:=(Array.getElem?_eq_some_iff.1 e).1
   rw [<-b5]
   show ((w.heap.modify b _)++os)[b']? = _
   rw [Array.getElem?_append_left (by simpa using q),Array.getElem?_modify,if_neg aj]; exact e
  have au:=be x.1.1 x.2.1 y.1.1 y.2.1
  have hp:=ay _ _ _ au
  have s1:St ((fun b=>S.heap[b]?)) ι0 H0 (fun _=>none) S S:=⟨fun _ _ e=>e,(fun _ _ e=>by cases e),fun _=>rfl,(fun _ _ _ hl=>by cases hl),rfl,rfl,rfl,s.glo.mono aq,Nat.le_refl _⟩
  have az:∀z:Md σ eA sz l,Conc ((fun b=>S.heap[b]?)) ι0 H0 (eA z.1.1) (.agg (enc z).toArray):=by
   intro z
   obtain ⟨cs,av⟩:=b3 z.1.1
   have J:(eA z.1.1).cells=cs:=by rw [av]; rfl
   rw [av]
   refine .cc (.agg _ _ ?_ fun i c v hc G=>?_)
   .rw [<-J,z.2.2.1]; simp [hk z]
   .rw [<-J] at hc
    exact (z.2.2.2.2 i c v hc (by simpa using G)).1.mono aq
  refine (hp.2 ((fun b=>S.heap[b]?)) (fun _=>none) S S _ s1 ⟨rfl,?_⟩).mono ?_
  .intro i a v ha G
   match i,ha,G with
   | 0,ha,G=>cases ha; cases G; exact az x
   | 1,ha,G=>cases ha; cases G; exact az y
   | n+2,ha,G=>simp at ha
  .rintro e w' ⟨v,σ',rfl,ap,b7,hc⟩
   refine ⟨?_,?_⟩
   .cases hc with
    | cc h=>cases h; rfl
   .exact Aua (σ:=σ') (fun b o ho=>ap b o ho) b7
 have call:=AnyQ.slices_SortFunc L sz aE zE enc hk h1 a8 hO g #[] b 0 V d w eg hC hH hblk (by rw [B]; omega)
 rw [hf,B] at call
 refine call.mono ?_
 rintro e w' ⟨rfl,u,n,os,b9,b8,rfl⟩
 obtain ⟨p1,p2,p3⟩:=b9
 have N:u.size=l.length:=by rw [p1,B]
 have M:∀(a:Array (Md σ eA sz l)),a.size=l.length->(a.extract 0 l.length).toList=a.toList:=fun a ha=>by
  rw [<-ha]; simp
 rw [M u N,M d B] at p3
 have am:d.toList.map (fun p=>p.1.1)=l:=by
  apply List.ext_getElem
  .simp [B]
  .intro i bh bg
   simp [d]
 have ah:(u.toList.map fun p=>p.1.1).Perm l:=by
  have:=p3.map fun p:Md σ eA sz l=>p.1.1
  rwa [am] at this
 have hR:(u.toList.map fun p=>p.1.1).Pairwise fun x y=>cf x y<0\/cf y x<0:=by
  refine ((ah.trans I.symm).pairwise_iff (fun {x y} h=>h.symm)).2 ?_
  exact A.imp fun h=>.inl h
 have hS:(u.toList.map fun p=>p.1.1).Pairwise fun x y=>cf x y<0:=by
  rw [List.pairwise_iff_getElem] at hR ⊢
  intro i j hi hj ar
  simp only [List.length_map,Array.length_toList] at hi hj
  rcases hR i j (by simpa using hi) (by simpa using hj) ar with h | h
  .exact h
  .have:=b8 i j (Nat.zero_le _) ar (by omega)
   rw [getElem!_pos u i hi,getElem!_pos u j hj] at this
   have:=of_decide_eq_false this
   simp only [List.getElem_map,Array.getElem_toList] at h
   exact (this h).elim
 have ag:u.toList.map (fun p=>p.1.1)=r:=by
  refine List.Perm.eq_of_pairwise (le:=fun x y=>cf x y<0) (fun x y _ _ h1 h2=>(law.irr x (law.trs _ _ _ h1 h2)).elim) hS A (ah.trans I.symm)
 have af:r.length=l.length:=I.length_eq
 have bf:(flatK enc sz u).size=l.length*sz:=by rw [size_flatK,N]
 have b4:(Sort.putCells id 0 (flatK enc sz u) D).size=V*sz:=by unfold Sort.putCells; rw [Array.size_mapIdx]; exact g4
 have ae:∀(i:Nat) (x:α),r[i]? = some x->i<u.size/\(u[i]!).1.1=x:=by
  intro i x hx
  rw [<-ag,List.getElem?_map,Option.map_eq_some_iff] at hx
  obtain ⟨p,hp,rfl⟩:=hx
  have q:=(List.getElem?_eq_some_iff.1 hp).1
  simp only [Array.length_toList] at q
  refine ⟨q,?_⟩
  rw [getElem!_pos u i q]
  have:=(List.getElem?_eq_some_iff.1 hp).2
  simp only [Array.getElem_toList] at this
  rw [this]
 obtain ⟨s',le⟩:=s.setRows 0 E sz _ (r.map eA) hh b V hb (by simp [af]) (Sort.putCells id 0 (flatK enc sz u) D) b4 (by
  refine ⟨fun i j=>(enc u[i]!)[j]!,?_,?_,?_⟩
  .intro i x hx
   rw [List.getElem?_map] at hx
   obtain ⟨z,hz,rfl⟩:=Option.map_eq_some_iff.1 hx
   obtain ⟨e1,e2⟩:=ae i z hz
   rw [<-e2]; exact (u[i]!).2.2.1
  .intro i x j c hx a6
   rw [List.getElem?_map] at hx
   obtain ⟨z,hz,rfl⟩:=Option.map_eq_some_iff.1 hx
   obtain ⟨e1,e2⟩:=ae i z hz
   rw [<-e2] at a6
   have q:=(List.getElem?_eq_some_iff.1 a6).1
   rw [(u[i]!).2.2.1,<-(u[i]!).2.2.2.1] at q
   have hg:(u[i]!).1.2[j]? = some ((enc u[i]!)[j]!):=by
    rw [List.getElem?_eq_getElem q,getElem!_pos (enc u[i]!) j q]
   exact (u[i]!).2.2.2.2 j c _ a6 hg
  .intro i j hi hj
   rw [List.length_map,af] at hi
   have q:i*sz+j<l.length*sz:=by
    have:=Nat.mul_le_mul_right sz (show i+1<=l.length from hi)
    rw [Nat.add_mul,Nat.one_mul] at this; omega
   have hD:i*sz+j<D.size:=by
    rw [g4]
    exact Nat.lt_of_lt_of_le q (Nat.mul_le_mul_right sz g5)
   unfold Sort.putCells
   rw [Array.getElem?_mapIdx,Array.getElem?_eq_getElem hD]
   simp only [Option.map_some,Nat.zero_le,true_and,Nat.zero_add,bf,q,if_true,Nat.sub_zero]
   congr 1
   show id ((flatK enc sz u)[i*sz+j]!)=_
   rw [get_flatK _ _ _ _ (by rw [N]; exact q)]
   have e1:(i*sz+j) / sz=i:=by rw [Nat.mul_comm,Nat.mul_add_div U,Nat.div_eq_of_lt hj,Nat.add_zero]
   have e2:(i*sz+j) % sz=j:=by rw [Nat.mul_comm,Nat.mul_add_mod,Nat.mod_eq_of_lt hj]
   rw [e1,e2]; rfl)
 have eH:A5 (hp [.rows E sz (l.map eA)]) 0 (.rows E sz (r.map eA))=hp [.rows E sz (r.map eA)]:=by
  funext i
  match i with
  | 0=>rfl
  | i+1=>rfl
 rw [eH] at le s'
 have eW:sortWorldK enc sz w b 0 n u os=Sort.grow (Sort.ahead (w.setRow b (Sort.putCells id 0 (flatK enc sz u) D)) n) os:=by
  unfold sortWorldK putRowK
  rw [At7 id (Sort.ahead w n) b (flatK enc sz u) D E g3]
  rfl
 rw [eW]
 exact ⟨_,σ,ι,rfl,le,s'.growG n os,.tup _ _ rfl (fun i c v h1 _=>by cases h1)⟩
def Auc:Ren:={f:=fun x=>match x with | 6=>132 | 15=>211 | 14=>210 | 28=>267 | 29=>268 | 20=>259 | 21=>260 | 22=>261 | 23=>262 | 24=>263 | 25=>264 | 26=>265 | 27=>266 | 46=>320 | 47=>321 | 48=>322 | 49=>323 | 50=>324 | 57=>354 | n=>n,t:=fun x=>match x with | 22=>28 | 24=>61 | 25=>175 | 3=>3 | 39=>246 | 0=>0 | 53=>106 | 55=>105 | 4=>4 | 46=>301 | 45=>300 | 50=>146 | 5=>5 | 9=>9 | 66=>352 | 70=>77 | 76=>389 | 77=>390 | n=>n,g:=fun n=>n}
theorem Aud:SlLaysF0.n6 Go.Proofs.Tryz.prog Auc:=by
 constructor
 case f6=>exact Exists.intro "slices.SortFunc[[]amortcost/api.Term,amortcost/api.Term]" ⟨by kernel_rfl,by kernel_rfl⟩
 case f14=>exact Exists.intro "slices.pdqsortCmpFunc[amortcost/api.Term]" ⟨by kernel_rfl,by kernel_rfl⟩
 case f20=>exact Exists.intro "slices.insertionSortCmpFunc[amortcost/api.Term]" ⟨by kernel_rfl,by kernel_rfl⟩
 case f21=>exact Exists.intro "slices.heapSortCmpFunc[amortcost/api.Term]" ⟨by kernel_rfl,by kernel_rfl⟩
 case f22=>exact Exists.intro "slices.breakPatternsCmpFunc[amortcost/api.Term]" ⟨by kernel_rfl,by kernel_rfl⟩
 case f23=>exact Exists.intro "slices.choosePivotCmpFunc[amortcost/api.Term]" ⟨by kernel_rfl,by kernel_rfl⟩
 case f24=>exact Exists.intro "slices.reverseRangeCmpFunc[amortcost/api.Term]" ⟨by kernel_rfl,by kernel_rfl⟩
 case f25=>exact Exists.intro "slices.partialInsertionSortCmpFunc[amortcost/api.Term]" ⟨by kernel_rfl,by kernel_rfl⟩
 case f26=>exact Exists.intro "slices.partitionEqualCmpFunc[amortcost/api.Term]" ⟨by kernel_rfl,by kernel_rfl⟩
 case f27=>exact Exists.intro "slices.partitionCmpFunc[amortcost/api.Term]" ⟨by kernel_rfl,by kernel_rfl⟩
 case f46=>exact Exists.intro "slices.siftDownCmpFunc[amortcost/api.Term]" ⟨by kernel_rfl,by kernel_rfl⟩
 case f49=>exact Exists.intro "slices.medianAdjacentCmpFunc[amortcost/api.Term]" ⟨by kernel_rfl,by kernel_rfl⟩
 case f50=>exact Exists.intro "slices.medianCmpFunc[amortcost/api.Term]" ⟨by kernel_rfl,by kernel_rfl⟩
 case f57=>exact Exists.intro "slices.order2CmpFunc[amortcost/api.Term]" ⟨by kernel_rfl,by kernel_rfl⟩
 all_goals first | kernel_rfl | (intro w; kernel_rfl)
theorem Aue {α:Type} {eA:α->AV} {g:Nat} {cmp:α->α->Option Int} (j:∀args w,(callFunc g args).run Go.Proofs.Tryz.prog w = .ok (.enter g args) w)
  (b:∀x y n,cmp x y=some n->Ar Go.Proofs.Tryz.prog g [eA x,eA y] (O .i64 n)) (c:∀x,∃cs,eA x = .agg cs) {f r:List α} (h:P3 cmp f=some r) (i:f≠[]) :
  Bw Go.Proofs.Tryz.prog 132 [.arr 0 f.length 0 f.length,.fn g []] [.rows 61 5 (f.map eA)] (.tup []) [.rows 61 5 (r.map eA)] :=
 Aub Aud rfl ⟨_,Tryz.func132,by kernel_rfl,by kernel_rfl⟩ (by intro w; kernel_rfl) (by intro w; kernel_rfl) j b c h i
end Go.Ab
namespace Go.Ab
open Go Go.Proofs Go.Shelf
set_option maxRecDepth 100000
set_option linter.unusedVariables false
theorem Yo {σ:Aw} {ι:Bq} {H:Hp} {u v:Value} (h:Conc σ ι H (.val u) v):v=u:=by
 cases h with
 | cc h=>cases h; rfl
theorem Aj8 {ρ:Ren} {α:Type} {eA:α->AV} {E:TypeId} {sz f:Nat} (L:Lays8.n4 Go.Proofs.Tryz.prog ρ) (N:ρ.f 4=f) (g:Yr Go.Proofs.Tryz.prog f) (l:TypeInfo) (z:Value) (G:Go.Proofs.Tryz.prog.info? (ρ.t 25)=some l) (D:l.zero=some z) (X:ρ.t 25=E) (U:l.size=sz) (B:z.cells.size=sz) (q:0<sz) (I:l.bytes<=1000)
  {n:Int} {r:List α} (h:N3 n=some r):Bw Go.Proofs.Tryz.prog f [.val (.slice none 0 0),O .i64 n] [] (.arr 0 r.length 0 r.length) [.rows E sz (r.map eA)]:=by
 have V:r = []/\0<=n/\n<=1000000:=by
  unfold N3 at h
  by_cases h1:0<=n
  .by_cases h2:n<=1000000
   .rw [decide_eq_true h1,decide_eq_true h2] at h
    have h:some ([]:List α)=some r:=h
    cases h; exact ⟨rfl,h1,h2⟩
   .rw [decide_eq_false h2,Bool.and_false] at h; cases h
  .rw [decide_eq_false h1,Bool.false_and] at h; cases h
 obtain ⟨rfl,n0,n1⟩:=V
 obtain ⟨m,rfl⟩:∃m:Nat,n=m:=⟨n.toNat,by omega⟩
 refine ⟨g,fun σ F W w ι vs s y=>?_⟩
 obtain ⟨v,u,rfl,S,hu⟩:=Aeq y
 obtain rfl:=Yo S
 obtain rfl:=Yo hu
 have M:hp [] 0 = .none:=rfl
 have R:A5 (hp []) 0 (.rows E sz [])=hp [.rows E sz []]:=by
  funext i
  match i with
  | 0=>rfl
  | i+1=>rfl
 by_cases h0:m=0
 .subst h0
  have call:=Any8.slices_Grow_room L none 0 0 0 w (Nat.le_refl _) (by decide) (by decide) (by decide)
  rw [N] at call
  refine call.mono ?_
  rintro e w' ⟨rfl,rfl⟩
  obtain ⟨s',le⟩:=s.newNil 0 M E sz q
  rw [R] at s' le
  refine ⟨_,σ,_,rfl,le,s',.arr 0 0 0 0 _ (by intro e; cases e) (fun Z A xs e=>?_) rfl⟩
  cases e
  refine ⟨Nat.le_refl _,fun _=>?_⟩
  unfold Fo
  rw [Ch]
  exact ⟨rfl,rfl,rfl⟩
 .have hb:(0+m)*l.bytes<=140737488355328:=by
   have:=Nat.mul_le_mul (show 0+m<=1000000 by omega) I
   omega
  have call:=Any8.slices_Grow_grow L l z G D (by omega) none 0 0 m [] w (Nat.le_refl _) (by omega) hb (by omega) (by simp) (fun _=>rfl) (fun a h=>by cases h)
  rw [N,X] at call
  refine call.mono ?_
  rintro e w' ⟨rfl,rfl⟩
  have hge:=Yi w (0+m) 0 E
  generalize grownCap w (0+m) 0 E=cap at hge
  have b:∀k,(Builtin.zeroCells z.cells k).size=k*sz:=by intro k; simp [Builtin.zeroCells,B]
  generalize Y:(([]:List Value).toArray++Builtin.zeroCells z.cells (0+m-0)++Builtin.zeroCells z.cells (cap-(0+m)))=C
  have J:C.size=cap*sz:=by
   rw [<-Y,Array.size_append,Array.size_append,b,b]
   simp only [List.size_toArray,List.length_nil,Nat.zero_add,Nat.sub_zero,<-Nat.add_mul]
   congr 1; omega
  obtain ⟨s',le⟩:=(s.drew (w.drawn+1)).newRows 0 E sz [] cap C (.inl M) q (by simp) (by simp) J ⟨fun _ _=>.bool false,(by intro i x h; simp at h),(by intro i x j c h; simp at h),(by intro i j h; simp at h)⟩
  rw [R] at s' le
  refine ⟨_,σ,_,rfl,le,s',.arr 0 0 0 0 _ (by intro e; cases e) (fun Z A xs e=>?_) rfl⟩
  cases e
  refine ⟨Nat.le_refl _,fun _=>?_⟩
  unfold Fo
  rw [Ch]
  exact ⟨Nat.zero_le _,by simp⟩
def Auf:Ren:={f:=fun x=>match x with | 4=>348 | n=>n,t:=fun x=>match x with | 22=>56 | 25=>85 | 3=>3 | 4=>4 | 9=>9 | 20=>20 | 0=>0 | n=>n,g:=fun n=>n}
theorem Aug:Lays8.n4 Go.Proofs.Tryz.prog Auf:=by
 constructor
 case f4=>exact Exists.intro "slices.Grow[[]amortcost/api.Factor,amortcost/api.Factor]" ⟨by kernel_rfl,by kernel_rfl⟩
 all_goals first | kernel_rfl | (intro w; kernel_rfl)
theorem Auh {α:Type} {eA:α->AV} {n:Int} {r:List α} (h:N3 n=some r):Bw Go.Proofs.Tryz.prog 348 [.val (.slice none 0 0),O .i64 n] [] (.arr 0 r.length 0 r.length) [.rows 85 3 (r.map eA)] :=
 Aj8 Aug rfl ⟨_,Tryz.func348,by kernel_rfl,by kernel_rfl⟩ Tryz.t85 (Tryz.t85.zero.getD .nilFunc) (by kernel_rfl) (by kernel_rfl) rfl (by kernel_rfl) (by kernel_rfl) (by decide) (of_decide_eq_true (by kernel_rfl)) h
def Aui:Ren:={f:=fun x=>match x with | 4=>349 | n=>n,t:=fun x=>match x with | 22=>57 | 25=>91 | 3=>3 | 4=>4 | 9=>9 | 20=>20 | 0=>0 | n=>n,g:=fun n=>n}
theorem Auj:Lays8.n4 Go.Proofs.Tryz.prog Aui:=by
 constructor
 case f4=>exact Exists.intro "slices.Grow[[]amortcost/api.Atom,amortcost/api.Atom]" ⟨by kernel_rfl,by kernel_rfl⟩
 all_goals first | kernel_rfl | (intro w; kernel_rfl)
theorem Auk {α:Type} {eA:α->AV} {n:Int} {r:List α} (h:N3 n=some r):Bw Go.Proofs.Tryz.prog 349 [.val (.slice none 0 0),O .i64 n] [] (.arr 0 r.length 0 r.length) [.rows 91 3 (r.map eA)] :=
 Aj8 Auj rfl ⟨_,Tryz.func349,by kernel_rfl,by kernel_rfl⟩ Tryz.t91 (Tryz.t91.zero.getD .nilFunc) (by kernel_rfl) (by kernel_rfl) rfl (by kernel_rfl) (by kernel_rfl) (by decide) (of_decide_eq_true (by kernel_rfl)) h
end Go.Ab
