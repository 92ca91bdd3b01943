/- Contracts of strings.Builder and strconv.Itoa. -/
import Derived.Test.YtpedagkdpokpkaaGreatDoorWaTy
import Derived.Test.YtpedagkdpokpkaaGreatDoorWaHandB
import Derived.Shelf.Strconv.Itoa4
import Derived.KernelRfl
import Derived.Shelf.Sort.Plain
import Derived.Shelf.SlSortCmp.WholeK
import Derived.Shelf.Spec.SlicesGrow
namespace Go.Ab
open Go Go.Proofs Go.Shelf
set_option maxRecDepth 100000
def Aj1:Ren:={f:=fun x=>match x with | 171=>129 | 243=>184 | 246=>253 | 283=>291 | 284=>292 | 285=>293 | 286=>294 | 129=>201 | 317=>334 | 318=>335 | 319=>336 | 320=>337 | 337=>357 | 338=>358 | 173=>186 | n=>n,t:=fun x=>match x with | 3=>3 | 9=>9 | 2=>2 | 4=>4 | 171=>342 | 0=>0 | 53=>106 | 37=>176 | 5=>5 | 173=>344 | 212=>384 | 51=>107 | 20=>20 | 213=>385 | 46=>191 | 232=>417 | 233=>418 | n=>n,g:=fun x=>match x with | 17=>0 | 18=>1 | 19=>2 | n=>n}
theorem Aj2:LaysM.n171 Go.Proofs.Tryz.prog Aj1:=by
 constructor
 constructor
 all_goals first | kernel_rfl | (intro w; kernel_rfl)
theorem St.grown {σ:Av} {F:Av} {W w:World} (s:St σ ι0 H0 F W w) (k:Nat) (os:Array Obj):St σ ι0 H0 F W (Sort.grow (w.drewN k) os):=by
 have hk:∀(b:Nat) (o:Obj),w.heap[b]? = some o->(Sort.grow (w.drewN k) os).heap[b]? = some o:=by
  intro b o h
  have c:=(Array.getElem?_eq_some_iff.1 h).1
  show (w.heap++os)[b]? = _
  rw [Array.getElem?_append_left c]; exact h
 exact ⟨fun b o h=>hk b o (s.sto b o h),fun b o h=>⟨hk b o (s.fra b o h).1,(s.fra b o h).2⟩,fun _=>rfl,(fun _ _ _ f=>by cases f),s.os,s.tape,s.output,s.glo,Nat.le_trans s.drw (Nat.le_add_right _ _)⟩
theorem Aj3 {σ:Av} {ι:Bv} {H:Hp} {F:Av} {W w:World} (s:St σ ι H F W w):Lib.TabIs Go.Proofs.Tryz.prog w "internal/strconv.uint64pow10" .u64 Lib.pow10Tab:=by
 obtain ⟨E,fr,e⟩:=s.glo
 have h:=s.sto _ _ e
 have g:Go.Proofs.Tryz.prog.globalNamed "internal/strconv.uint64pow10" = some 0:=Aj2.m17
 unfold Lib.TabIs World.var?
 rw [g]
 simp only [Option.bind_some,h]
theorem Q3 {σ:Av} {ι:Bv} {H:Hp} {x:AV} {vs:Array Value} (h:K8 σ ι H [x] vs):∃v,vs = #[v]/\Conc σ ι H x v:=by
 obtain ⟨h1,h2⟩:=h
 have h1:vs.size=1:=h1
 refine ⟨vs[0],?_,h2 0 x _ rfl (by simp [h1])⟩
 apply Array.ext
 .simp [h1]
 .intro i c b
  have:i=0:=by omega
  subst this; rfl
theorem Auk {a0:Int} {r:ByteArray} (h:M2 a0=some r):Aw Go.Proofs.Tryz.prog 129 [O .i64 a0] (E5 r):=by
 unfold M2 at h
 split at h
 .rename_i hc
  cases h
  refine ⟨⟨_,Tryz.func129,by kernel_rfl,by kernel_rfl⟩,fun σ F W w vs s b=>?_⟩
  obtain ⟨v,rfl,c⟩:=Q3 b
  have c:=c.val_inv
  subst c
  have:=Any.strconv_Itoa Aj2 a0 hc.1 hc.2 w (Aj3 s)
  refine this.mono ?_
  rintro e w' ⟨rfl,k,os,rfl⟩
  exact ⟨_,σ,rfl,Av.le_refl σ,s.grown k os,.of_val _⟩
 .cases h
theorem Aul:LaysM.n173 Go.Proofs.Tryz.prog Aj1:=by
 constructor
 constructor
 all_goals first | kernel_rfl | (intro w; kernel_rfl)
theorem Aei {σ:Av} {ι:Bv} {H:Hp} {x y:AV} {vs:Array Value} (h:K8 σ ι H [x,y] vs):∃v u,vs = #[v,u]/\Conc σ ι H x v/\Conc σ ι H y u:=by
 obtain ⟨h1,h2⟩:=h
 have h1:vs.size=2:=h1
 refine ⟨vs[0],vs[1],?_,h2 0 x _ rfl (by simp [h1]),h2 1 y _ rfl (by simp [h1])⟩
 apply Array.ext
 .simp [h1]
 .intro i c b
  rcases (by omega:i=0\/i=1) with h | h
  .subst h; rfl
  .subst h; rfl
theorem Aum {a0 a1:Int} {r:ByteArray} (h:Y7 a0 a1=some r):Aw Go.Proofs.Tryz.prog 186 [O .i64 a0,O .i64 a1] (E5 r):=by
 unfold Y7 at h
 cases hb:a1==10 with
 | false=>rw [hb] at h; cases h
 | true=>
  rw [hb] at h
  have hb:=eq_of_beq hb
  subst hb
  have h:M2 a0=some r:=h
  unfold M2 at h
  split at h
  .rename_i hc
   cases h
   refine ⟨⟨_,Tryz.func186,by kernel_rfl,by kernel_rfl⟩,fun σ F W w vs s b=>?_⟩
   obtain ⟨v,u,rfl,c,hu⟩:=Aei b
   have c:=c.val_inv
   have hu:=hu.val_inv
   subst c; subst hu
   have:=Any.strconv_FormatInt_10 Aul a0 hc.1 hc.2 w (Aj3 s)
   refine this.mono ?_
   rintro e w' ⟨rfl,k,os,rfl⟩
   exact ⟨_,σ,rfl,Av.le_refl σ,s.grown k os,.of_val _⟩
  .cases h
theorem Wr (o:Bm) (os:List Bm):hp (o::os) 0=o:=rfl
theorem Aun (x:AV) (rest:List Bm):Bp Go.Proofs.Tryz.prog 182 [.loc 0 0] (.cells 178 [.loc 0 0,x]::rest) (.tup []) (.cells 178 [.loc 0 0,x]::rest):=by
 refine ⟨⟨_,Tryz.func182,by kernel_rfl,by kernel_rfl⟩,fun σ F W w ι vs s f=>?_⟩
 obtain ⟨v,rfl,k⟩:=Q3 f
 obtain ⟨b,hb,k⟩:=k.loc_inv
 subst k
 have l:=s.obj 0
 unfold Co at l
 rw [Wr] at l
 obtain ⟨A,C,y,_,_,h3,u,z⟩:=l
 rw [hb] at y; cases y
 have u:C.size=2:=u
 have g:C[0]? = some C[0]:=by simp [u]
 have q:=z 0 (.loc 0 0) C[0] rfl g
 obtain ⟨b2,h,j⟩:=q.loc_inv
 rw [hb] at h; cases h
 have cell:w.cell? ⟨b,0,none⟩=some (.pointer (some ⟨b,0,none⟩)):=by
  rw [Ia h3,g,j]
 refine (Tryz.check_used b w cell).mono ?_
 rintro e w' ⟨rfl,rfl⟩
 exact ⟨_,σ,ι,rfl,Le.refl _ _ _,s,.tup _ _ rfl (fun i c v h1 _=>by cases h1)⟩
theorem Auo (x:AV) (rest:List Bm):Bp Go.Proofs.Tryz.prog 182 [.loc 0 0] (.cells 178 [.val (.pointer none),x]::rest) (.tup []) (.cells 178 [.loc 0 0,x]::rest):=by
 refine ⟨⟨_,Tryz.func182,by kernel_rfl,by kernel_rfl⟩,fun σ F W w ι vs s j=>?_⟩
 obtain ⟨v,rfl,q⟩:=Q3 j
 obtain ⟨b,hb,q⟩:=q.loc_inv
 subst q
 have u:=s.obj 0
 unfold Co at u
 rw [Wr] at u
 obtain ⟨G,C,A,_,_,h3,g,z⟩:=u
 rw [hb] at A; cases A
 have g:C.size=2:=g
 have k:C[0]? = some C[0]:=by simp [g]
 have l:=(z 0 (.val (.pointer none)) C[0] rfl k).val_inv
 have cell:w.cell? ⟨b,0,none⟩=some (.pointer none):=by
  rw [Ia h3,k,l]
 refine (Tryz.check_fresh b w cell (by simp [World.shape?,h3,g]) (by simp [World.frozen?,h3])).mono ?_
 rintro e w' ⟨rfl,rfl⟩
 obtain ⟨s',le⟩:=s.setBox 0 178 [.val (.pointer none),x] [.loc 0 0,x] rfl b hb #[.pointer (some ⟨b,0,none⟩),C[1]] rfl (by
  intro i c v h1 h2
  match i with
  | 0=>simp at h1 h2; subst h1; subst h2; exact .loc 0 0 b hb
  | 1=>simp at h1 h2; subst h1; subst h2; exact z 1 x _ rfl (by simp [g])
  | i+2=>simp at h1)
 have D:Az (hp (.cells 178 [.val (.pointer none),x]::rest)) 0 (.cells 178 [.loc 0 0,x])=hp (.cells 178 [.loc 0 0,x]::rest):=by
  funext i
  cases i with
  | zero=>rfl
  | succ i=>rfl
 have B:w.setCell ⟨b,0,none⟩ (.pointer (some ⟨b,0,none⟩))=w.setRow b #[.pointer (some ⟨b,0,none⟩),C[1]]:=by
  have h:C.setIfInBounds 0 (.pointer (some ⟨b,0,none⟩)) = #[.pointer (some ⟨b,0,none⟩),C[1]]:=by
   apply Array.ext
   .simp [g]
   .intro i E y
    match i with
    | 0=>simp
    | 1=>rw [Array.getElem_setIfInBounds_ne _ (by decide)]; rfl
    | i+2=>simp at y; omega
  have f:(w.setCell ⟨b,0,none⟩ (.pointer (some ⟨b,0,none⟩))).heap=(w.setRow b #[.pointer (some ⟨b,0,none⟩),C[1]]).heap:=by
   apply Array.ext_getElem?
   intro i
   simp only [World.setCell,World.setRow,Array.getElem?_modify]
   split
   .rename_i e; subst e
    rw [h3]; simp [h]
   .rfl
  unfold World.setCell World.setRow at f ⊢
  simp only at f
  rw [f]
 rw [D] at s' le
 rw [B]
 exact ⟨_,σ,ι,rfl,le,s',.tup _ _ rfl (fun i c v h1 _=>by cases h1)⟩
theorem Aup {l:List Int} (h:∀x∈l,0<=x/\x<256) {j:Nat} {x:UInt8} (hx:(D5 l)[j]? = some x):l[j]? = some (x.toNat:Int):=by
 simp only [D5,List.getElem?_map,Option.map_eq_some_iff] at hx
 obtain ⟨y,hy,rfl⟩:=hx
 have b:=h y (List.mem_of_getElem? hy)
 rw [hy]
 congr 1
 have:y.toNat<256:=by omega
 simp only [UInt8.toNat_ofNat']
 omega
theorem St.kill {σ:Av} {ι:Bv} {H:Hp} {F:Av} {W w:World} (s:St σ ι H F W w) (h:Nat):St σ ι (Az H h .dead) F W w/\Le σ ι H σ ι (Az H h .dead):=by
 have le:Le σ ι H σ ι (Az H h .dead):=by
  have:=Le.upd (ι:=ι) (H:=H) (Av.le_refl σ) h (ι h) .dead ⟨fun _ e=>e,(fun _ e=>by cases e),(fun _ k j i e=>by cases e)⟩
  rwa [G6] at this
 obtain ⟨f1,f2⟩:=s.fresh
 refine ⟨s.touch h w.heap.size (fun _ _=>rfl) (fun x e=>C6 _ _ e) le (fun _ _=>rfl) (fun _ _=>rfl) (fun o g=>by rw [f1] at g; cases g) ?_ f2 ?_ ?_ rfl rfl rfl,le⟩
 .intro x _ c f
  have:=(s.block c f).1
  omega
 .intro b c
  rw [Cl] at c; cases c
 .unfold Co
  rw [Cl]; trivial
theorem St.fbox {σ:Av} {ι:Bv} {H:Hp} {F:Av} {W w:World} (s0:St σ ι H F W w) {T:TypeId} {p x:AV} {s:ByteArray} {b:Nat} {C:Array Value} (f:H 0 = .cells T [p,x]) (hb:ι 0 = .box b) (h3:w.heap[b]? = some (.cells C T (0,0)))
  (hc:∀v,C[1]? = some v->CC σ (.fb s) v):St σ ι (Az H 0 (.cells T [p,.fb s])) F W w/\Le σ ι H σ ι (Az H 0 (.cells T [p,.fb s])):=by
 have g:=s0.obj 0
 unfold Co at g
 rw [f] at g
 obtain ⟨u,z,k,g1,g2,g3,g4,g5⟩:=g
 rw [hb] at k; cases k
 rw [h3] at g3; cases g3
 have le:Le σ ι H σ ι (Az H 0 (.cells T [p,.fb s])):=by
  have:=Le.upd (ι:=ι) (H:=H) (Av.le_refl σ) 0 (ι 0) (.cells T [p,.fb s]) (by rw [f]; exact ⟨fun _ e=>e,(fun _ e=>by cases e),(fun _ _ _ _ e=>by cases e)⟩)
  rwa [G6] at this
 refine ⟨s0.touch 0 b (fun _ _=>rfl) (fun x e=>C6 _ _ e) le (fun x e=>rfl) (fun _ _=>rfl) (fun o e=>by rw [g1] at e; cases e) ?_ g2 ?_ ?_ rfl rfl rfl,le⟩
 .intro x e l h
  exact e (s0.inj x 0 b l (by rw [f]; rfl) h (by rw [hb]; rfl))
 .intro q _ j
  exact .inr ⟨by rw [f]; rfl,j⟩
 .unfold Co
  rw [Cl]
  refine ⟨b,C,hb,g1,g2,h3,by simpa using g4,fun i c v x y=>?_⟩
  match i with
  | 0=>exact (g5 0 c v x y).mono le
  | 1=>cases x; exact .cc (hc v y)
  | i+2=>cases x
theorem Auq {p:AV}:Bp Go.Proofs.Tryz.prog 131 [.loc 0 0] [.cells 178 [p,.arr 1 0 0 0],.rows 5 1 []] (E5 .empty) [.cells 178 [p,.fb .empty],.dead]:=by
 refine ⟨⟨_,Tryz.func131,by kernel_rfl,by kernel_rfl⟩,fun σ F W w ι vs s z=>?_⟩
 obtain ⟨v,rfl,j⟩:=Q3 z
 obtain ⟨b,hb,j⟩:=j.loc_inv
 subst j
 have M:=s.obj 0
 unfold Co at M
 rw [Wr] at M
 obtain ⟨b',C,Z,_,_,h3,B,h5⟩:=M
 rw [hb] at Z; cases Z
 have B:C.size=2:=B
 have hC:C = #[C[0],C[1]]:=by
  apply Array.ext
  .simp [B]
  .intro i X N
   match i with
   | 0=>rfl
   | 1=>rfl
   | i+2=>simp at N; omega
 have R:=h5 1 (.arr 1 0 0 0) C[1] rfl (by simp [B])
 have y:hp [Bm.cells 178 [p,.arr 1 0 0 0],.rows 5 1 []] 1 = .rows 5 1 []:=rfl
 have c:=R.arr_inv y (by simp)
 have hor:=s.obj 1
 unfold Co at hor
 rw [y] at hor
 obtain ⟨_,V,hor⟩:=hor
 have eH:Az (Az (hp [Bm.cells 178 [p,.arr 1 0 0 0],.rows 5 1 []]) 1 .dead) 0 (.cells 178 [p,.fb .empty])=hp [Bm.cells 178 [p,.fb .empty],.dead]:=by
  funext i
  match i with
  | 0=>rfl
  | 1=>rfl
  | i+2=>rfl
 have go:∀(a q:Option Addr) (cap:Nat) (A:Av) (k:World),C[1] = .slice a 0 cap->k.heap[b]? = w.heap[b]?->(Builtin.unsafeSliceData_ #[176] 244 #[.slice a 0 cap]).run Go.Proofs.Tryz.prog w.drew = .ok (.pointer q) k ->
   Le σ ι (hp [Bm.cells 178 [p,.arr 1 0 0 0],.rows 5 1 []]) A ι (hp [Bm.cells 178 [p,.arr 1 0 0 0],.rows 5 1 []])->St A ι (hp [Bm.cells 178 [p,.arr 1 0 0 0],.rows 5 1 []]) F W k ->
   Calls Go.Proofs.Tryz.prog 131 #[.pointer (some ⟨b,0,none⟩)] w fun e w'=>∃v E G,e = .returned v/\Le σ ι (hp [Bm.cells 178 [p,.arr 1 0 0 0],.rows 5 1 []]) E G (hp [Bm.cells 178 [p,.fb .empty],.dead])/\St E G (hp [Bm.cells 178 [p,.fb .empty],.dead]) F W w'/\Conc E G (hp [Bm.cells 178 [p,.fb .empty],.dead]) (E5 .empty) v:=by
  intro a q cap A k f x S le I
  have h:w.heap[b]? = some (.cells #[C[0],.slice a 0 cap] 178 (0,0)):=by
   rw [h3]; congr 1; rw [<-f,<-hC]
  refine (Tryz.builder_str0 b cap C[0] a q w k h (x.trans h) S).mono ?_
  rintro e w' ⟨rfl,rfl⟩
  obtain ⟨s2,J⟩:=I.kill 1
  obtain ⟨U,u⟩:=s2.fbox (b:=b) (C:=#[C[0],.slice a 0 cap]) (s:=.empty) (by rfl) hb ((x.trans h)) (fun v j=>by simp at j; subst j; exact .fbn _ _ _ rfl)
  rw [eH] at U u
  exact ⟨_,A,ι,rfl,(le.trans J).trans u,U,.of_val _⟩
 rcases hor with ⟨X,_⟩ | ⟨g,l,D,hg,g1,g2,g3,g4,g5,g6⟩
 .unfold Fp at c
  rw [X] at c
  exact go none none 0 σ w.drew c.1 rfl rfl (Le.refl _ _ _) (s.drew _)
 .unfold Fp at c
  rw [hg] at c
  simp only [Nat.zero_mul,Nat.zero_add,Nat.sub_zero] at c
  obtain ⟨_,f⟩:=c
  by_cases ht:l=0
  .subst ht
   obtain ⟨I,L⟩:=(s.drew (w.drawn+1)).newFrozen (.view ⟨g,0,none⟩ 5)
   have Y:=(Array.getElem?_eq_some_iff.1 h3).1
   refine go _ _ 0 _ (w.drew.alloc (.view ⟨g,0,none⟩ 5)) f ?_ (Lib.run_unsafeSliceData_zero _ _ _ 5 Go.Proofs.Tryz.underlying244 _ _ (5,D.size) (by
    have:w.drew.heap[g]? = some (.cells D 5 (0,0)):=g3
    simp [World.shape?,this])) L I
   show (w.heap.push _)[b]? = _
   rw [Array.getElem?_push,if_neg (by omega)]
  .exact go _ _ l σ w.drew f rfl (Lib.run_unsafeSliceData_row _ _ _ _ _ _ ht) (Le.refl _ _ _) (s.drew _)
theorem Aj4 {p:AV} {l:List Int} {r:ByteArray} (h:Uw l=some r):Bp Go.Proofs.Tryz.prog 131 [.loc 0 0] [.cells 178 [p,.arr 1 l.length 0 l.length],.rows 5 1 (List.map (O .u8) l)] (E5 r) [.cells 178 [p,.fb r],.dead]:=by
 unfold Uw at h
 split at h
 .rename_i aa
  cases h
  by_cases u:l = []
  .subst u; exact Auq
  refine ⟨⟨_,Tryz.func131,by kernel_rfl,by kernel_rfl⟩,fun σ F W w ι vs s S=>?_⟩
  obtain ⟨v,rfl,A⟩:=Q3 S
  obtain ⟨b,hb,A⟩:=A.loc_inv
  subst A
  have B:=s.obj 0
  unfold Co at B
  rw [Wr] at B
  obtain ⟨b',C,e1,_,_,h3,Y,h5⟩:=B
  rw [hb] at e1; cases e1
  have Y:C.size=2:=Y
  have hC:C = #[C[0],C[1]]:=by
   apply Array.ext
   .simp [Y]
   .intro i hi a7
    match i with
    | 0=>rfl
    | 1=>rfl
    | i+2=>simp at a7; omega
  have a8:=h5 1 (.arr 1 l.length 0 l.length) C[1] rfl (by simp [Y])
  have N:hp [Bm.cells 178 [p,.arr 1 l.length 0 l.length],.rows 5 1 (List.map (O .u8) l)] 1 = .rows 5 1 (List.map (O .u8) l):=rfl
  have y:=a8.arr_inv N (by simp)
  have hor:=s.obj 1
  unfold Co at hor
  rw [N] at hor
  obtain ⟨_,M,hor⟩:=hor
  rw [List.length_map] at M
  rcases hor with ⟨_,J⟩ | ⟨g,q,D,hg,g1,g2,g3,g4,g5,g6⟩
  .exact (u (by simpa using J)).elim
  .rw [List.length_map] at g5
   unfold Fp at y
   rw [hg] at y
   simp only [Nat.zero_mul,Nat.zero_add,Nat.sub_zero] at y
   obtain ⟨ht,I⟩:=y
   have c:(D5 l).length=l.length:=by simp [D5]
   have f:∀(j:Nat) (x:UInt8),(D5 l)[j]? = some x->D[j]? = some (Value.int .u8 x.toNat):=by
    intro j x hx
    have hj:=Aup aa hx
    obtain ⟨gg,q1,q2,q3⟩:=g6
    have G:(List.map (O .u8) l)[j]? = some (O .u8 x.toNat):=by rw [List.getElem?_map,hj]; rfl
    have a1:j<(List.map (O .u8) l).length:=(List.getElem?_eq_some_iff.1 G).1
    have q4:=q3 j 0 a1 (by omega)
    have q5:=(q2 j _ 0 _ G rfl).1
    have:gg j 0=Value.int .u8 x.toNat:=by
     generalize gg j 0=z at q5
     cases q5; rfl
    rw [this] at q4
    simpa using q4
   have U:w.heap[b]? = some (.cells #[C[0],.slice (some ⟨g,0,none⟩) (D5 l).length q] 178 (0,0)):=by
    rw [h3]; congr 1; rw [c]
    have:C[1] = .slice (some ⟨g,0,none⟩) l.length q:=I
    rw [<-this,<-hC]
   have V:l.length<=D.size:=by rw [g4]; omega
   have call:=Tryz.builder_str b g q C[0] D (D5 l) w (by intro e; apply u; rw [<-List.length_eq_zero_iff,<-c,e]; rfl) U g3 (by rw [c]; exact g5) (by rw [c]; exact V) (by rw [c]; omega) f
   refine call.mono ?_
   rintro e w' ⟨rfl,rfl⟩
   have L:(D5 l).length≠0:=by rw [c]; simpa using u
   have a6:σ.le (Az σ g (some (.cells D 5 (0,(D5 l).length)))):=by
    intro b' o' hb'
    rw [C6 _ _ (by intro e; subst e; rw [g1] at hb'; cases hb')]; exact hb'
   have Z:(w.drew.freeze ⟨g,0,none⟩ (D5 l).length).heap[g]? = some (.cells D 5 (0,(D5 l).length)):=by
    unfold World.freeze
    rw [if_neg L]
    simp only [Array.getElem?_modify,if_true]
    have:w.drew.heap[g]? = some (.cells D 5 (0,0)):=g3
    rw [this]
    simp
   have R:∀b,b≠g->(w.drew.freeze ⟨g,0,none⟩ (D5 l).length).heap[b]? = w.heap[b]?:=by
    intro b hb
    unfold World.freeze
    split
    .rfl
    .simp only [Array.getElem?_modify]
     rw [if_neg (Ne.symm hb)]; rfl
   have le:Le σ ι (hp [Bm.cells 178 [p,.arr 1 l.length 0 l.length],.rows 5 1 (List.map (O .u8) l)]) (Az σ g (some (.cells D 5 (0,(D5 l).length)))) ι (Az (hp [Bm.cells 178 [p,.arr 1 l.length 0 l.length],.rows 5 1 (List.map (O .u8) l)]) 1 .dead):=by
    have:=Le.upd (ι:=ι) (H:=hp [Bm.cells 178 [p,.arr 1 l.length 0 l.length],.rows 5 1 (List.map (O .u8) l)]) a6 1 (ι 1) .dead ⟨fun _ e=>e,(fun _ e=>by cases e),(fun _ E1 ae ad e=>by cases e)⟩
    rwa [G6] at this
   have eH:Az (Az (hp [Bm.cells 178 [p,.arr 1 l.length 0 l.length],.rows 5 1 (List.map (O .u8) l)]) 1 .dead) 0 (.cells 178 [p,.fb ⟨(D5 l).toArray⟩])=hp [Bm.cells 178 [p,.fb ⟨(D5 l).toArray⟩],.dead]:=by
    funext i
    match i with
    | 0=>rfl
    | 1=>rfl
    | i+2=>rfl
   have ac:b≠g:=by
    intro e
    have:=s.inj 0 1 g rfl rfl (by rw [hb,e]; rfl) (by rw [hg]; rfl)
    cases this
   have s2:St (Az σ g (some (.cells D 5 (0,(D5 l).length)))) ι (Az (hp [Bm.cells 178 [p,.arr 1 l.length 0 l.length],.rows 5 1 (List.map (O .u8) l)]) 1 .dead) F W (w.drew.freeze ⟨g,0,none⟩ (D5 l).length):=by
    refine s.touch (hdrw:=by unfold World.freeze; split <;> exact Nat.le_succ _) 1 g (fun _ _=>rfl) (fun x e=>C6 _ _ e) le R (fun x e=>C6 _ _ e) (fun o B=>by rw [Cl] at B; cases B; exact Z) ?_ g2 ?_ ?_ ?_ ?_ ?_
    .intro x hx X ab
     exact hx (s.inj x 1 g X rfl ab (by rw [hg]; rfl))
    .intro b0 X
     rw [Cl] at X; cases X
    .unfold Co
     rw [Cl]; trivial
    .unfold World.freeze; split <;> rfl
    .unfold World.freeze; split <;> rfl
    .unfold World.freeze; split <;> rfl
   obtain ⟨s3,E⟩:=s2.fbox (b:=b) (C:=#[C[0],.slice (some ⟨g,0,none⟩) (D5 l).length q]) (s:=⟨(D5 l).toArray⟩) (by rfl) hb ((R b ac).trans U) (fun v A=>by
    simp only [List.getElem?_toArray,List.getElem?_cons_succ,List.getElem?_cons_zero,Option.some.injEq] at A
    subst A
    have k:(ByteArray.mk (D5 l).toArray).size=(D5 l).length:=by simp [ByteArray.size]
    rw [<-k]
    refine .fb _ g q D (by rw [Cl,k]) (by rw [k]; exact L) (by rw [k,c]; omega) (by rw [k,c]; exact V) (by rw [k,c]; omega) (fun j x hx=>f j x (by simpa using hx)))
   rw [eH] at s3 E
   exact ⟨_,_,ι,rfl,le.trans E,s3,.of_val _⟩
 .cases h
theorem Aj5 {p:AV} {f r:ByteArray} (h:(bif Nat.beq f.size 0 then none else some f)=some r):Bp Go.Proofs.Tryz.prog 131 [.loc 0 0] [.cells 178 [p,.fb f]] (E5 r) [.cells 178 [p,.fb f]]:=by
 have q:r.size≠0/\f=r:=by
  cases hb:Nat.beq f.size 0 with
  | true=>rw [hb] at h; cases h
  | false=>rw [hb] at h; cases h; exact ⟨(fun e=>by rw [e] at hb; exact Bool.noConfusion hb),rfl⟩
 clear h
 obtain ⟨q,E⟩:=q
 subst E
 refine ⟨⟨_,Tryz.func131,by kernel_rfl,by kernel_rfl⟩,fun σ F W w ι vs s y=>?_⟩
 obtain ⟨v,rfl,B⟩:=Q3 y
 obtain ⟨b,hb,B⟩:=B.loc_inv
 subst B
 have G:=s.obj 0
 unfold Co at G
 rw [Wr] at G
 obtain ⟨b',C,S,_,_,h3,A,X⟩:=G
 rw [hb] at S; cases S
 have A:C.size=2:=A
 have N:C = #[C[0],C[1]]:=by
  apply Array.ext
  .simp [A]
  .intro i J I
   match i with
   | 0=>rfl
   | 1=>rfl
   | i+2=>simp at I; omega
 have l:=X 1 (.fb f) C[1] rfl (by simp [A])
 generalize C[1]=u at N l
 generalize C[0]=U at N
 subst N
 cases l with
 | cc l=>
  cases l with
  | fbn _ a cap h0=>exact (q h0).elim
  | fb _ g cap D V h0 z M Z L=>
   have R:=s.sto _ _ V
   have k:f.data.toList.length=f.size:=by rw [Array.length_toList]; rfl
   have call:=Tryz.builder_str b g cap U D f.data.toList w (by intro e; rw [e] at k; exact h0 k.symm) (by rw [k]; exact h3) R (by rw [k]; exact z) (by rw [k]; exact M) (by rw [k]; omega) (fun j x hx=>L j x (by simpa using hx))
   refine call.mono ?_
   rintro e w' ⟨rfl,rfl⟩
   have hw:w.drew.freeze ⟨g,0,none⟩ f.data.toList.length=w.drew:=by
    unfold World.freeze
    split
    .rfl
    .have:w.drew.heap.modify g (fun o=>match o with | .cells c elem (lo,J)=>.cells c elem (if lo==J then (0,0+f.data.toList.length) else (min lo 0,max J (0+f.data.toList.length))) | o=>o)=w.drew.heap:=by
      apply Array.ext_getElem?
      intro i
      rw [Array.getElem?_modify]
      split
      .rename_i e
       subst e
       have:w.drew.heap[g]? = some (.cells D 5 (0,f.size)):=R
       rw [this]
       simp [k,Ne.symm h0]
      .rfl
     exact congrArg (fun h=>{w.drew with heap:=h}) this
   rw [hw]
   have Y:(⟨f.data.toList.toArray⟩:ByteArray)=f:=by simp
   rw [Y]
   exact ⟨_,σ,ι,rfl,Le.refl _ _ _,s.drew _,.of_val _⟩
end Go.Ab
namespace Go.Ab
open Go Go.Proofs
set_option linter.unusedVariables false
class OK {α:Type} (o:Option α) (G:outParam (α->Prop)):Prop where
 ok:∀{r:α},o=some r->G r
theorem okz {α:Type} {G:α->Prop}:OK (none:Option α) G:=⟨fun h=>by cases h⟩
section
variable {P:Program} {C:Cfg} {Qn:Nat->Br->Hp->Prop} {Qe:Nat->Nat->Br->Hp->Prop} {Qr:Nat->Br->Hp->Prop} {n:Nat} {e:Br} {H:Hp} {β:Type} {r:β}
variable {T:Cw} {an:Nat->Ann} {nl:Nat->List (Nat×Nat)} {ops:Array Oper} {o:Oper} {os:List Oper} {acc:G9} {K:Nat->Br->Hp->G9->Prop}
theorem F1 {p:Nat×Bool} {s:Nat} {b:Bool} {m m':Option β} (h:(bif b then m else m')=some r) (h1:b=true->m=some r->Eo (Eg P T an nl ops (o::os) n (Az e s (.val (.bool true))) H acc K))
  (h2:b=false->m'=some r->Eo (Eg P T an nl ops (o::os) n (Az e s (.val (.bool false))) H acc K)) (hg:o.guard=some p:=by exact rfl) (hs:(ops[p.1]?).bind (·.dst)=some s:=by exact rfl) (hb:e s = .val (.bool b):=by exact rfl):Eo (Eg P T an nl ops (o::os) n e H acc K):=Atv h h1 h2 hb
theorem nw {c:Code} (k:wc P C c Qn Qe Qr n e H):Eo (wc P C c Qn Qe Qr n e H):=.mk k
theorem Cs {S E:Type} {o:S⊕E} {J:E->Option β} {x:E} (h:some (Sum.inr x)=some o) (hx:∀x,Sum.inr x=o->J x=some r:=by assumption):J x=some r:=hx x (Option.some.inj h)
theorem lpj {S:Type} {o:S} {J:S->Option β} {x:S} (h:some x=some o) (hx:∀y,y=o->J y=some r:=by assumption):J x=some r:=hx x (Option.some.inj h)
theorem lpn {S E:Type} {o:S⊕E} {s':S} {K:Nat->Br->Hp->Prop} {iv:S->List (Nat×AV)} {hv:S->List (Nat×Bm)} {inv:S->Prop} {n0:Nat} {H0:Hp} (h:some (Sum.inl s')=some o) (hn:∀s' n' e' H',Sum.inl s'=o->Gc e' (iv s')->Gd H' (Cp H0 (hv s')) n0 n0->inv s'->K n' e' H':=by assumption)
  (hs:Gc e (iv s'):=by (repeat refine ⟨rfl,?_⟩); exact trivial) (hh:Gd H (Cp H0 (hv s')) n0 n0:=by (repeat refine ⟨⟨rfl,rfl⟩,?_⟩); exact trivial) (hi:inv s':=by first | trivial | exact rfl | ((repeat refine Hb ?_ _ _); first | exact rfl | assumption)):K n e H:=hn s' n e H (Option.some.inj h) hs hh hi
theorem jnn {S E:Type} {o x:E} {s:S} {J:S->Prop} {K:Nat->Br->Hp->Prop} {iv:S->List (Nat×AV)} {hv:S->List (Nat×Bm)} {n0:Nat} {H0:Hp} (h:some x=some o) (hn:∀s n' e' H',J s->Gc e' (iv s)->Gd H' (Cp H0 (hv s)) n0 n0->K n' e' H':=by assumption) (hJ:J s:=by exact Option.some.inj h)
  (hs:Gc e (iv s):=by (repeat refine ⟨rfl,?_⟩); exact trivial) (hh:Gd H (Cp H0 (hv s)) n0 n0:=by (repeat refine ⟨⟨rfl,rfl⟩,?_⟩); exact trivial):K n e H:=hn s n e H hJ hs hh
theorem Bl {α:Type} {o:Option α} {m:α->Option β} {f:FuncId} {args:List AV} {G:α->Prop} {ra:α->AV} {K:Eff->Nat->Prop} (h:o.bind m=some r) [i:OK o G] (k:∀v,m v=some r->K ⟨ra v,[],[]⟩ n) (hG:∀v,G v->Aw P f args (ra v):=by exact fun _ h=>h) (hf:args.all AV.free=true:=by exact rfl):Fh P n H f args K :=
 C5 h fun v hv h=>Fh.mk _ (hG v (i.ok hv)) hf (k v h)
theorem Aj6 {α:Type} {o:Option α} {m:α->Option β} {f:FuncId} {args args':List AV} {G:α->Prop} {ra:α->AV} {K:Eff->Nat->Prop} (h:o.bind m=some r) [i:OK o G] (k:∀v,m v=some r->K ⟨ra v,[],[]⟩ n) (hG:∀v,G v->Aw P f args' (ra v):=by exact fun _ h=>h) (hs:N3 args args':=by (repeat first | refine ⟨Sub.refl _,?_⟩ | refine ⟨Sub.nil _,?_⟩); exact trivial) (hf:args.all AV.free=true:=by exact rfl):Fh P n H f args K :=
 C5 h fun v hv h=>Fh.mk _ (Aw.sub (hG v (i.ok hv)) hs (Sub.refl _)) hf (k v h)
theorem A7 {α:Type} {o:Option α} {m:α->Option β} {f:FuncId} {args largs:List AV} {G:α->Prop} {ra:α->AV} {hs:List Bm} {hs':α->List Bm} {K:Eff->Nat->Prop} (l:List Nat) (h:o.bind m=some r) [i:OK o G] (k:∀v,m v=some r->K ⟨ren (Dv n l) (ra v),wrs (Dv n l) 0 hs++B9 (Dv n l) l.length ((hs' v).length-l.length),wrs (Dv n l) 0 (hs' v)⟩ (n+((hs' v).length-l.length)))
  (hG:∀v,G v->Bp P f largs hs (ra v) (hs' v):=by exact fun _ h=>h) (ha:largs.map (ren (Dv n l))=args:=by exact rfl) (ok:∀v,R7 n l largs hs (ra v) (hs' v)=true:=by exact fun _=>rfl) (hh:Pk H (wrs (Dv n l) 0 hs):=by (repeat refine ⟨rfl,?_⟩); exact trivial):Fh P n H f args K :=
 C5 h fun v hv h=>Fh.act l largs hs (ra v) (hs' v) (hG v (i.ok hv)) ha (ok v) hh (k v h)
theorem Ca {α:Type} {l:List α} {f:α->AV} {ys:List AV} {i:Int} {m:α->Option β} {K:Nat->AV->Prop} (h:(Ag l i).bind m=some r) (k:∀(n:Nat) (x:α),i=n->l[n]? = some x->m x=some r->K n (f x)) (he:ys=l.map f:=by first | exact rfl | exact I9 _ | exact Ks _):Uo ys i K:=Atw he h k
theorem Ja {α:Type} {l:List α} {f:α->AV} {ys:List AV} {i:Int} {m:α->Option β} {K:Nat->Prop} {len kk:Nat} (h:(Ag l i).bind m=some r) (k:∀(n:Nat) (x:α),i=n->l[n]? = some x->m x=some r->K n) (he:ys=l.map f:=by first | exact rfl | exact I9 _ | exact Ks _) (hl:len=l.length:=by first | exact rfl | assumption | exact Ic (by assumption) | ((repeat refine Hb ?_ _ _); first | exact rfl | assumption)) (hk:kk=l.length:=by first | exact rfl | assumption | exact Ic (by assumption) | ((repeat refine Hb ?_ _ _); first | exact rfl | assumption)):Pl len kk ys i K:=Atx he hl hk h k
theorem Kt {α:Type} {l:List α} {f:α->AV} {ys:List AV} {i:Int} {m:α->Option β} {K:Nat->Prop} {off len kk:Nat} (h:(F0 l off len i).bind m=some r) (k:∀(n:Nat) (x:α),i=n->l[off+n]? = some x->m x=some r->K n) (he:ys=l.map f:=by first | exact rfl | exact I9 _ | exact Ks _) (hk:kk=l.length:=by first | exact rfl | assumption | exact Ic (by assumption) | ((repeat refine Hb ?_ _ _); first | exact rfl | assumption)):Pl len kk ys i K:=Aty he hk h k
theorem Ov {α:Type} {l:List α} {f:α->AV} {ys:List AV} {K:Int->Prop} (k:K (l.length:Int)) (he:ys=l.map f:=by first | exact rfl | exact I9 _ | exact Ks _):K9 ys K:=At9 he k
theorem Ow {α:Type} {l:List α} {f:α->AV} {ys:List AV} {kk:Nat} {K:Prop} (k:K) (he:ys=l.map f:=by first | exact rfl | exact I9 _ | exact Ks _) (hk:kk=l.length:=by first | exact rfl | assumption | exact Ic (by assumption) | ((repeat refine Hb ?_ _ _); first | exact rfl | assumption)):Fw kk ys K:=Aua he hk k
theorem Ox {K:Prop} (k:K):Fw 0 [] K:=.mk rfl k
theorem Oy {α:Type} {l:List α} {f:α->AV} {ys:List AV} {n i kk:Nat} {x:α} {K:AV->Prop} (k:K (f x)) (he:ys=l.map f:=by first | exact rfl | exact I9 _ | exact Ks _) (hk:kk=l.length:=by first | exact rfl | assumption | exact Ic (by assumption) | ((repeat refine Hb ?_ _ _); first | exact rfl | assumption)) (hi:i=n/\l[n]? = some x:=by first | exact ⟨Nat.zero_add _,by assumption⟩ | exact ⟨rfl,by assumption⟩):Kf kk i ys K:=At3 he hk hi.1 hi.2 k
theorem Aj7 {α:Type} {l:List α} {f:α->AV} {ys:List AV} {n i:Nat} {j:Int} {x:α} {p:AV} {K:List AV->Prop} (k:K ((Cr l j x).map f)) (he:ys=l.map f:=by first | exact rfl | exact I9 _ | exact Ks _) (hp:p=f x:=by exact rfl) (hi:i=n/\j=(n:Int):=by first | exact ⟨Nat.zero_add _,by assumption⟩ | exact ⟨rfl,by assumption⟩ | exact ⟨rfl,Ai0 _ (by assumption)⟩):Up ys i p K:=Mb he hp hi.1 hi.2 k
theorem Lo {α:Type} {l ys:List α} {f:α->AV} {xs zs:List AV} {b kk len:Nat} {m:List α->Option β} {K:List AV->Nat->Prop} {KP:List AV->Nat->Nat->Prop} (h:(Ce b l ys).bind m=some r) (k:∀o:List α,m o=some r->K (o.map f) o.length) (he:xs=l.map f/\zs=ys.map f:=by first | exact ⟨rfl,rfl⟩ | (refine ⟨?_,?_⟩; rotate_left; exact rfl; exact rfl)) (hk:kk=l.length:=by first | exact rfl | assumption | exact Ic (by assumption) | ((repeat refine Hb ?_ _ _); first | exact rfl | assumption)) (hl:len=l.length:=by first | exact rfl | assumption | exact Ic (by assumption) | ((repeat refine Hb ?_ _ _); first | exact rfl | assumption)):L9 xs zs kk len b K KP:=Adl he.1 he.2 hk hl h k
theorem Aj8 {l:List Int} {s:ByteArray} {xs:List AV} {b kk len:Nat} {m:List Int->Option β} {K:List AV->Nat->Prop} {KP:List AV->Nat->Nat->Prop} (h:(Ce b l (Lf s)).bind m=some r) (k:∀o:List Int,m o=some r->K (o.map fun n=>.val (.int .u8 n)) o.length) (he:xs=l.map fun n=>.val (.int .u8 n):=by exact rfl) (hk:kk=l.length:=by first | exact rfl | assumption | exact Ic (by assumption) | ((repeat refine Hb ?_ _ _); first | exact rfl | assumption)) (hl:len=l.length:=by first | exact rfl | assumption | exact Ic (by assumption) | ((repeat refine Hb ?_ _ _); first | exact rfl | assumption)):L9 xs (Hv s) kk len b K KP:=At5 he hk hl h k
class GL {α:Type} (g:List α->List AV) (f:outParam (α->AV)):Prop where
 eq:∀l,g l=l.map f
instance:GL Bo Fx:=⟨I9⟩
instance:GL Kr Gk:=⟨Ks⟩
theorem Aj9 {α:Type} {g:List α->List AV} {f:α->AV} [i:GL g f] {l ys:List α} {zs:List AV} {b kk len:Nat} {m:List α->Option β} {K:List AV->Nat->Prop} {KP:List AV->Nat->Nat->Prop} (h:(Ce b l ys).bind m=some r) (k:∀o:List α,m o=some r->K (g o) o.length) (hz:zs=ys.map f:=by first | exact rfl | exact GL.eq _) (hk:kk=l.length:=by first | exact rfl | assumption | exact Ic (by assumption) | ((repeat refine Hb ?_ _ _); first | exact rfl | assumption)) (hl:len=l.length:=by first | exact rfl | assumption | exact Ic (by assumption) | ((repeat refine Hb ?_ _ _); first | exact rfl | assumption)):L9 (g l) zs kk len b K KP:=At6 i.eq (i.eq l) hz hk hl h k
theorem Aej {α:Type} {ys:List α} {f:α->AV} {zs:List AV} {b:Nat} {m:List α->Option β} {K:List AV->Nat->Prop} (h:(Ce b [] ys).bind m=some r) (k:∀o:List α,m o=some r->K (o.map f) o.length) (hz:zs=ys.map f:=by exact rfl):Pn zs b K:=Ajb hz h k
theorem Aka {α:Type} {g:List α->List AV} {f:α->AV} [i:GL g f] {ys:List α} {zs:List AV} {b:Nat} {m:List α->Option β} {K:List AV->Nat->Prop} (h:(Ce b [] ys).bind m=some r) (k:∀o:List α,m o=some r->K (g o) o.length) (hz:zs=g ys:=by exact rfl):Pn zs b K:=At7 i.eq (hz.trans (i.eq ys)) h k
theorem G2 {α:Type} {z:α} {f:α->AV} {za:AV} {len cap:Int} {b:Nat} {m:List α->Option β} {K:Nat->List AV->Prop} (h:(E9 b len cap z).bind m=some r) (k:∀o:List α,m o=some r->K o.length (o.map f)) (hz:za=f z:=by first | exact (rfl:_=O _ _) | exact (rfl:_=As _) | exact rfl):R8 len cap b za K:=At8 hz h k
theorem Lp {α:Type} {l:List α} {f:α->AV} {ys:List AV} {lo hi:Int} {m:List α->Option β} {K:List AV->Prop} (h:(D1 l lo hi).bind m=some r) (k:∀l':List α,m l'=some r->K (l'.map f)) (he:ys=l.map f:=by first | exact rfl | exact I9 _ | exact Ks _):Pm ys lo hi K:=Aja he h k
theorem Aab {α:Type} {l:List α} {f:α->AV} {ys:List AV} {lo:Int} {m:List α->Option β} {K:List AV->Prop} (h:(D1 l lo l.length).bind m=some r) (k:∀l':List α,m l'=some r->K (l'.map f)) (he:ys=l.map f:=by first | exact rfl | exact I9 _ | exact Ks _):Pm ys lo ys.length K:=At4 he h k
theorem Er {S E:Type} {step:S->Option (S⊕E)} {s0:S} {J:E->Option β} {b:Code} (h:(Am step s0).bind J=some r) (iv:S->List (Nat×AV)) (hv:S->List (Nat×Bm)) (inv:S->Prop)
  (body:∀(s:S) (u:Nat->Value) (K:Nat->Br->Hp->Prop) (o:S⊕E),step s=some o->(∀x,.inr x=o->J x=some r)->(∀s' n' e' H',.inl s'=o->Gc e' (iv s')->Gd H' (Cp H (hv s')) n n->inv s'->K n' e' H')->inv s ->
   wc P C b K Qe Qr n (I1 (E2 b) e u (iv s)) (Cp H (hv s)))
  (hb:∀s,Jw n (iv s) (hv s)=true:=by exact fun _=>rfl) (hs:Gc e (iv s0):=by (repeat refine ⟨rfl,?_⟩); exact trivial) (hh:Gd H (Cp H (hv s0)) n n:=by (repeat refine ⟨⟨rfl,rfl⟩,?_⟩); exact trivial) (h0:inv s0:=by first | exact rfl | assumption | exact Ic (by assumption) | ((repeat refine Hb ?_ _ _); first | exact rfl | assumption)):wc P C (.loop b) Qn Qe Qr n e H:=Ajj h iv hv inv hb hs hh h0 body
theorem Bb {S E:Type} {step:S->Option (S⊕E)} {s0:S} {J:E->Option β} {b:Code} (h:(Am step s0).bind J=some r) (iv:S->List (Nat×AV)) (hv:S->List (Nat×Bm))
  (body:∀(s:S) (u:Nat->Value) (K:Nat->Br->Hp->Prop) (o:S⊕E),step s=some o->(∀x,.inr x=o->J x=some r)->(∀s' n' e' H',.inl s'=o->Gc e' (iv s')->Gd H' (Cp H (hv s')) n n->True->K n' e' H') ->
   wc P C b K Qe Qr n (I1 (E2 b) e u (iv s)) (Cp H (hv s)))
  (hb:∀s,Jw n (iv s) (hv s)=true:=by exact fun _=>rfl) (hs:Gc e (iv s0):=by (repeat refine ⟨rfl,?_⟩); exact trivial) (hh:Gd H (Cp H (hv s0)) n n:=by (repeat refine ⟨⟨rfl,rfl⟩,?_⟩); exact trivial):wc P C (.loop b) Qn Qe Qr n e H:=Ajj h iv hv (fun _=>True) hb hs hh trivial fun s u K o h1 h2 h3 _=>body s u K o h1 h2 h3
theorem Aek {S S':Type} {c:Code} {o:Option S'} {m:S'->Option β} (inj:S->S') (h:o.bind m=some r) (iv:S->List (Nat×AV)) (hv:S->List (Nat×Bm))
  (k1:∀x,o=some x->∀(K:Nat->Br->Hp->Prop),(∀s n' e' H',inj s=x->Gc e' (iv s)->Gd H' (Cp H (hv s)) n n->K n' e' H')->(∀y,y=x->m y=some r)->wc P C c K Qe Qr n e H)
  (k2:∀(s:S) (u:Nat->Value),m (inj s)=some r->Qn n (I1 (E2 c) e u (iv s)) (Cp H (hv s))) (hb:∀s,Jw n (iv s) (hv s)=true:=by exact fun _=>rfl):wc P C c Qn Qe Qr n e H :=
 Ai4 h fun x hx hj=>Py (fun s=>inj s=x) iv hv hb (fun K hK=>k1 x hx K hK hj) fun s u hs=>k2 s u (hj _ hs)
theorem Cq {S:Type} {c:Code} {o:Option S} {m:S->Option β} (h:o.bind m=some r) (iv:S->List (Nat×AV)) (hv:S->List (Nat×Bm))
  (k1:∀x,o=some x->∀(K:Nat->Br->Hp->Prop),(∀s n' e' H',s=x->Gc e' (iv s)->Gd H' (Cp H (hv s)) n n->K n' e' H')->(∀y,y=x->m y=some r)->wc P C c K Qe Qr n e H)
  (k2:∀(s:S) (u:Nat->Value),m s=some r->Qn n (I1 (E2 c) e u (iv s)) (Cp H (hv s))) (hb:∀s,Jw n (iv s) (hv s)=true:=by exact fun _=>rfl):wc P C c Qn Qe Qr n e H:=Aek (fun s=>s) h iv hv k1 k2 hb
abbrev C0:Cfg:={T:=Cg,an:=fun _=>.ask}
theorem pw {f:FuncId} {fn:Func} {c:Code} {args:List AV} {r:AV} (C:Cfg) (hf:Go.Proofs.Tryz.prog.funcs[f]? = some fn) (hv:wc Go.Proofs.Tryz.prog C c (fun _ e H=>Pq C.T fn.results.toList (· = r) e H) (fun _ _ _ _=>False) (fun _ e H=>Pq C.T fn.results.toList (· = r) e H) 0 (Se args) H0)
   (hT:C.T=Cg:=by exact rfl) (hb:fn.body=some c:=by exact rfl) (hname:(fn.name == "runtime.NumGoroutine")=false:=by kernel_rfl) (hok:Sf fn c args.length=true:=by kernel_rfl) (hfree:r.free=true:=by exact rfl):Aw Go.Proofs.Tryz.prog f args r:=Aub (by rw [hT]; exact Ajm) Ut hf hb hname hok hfree hv
theorem aw {f:FuncId} {fn:Func} {c:Code} {args:List AV} {r:AV} {hs hs':List Bm} (C:Cfg) (fz:Bool) (hf:Go.Proofs.Tryz.prog.funcs[f]? = some fn) (hv:wc Go.Proofs.Tryz.prog C c (fun _ e H=>Pt C.T fz fn.results.toList r hs' e H) (fun _ _ _ _=>False) (fun _ e H=>Pt C.T fz fn.results.toList r hs' e H) hs.length (Se args) (hp hs))
   (hT:C.T=Cg:=by exact rfl) (hb:fn.body=some c:=by exact rfl) (hname:(fn.name == "runtime.NumGoroutine")=false:=by kernel_rfl) (hok:Sf fn c args.length=true:=by kernel_rfl) (hok':Adg hs r hs'=true:=by exact rfl):Bp Go.Proofs.Tryz.prog f args hs r hs':=Auc fz (by rw [hT]; exact Ajm) Ut hf hb hname hok hok' hv
end
theorem opk {P:Program} {T:Cw} {an:Nat->Ann} {nl:Nat->List (Nat×Nat)} {o:Oper} {n:Nat} {e:Br} {H:Hp} {acc:G9} {K:Nat->Br->Hp->G9->Prop} (k:opK P T an nl o n e H acc K):opK P T an nl o n e H acc K:=k
theorem cnd {t:Bool} {A B:Prop} (k:bif t then A else B):bif t then A else B:=k
structure Hd (Q:Prop):Prop where
 get:Q
theorem Z {P Q:Prop} (k:Q) (h:Hd Q->P:=by
  intro q
  repeat first
    | ((with_reducible show Eo (Eg _ _ _ _ _ (_::_) _ _ _ _ _)); (first | refine nx ?_ | refine N5 ?_ | refine N4 ?_))
    | ((with_reducible refine opk ?_); conv=>whnf
       first
      | ((with_reducible show Eo _); refine nw ?_)
      | ((with_reducible show Gw _ _ _); refine Gw.mk _ rfl ?_)
      | ((with_reducible show K9 _ _); refine Ov ?_)
      | ((with_reducible show Kf _ _ _ _); refine Oy ?_)
      | ((with_reducible show Fw _ _ _); (first | refine Ow ?_ | refine Ox ?_)))
    | ((with_reducible show Eo (Eg _ _ _ _ _ [] _ _ _ _ _)); refine Jx ?_)
    | ((with_reducible show Eo (wc _ _ _ _ _ _ _ _ _)); refine nw ?_)
    | with_reducible refine Ay ?_
    | with_reducible refine Cm ?_
    | with_reducible refine Adp ?_
    | with_reducible refine Iq ?_
    | with_reducible refine Jy ?_
    | with_reducible refine F6 ?_
    | with_reducible refine Ajg ?_
    | with_reducible refine Adr ?_
    | with_reducible refine Adq ?_
    | ((with_reducible refine cnd ?_); first | refine F5 rfl ?_ | refine Adb rfl ?_)
    | ((with_reducible show Ld _ _ _); refine Ld.mk (by kernel_rfl) ?_)
    | ((with_reducible show wc _ _ (.cond _ _ _) _ _ _ _ _ _); first | refine Za ?_ | refine Zb ?_)
    | refine nw ?_
    | refine nx ?_
    | refine Jx ?_
    | refine N5 ?_
    | refine N4 ?_
    | (conv=>whnf
       first
      | ((with_reducible show Eo _); refine nw ?_)
      | ((with_reducible show Gw _ _ _); refine Gw.mk _ rfl ?_)
      | ((with_reducible show K9 _ _); refine Ov ?_)
      | ((with_reducible show Kf _ _ _ _); refine Oy ?_)
      | ((with_reducible show Fw _ _ _); (first | refine Ow ?_ | refine Ox ?_)))
  exact q.get):P:=h ⟨k⟩
theorem ZS {P Q:Prop} (k:Q) (h:Hd Q->P:=by
  intro q
  repeat first
    | ((with_reducible show Eo (Eg _ _ _ _ _ (_::_) _ _ _ _ _)); (first | refine nx ?_ | refine N5 ?_ | refine N4 ?_))
    | ((with_reducible refine opk ?_); conv=>whnf
       first
      | ((with_reducible show Eo _); refine nw ?_)
      | ((with_reducible show Gw _ _ _); refine Gw.mk _ rfl ?_)
      | ((with_reducible show K9 _ _); refine Ov ?_)
      | ((with_reducible show Kf _ _ _ _); refine Oy ?_)
      | ((with_reducible show Fw _ _ _); (first | refine Ow ?_ | refine Ox ?_)))
    | ((with_reducible show Eo (Eg _ _ _ _ _ [] _ _ _ _ _)); refine Jx ?_)
    | ((with_reducible show Eo (wc _ _ _ _ _ _ _ _ _)); refine nw ?_)
    | with_reducible refine Ay ?_
    | with_reducible refine Adp ?_
    | with_reducible refine Iq ?_
    | with_reducible refine Jy ?_
    | with_reducible refine F6 ?_
    | with_reducible refine Adr ?_
    | with_reducible refine Adq ?_
    | ((with_reducible refine cnd ?_); first | refine F5 rfl ?_ | refine Adb rfl ?_)
    | ((with_reducible show Ld _ _ _); refine Ld.mk (by kernel_rfl) ?_)
    | ((with_reducible show wc _ _ (.cond _ _ _) _ _ _ _ _ _); first | refine Za ?_ | refine Zb ?_)
    | refine nw ?_
    | refine nx ?_
    | refine Jx ?_
    | refine N5 ?_
    | refine N4 ?_
    | (conv=>whnf
       first
      | ((with_reducible show Eo _); refine nw ?_)
      | ((with_reducible show Gw _ _ _); refine Gw.mk _ rfl ?_)
      | ((with_reducible show K9 _ _); refine Ov ?_)
      | ((with_reducible show Kf _ _ _ _); refine Oy ?_)
      | ((with_reducible show Fw _ _ _); (first | refine Ow ?_ | refine Ox ?_)))
  exact q.get):P:=h ⟨k⟩
theorem ZO {P Q:Prop} (k:Q) (h:Hd Q->P:=by
  intro q
  repeat first
    | ((with_reducible show Eo (Eg _ _ _ _ _ (_::_) _ _ _ _ _)); (first | refine nx ?_ | refine N5 ?_ | refine N4 ?_))
    | ((with_reducible refine opk ?_); conv=>whnf
       first
      | ((with_reducible show Gw _ _ _); refine Gw.mk _ rfl ?_)
      | ((with_reducible show K9 _ _); refine Ov ?_)
      | ((with_reducible show Kf _ _ _ _); refine Oy ?_)
      | ((with_reducible show Fw _ _ _); (first | refine Ow ?_ | refine Ox ?_)))
    | ((with_reducible show Eo (Eg _ _ _ _ _ [] _ _ _ _ _)); refine Jx ?_)
    | ((with_reducible show Ld _ _ _); refine Ld.mk (by kernel_rfl) ?_)
    | refine nx ?_
    | refine Jx ?_
    | refine N5 ?_
    | refine N4 ?_
    | (conv=>whnf
       first
      | ((with_reducible show Gw _ _ _); refine Gw.mk _ rfl ?_)
      | ((with_reducible show K9 _ _); refine Ov ?_)
      | ((with_reducible show Kf _ _ _ _); refine Oy ?_)
      | ((with_reducible show Fw _ _ _); (first | refine Ow ?_ | refine Ox ?_)))
  exact q.get):P:=h ⟨k⟩
theorem Y {P:Prop} (h:P:=by
  repeat' first
    | ((with_reducible show Eo (Eg _ _ _ _ _ (_::_) _ _ _ _ _)); first | refine nx ?_ | refine N5 ?_ | refine N4 ?_ | refine F1 h (fun _ h=>?_) (fun _ h=>?_))
    | ((with_reducible refine opk ?_); conv=>whnf
       first
      | ((with_reducible show Eo _); refine nw ?_)
      | ((with_reducible show Gw _ _ _); refine Gw.mk _ rfl ?_)
      | ((with_reducible show K9 _ _); refine Ov ?_)
      | ((with_reducible show Fh _ _ _ _ _ _); (first | refine Bl h (fun _ h=>?_) | refine Aj6 h (fun _ h=>?_)))
      | ((with_reducible show Uo _ _ _); refine Ca h (fun _ _ _ _ h=>?_))
      | ((with_reducible show Pl _ _ _ _ _); (first | refine Ja h (fun _ _ _ _ h=>?_) | refine Kt h (fun _ _ _ _ h=>?_)))
      | ((with_reducible show Kf _ _ _ _); refine Oy ?_)
      | ((with_reducible show Up _ _ _ _); refine Aj7 ?_)
      | ((with_reducible show L9 _ _ _ _ _ _ _); (first | refine Aj8 h (fun _ h=>?_) | refine Lo h (fun _ h=>?_) | refine Aj9 h (fun _ h=>?_)))
      | ((with_reducible show Pn _ _ _); (first | refine Aej h (fun _ h=>?_) | refine Aka h (fun _ h=>?_)))
      | ((with_reducible show R8 _ _ _ _ _); refine G2 h (fun _ h=>?_))
      | ((with_reducible show Pm _ _ _ _); (first | refine Aab h (fun _ h=>?_) | refine Lp h (fun _ h=>?_)))
      | ((with_reducible show Fw _ _ _); (first | refine Ow ?_ | refine Ox ?_))
      | ((with_reducible show Yo _ _ _); refine Uz h (fun _ h=>?_))
      | ((with_reducible show Yi _ _ _ _); refine Uy h (fun _ h=>?_))
      | ((with_reducible show Yj _ _ _); refine Y8 h (fun _ h=>?_))
      | ((with_reducible show Yl _ _ _ _); refine Ajd h (fun _ h=>?_))
      | ((with_reducible show Yk _ _ _ _); refine Aje h (fun _ h=>?_))
      | ((with_reducible show Ym _ _ _ _); refine Adn h (fun _ _ _ _ h=>?_))
      | ((with_reducible show Yp _ _); refine Gg h (fun h=>?_))
      | ((with_reducible show Yq _ _ _ _ _); refine Ai8 h (fun _ h=>?_))
      | ((with_reducible show Yr _ _ _ _); refine Ai9 h (fun _ h=>?_)))
    | ((with_reducible show Eo (Eg _ _ _ _ _ [] _ _ _ _ _)); refine Jx ?_)
    | ((with_reducible show Eo (wc _ _ _ _ _ _ _ _ _)); refine nw ?_)
    | with_reducible refine Ay ?_
    | with_reducible refine Cm ?_
    | with_reducible refine Adp ?_
    | with_reducible refine Iq ?_
    | with_reducible refine Jy ?_
    | with_reducible refine F6 ?_
    | with_reducible refine Ajg ?_
    | with_reducible refine Adr ?_
    | with_reducible refine Adq ?_
    | ((with_reducible refine cnd ?_); first | refine F5 rfl ?_ | refine Adb rfl ?_)
    | ((with_reducible show wc _ _ (.cond _ _ _) _ _ _ _ _ _); first | refine Ap h (fun _ h=>?_) (fun _ h=>?_) | refine Za ?_ | refine Zb ?_)
    | ((with_reducible show Ld _ _ _); refine Ld.mk (by kernel_rfl) ?_)
    | refine nx ?_
    | refine Jx ?_
    | refine N5 ?_
    | refine N4 ?_
    | refine F1 h (fun _ h=>?_) (fun _ h=>?_)
    | exact lpn h
    | exact jnn h
    | replace h:=Cs h
    | replace h:=lpj h
    | refine nw ?_
    | (conv=>whnf
       first
      | ((with_reducible show Eo _); refine nw ?_)
      | ((with_reducible show Gw _ _ _); refine Gw.mk _ rfl ?_)
      | ((with_reducible show K9 _ _); refine Ov ?_)
      | ((with_reducible show Fh _ _ _ _ _ _); (first | refine Bl h (fun _ h=>?_) | refine Aj6 h (fun _ h=>?_)))
      | ((with_reducible show Uo _ _ _); refine Ca h (fun _ _ _ _ h=>?_))
      | ((with_reducible show Pl _ _ _ _ _); (first | refine Ja h (fun _ _ _ _ h=>?_) | refine Kt h (fun _ _ _ _ h=>?_)))
      | ((with_reducible show Kf _ _ _ _); refine Oy ?_)
      | ((with_reducible show Up _ _ _ _); refine Aj7 ?_)
      | ((with_reducible show L9 _ _ _ _ _ _ _); (first | refine Aj8 h (fun _ h=>?_) | refine Lo h (fun _ h=>?_) | refine Aj9 h (fun _ h=>?_)))
      | ((with_reducible show Pn _ _ _); (first | refine Aej h (fun _ h=>?_) | refine Aka h (fun _ h=>?_)))
      | ((with_reducible show R8 _ _ _ _ _); refine G2 h (fun _ h=>?_))
      | ((with_reducible show Pm _ _ _ _); (first | refine Aab h (fun _ h=>?_) | refine Lp h (fun _ h=>?_)))
      | ((with_reducible show Fw _ _ _); (first | refine Ow ?_ | refine Ox ?_))
      | ((with_reducible show Yo _ _ _); refine Uz h (fun _ h=>?_))
      | ((with_reducible show Yi _ _ _ _); refine Uy h (fun _ h=>?_))
      | ((with_reducible show Yj _ _ _); refine Y8 h (fun _ h=>?_))
      | ((with_reducible show Yl _ _ _ _); refine Ajd h (fun _ h=>?_))
      | ((with_reducible show Yk _ _ _ _); refine Aje h (fun _ h=>?_))
      | ((with_reducible show Ym _ _ _ _); refine Adn h (fun _ _ _ _ h=>?_))
      | ((with_reducible show Yp _ _); refine Gg h (fun h=>?_))
      | ((with_reducible show Yq _ _ _ _ _); refine Ai8 h (fun _ h=>?_))
      | ((with_reducible show Yr _ _ _ _); refine Ai9 h (fun _ h=>?_)))
    | (have h:=Option.some.inj h; subst h; exact rfl)
    | (cases h; (repeat refine ⟨rfl,?_⟩); exact trivial)
    | (cases h; done)
):P:=h
end Go.Ab
namespace Go.Ab
open Go Go.Proofs
set_option maxRecDepth 10000
set_option linter.unusedVariables false
theorem Aur {a0 r:List Bf} (h:Ce 16 [] a0=some r):Aw Go.Proofs.Tryz.prog 91 [Ao 2 Dd a0] (Ao 2 Dd r):=by
 have h:((Ce 16 [] a0).bind fun o=>some o)=some r:=by rw [h]; rfl
 refine pw {T:=Cg,an:=(fun s=>bif Nat.beq s 5 then .own else .ask),nl:=(fun s=>bif Nat.beq s 2 then [(0,2)] else [])} Tryz.func91 ?_
 refine Ay ?_
 refine Cm ?_
 refine ZO ?_
 refine Ay (Ay ?_)
 refine Py (fun b:Bool=>b=true->a0 = []) (fun b=>[(4,As b)]) (fun _=>[]) (fun _=>rfl) ?_ ?_
 .intro K hK
  refine U1 0 ?_
  intro v hv
  obtain ⟨p,c,rfl,hp⟩:=hv 2 (a0.map Dd) rfl
  refine Cm ?_
  refine nx ?_
  refine nx ?_
  refine Jx ?_
  refine hK p.isNone _ _ _ (fun e=>?_) ⟨rfl,trivial⟩ trivial
  cases p with
  | none=>simpa using hp rfl
  | some _=>cases e
 .rintro b _ hb
  cases b with
  | true=>
   have hb:=hb rfl
   subst hb
   have h:some ([]:List Bf)=some r:=by rw [<-h]; rfl
   exact Y
  | false=>
   refine Z ?_
   exact Y
theorem Aus {a0:List Bf} {r:List Bf×List Bf} (h:I3 16 a0=some r):Bp Go.Proofs.Tryz.prog 91 [Ao 2 Dd a0] [] (.arr 1 r.2.length 0 r.2.length) [.rows 71 2 (r.1.map Dd),.rows 71 2 (r.2.map Dd)]:=by
 have h:((Ce 16 [] a0).bind fun o=>some (([]:List Bf),o))=some r:=h
 refine aw {T:=Cg,an:=(fun s=>bif Nat.beq s 5 then .own else bif Nat.beq s 2 then .own else .ask),nl:=(fun _=>[])} false Tryz.func91 ?_
 refine Ay ?_
 refine Cm ?_
 refine ZO ?_
 refine Ay (Ay ?_)
 refine Py (fun b:Bool=>b=true->a0 = []) (fun b=>[(4,As b)]) (fun _=>[]) (fun _=>rfl) ?_ ?_
 .intro K hK
  refine U1 0 ?_
  intro v hv
  obtain ⟨p,c,rfl,hp⟩:=hv 2 (a0.map Dd) rfl
  refine Cm ?_
  refine nx ?_
  refine nx ?_
  refine Jx ?_
  refine hK p.isNone _ _ _ (fun e=>?_) ⟨rfl,trivial⟩ ⟨⟨rfl,rfl⟩,trivial⟩
  cases p with
  | none=>simpa using hp rfl
  | some _=>cases e
 .rintro b _ hb
  cases b with
  | true=>
   have hb:=hb rfl
   subst hb
   have h:some (([]:List Bf),([]:List Bf))=some r:=by rw [<-h]; rfl
   cases h
   refine ZO ?_
   exact Y
  | false=>
   refine Z ?_
   refine ZO ?_
   refine Lo h (fun _ h=>?_)
   exact Y
theorem Aut {a0:List Bz} {r:List Bz×List Bz} (h:I3 40 a0=some r):Bp Go.Proofs.Tryz.prog 223 [Ao 3 Ec a0] [] (.arr 1 r.2.length 0 r.2.length) [.rows 113 3 (r.1.map Ec),.rows 113 3 (r.2.map Ec)]:=by
 have h:((Ce 40 [] a0).bind fun o=>some (([]:List Bz),o))=some r:=h
 refine aw {T:=Cg,an:=(fun s=>bif Nat.beq s 5 then .own else bif Nat.beq s 2 then .own else .ask),nl:=(fun _=>[])} false Tryz.func223 ?_
 refine Ay ?_
 refine Cm ?_
 refine ZO ?_
 refine Ay (Ay ?_)
 refine Py (fun b:Bool=>b=true->a0 = []) (fun b=>[(4,As b)]) (fun _=>[]) (fun _=>rfl) ?_ ?_
 .intro K hK
  refine U1 0 ?_
  intro v hv
  obtain ⟨p,c,rfl,hp⟩:=hv 3 (a0.map Ec) rfl
  refine Cm ?_
  refine nx ?_
  refine nx ?_
  refine Jx ?_
  refine hK p.isNone _ _ _ (fun e=>?_) ⟨rfl,trivial⟩ ⟨⟨rfl,rfl⟩,trivial⟩
  cases p with
  | none=>simpa using hp rfl
  | some _=>cases e
 .rintro b _ hb
  cases b with
  | true=>
   have hb:=hb rfl
   subst hb
   have h:some (([]:List Bz),([]:List Bz))=some r:=by rw [<-h]; rfl
   cases h
   refine ZO ?_
   exact Y
  | false=>
   refine Z ?_
   refine ZO ?_
   refine Lo h (fun _ h=>?_)
   exact Y
theorem Auu {a0:List A6} {r:List A6×List A6} (h:I3 40 a0=some r):Bp Go.Proofs.Tryz.prog 229 [Ao 3 Ed a0] [] (.arr 1 r.2.length 0 r.2.length) [.rows 73 3 (r.1.map Ed),.rows 73 3 (r.2.map Ed)]:=by
 have h:((Ce 40 [] a0).bind fun o=>some (([]:List A6),o))=some r:=h
 refine aw {T:=Cg,an:=(fun s=>bif Nat.beq s 5 then .own else bif Nat.beq s 2 then .own else .ask),nl:=(fun _=>[])} false Tryz.func229 ?_
 refine Ay ?_
 refine Cm ?_
 refine ZO ?_
 refine Ay (Ay ?_)
 refine Py (fun b:Bool=>b=true->a0 = []) (fun b=>[(4,As b)]) (fun _=>[]) (fun _=>rfl) ?_ ?_
 .intro K hK
  refine U1 0 ?_
  intro v hv
  obtain ⟨p,c,rfl,hp⟩:=hv 3 (a0.map Ed) rfl
  refine Cm ?_
  refine nx ?_
  refine nx ?_
  refine Jx ?_
  refine hK p.isNone _ _ _ (fun e=>?_) ⟨rfl,trivial⟩ ⟨⟨rfl,rfl⟩,trivial⟩
  cases p with
  | none=>simpa using hp rfl
  | some _=>cases e
 .rintro b _ hb
  cases b with
  | true=>
   have hb:=hb rfl
   subst hb
   have h:some (([]:List A6),([]:List A6))=some r:=by rw [<-h]; rfl
   cases h
   refine ZO ?_
   exact Y
  | false=>
   refine Z ?_
   refine ZO ?_
   refine Lo h (fun _ h=>?_)
   exact Y
theorem Auv {a0:List Ar} {r:List Ar×List Ar} (h:I3 32 a0=some r):Bp Go.Proofs.Tryz.prog 92 [Ao 2 De a0] [] (.arr 1 r.2.length 0 r.2.length) [.rows 25 2 (r.1.map De),.rows 25 2 (r.2.map De)]:=by
 have h:((Ce 32 [] a0).bind fun o=>some (([]:List Ar),o))=some r:=h
 refine aw {T:=Cg,an:=(fun s=>bif Nat.beq s 5 then .own else bif Nat.beq s 2 then .own else .ask),nl:=(fun _=>[])} false Tryz.func92 ?_
 refine Ay ?_
 refine Cm ?_
 refine ZO ?_
 refine Ay (Ay ?_)
 refine Py (fun b:Bool=>b=true->a0 = []) (fun b=>[(4,As b)]) (fun _=>[]) (fun _=>rfl) ?_ ?_
 .intro K hK
  refine U1 0 ?_
  intro v hv
  obtain ⟨p,c,rfl,hp⟩:=hv 2 (a0.map De) rfl
  refine Cm ?_
  refine nx ?_
  refine nx ?_
  refine Jx ?_
  refine hK p.isNone _ _ _ (fun e=>?_) ⟨rfl,trivial⟩ ⟨⟨rfl,rfl⟩,trivial⟩
  cases p with
  | none=>simpa using hp rfl
  | some _=>cases e
 .rintro b _ hb
  cases b with
  | true=>
   have hb:=hb rfl
   subst hb
   have h:some (([]:List Ar),([]:List Ar))=some r:=by rw [<-h]; rfl
   cases h
   refine ZO ?_
   exact Y
  | false=>
   refine Z ?_
   refine ZO ?_
   refine Lo h (fun _ h=>?_)
   exact Y
end Go.Ab
namespace Go.Ab
open Go Go.Proofs Go.Shelf
set_option maxRecDepth 100000
set_option linter.unusedVariables false
def Auw:Ren:={f:=fun x=>match x with | 189=>108 | 125=>135 | 257=>162 | 128=>200 | 129=>201 | 294=>213 | 295=>214 | 296=>215 | 297=>216 | 298=>217 | 299=>218 | 216=>219 | 300=>220 | 301=>221 | 328=>272 | 329=>258 | 330=>259 | 331=>273 | 332=>274 | 215=>202 | 343=>303 | n=>n,t:=fun x=>match x with | 28=>79 | 3=>3 | 46=>191 | 0=>0 | 51=>107 | 53=>106 | 4=>4 | 183=>250 | 182=>249 | 131=>140 | 5=>5 | 9=>9 | 218=>308 | 222=>312 | 228=>352 | 229=>353 | n=>n,g:=fun n=>n}
theorem Aux:Lays.n189 Go.Proofs.Tryz.prog Auw:=by
 constructor
 all_goals first | kernel_rfl | (intro w; kernel_rfl) | constructor
 all_goals first | kernel_rfl | (intro w; kernel_rfl)
theorem Co.up {σ:Av} {ι:Bv} {H:Hp} {F:Av} {w w':World} {x:Nat} (h:Co σ ι H F w x) (hk:∀(b:Nat) (o:Obj),w.heap[b]? = some o->w'.heap[b]? = some o):Co σ ι H F w' x:=by
 unfold Co at h ⊢
 cases hx:H x with
 | none=>rw [hx] at h; exact h
 | dead=>trivial
 | cells E cs=>
  rw [hx] at h
  obtain ⟨b,C,h1,h2,h3,g,f⟩:=h
  exact ⟨b,C,h1,h2,h3,hk _ _ g,f⟩
 | rows E sz xs=>
  rw [hx] at h
  obtain ⟨h0,h1,h2⟩:=h
  refine ⟨h0,h1,?_⟩
  rcases h2 with h2 | ⟨b,c,C,l,k,j,e4,i⟩
  .exact .inl h2
  .exact .inr ⟨b,c,C,l,k,j,hk _ _ e4,i⟩
 | map es=>
  rw [hx] at h
  obtain ⟨b,M,t,h1,h2,h3,g,f⟩:=h
  exact ⟨b,M,t,h1,h2,h3,hk _ _ g,f⟩
theorem St.growG {σ:Av} {ι:Bv} {H:Hp} {F:Av} {W w:World} (s:St σ ι H F W w) (k:Nat) (os:Array Obj):St σ ι H F W (Sort.grow (Sort.ahead w k) os):=by
 have hk:∀(b:Nat) (o:Obj),w.heap[b]? = some o->(Sort.grow (Sort.ahead w k) os).heap[b]? = some o:=by
  intro b o h
  have c:=(Array.getElem?_eq_some_iff.1 h).1
  show (w.heap++os)[b]? = _
  rw [Array.getElem?_append_left c]; exact h
 exact ⟨fun b o h=>hk b o (s.sto b o h),fun b o h=>⟨hk b o (s.fra b o h).1,(s.fra b o h).2⟩,fun h=>(s.obj h).up hk,s.inj,s.os,s.tape,s.output,s.glo,Nat.le_trans s.drw (Nat.le_add_right _ _)⟩
theorem Akb {α:Type} [Inhabited α] (enc:α->Value) (w:World) (b:Nat) (d:Array α) (C:Array Value) (E:TypeId) (h:w.heap[b]? = some (.cells C E (0,0))):Sort.putRow enc w b 0 d=w.setRow b (Sort.putCells enc 0 d C):=by
 have c:(Sort.putRow enc w b 0 d).heap=(w.setRow b (Sort.putCells enc 0 d C)).heap:=by
  apply Array.ext_getElem?
  intro i
  simp only [Sort.putRow,Sort.mapBlock,World.setRow,Array.getElem?_modify]
  split
  .rename_i e; subst e
   rw [h]; simp [Sort.onCells]
  .rfl
 unfold Sort.putRow Sort.mapBlock World.setRow at c ⊢
 simp only at c
 rw [c]
theorem Auy {b r:List Int} (h:Ai1 b=some r) (M:b≠[]):Bp Go.Proofs.Tryz.prog 108 [.arr 0 b.length 0 b.length] [.rows 3 1 (List.map (O .i64) b)] (.tup []) [.rows 3 1 (List.map (O .i64) r)]:=by
 cases h
 .skip
  refine ⟨⟨_,Tryz.func108,by kernel_rfl,by kernel_rfl⟩,fun σ F W w ι vs s J=>?_⟩
  obtain ⟨v,rfl,hv⟩:=Q3 J
  have U:hp [.rows 3 1 (List.map (O .i64) b)] 0 = .rows 3 1 (List.map (O .i64) b):=rfl
  have l:=hv.arr_inv U (by simp)
  have hor:=s.obj 0
  unfold Co at hor
  rw [U] at hor
  obtain ⟨_,G,hor⟩:=hor
  rw [List.length_map] at G
  rcases hor with ⟨_,E⟩ | ⟨g,q,D,Z,g1,g2,g3,g4,g5,g6⟩
  .exact (M (by simpa using E)).elim
  .rw [List.length_map] at g5
   unfold Fp at l
   rw [Z] at l
   simp only [Nat.zero_mul,Nat.zero_add,Nat.sub_zero] at l
   obtain ⟨ht,B⟩:=l
   subst B
   have k:∀(j:Nat) (x:Int),b[j]? = some x->D[j]? = some (Value.int .i64 x):=by
    intro j x hx
    obtain ⟨gg,q1,q2,q3⟩:=g6
    have A:(List.map (O .i64) b)[j]? = some (O .i64 x):=by rw [List.getElem?_map,hx]; rfl
    have N:j<(List.map (O .i64) b).length:=(List.getElem?_eq_some_iff.1 A).1
    have X:=q3 j 0 N (by omega)
    have V:=(q2 j _ 0 _ A rfl).1
    have:gg j 0=Value.int .i64 x:=by
     generalize gg j 0=z at V
     cases V; rfl
    rw [this] at X
    simpa using X
   have hH:Sort.Holds (Value.int .i64) w g 0 b.toArray:=by
    intro j hj
    have hj':j<b.length:=by simpa using hj
    have hx:b[j]? = some b[j]:=List.getElem?_eq_getElem hj'
    have hD:=k j _ hx
    have e1:b.toArray[j]! = b[j]:=by
     rw [getElem!_pos b.toArray j hj]; simp
    rw [e1]
    refine ⟨?_,?_⟩
    .rw [Nat.zero_add,Ia g3]; exact hD
    .simp [World.frozen?,g3]
   have call:=Any.slices_Sort_int Aux g 0 q b w hH (Array.getElem?_eq_some_iff.1 g3).1 (by omega)
   refine call.mono ?_
   rintro e w' ⟨rfl,n,os,rfl⟩
   generalize hr:b.mergeSort (fun x y=>decide (x<=y))=r
   have I:r.length=b.length:=by rw [<-hr]; exact List.length_mergeSort b
   have L:(Sort.putCells (Value.int .i64) 0 r.toArray D).size=q*1:=by unfold Sort.putCells; rw [Array.size_mapIdx]; exact g4
   obtain ⟨s',le⟩:=s.setRows 0 3 1 _ (List.map (O .i64) r) U g q Z (by simp [I]) (Sort.putCells (Value.int .i64) 0 r.toArray D) L (by
    refine ⟨fun i _=>match r[i]? with | some z=>.int .i64 z | none=>.bool false,?_,?_,?_⟩
    .intro i x hx
     rw [List.getElem?_map] at hx
     obtain ⟨z,Y,rfl⟩:=Option.map_eq_some_iff.1 hx
     rfl
    .intro i x j c hx f
     rw [List.getElem?_map] at hx
     obtain ⟨z,Y,rfl⟩:=Option.map_eq_some_iff.1 hx
     have f:([O .i64 z]:List AV)[j]? = some c:=f
     match j with
     | 0=>cases f; simp only [Y]; exact ⟨.val _,rfl⟩
     | j+1=>simp at f
    .intro i j hi hj
     have R:j=0:=by omega
     subst R
     have u:i<r.length:=by simpa using hi
     have S:i<D.size:=by rw [g4]; omega
     simp only [Nat.mul_one,Nat.add_zero,List.getElem?_eq_getElem u]
     unfold Sort.putCells
     rw [Array.getElem?_mapIdx,Array.getElem?_eq_getElem S]
     simp only [Option.map_some,Nat.zero_le,true_and,Nat.zero_add,List.size_toArray,u,if_true,Nat.sub_zero]
     congr 2
     rw [getElem!_pos r.toArray i (by simpa using u)]; simp)
   have eH:Az (hp [.rows 3 1 (List.map (O .i64) b)]) 0 (.rows 3 1 (List.map (O .i64) r))=hp [.rows 3 1 (List.map (O .i64) r)]:=by
    funext i
    match i with
    | 0=>rfl
    | i+1=>rfl
   rw [eH] at le s'
   have eW:Sort.grow (Sort.putRow (Value.int .i64) (Sort.ahead w n) g 0 r.toArray) os=Sort.grow (Sort.ahead (w.setRow g (Sort.putCells (Value.int .i64) 0 r.toArray D)) n) os:=by
    rw [Akb (Value.int .i64) (Sort.ahead w n) g r.toArray D 3 g3]
    rfl
   rw [eW]
   exact ⟨_,σ,ι,rfl,le,s'.growG n os,.tup _ _ rfl (fun i c v h1 _=>by cases h1)⟩
end Go.Ab
namespace Go.Ab
open Go Go.Proofs Go.Shelf Go.Sort
set_option maxRecDepth 100000
set_option linter.unusedVariables false
theorem Auz {v:Value} (h:D7 v=true):v.oneCell'=true:=by cases v <;> first | rfl | cases h
theorem Au0 {σ:Av} {ι:Bv} {H:Hp} {f:FuncId} {v:Value} (h:Conc σ ι H (.fn f []) v):v = .func (.func f) #[] #[]:=by
 cases h with
 | cc h=>cases h
 | fn _ _ vs b _=>
  have:vs = #[]:=Array.size_eq_zero_iff.1 (by simpa using b)
  rw [this]
def Akc {α:Type} (σ:Av) (eA:α->AV) (sz:Nat) (S:List α) (x:α) (c:List Value):Prop :=
 x∈S/\(eA x).cells.length=sz/\c.length=sz/\∀(j:Nat) (a:AV) (v:Value),(eA x).cells[j]? = some a->c[j]? = some v->CC σ a v/\D7 v=true
abbrev Mn {α:Type} (σ:Av) (eA:α->AV) (sz:Nat) (S:List α):Type:={p:α×List Value // Akc σ eA sz S p.1 p.2}
theorem Au1 {σ:Av} {W w':World} (j:∀b o,W.heap[b]? = some o->σ b=some o) (s:St σ ι0 H0 (fun _=>none) W w'):∃q f,w'=grow (W.drewN q) f:=by
 have hk:∀b o,W.heap[b]? = some o->w'.heap[b]? = some o:=fun b o h=>s.sto b o (j b o h)
 have k:W.heap.size<=w'.heap.size:=by
  rcases Nat.eq_zero_or_pos W.heap.size with h | h
  .omega
  .have:=hk (W.heap.size-1) _ (Array.getElem?_eq_getElem (by omega))
   have:=(Array.getElem?_eq_some_iff.1 this).1
   omega
 refine ⟨w'.drawn-W.drawn,w'.heap.extract W.heap.size w'.heap.size,?_⟩
 have c:w'.heap=W.heap++w'.heap.extract W.heap.size w'.heap.size:=by
  apply Array.ext_getElem?
  intro i
  by_cases g:i<W.heap.size
  .rw [Array.getElem?_append_left g,Array.getElem?_eq_getElem g]
   exact hk i _ (Array.getElem?_eq_getElem g)
  .rw [Array.getElem?_append_right (by omega)]
   by_cases hj:i<w'.heap.size
   .rw [Array.getElem?_eq_getElem hj,Array.getElem?_eq_getElem (by simp; omega)]
    simp only [Array.getElem_extract]
    congr 2
    omega
   .rw [Array.getElem?_eq_none (by omega),Array.getElem?_eq_none (by simp; omega)]
 have h1:=s.os
 have h2:=s.tape
 have h3:=s.output
 have l:=s.drw
 cases w' with
 | mk heap tape drawn os output=>
  simp only at h1 h2 h3 l c
  unfold grow World.drewN
  simp only [World.mk.injEq]
  exact ⟨c,h2,by omega,h1,h3⟩
theorem Akd {ρ:Ren} {α:Type} {eA:α->AV} {E:TypeId} {sz f g:Nat} {cmp:α->α->Option Int} (L:SlLaysF0.n6 Go.Proofs.Tryz.prog ρ) (hf:ρ.f 6=f) (a8:Yh Go.Proofs.Tryz.prog f)
  (aE:∀w,(isAgg (ρ.t 24)).run Go.Proofs.Tryz.prog w = .ok true w) (zE:∀w,(Go.sizeOf (ρ.t 24)).run Go.Proofs.Tryz.prog w = .ok sz w) (eg:∀args w,(callFunc g args).run Go.Proofs.Tryz.prog w = .ok (.enter g args) w)
  (az:∀x y n,cmp x y=some n->Aw Go.Proofs.Tryz.prog g [eA x,eA y] (O .i64 n)) (b4:∀x,∃cs,eA x = .agg cs) {l r:List α} (h:M4 cmp l=some r) (am:l≠[]) :
  Bp Go.Proofs.Tryz.prog f [.arr 0 l.length 0 l.length,.fn g []] [.rows E sz (l.map eA)] (.tup []) [.rows E sz (r.map eA)]:=by
 obtain ⟨cf,law,bf,I,A⟩:=Auf h
 refine ⟨a8,fun σ F W w ι vs s ay=>?_⟩
 obtain ⟨v,v2,rfl,G,b7⟩:=Aei ay
 obtain rfl:=Au0 b7
 have hh:hp [.rows E sz (l.map eA)] 0 = .rows E sz (l.map eA):=rfl
 have S:=G.arr_inv hh (by simp)
 have hor:=s.obj 0
 unfold Co at hor
 rw [hh] at hor
 obtain ⟨V,ap,hor⟩:=hor
 rw [List.length_map] at ap
 rcases hor with ⟨_,aj⟩ | ⟨b,X,D,hb,g1,g2,g3,g4,g5,g6⟩
 .exact (am (by simpa using aj)).elim
 rw [List.length_map] at g5
 unfold Fp at S
 rw [hb] at S
 simp only [Nat.zero_mul,Nat.sub_zero] at S
 obtain ⟨ht,ac⟩:=S
 subst ac
 obtain ⟨gg,q1,q2,q3⟩:=g6
 have ab:∀(i:Nat) (x:α),l[i]? = some x->(l.map eA)[i]? = some (eA x):=fun i x hx=>by rw [List.getElem?_map,hx]; rfl
 have a6:∀(i:Nat) (J:i<l.length),Akc σ eA sz l l[i] ((List.range sz).map (gg i)):=by
  intro i J
  have hx:l[i]? = some l[i]:=List.getElem?_eq_getElem J
  refine ⟨List.getElem_mem J,q1 i _ (ab i _ hx),by simp,fun j a v ha G=>?_⟩
  rw [List.getElem?_map,Option.map_eq_some_iff] at G
  obtain ⟨k,hk,rfl⟩:=G
  have bb:k=j:=by
   have:=(List.getElem?_eq_some_iff.1 hk).2
   simpa using this.symm
  subst bb
  exact q2 i _ k a (ab i _ hx) ha
 have hpos:0<l.length:=List.length_pos_iff.2 am
 let d:Array (Mn σ eA sz l):=Array.ofFn fun i:Fin l.length=>⟨(l[i.1],(List.range sz).map (gg i.1)),a6 i.1 i.2⟩
 haveI:Inhabited (Mn σ eA sz l):=⟨⟨(l[0],(List.range sz).map (gg 0)),a6 0 hpos⟩⟩
 have B:d.size=l.length:=by simp [d]
 have be:∀i (J:i<l.length),d[i]! = ⟨(l[i],(List.range sz).map (gg i)),a6 i J⟩:=fun i J=>by
  rw [getElem!_pos d i (by rw [B]; exact J)]; simp [d]
 let enc:Mn σ eA sz l->List Value:=fun p=>p.1.2
 have hk:∀x:Mn σ eA sz l,(enc x).length=sz:=fun x=>x.2.2.2.1
 have h1:∀x:Mn σ eA sz l,∀v∈enc x,v.oneCell'=true:=by
  intro x v G
  obtain ⟨j,hj⟩:=List.getElem?_of_mem G
  have q:=(List.getElem?_eq_some_iff.1 hj).1
  rw [hk x] at q
  have ha:(eA x.1.1).cells[j]? = some ((eA x.1.1).cells[j]'(by rw [x.2.2.1]; exact q)):=List.getElem?_eq_getElem _
  exact Auz (x.2.2.2.2 j _ v ha hj).2
 let aa:Mn σ eA sz l->Mn σ eA sz l->Int:=fun x y=>cf x.1.1 y.1.1
 have hO:SWO (ltOf aa):=by
  constructor
  .intro x; exact decide_eq_false (law.irr x.1.1)
  .intro x y z Z Y
   exact decide_eq_true (law.trs _ _ _ (of_decide_eq_true Z) (of_decide_eq_true Y))
  .intro x y z Z Y
   exact decide_eq_false (law.ntr _ _ _ (of_decide_eq_false Z) (of_decide_eq_false Y))
 have hH:HoldsK enc sz w b 0 d:=by
  intro t a1
  rw [size_flatK,B] at a1
  have ae:t / sz<l.length:=Nat.div_lt_of_lt_mul (by rw [Nat.mul_comm]; exact a1)
  have ad:t % sz<sz:=Nat.mod_lt _ V
  rw [get_flatK _ _ _ _ (by rw [B]; exact a1),be _ ae]
  have e:=q3 (t / sz) (t % sz) (by rw [List.length_map]; exact ae) ad
  rw [show t / sz*sz+t % sz=t by rw [Nat.mul_comm]; exact Nat.div_add_mod t sz] at e
  refine ⟨?_,?_⟩
  .rw [Nat.zero_add,Ia g3,e]
   show some _=some (id _)
   congr 1
   show gg _ _=((List.range sz).map (gg (t / sz)))[t % sz]!
   rw [getElem!_pos _ _ (by simpa using ad)]
   simp
  .simp [World.frozen?,g3]
 have hblk:b<w.heap.size:=(Array.getElem?_eq_some_iff.1 g3).1
 have hC:CmpLays Go.Proofs.Tryz.prog g #[] enc sz aa b 0 d.size w:=by
  intro m os dk hs x y
  generalize b6:sortWorldK enc sz w b 0 m dk os=U
  have ar:∀b' o,σ b'=some o->U.heap[b']? = some o:=by
   intro b' o ho
   have ak:b≠b':=by
    rintro rfl
    rw [g1] at ho; cases ho
   have e:=s.sto b' o ho
   have q:=(Array.getElem?_eq_some_iff.1 e).1
   rw [<-b6]
   show ((w.heap.modify b _)++os)[b']? = _
   rw [Array.getElem?_append_left (by simpa using q),Array.getElem?_modify,if_neg ak]; exact e
  have av:=bf x.1.1 x.2.1 y.1.1 y.2.1
  have hp:=az _ _ _ av
  have s1:St ((fun b=>U.heap[b]?)) ι0 H0 (fun _=>none) U U:=⟨fun _ _ e=>e,(fun _ _ e=>by cases e),fun _=>rfl,(fun _ _ _ hl=>by cases hl),rfl,rfl,rfl,s.glo.mono ar,Nat.le_refl _⟩
  have b3:∀z:Mn σ eA sz l,Conc ((fun b=>U.heap[b]?)) ι0 H0 (eA z.1.1) (.agg (enc z).toArray):=by
   intro z
   obtain ⟨cs,ax⟩:=b4 z.1.1
   have M:(eA z.1.1).cells=cs:=by rw [ax]; rfl
   rw [ax]
   refine .cc (.agg _ _ ?_ fun i c v hc G=>?_)
   .rw [<-M,z.2.2.1]; simp [hk z]
   .rw [<-M] at hc
    exact (z.2.2.2.2 i c v hc (by simpa using G)).1.mono ar
  refine (hp.2 ((fun b=>U.heap[b]?)) (fun _=>none) U U _ s1 ⟨rfl,?_⟩).mono ?_
  .intro i a v ha G
   match i,ha,G with
   | 0,ha,G=>cases ha; cases G; exact b3 x
   | 1,ha,G=>cases ha; cases G; exact b3 y
   | n+2,ha,G=>simp at ha
  .rintro e w' ⟨v,σ',rfl,aq,b8,hc⟩
   refine ⟨?_,?_⟩
   .cases hc with
    | cc h=>cases h; rfl
   .exact Au1 (σ:=σ') (fun b o ho=>aq b o ho) b8
 have call:=AnyQ.slices_SortFunc L sz aE zE enc hk h1 aa hO g #[] b 0 X d w eg hC hH hblk (by rw [B]; omega)
 rw [hf,B] at call
 refine call.mono ?_
 rintro e w' ⟨rfl,u,n,os,ba,b9,rfl⟩
 obtain ⟨p1,p2,p3⟩:=ba
 have R:u.size=l.length:=by rw [p1,B]
 have N:∀(a:Array (Mn σ eA sz l)),a.size=l.length->(a.extract 0 l.length).toList=a.toList:=fun a ha=>by
  rw [<-ha]; simp
 rw [N u R,N d B] at p3
 have ao:d.toList.map (fun p=>p.1.1)=l:=by
  apply List.ext_getElem
  .simp [B]
  .intro i bi bh
   simp [d]
 have ai:(u.toList.map fun p=>p.1.1).Perm l:=by
  have:=p3.map fun p:Mn σ eA sz l=>p.1.1
  rwa [ao] at this
 have hR:(u.toList.map fun p=>p.1.1).Pairwise fun x y=>cf x y<0\/cf y x<0:=by
  refine ((ai.trans I.symm).pairwise_iff (fun {x y} h=>h.symm)).2 ?_
  exact A.imp fun h=>.inl h
 have hS:(u.toList.map fun p=>p.1.1).Pairwise fun x y=>cf x y<0:=by
  rw [List.pairwise_iff_getElem] at hR ⊢
  intro i j J hj au
  simp only [List.length_map,Array.length_toList] at J hj
  rcases hR i j (by simpa using J) (by simpa using hj) au with h | h
  .exact h
  .have:=b9 i j (Nat.zero_le _) au (by omega)
   rw [getElem!_pos u i J,getElem!_pos u j hj] at this
   have:=of_decide_eq_false this
   simp only [List.getElem_map,Array.getElem_toList] at h
   exact (this h).elim
 have ah:u.toList.map (fun p=>p.1.1)=r:=by
  refine List.Perm.eq_of_pairwise (le:=fun x y=>cf x y<0) (fun x y _ _ h1 h2=>(law.irr x (law.trs _ _ _ h1 h2)).elim) hS A (ai.trans I.symm)
 have ag:r.length=l.length:=I.length_eq
 have bg:(flatK enc sz u).size=l.length*sz:=by rw [size_flatK,R]
 have b5:(Sort.putCells id 0 (flatK enc sz u) D).size=X*sz:=by unfold Sort.putCells; rw [Array.size_mapIdx]; exact g4
 have af:∀(i:Nat) (x:α),r[i]? = some x->i<u.size/\(u[i]!).1.1=x:=by
  intro i x hx
  rw [<-ah,List.getElem?_map,Option.map_eq_some_iff] at hx
  obtain ⟨p,hp,rfl⟩:=hx
  have q:=(List.getElem?_eq_some_iff.1 hp).1
  simp only [Array.length_toList] at q
  refine ⟨q,?_⟩
  rw [getElem!_pos u i q]
  have:=(List.getElem?_eq_some_iff.1 hp).2
  simp only [Array.getElem_toList] at this
  rw [this]
 obtain ⟨s',le⟩:=s.setRows 0 E sz _ (r.map eA) hh b X hb (by simp [ag]) (Sort.putCells id 0 (flatK enc sz u) D) b5 (by
  refine ⟨fun i j=>(enc u[i]!)[j]!,?_,?_,?_⟩
  .intro i x hx
   rw [List.getElem?_map] at hx
   obtain ⟨z,hz,rfl⟩:=Option.map_eq_some_iff.1 hx
   obtain ⟨e1,e2⟩:=af i z hz
   rw [<-e2]; exact (u[i]!).2.2.1
  .intro i x j c hx a7
   rw [List.getElem?_map] at hx
   obtain ⟨z,hz,rfl⟩:=Option.map_eq_some_iff.1 hx
   obtain ⟨e1,e2⟩:=af i z hz
   rw [<-e2] at a7
   have q:=(List.getElem?_eq_some_iff.1 a7).1
   rw [(u[i]!).2.2.1,<-(u[i]!).2.2.2.1] at q
   have hg:(u[i]!).1.2[j]? = some ((enc u[i]!)[j]!):=by
    rw [List.getElem?_eq_getElem q,getElem!_pos (enc u[i]!) j q]
   exact (u[i]!).2.2.2.2 j c _ a7 hg
  .intro i j J hj
   rw [List.length_map,ag] at J
   have q:i*sz+j<l.length*sz:=by
    have:=Nat.mul_le_mul_right sz (show i+1<=l.length from J)
    rw [Nat.add_mul,Nat.one_mul] at this; omega
   have hD:i*sz+j<D.size:=by
    rw [g4]
    exact Nat.lt_of_lt_of_le q (Nat.mul_le_mul_right sz g5)
   unfold Sort.putCells
   rw [Array.getElem?_mapIdx,Array.getElem?_eq_getElem hD]
   simp only [Option.map_some,Nat.zero_le,true_and,Nat.zero_add,bg,q,if_true,Nat.sub_zero]
   congr 1
   show id ((flatK enc sz u)[i*sz+j]!)=_
   rw [get_flatK _ _ _ _ (by rw [R]; exact q)]
   have e1:(i*sz+j) / sz=i:=by rw [Nat.mul_comm,Nat.mul_add_div V,Nat.div_eq_of_lt hj,Nat.add_zero]
   have e2:(i*sz+j) % sz=j:=by rw [Nat.mul_comm,Nat.mul_add_mod,Nat.mod_eq_of_lt hj]
   rw [e1,e2]; rfl)
 have eH:Az (hp [.rows E sz (l.map eA)]) 0 (.rows E sz (r.map eA))=hp [.rows E sz (r.map eA)]:=by
  funext i
  match i with
  | 0=>rfl
  | i+1=>rfl
 rw [eH] at le s'
 have eW:sortWorldK enc sz w b 0 n u os=Sort.grow (Sort.ahead (w.setRow b (Sort.putCells id 0 (flatK enc sz u) D)) n) os:=by
  unfold sortWorldK putRowK
  rw [Akb id (Sort.ahead w n) b (flatK enc sz u) D E g3]
  rfl
 rw [eW]
 exact ⟨_,σ,ι,rfl,le,s'.growG n os,.tup _ _ rfl (fun i c v h1 _=>by cases h1)⟩
def Au2:Ren:={f:=fun x=>match x with | 6=>80 | 15=>135 | 14=>134 | 28=>200 | 29=>201 | 20=>192 | 21=>193 | 22=>194 | 23=>195 | 24=>196 | 25=>197 | 26=>198 | 27=>199 | 46=>257 | 47=>258 | 48=>259 | 49=>260 | 50=>261 | 57=>299 | n=>n,t:=fun x=>match x with | 22=>40 | 24=>75 | 25=>144 | 3=>3 | 39=>191 | 0=>0 | 53=>107 | 55=>106 | 4=>4 | 46=>250 | 45=>249 | 50=>140 | 5=>5 | 9=>9 | 66=>308 | 70=>312 | 76=>352 | 77=>353 | n=>n,g:=fun n=>n}
theorem Au3:SlLaysF0.n6 Go.Proofs.Tryz.prog Au2:=by
 constructor
 case f6=>exact Exists.intro "slices.SortFunc[[]amortcost/api.Term,amortcost/api.Term]" ⟨by kernel_rfl,by kernel_rfl⟩
 case f14=>exact Exists.intro "slices.pdqsortCmpFunc[amortcost/api.Term]" ⟨by kernel_rfl,by kernel_rfl⟩
 case f20=>exact Exists.intro "slices.insertionSortCmpFunc[amortcost/api.Term]" ⟨by kernel_rfl,by kernel_rfl⟩
 case f21=>exact Exists.intro "slices.heapSortCmpFunc[amortcost/api.Term]" ⟨by kernel_rfl,by kernel_rfl⟩
 case f22=>exact Exists.intro "slices.breakPatternsCmpFunc[amortcost/api.Term]" ⟨by kernel_rfl,by kernel_rfl⟩
 case f23=>exact Exists.intro "slices.choosePivotCmpFunc[amortcost/api.Term]" ⟨by kernel_rfl,by kernel_rfl⟩
 case f24=>exact Exists.intro "slices.reverseRangeCmpFunc[amortcost/api.Term]" ⟨by kernel_rfl,by kernel_rfl⟩
 case f25=>exact Exists.intro "slices.partialInsertionSortCmpFunc[amortcost/api.Term]" ⟨by kernel_rfl,by kernel_rfl⟩
 case f26=>exact Exists.intro "slices.partitionEqualCmpFunc[amortcost/api.Term]" ⟨by kernel_rfl,by kernel_rfl⟩
 case f27=>exact Exists.intro "slices.partitionCmpFunc[amortcost/api.Term]" ⟨by kernel_rfl,by kernel_rfl⟩
 case f46=>exact Exists.intro "slices.siftDownCmpFunc[amortcost/api.Term]" ⟨by kernel_rfl,by kernel_rfl⟩
 case f49=>exact Exists.intro "slices.medianAdjacentCmpFunc[amortcost/api.Term]" ⟨by kernel_rfl,by kernel_rfl⟩
 case f50=>exact Exists.intro "slices.medianCmpFunc[amortcost/api.Term]" ⟨by kernel_rfl,by kernel_rfl⟩
 case f57=>exact Exists.intro "slices.order2CmpFunc[amortcost/api.Term]" ⟨by kernel_rfl,by kernel_rfl⟩
 all_goals first | kernel_rfl | (intro w; kernel_rfl)
theorem Au4 {α:Type} {eA:α->AV} {g:Nat} {cmp:α->α->Option Int} (j:∀args w,(callFunc g args).run Go.Proofs.Tryz.prog w = .ok (.enter g args) w)
  (b:∀x y n,cmp x y=some n->Aw Go.Proofs.Tryz.prog g [eA x,eA y] (O .i64 n)) (c:∀x,∃cs,eA x = .agg cs) {f r:List α} (h:M4 cmp f=some r) (i:f≠[]) :
  Bp Go.Proofs.Tryz.prog 80 [.arr 0 f.length 0 f.length,.fn g []] [.rows 75 5 (f.map eA)] (.tup []) [.rows 75 5 (r.map eA)] :=
 Akd Au3 rfl ⟨_,Tryz.func80,by kernel_rfl,by kernel_rfl⟩ (by intro w; kernel_rfl) (by intro w; kernel_rfl) j b c h i
def Au5:Ren:={f:=fun x=>match x with | 6=>147 | 15=>135 | 14=>212 | 28=>200 | 29=>201 | 20=>264 | 21=>265 | 22=>266 | 23=>267 | 24=>268 | 25=>269 | 26=>270 | 27=>271 | 46=>300 | 47=>258 | 48=>259 | 49=>301 | 50=>302 | 57=>338 | n=>n,t:=fun x=>match x with | 22=>23 | 24=>71 | 25=>203 | 3=>3 | 39=>191 | 0=>0 | 53=>107 | 55=>106 | 4=>4 | 46=>250 | 45=>249 | 50=>140 | 5=>5 | 9=>9 | 66=>308 | 70=>312 | 76=>352 | 77=>353 | n=>n,g:=fun n=>n}
theorem Au6:SlLaysF0.n6 Go.Proofs.Tryz.prog Au5:=by
 constructor
 case f6=>exact Exists.intro "slices.SortFunc[[]amortcost/api.LinTerm,amortcost/api.LinTerm]" ⟨by kernel_rfl,by kernel_rfl⟩
 case f14=>exact Exists.intro "slices.pdqsortCmpFunc[amortcost/api.LinTerm]" ⟨by kernel_rfl,by kernel_rfl⟩
 case f20=>exact Exists.intro "slices.insertionSortCmpFunc[amortcost/api.LinTerm]" ⟨by kernel_rfl,by kernel_rfl⟩
 case f21=>exact Exists.intro "slices.heapSortCmpFunc[amortcost/api.LinTerm]" ⟨by kernel_rfl,by kernel_rfl⟩
 case f22=>exact Exists.intro "slices.breakPatternsCmpFunc[amortcost/api.LinTerm]" ⟨by kernel_rfl,by kernel_rfl⟩
 case f23=>exact Exists.intro "slices.choosePivotCmpFunc[amortcost/api.LinTerm]" ⟨by kernel_rfl,by kernel_rfl⟩
 case f24=>exact Exists.intro "slices.reverseRangeCmpFunc[amortcost/api.LinTerm]" ⟨by kernel_rfl,by kernel_rfl⟩
 case f25=>exact Exists.intro "slices.partialInsertionSortCmpFunc[amortcost/api.LinTerm]" ⟨by kernel_rfl,by kernel_rfl⟩
 case f26=>exact Exists.intro "slices.partitionEqualCmpFunc[amortcost/api.LinTerm]" ⟨by kernel_rfl,by kernel_rfl⟩
 case f27=>exact Exists.intro "slices.partitionCmpFunc[amortcost/api.LinTerm]" ⟨by kernel_rfl,by kernel_rfl⟩
 case f46=>exact Exists.intro "slices.siftDownCmpFunc[amortcost/api.LinTerm]" ⟨by kernel_rfl,by kernel_rfl⟩
 case f49=>exact Exists.intro "slices.medianAdjacentCmpFunc[amortcost/api.LinTerm]" ⟨by kernel_rfl,by kernel_rfl⟩
 case f50=>exact Exists.intro "slices.medianCmpFunc[amortcost/api.LinTerm]" ⟨by kernel_rfl,by kernel_rfl⟩
 case f57=>exact Exists.intro "slices.order2CmpFunc[amortcost/api.LinTerm]" ⟨by kernel_rfl,by kernel_rfl⟩
 all_goals first | kernel_rfl | (intro w; kernel_rfl)
theorem Au7 {α:Type} {eA:α->AV} {g:Nat} {cmp:α->α->Option Int} (j:∀args w,(callFunc g args).run Go.Proofs.Tryz.prog w = .ok (.enter g args) w)
  (b:∀x y n,cmp x y=some n->Aw Go.Proofs.Tryz.prog g [eA x,eA y] (O .i64 n)) (c:∀x,∃cs,eA x = .agg cs) {f r:List α} (h:M4 cmp f=some r) (i:f≠[]) :
  Bp Go.Proofs.Tryz.prog 147 [.arr 0 f.length 0 f.length,.fn g []] [.rows 71 2 (f.map eA)] (.tup []) [.rows 71 2 (r.map eA)] :=
 Akd Au6 rfl ⟨_,Tryz.func147,by kernel_rfl,by kernel_rfl⟩ (by intro w; kernel_rfl) (by intro w; kernel_rfl) j b c h i
end Go.Ab
namespace Go.Ab
open Go Go.Proofs Go.Shelf
set_option maxRecDepth 100000
set_option linter.unusedVariables false
theorem Yd {σ:Av} {ι:Bv} {H:Hp} {u v:Value} (h:Conc σ ι H (.val u) v):v=u:=by
 cases h with
 | cc h=>cases h; rfl
theorem Ael {ρ:Ren} {α:Type} {eA:α->AV} {E:TypeId} {sz f:Nat} (L:Lays8.n4 Go.Proofs.Tryz.prog ρ) (N:ρ.f 4=f) (g:Yh Go.Proofs.Tryz.prog f) (l:TypeInfo) (z:Value) (G:Go.Proofs.Tryz.prog.info? (ρ.t 25)=some l) (D:l.zero=some z) (X:ρ.t 25=E) (U:l.size=sz) (B:z.cells.size=sz) (q:0<sz) (I:l.bytes<=1000)
  {n:Int} {r:List α} (h:Mc n=some r):Bp Go.Proofs.Tryz.prog f [.val (.slice none 0 0),O .i64 n] [] (.arr 0 r.length 0 r.length) [.rows E sz (r.map eA)]:=by
 have V:r = []/\0<=n/\n<=1000000:=by
  unfold Mc at h
  by_cases h1:0<=n
  .by_cases h2:n<=1000000
   .rw [decide_eq_true h1,decide_eq_true h2] at h
    have h:some ([]:List α)=some r:=h
    cases h; exact ⟨rfl,h1,h2⟩
   .rw [decide_eq_false h2,Bool.and_false] at h; cases h
  .rw [decide_eq_false h1,Bool.false_and] at h; cases h
 obtain ⟨rfl,n0,n1⟩:=V
 obtain ⟨m,rfl⟩:∃m:Nat,n=m:=⟨n.toNat,by omega⟩
 refine ⟨g,fun σ F W w ι vs s y=>?_⟩
 obtain ⟨v,u,rfl,S,hu⟩:=Aei y
 obtain rfl:=Yd S
 obtain rfl:=Yd hu
 have M:hp [] 0 = .none:=rfl
 have R:Az (hp []) 0 (.rows E sz [])=hp [.rows E sz []]:=by
  funext i
  match i with
  | 0=>rfl
  | i+1=>rfl
 by_cases h0:m=0
 .subst h0
  have call:=Any8.slices_Grow_room L none 0 0 0 w (Nat.le_refl _) (by decide) (by decide) (by decide)
  rw [N] at call
  refine call.mono ?_
  rintro e w' ⟨rfl,rfl⟩
  obtain ⟨s',le⟩:=s.newNil 0 M E sz q
  rw [R] at s' le
  refine ⟨_,σ,_,rfl,le,s',.arr 0 0 0 0 _ (by intro e; cases e) (fun Z A xs e=>?_) rfl⟩
  cases e
  refine ⟨Nat.le_refl _,fun _=>?_⟩
  unfold Fp
  rw [Cl]
  exact ⟨rfl,rfl,rfl⟩
 .have hb:(0+m)*l.bytes<=140737488355328:=by
   have:=Nat.mul_le_mul (show 0+m<=1000000 by omega) I
   omega
  have call:=Any8.slices_Grow_grow L l z G D (by omega) none 0 0 m [] w (Nat.le_refl _) (by omega) hb (by omega) (by simp) (fun _=>rfl) (fun a h=>by cases h)
  rw [N,X] at call
  refine call.mono ?_
  rintro e w' ⟨rfl,rfl⟩
  have hge:=X7 w (0+m) 0 E
  generalize grownCap w (0+m) 0 E=cap at hge
  have b:∀k,(Builtin.zeroCells z.cells k).size=k*sz:=by intro k; simp [Builtin.zeroCells,B]
  generalize Y:(([]:List Value).toArray++Builtin.zeroCells z.cells (0+m-0)++Builtin.zeroCells z.cells (cap-(0+m)))=C
  have J:C.size=cap*sz:=by
   rw [<-Y,Array.size_append,Array.size_append,b,b]
   simp only [List.size_toArray,List.length_nil,Nat.zero_add,Nat.sub_zero,<-Nat.add_mul]
   congr 1; omega
  obtain ⟨s',le⟩:=(s.drew (w.drawn+1)).newRows 0 E sz [] cap C (.inl M) q (by simp) (by simp) J ⟨fun _ _=>.bool false,(by intro i x h; simp at h),(by intro i x j c h; simp at h),(by intro i j h; simp at h)⟩
  rw [R] at s' le
  refine ⟨_,σ,_,rfl,le,s',.arr 0 0 0 0 _ (by intro e; cases e) (fun Z A xs e=>?_) rfl⟩
  cases e
  refine ⟨Nat.le_refl _,fun _=>?_⟩
  unfold Fp
  rw [Cl]
  exact ⟨Nat.zero_le _,by simp⟩
def Au8:Ren:={f:=fun x=>match x with | 4=>149 | n=>n,t:=fun x=>match x with | 22=>23 | 25=>71 | 3=>3 | 4=>4 | 9=>9 | 20=>20 | 0=>0 | n=>n,g:=fun n=>n}
theorem Au9:Lays8.n4 Go.Proofs.Tryz.prog Au8:=by
 constructor
 case f4=>exact Exists.intro "slices.Grow[[]amortcost/api.LinTerm,amortcost/api.LinTerm]" ⟨by kernel_rfl,by kernel_rfl⟩
 all_goals first | kernel_rfl | (intro w; kernel_rfl)
theorem Ava {α:Type} {eA:α->AV} {n:Int} {r:List α} (h:Mc n=some r):Bp Go.Proofs.Tryz.prog 149 [.val (.slice none 0 0),O .i64 n] [] (.arr 0 r.length 0 r.length) [.rows 71 2 (r.map eA)] :=
 Ael Au9 rfl ⟨_,Tryz.func149,by kernel_rfl,by kernel_rfl⟩ Tryz.t71 (Tryz.t71.zero.getD .nilFunc) (by kernel_rfl) (by kernel_rfl) rfl (by kernel_rfl) (by kernel_rfl) (by decide) (of_decide_eq_true (by kernel_rfl)) h
def Avb:Ren:={f:=fun x=>match x with | 4=>280 | n=>n,t:=fun x=>match x with | 22=>51 | 25=>113 | 3=>3 | 4=>4 | 9=>9 | 20=>20 | 0=>0 | n=>n,g:=fun n=>n}
theorem Avc:Lays8.n4 Go.Proofs.Tryz.prog Avb:=by
 constructor
 case f4=>exact Exists.intro "slices.Grow[[]amortcost/api.Factor,amortcost/api.Factor]" ⟨by kernel_rfl,by kernel_rfl⟩
 all_goals first | kernel_rfl | (intro w; kernel_rfl)
theorem Avd {α:Type} {eA:α->AV} {n:Int} {r:List α} (h:Mc n=some r):Bp Go.Proofs.Tryz.prog 280 [.val (.slice none 0 0),O .i64 n] [] (.arr 0 r.length 0 r.length) [.rows 113 3 (r.map eA)] :=
 Ael Avc rfl ⟨_,Tryz.func280,by kernel_rfl,by kernel_rfl⟩ Tryz.t113 (Tryz.t113.zero.getD .nilFunc) (by kernel_rfl) (by kernel_rfl) rfl (by kernel_rfl) (by kernel_rfl) (by decide) (of_decide_eq_true (by kernel_rfl)) h
def Ave:Ren:={f:=fun x=>match x with | 4=>281 | n=>n,t:=fun x=>match x with | 22=>52 | 25=>73 | 3=>3 | 4=>4 | 9=>9 | 20=>20 | 0=>0 | n=>n,g:=fun n=>n}
theorem Avf:Lays8.n4 Go.Proofs.Tryz.prog Ave:=by
 constructor
 case f4=>exact Exists.intro "slices.Grow[[]amortcost/api.Atom,amortcost/api.Atom]" ⟨by kernel_rfl,by kernel_rfl⟩
 all_goals first | kernel_rfl | (intro w; kernel_rfl)
theorem Avg {α:Type} {eA:α->AV} {n:Int} {r:List α} (h:Mc n=some r):Bp Go.Proofs.Tryz.prog 281 [.val (.slice none 0 0),O .i64 n] [] (.arr 0 r.length 0 r.length) [.rows 73 3 (r.map eA)] :=
 Ael Avf rfl ⟨_,Tryz.func281,by kernel_rfl,by kernel_rfl⟩ Tryz.t73 (Tryz.t73.zero.getD .nilFunc) (by kernel_rfl) (by kernel_rfl) rfl (by kernel_rfl) (by kernel_rfl) (by decide) (of_decide_eq_true (by kernel_rfl)) h
end Go.Ab
