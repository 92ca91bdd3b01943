/- Contracts of strings.Builder and strconv.Itoa. -/
import Derived.Test.YtidkdnlhdbbbjaaGreatDoorAsTy
import Derived.Test.YtidkdnlhdbbbjaaGreatDoorAsHandB
import Derived.Shelf.Strconv.Itoa4
import Derived.KernelRfl
import Derived.Shelf.Sort.Plain
import Derived.Shelf.SlSortCmp.WholeK
import Derived.Shelf.Spec.SlicesGrow
namespace Go.Ab
open Go Go.Proofs Go.Shelf
set_option maxRecDepth 100000
def Ahi:Ren:={f:=fun x=>match x with | 171=>103 | 243=>166 | 246=>243 | 283=>282 | 284=>283 | 285=>284 | 286=>285 | 129=>178 | 317=>316 | 318=>317 | 319=>318 | 320=>319 | 337=>335 | 338=>336 | 173=>168 | n=>n,t:=fun x=>match x with | 3=>3 | 9=>9 | 2=>2 | 4=>4 | 171=>355 | 0=>0 | 53=>196 | 37=>163 | 5=>5 | 173=>357 | 212=>385 | 51=>141 | 20=>20 | 213=>386 | 46=>177 | 232=>413 | 233=>414 | n=>n,g:=fun x=>match x with | 17=>0 | 18=>1 | 19=>2 | n=>n}
theorem Ahj:LaysM.n171 Go.Proofs.Tryz.prog Ahi:=by
 constructor
 constructor
 all_goals first | kernel_rfl | (intro w; kernel_rfl)
theorem St.grown {σ:Aq} {F:Aq} {W w:World} (s:St σ ι0 H0 F W w) (k:Nat) (os:Array Obj):St σ ι0 H0 F W (Sort.grow (w.drewN k) os):=by
 have hk:∀(b:Nat) (o:Obj),w.heap[b]? = some o->(Sort.grow (w.drewN k) os).heap[b]? = some o:=by
  intro b o h
  have c:=(Array.getElem?_eq_some_iff.1 h).1
  show (w.heap++os)[b]? = _
  rw [Array.getElem?_append_left c]; exact h
 exact ⟨fun b o h=>hk b o (s.sto b o h),fun b o h=>⟨hk b o (s.fra b o h).1,(s.fra b o h).2⟩,fun _=>rfl,(fun _ _ _ f=>by cases f),s.os,s.tape,s.output,s.glo,Nat.le_trans s.drw (Nat.le_add_right _ _)⟩
theorem Ahk {σ:Aq} {ι:Bo} {H:Hp} {F:Aq} {W w:World} (s:St σ ι H F W w):Lib.TabIs Go.Proofs.Tryz.prog w "internal/strconv.uint64pow10" .u64 Lib.pow10Tab:=by
 obtain ⟨E,fr,e⟩:=s.glo
 have h:=s.sto _ _ e
 have g:Go.Proofs.Tryz.prog.globalNamed "internal/strconv.uint64pow10" = some 0:=Ahj.m17
 unfold Lib.TabIs World.var?
 rw [g]
 simp only [Option.bind_some,h]
theorem Ur {σ:Aq} {ι:Bo} {H:Hp} {x:AV} {vs:Array Value} (h:J9 σ ι H [x] vs):∃v,vs = #[v]/\Conc σ ι H x v:=by
 obtain ⟨h1,h2⟩:=h
 have h1:vs.size=1:=h1
 refine ⟨vs[0],?_,h2 0 x _ rfl (by simp [h1])⟩
 apply Array.ext
 .simp [h1]
 .intro i c b
  have:i=0:=by omega
  subst this; rfl
theorem Aq9 {a0:Int} {r:ByteArray} (h:Lr a0=some r):Aw Go.Proofs.Tryz.prog 103 [O .i64 a0] (Ep r):=by
 unfold Lr at h
 split at h
 .rename_i hc
  cases h
  refine ⟨⟨_,Tryz.func103,by kernel_rfl,by kernel_rfl⟩,fun σ F W w vs s b=>?_⟩
  obtain ⟨v,rfl,c⟩:=Ur b
  have c:=c.val_inv
  subst c
  have:=Any.strconv_Itoa Ahj a0 hc.1 hc.2 w (Ahk s)
  refine this.mono ?_
  rintro e w' ⟨rfl,k,os,rfl⟩
  exact ⟨_,σ,rfl,Aq.le_refl σ,s.grown k os,.of_val _⟩
 .cases h
theorem Ara:LaysM.n173 Go.Proofs.Tryz.prog Ahi:=by
 constructor
 constructor
 all_goals first | kernel_rfl | (intro w; kernel_rfl)
theorem Acb {σ:Aq} {ι:Bo} {H:Hp} {x y:AV} {vs:Array Value} (h:J9 σ ι H [x,y] vs):∃v u,vs = #[v,u]/\Conc σ ι H x v/\Conc σ ι H y u:=by
 obtain ⟨h1,h2⟩:=h
 have h1:vs.size=2:=h1
 refine ⟨vs[0],vs[1],?_,h2 0 x _ rfl (by simp [h1]),h2 1 y _ rfl (by simp [h1])⟩
 apply Array.ext
 .simp [h1]
 .intro i c b
  rcases (by omega:i=0\/i=1) with h | h
  .subst h; rfl
  .subst h; rfl
theorem Arb {a0 a1:Int} {r:ByteArray} (h:W3 a0 a1=some r):Aw Go.Proofs.Tryz.prog 168 [O .i64 a0,O .i64 a1] (Ep r):=by
 unfold W3 at h
 cases hb:a1==10 with
 | false=>rw [hb] at h; cases h
 | true=>
  rw [hb] at h
  have hb:=eq_of_beq hb
  subst hb
  have h:Lr a0=some r:=h
  unfold Lr at h
  split at h
  .rename_i hc
   cases h
   refine ⟨⟨_,Tryz.func168,by kernel_rfl,by kernel_rfl⟩,fun σ F W w vs s b=>?_⟩
   obtain ⟨v,u,rfl,c,hu⟩:=Acb b
   have c:=c.val_inv
   have hu:=hu.val_inv
   subst c; subst hu
   have:=Any.strconv_FormatInt_10 Ara a0 hc.1 hc.2 w (Ahk s)
   refine this.mono ?_
   rintro e w' ⟨rfl,k,os,rfl⟩
   exact ⟨_,σ,rfl,Aq.le_refl σ,s.grown k os,.of_val _⟩
  .cases h
theorem Yb (o:Be) (os:List Be):hp (o::os) 0=o:=rfl
theorem Arc (x:AV) (rest:List Be):Br Go.Proofs.Tryz.prog 164 [.loc 0 0] (.cells 165 [.loc 0 0,x]::rest) (.tup []) (.cells 165 [.loc 0 0,x]::rest):=by
 refine ⟨⟨_,Tryz.func164,by kernel_rfl,by kernel_rfl⟩,fun σ F W w ι vs s f=>?_⟩
 obtain ⟨v,rfl,k⟩:=Ur f
 obtain ⟨b,hb,k⟩:=k.loc_inv
 subst k
 have l:=s.obj 0
 unfold B9 at l
 rw [Yb] at l
 obtain ⟨A,C,y,_,_,h3,u,z⟩:=l
 rw [hb] at y; cases y
 have u:C.size=2:=u
 have g:C[0]? = some C[0]:=by simp [u]
 have q:=z 0 (.loc 0 0) C[0] rfl g
 obtain ⟨b2,h,j⟩:=q.loc_inv
 rw [hb] at h; cases h
 have cell:w.cell? ⟨b,0,none⟩=some (.pointer (some ⟨b,0,none⟩)):=by
  rw [Hv h3,g,j]
 refine (Tryz.check_used b w cell).mono ?_
 rintro e w' ⟨rfl,rfl⟩
 exact ⟨_,σ,ι,rfl,Le.refl _ _ _,s,.tup _ _ rfl (fun i c v h1 _=>by cases h1)⟩
theorem Ard (x:AV) (rest:List Be):Br Go.Proofs.Tryz.prog 164 [.loc 0 0] (.cells 165 [.val (.pointer none),x]::rest) (.tup []) (.cells 165 [.loc 0 0,x]::rest):=by
 refine ⟨⟨_,Tryz.func164,by kernel_rfl,by kernel_rfl⟩,fun σ F W w ι vs s j=>?_⟩
 obtain ⟨v,rfl,q⟩:=Ur j
 obtain ⟨b,hb,q⟩:=q.loc_inv
 subst q
 have u:=s.obj 0
 unfold B9 at u
 rw [Yb] at u
 obtain ⟨G,C,A,_,_,h3,g,z⟩:=u
 rw [hb] at A; cases A
 have g:C.size=2:=g
 have k:C[0]? = some C[0]:=by simp [g]
 have l:=(z 0 (.val (.pointer none)) C[0] rfl k).val_inv
 have cell:w.cell? ⟨b,0,none⟩=some (.pointer none):=by
  rw [Hv h3,k,l]
 refine (Tryz.check_fresh b w cell (by simp [World.shape?,h3,g]) (by simp [World.frozen?,h3])).mono ?_
 rintro e w' ⟨rfl,rfl⟩
 obtain ⟨s',le⟩:=s.setBox 0 165 [.val (.pointer none),x] [.loc 0 0,x] rfl b hb #[.pointer (some ⟨b,0,none⟩),C[1]] rfl (by
  intro i c v h1 h2
  match i with
  | 0=>simp at h1 h2; subst h1; subst h2; exact .loc 0 0 b hb
  | 1=>simp at h1 h2; subst h1; subst h2; exact z 1 x _ rfl (by simp [g])
  | i+2=>simp at h1)
 have D:Ay (hp (.cells 165 [.val (.pointer none),x]::rest)) 0 (.cells 165 [.loc 0 0,x])=hp (.cells 165 [.loc 0 0,x]::rest):=by
  funext i
  cases i with
  | zero=>rfl
  | succ i=>rfl
 have B:w.setCell ⟨b,0,none⟩ (.pointer (some ⟨b,0,none⟩))=w.setRow b #[.pointer (some ⟨b,0,none⟩),C[1]]:=by
  have h:C.setIfInBounds 0 (.pointer (some ⟨b,0,none⟩)) = #[.pointer (some ⟨b,0,none⟩),C[1]]:=by
   apply Array.ext
   .simp [g]
   .intro i E y
    match i with
    | 0=>simp
    | 1=>rw [Array.getElem_setIfInBounds_ne _ (by decide)]; rfl
    | i+2=>simp at y; omega
  have f:(w.setCell ⟨b,0,none⟩ (.pointer (some ⟨b,0,none⟩))).heap=(w.setRow b #[.pointer (some ⟨b,0,none⟩),C[1]]).heap:=by
   apply Array.ext_getElem?
   intro i
   simp only [World.setCell,World.setRow,Array.getElem?_modify]
   split
   .rename_i e; subst e
    rw [h3]; simp [h]
   .rfl
  unfold World.setCell World.setRow at f ⊢
  simp only at f
  rw [f]
 rw [D] at s' le
 rw [B]
 exact ⟨_,σ,ι,rfl,le,s',.tup _ _ rfl (fun i c v h1 _=>by cases h1)⟩
theorem Are {l:List Int} (h:∀x∈l,0<=x/\x<256) {j:Nat} {x:UInt8} (hx:(Ew l)[j]? = some x):l[j]? = some (x.toNat:Int):=by
 simp only [Ew,List.getElem?_map,Option.map_eq_some_iff] at hx
 obtain ⟨y,hy,rfl⟩:=hx
 have b:=h y (List.mem_of_getElem? hy)
 rw [hy]
 congr 1
 have:y.toNat<256:=by omega
 simp only [UInt8.toNat_ofNat']
 omega
theorem St.kill {σ:Aq} {ι:Bo} {H:Hp} {F:Aq} {W w:World} (s:St σ ι H F W w) (h:Nat):St σ ι (Ay H h .dead) F W w/\Le σ ι H σ ι (Ay H h .dead):=by
 have le:Le σ ι H σ ι (Ay H h .dead):=by
  have:=Le.upd (ι:=ι) (H:=H) (Aq.le_refl σ) h (ι h) .dead ⟨fun _ e=>e,(fun _ e=>by cases e),(fun _ k j i e=>by cases e)⟩
  rwa [Gw] at this
 obtain ⟨f1,f2⟩:=s.fresh
 refine ⟨s.touch h w.heap.size (fun _ _=>rfl) (fun x e=>C3 _ _ e) le (fun _ _=>rfl) (fun _ _=>rfl) (fun o g=>by rw [f1] at g; cases g) ?_ f2 ?_ ?_ rfl rfl rfl,le⟩
 .intro x _ c f
  have:=(s.block c f).1
  omega
 .intro b c
  rw [B7] at c; cases c
 .unfold B9
  rw [B7]; trivial
theorem Arf {p:AV}:Br Go.Proofs.Tryz.prog 105 [.loc 0 0] [.cells 165 [p,.arr 1 0 0 0],.rows 5 1 []] (Ep .empty) [.cells 165 [p,.arr 1 0 0 0],.dead]:=by
 refine ⟨⟨_,Tryz.func105,by kernel_rfl,by kernel_rfl⟩,fun σ F W w ι vs s u=>?_⟩
 obtain ⟨v,rfl,I⟩:=Ur u
 obtain ⟨b,hb,I⟩:=I.loc_inv
 subst I
 have J:=s.obj 0
 unfold B9 at J
 rw [Yb] at J
 obtain ⟨b',C,Y,_,_,h3,z,h5⟩:=J
 rw [hb] at Y; cases Y
 have z:C.size=2:=z
 have hC:C = #[C[0],C[1]]:=by
  apply Array.ext
  .simp [z]
  .intro i V L
   match i with
   | 0=>rfl
   | 1=>rfl
   | i+2=>simp at L; omega
 have N:=h5 1 (.arr 1 0 0 0) C[1] rfl (by simp [z])
 have l:hp [Be.cells 165 [p,.arr 1 0 0 0],.rows 5 1 []] 1 = .rows 5 1 []:=rfl
 have c:=N.arr_inv l (by simp)
 have hor:=s.obj 1
 unfold B9 at hor
 rw [l] at hor
 obtain ⟨_,U,hor⟩:=hor
 have eH:Ay (hp [Be.cells 165 [p,.arr 1 0 0 0],.rows 5 1 []]) 1 .dead=hp [Be.cells 165 [p,.arr 1 0 0 0],.dead]:=by
  funext i
  match i with
  | 0=>rfl
  | 1=>rfl
  | i+2=>rfl
 have go:∀(a q:Option Addr) (cap:Nat) (y:Aq) (h:World),C[1] = .slice a 0 cap->h.heap[b]? = w.heap[b]?->(Builtin.unsafeSliceData_ #[163] 242 #[.slice a 0 cap]).run Go.Proofs.Tryz.prog w.drew = .ok (.pointer q) h ->
   Le σ ι (hp [Be.cells 165 [p,.arr 1 0 0 0],.rows 5 1 []]) y ι (hp [Be.cells 165 [p,.arr 1 0 0 0],.rows 5 1 []])->St y ι (hp [Be.cells 165 [p,.arr 1 0 0 0],.rows 5 1 []]) F W h ->
   Calls Go.Proofs.Tryz.prog 105 #[.pointer (some ⟨b,0,none⟩)] w fun e w'=>∃v A B,e = .returned v/\Le σ ι (hp [Be.cells 165 [p,.arr 1 0 0 0],.rows 5 1 []]) A B (hp [Be.cells 165 [p,.arr 1 0 0 0],.dead])/\St A B (hp [Be.cells 165 [p,.arr 1 0 0 0],.dead]) F W w'/\Conc A B (hp [Be.cells 165 [p,.arr 1 0 0 0],.dead]) (Ep .empty) v:=by
  intro a q cap y h f M R le E
  have x:w.heap[b]? = some (.cells #[C[0],.slice a 0 cap] 165 (0,0)):=by
   rw [h3]; congr 1; rw [<-f,<-hC]
  refine (Tryz.builder_str0 b cap C[0] a q w h x (M.trans x) R).mono ?_
  rintro e w' ⟨rfl,rfl⟩
  obtain ⟨S,k⟩:=E.kill 1
  rw [eH] at S k
  exact ⟨_,y,ι,rfl,le.trans k,S,.of_val _⟩
 rcases hor with ⟨V,_⟩ | ⟨g,j,D,Z,g1,g2,g3,g4,g5,g6⟩
 .unfold E4 at c
  rw [V] at c
  exact go none none 0 σ w.drew c.1 rfl rfl (Le.refl _ _ _) (s.drew _)
 .unfold E4 at c
  rw [Z] at c
  simp only [Nat.zero_mul,Nat.zero_add,Nat.sub_zero] at c
  obtain ⟨_,f⟩:=c
  by_cases ht:j=0
  .subst ht
   obtain ⟨E,G⟩:=(s.drew (w.drawn+1)).newFrozen (.view ⟨g,0,none⟩ 5)
   have X:=(Array.getElem?_eq_some_iff.1 h3).1
   refine go _ _ 0 _ (w.drew.alloc (.view ⟨g,0,none⟩ 5)) f ?_ (Lib.run_unsafeSliceData_zero _ _ _ 5 Go.Proofs.Tryz.underlying242 _ _ (5,D.size) (by
    have:w.drew.heap[g]? = some (.cells D 5 (0,0)):=g3
    simp [World.shape?,this])) G E
   show (w.heap.push _)[b]? = _
   rw [Array.getElem?_push,if_neg (by omega)]
  .exact go _ _ j σ w.drew f rfl (Lib.run_unsafeSliceData_row _ _ _ _ _ _ ht) (Le.refl _ _ _) (s.drew _)
theorem Ahl {p:AV} {l:List Int} {r:ByteArray} (h:S4 l=some r):Br Go.Proofs.Tryz.prog 105 [.loc 0 0] [.cells 165 [p,.arr 1 l.length 0 l.length],.rows 5 1 (List.map (O .u8) l)] (Ep r) [.cells 165 [p,.arr 1 l.length 0 l.length],.dead]:=by
 unfold S4 at h
 split at h
 .rename_i X
  cases h
  by_cases u:l = []
  .subst u; exact Arf
  refine ⟨⟨_,Tryz.func105,by kernel_rfl,by kernel_rfl⟩,fun σ F W w ι vs s J=>?_⟩
  obtain ⟨v,rfl,N⟩:=Ur J
  obtain ⟨b,hb,N⟩:=N.loc_inv
  subst N
  have y:=s.obj 0
  unfold B9 at y
  rw [Yb] at y
  obtain ⟨b',C,e1,_,_,h3,M,h5⟩:=y
  rw [hb] at e1; cases e1
  have M:C.size=2:=M
  have hC:C = #[C[0],C[1]]:=by
   apply Array.ext
   .simp [M]
   .intro i hi S
    match i with
    | 0=>rfl
    | 1=>rfl
    | i+2=>simp at S; omega
  have V:=h5 1 (.arr 1 l.length 0 l.length) C[1] rfl (by simp [M])
  have I:hp [Be.cells 165 [p,.arr 1 l.length 0 l.length],.rows 5 1 (List.map (O .u8) l)] 1 = .rows 5 1 (List.map (O .u8) l):=rfl
  have k:=V.arr_inv I (by simp)
  have hor:=s.obj 1
  unfold B9 at hor
  rw [I] at hor
  obtain ⟨_,G,hor⟩:=hor
  rw [List.length_map] at G
  rcases hor with ⟨_,E⟩ | ⟨g,q,D,hg,g1,g2,g3,g4,g5,g6⟩
  .exact (u (by simpa using E)).elim
  .rw [List.length_map] at g5
   unfold E4 at k
   rw [hg] at k
   simp only [Nat.zero_mul,Nat.zero_add,Nat.sub_zero] at k
   obtain ⟨ht,B⟩:=k
   have c:(Ew l).length=l.length:=by simp [Ew]
   have f:∀(j:Nat) (x:UInt8),(Ew l)[j]? = some x->D[j]? = some (Value.int .u8 x.toNat):=by
    intro j x hx
    have hj:=Are X hx
    obtain ⟨gg,q1,q2,q3⟩:=g6
    have A:(List.map (O .u8) l)[j]? = some (O .u8 x.toNat):=by rw [List.getElem?_map,hj]; rfl
    have R:j<(List.map (O .u8) l).length:=(List.getElem?_eq_some_iff.1 A).1
    have q4:=q3 j 0 R (by omega)
    have q5:=(q2 j _ 0 _ A rfl).1
    have:gg j 0=Value.int .u8 x.toNat:=by
     generalize gg j 0=z at q5
     cases q5; rfl
    rw [this] at q4
    simpa using q4
   have Z:w.heap[b]? = some (.cells #[C[0],.slice (some ⟨g,0,none⟩) (Ew l).length q] 165 (0,0)):=by
    rw [h3]; congr 1; rw [c]
    have:C[1] = .slice (some ⟨g,0,none⟩) l.length q:=B
    rw [<-this,<-hC]
   have a1:l.length<=D.size:=by rw [g4]; omega
   have call:=Tryz.builder_str b g q C[0] D (Ew l) w (by intro e; apply u; rw [<-List.length_eq_zero_iff,<-c,e]; rfl) Z g3 (by rw [c]; exact g5) (by rw [c]; exact a1) (by rw [c]; omega) f
   refine call.mono ?_
   rintro e w' ⟨rfl,rfl⟩
   have le:Le σ ι (hp [Be.cells 165 [p,.arr 1 l.length 0 l.length],.rows 5 1 (List.map (O .u8) l)]) σ ι (Ay (hp [Be.cells 165 [p,.arr 1 l.length 0 l.length],.rows 5 1 (List.map (O .u8) l)]) 1 .dead):=by
    have:=Le.upd (ι:=ι) (H:=hp [Be.cells 165 [p,.arr 1 l.length 0 l.length],.rows 5 1 (List.map (O .u8) l)]) (Aq.le_refl σ) 1 (ι 1) .dead ⟨fun _ e=>e,(fun _ e=>by cases e),(fun _ E1 a7 a6 e=>by cases e)⟩
    rwa [Gw] at this
   have eH:Ay (hp [Be.cells 165 [p,.arr 1 l.length 0 l.length],.rows 5 1 (List.map (O .u8) l)]) 1 .dead=hp [Be.cells 165 [p,.arr 1 l.length 0 l.length],.dead]:=by
    funext i
    match i with
    | 0=>rfl
    | 1=>rfl
    | i+2=>rfl
   have s2:St σ ι (Ay (hp [Be.cells 165 [p,.arr 1 l.length 0 l.length],.rows 5 1 (List.map (O .u8) l)]) 1 .dead) F W (w.drew.freeze ⟨g,0,none⟩ (Ew l).length):=by
    have U:∀b,b≠g->(w.drew.freeze ⟨g,0,none⟩ (Ew l).length).heap[b]? = w.heap[b]?:=by
     intro b hb
     unfold World.freeze
     split
     .rfl
     .simp only [Array.getElem?_modify]
      rw [if_neg (Ne.symm hb)]; rfl
    refine s.touch (hdrw:=by unfold World.freeze; split <;> exact Nat.le_succ _) 1 g (fun _ _=>rfl) (fun x e=>C3 _ _ e) le U (fun _ _=>rfl) (fun o y=>by rw [g1] at y; cases y) ?_ g2 ?_ ?_ ?_ ?_ ?_
    .intro x hx L Y
     exact hx (s.inj x 1 g L rfl Y (by rw [hg]; rfl))
    .intro b0 L
     rw [B7] at L; cases L
    .unfold B9
     rw [B7]; trivial
    .unfold World.freeze; split <;> rfl
    .unfold World.freeze; split <;> rfl
    .unfold World.freeze; split <;> rfl
   rw [eH] at le s2
   exact ⟨_,σ,ι,rfl,le,s2,.of_val _⟩
 .cases h
end Go.Ab
namespace Go.Ab
open Go Go.Proofs
set_option linter.unusedVariables false
class OK {α:Type} (o:Option α) (G:outParam (α->Prop)):Prop where
 ok:∀{r:α},o=some r->G r
theorem okz {α:Type} {G:α->Prop}:OK (none:Option α) G:=⟨fun h=>by cases h⟩
section
variable {P:Program} {C:Cfg} {Qn:Nat->Bi->Hp->Prop} {Qe:Nat->Nat->Bi->Hp->Prop} {Qr:Nat->Bi->Hp->Prop} {n:Nat} {e:Bi} {H:Hp} {β:Type} {r:β}
variable {T:Ch} {an:Nat->Ann} {nl:Nat->List (Nat×Nat)} {ops:Array Oper} {o:Oper} {os:List Oper} {acc:Gm} {K:Nat->Bi->Hp->Gm->Prop}
theorem Fz {p:Nat×Bool} {s:Nat} {b:Bool} {m m':Option β} (h:(bif b then m else m')=some r) (h1:b=true->m=some r->D8 (D2 P T an nl ops (o::os) n (Ay e s (.val (.bool true))) H acc K))
  (h2:b=false->m'=some r->D8 (D2 P T an nl ops (o::os) n (Ay e s (.val (.bool false))) H acc K)) (hg:o.guard=some p:=by exact rfl) (hs:(ops[p.1]?).bind (·.dst)=some s:=by exact rfl) (hb:e s = .val (.bool b):=by exact rfl):D8 (D2 P T an nl ops (o::os) n e H acc K):=Aql h h1 h2 hb
theorem nw {c:Code} (k:wc P C c Qn Qe Qr n e H):D8 (wc P C c Qn Qe Qr n e H):=.mk k
theorem Cv {S E:Type} {o:S⊕E} {J:E->Option β} {x:E} (h:some (Sum.inr x)=some o) (hx:∀x,Sum.inr x=o->J x=some r:=by assumption):J x=some r:=hx x (Option.some.inj h)
theorem lpj {S:Type} {o:S} {J:S->Option β} {x:S} (h:some x=some o) (hx:∀y,y=o->J y=some r:=by assumption):J x=some r:=hx x (Option.some.inj h)
theorem lpn {S E:Type} {o:S⊕E} {s':S} {K:Nat->Bi->Hp->Prop} {iv:S->List (Nat×AV)} {hv:S->List (Nat×Be)} {inv:S->Prop} {n0:Nat} {H0:Hp} (h:some (Sum.inl s')=some o) (hn:∀s' n' e' H',Sum.inl s'=o->Fv e' (iv s')->Fw H' (B6 H0 (hv s')) n0 n0->inv s'->K n' e' H':=by assumption)
  (hs:Fv e (iv s'):=by (repeat refine ⟨rfl,?_⟩); exact trivial) (hh:Fw H (B6 H0 (hv s')) n0 n0:=by (repeat refine ⟨⟨rfl,rfl⟩,?_⟩); exact trivial) (hi:inv s':=by first | trivial | exact rfl | ((repeat refine Gn ?_ _ _); first | exact rfl | assumption)):K n e H:=hn s' n e H (Option.some.inj h) hs hh hi
theorem jnn {S E:Type} {o x:E} {s:S} {J:S->Prop} {K:Nat->Bi->Hp->Prop} {iv:S->List (Nat×AV)} {hv:S->List (Nat×Be)} {n0:Nat} {H0:Hp} (h:some x=some o) (hn:∀s n' e' H',J s->Fv e' (iv s)->Fw H' (B6 H0 (hv s)) n0 n0->K n' e' H':=by assumption) (hJ:J s:=by exact Option.some.inj h)
  (hs:Fv e (iv s):=by (repeat refine ⟨rfl,?_⟩); exact trivial) (hh:Fw H (B6 H0 (hv s)) n0 n0:=by (repeat refine ⟨⟨rfl,rfl⟩,?_⟩); exact trivial):K n e H:=hn s n e H hJ hs hh
theorem Bk {α:Type} {o:Option α} {m:α->Option β} {f:FuncId} {args:List AV} {G:α->Prop} {ra:α->AV} {K:Eff->Nat->Prop} (h:o.bind m=some r) [i:OK o G] (k:∀v,m v=some r->K ⟨ra v,[],[]⟩ n) (hG:∀v,G v->Aw P f args (ra v):=by exact fun _ h=>h) (hf:args.all AV.free=true:=by exact rfl):E6 P n H f args K :=
 Da h fun v hv h=>E6.mk _ (hG v (i.ok hv)) hf (k v h)
theorem Ahm {α:Type} {o:Option α} {m:α->Option β} {f:FuncId} {args args':List AV} {G:α->Prop} {ra:α->AV} {K:Eff->Nat->Prop} (h:o.bind m=some r) [i:OK o G] (k:∀v,m v=some r->K ⟨ra v,[],[]⟩ n) (hG:∀v,G v->Aw P f args' (ra v):=by exact fun _ h=>h) (hs:Mu args args':=by (repeat first | refine ⟨Sub.refl _,?_⟩ | refine ⟨Sub.nil _,?_⟩); exact trivial) (hf:args.all AV.free=true:=by exact rfl):E6 P n H f args K :=
 Da h fun v hv h=>E6.mk _ (Aw.sub (hG v (i.ok hv)) hs (Sub.refl _)) hf (k v h)
theorem A7 {α:Type} {o:Option α} {m:α->Option β} {f:FuncId} {args largs:List AV} {G:α->Prop} {ra:α->AV} {hs:List Be} {hs':α->List Be} {K:Eff->Nat->Prop} (l:List Nat) (h:o.bind m=some r) [i:OK o G] (k:∀v,m v=some r->K ⟨ren (Dk n l) (ra v),wrs (Dk n l) 0 hs++Bv (Dk n l) l.length ((hs' v).length-l.length),wrs (Dk n l) 0 (hs' v)⟩ (n+((hs' v).length-l.length)))
  (hG:∀v,G v->Br P f largs hs (ra v) (hs' v):=by exact fun _ h=>h) (ha:largs.map (ren (Dk n l))=args:=by exact rfl) (ok:∀v,P5 n l largs hs (ra v) (hs' v)=true:=by exact fun _=>rfl) (hh:N0 H (wrs (Dk n l) 0 hs):=by (repeat refine ⟨rfl,?_⟩); exact trivial):E6 P n H f args K :=
 Da h fun v hv h=>E6.act l largs hs (ra v) (hs' v) (hG v (i.ok hv)) ha (ok v) hh (k v h)
theorem Ck {α:Type} {l:List α} {f:α->AV} {ys:List AV} {i:Int} {m:α->Option β} {K:Nat->AV->Prop} (h:(Ag l i).bind m=some r) (k:∀(n:Nat) (x:α),i=n->l[n]? = some x->m x=some r->K n (f x)) (he:ys=l.map f:=by first | exact rfl | exact Is _ | exact Kn _ | exact Km _):Ss ys i K:=Aqn he h k
theorem G1 {α:Type} {l:List α} {f:α->AV} {ys:List AV} {i:Int} {m:α->Option β} {K:Nat->Prop} {len kk:Nat} (h:(Ag l i).bind m=some r) (k:∀(n:Nat) (x:α),i=n->l[n]? = some x->m x=some r->K n) (he:ys=l.map f:=by first | exact rfl | exact Is _ | exact Kn _ | exact Km _) (hl:len=l.length:=by first | exact rfl | assumption | exact H5 (by assumption) | ((repeat refine Gn ?_ _ _); first | exact rfl | assumption)) (hk:kk=l.length:=by first | exact rfl | assumption | exact H5 (by assumption) | ((repeat refine Gn ?_ _ _); first | exact rfl | assumption)):N1 len kk ys i K:=Aqo he hl hk h k
theorem Ro {α:Type} {l:List α} {f:α->AV} {ys:List AV} {i:Int} {m:α->Option β} {K:Nat->Prop} {off len kk:Nat} (h:(H4 l off len i).bind m=some r) (k:∀(n:Nat) (x:α),i=n->l[off+n]? = some x->m x=some r->K n) (he:ys=l.map f:=by first | exact rfl | exact Is _ | exact Kn _ | exact Km _) (hk:kk=l.length:=by first | exact rfl | assumption | exact H5 (by assumption) | ((repeat refine Gn ?_ _ _); first | exact rfl | assumption)):N1 len kk ys i K:=Aqp he hk h k
theorem Nf {α:Type} {l:List α} {f:α->AV} {ys:List AV} {K:Int->Prop} (k:K (l.length:Int)) (he:ys=l.map f:=by first | exact rfl | exact Is _ | exact Kn _ | exact Km _):Ka ys K:=Aqx he k
theorem Ng {α:Type} {l:List α} {f:α->AV} {ys:List AV} {kk:Nat} {K:Prop} (k:K) (he:ys=l.map f:=by first | exact rfl | exact Is _ | exact Kn _ | exact Km _) (hk:kk=l.length:=by first | exact rfl | assumption | exact H5 (by assumption) | ((repeat refine Gn ?_ _ _); first | exact rfl | assumption)):Fm kk ys K:=Aqy he hk k
theorem Nh {K:Prop} (k:K):Fm 0 [] K:=.mk rfl k
theorem Ni {α:Type} {l:List α} {f:α->AV} {ys:List AV} {n i kk:Nat} {x:α} {K:AV->Prop} (k:K (f x)) (he:ys=l.map f:=by first | exact rfl | exact Is _ | exact Kn _ | exact Km _) (hk:kk=l.length:=by first | exact rfl | assumption | exact H5 (by assumption) | ((repeat refine Gn ?_ _ _); first | exact rfl | assumption)) (hi:i=n/\l[n]? = some x:=by first | exact ⟨Nat.zero_add _,by assumption⟩ | exact ⟨rfl,by assumption⟩):Jq kk i ys K:=Aqr he hk hi.1 hi.2 k
theorem Ahn {α:Type} {l:List α} {f:α->AV} {ys:List AV} {n i:Nat} {j:Int} {x:α} {p:AV} {K:List AV->Prop} (k:K ((Cg l j x).map f)) (he:ys=l.map f:=by first | exact rfl | exact Is _ | exact Kn _ | exact Km _) (hp:p=f x:=by exact rfl) (hi:i=n/\j=(n:Int):=by first | exact ⟨Nat.zero_add _,by assumption⟩ | exact ⟨rfl,by assumption⟩ | exact ⟨rfl,Aqm _ (by assumption)⟩):Su ys i p K:=Lt he hp hi.1 hi.2 k
theorem Nj {α:Type} {l ys:List α} {f:α->AV} {xs zs:List AV} {b kk len:Nat} {m:List α->Option β} {K:List AV->Nat->Prop} {KP:List AV->Nat->Nat->Prop} (h:(Cf b l ys).bind m=some r) (k:∀o:List α,m o=some r->K (o.map f) o.length) (he:xs=l.map f/\zs=ys.map f:=by first | exact ⟨rfl,rfl⟩ | (refine ⟨?_,?_⟩; rotate_left; exact rfl; exact rfl)) (hk:kk=l.length:=by first | exact rfl | assumption | exact H5 (by assumption) | ((repeat refine Gn ?_ _ _); first | exact rfl | assumption)) (hl:len=l.length:=by first | exact rfl | assumption | exact H5 (by assumption) | ((repeat refine Gn ?_ _ _); first | exact rfl | assumption)):K2 xs zs kk len b K KP:=Abh he.1 he.2 hk hl h k
theorem Aho {l:List Int} {s:ByteArray} {xs:List AV} {b kk len:Nat} {m:List Int->Option β} {K:List AV->Nat->Prop} {KP:List AV->Nat->Nat->Prop} (h:(Cf b l (Kf s)).bind m=some r) (k:∀o:List Int,m o=some r->K (o.map fun n=>.val (.int .u8 n)) o.length) (he:xs=l.map fun n=>.val (.int .u8 n):=by exact rfl) (hk:kk=l.length:=by first | exact rfl | assumption | exact H5 (by assumption) | ((repeat refine Gn ?_ _ _); first | exact rfl | assumption)) (hl:len=l.length:=by first | exact rfl | assumption | exact H5 (by assumption) | ((repeat refine Gn ?_ _ _); first | exact rfl | assumption)):K2 xs (G8 s) kk len b K KP:=Aqt he hk hl h k
class GL {α:Type} (g:List α->List AV) (f:outParam (α->AV)):Prop where
 eq:∀l,g l=l.map f
instance:GL Bn Fd:=⟨Is⟩
instance:GL It Hq:=⟨Kn⟩
instance:GL Rj X1:=⟨Km⟩
theorem Ahp {α:Type} {g:List α->List AV} {f:α->AV} [i:GL g f] {l ys:List α} {zs:List AV} {b kk len:Nat} {m:List α->Option β} {K:List AV->Nat->Prop} {KP:List AV->Nat->Nat->Prop} (h:(Cf b l ys).bind m=some r) (k:∀o:List α,m o=some r->K (g o) o.length) (hz:zs=ys.map f:=by first | exact rfl | exact GL.eq _) (hk:kk=l.length:=by first | exact rfl | assumption | exact H5 (by assumption) | ((repeat refine Gn ?_ _ _); first | exact rfl | assumption)) (hl:len=l.length:=by first | exact rfl | assumption | exact H5 (by assumption) | ((repeat refine Gn ?_ _ _); first | exact rfl | assumption)):K2 (g l) zs kk len b K KP:=Aqu i.eq (i.eq l) hz hk hl h k
theorem Ahq {α:Type} {ys:List α} {f:α->AV} {zs:List AV} {b:Nat} {m:List α->Option β} {K:List AV->Nat->Prop} (h:(Cf b [] ys).bind m=some r) (k:∀o:List α,m o=some r->K (o.map f) o.length) (hz:zs=ys.map f:=by exact rfl):N3 zs b K:=Agv hz h k
theorem Ahr {α:Type} {g:List α->List AV} {f:α->AV} [i:GL g f] {ys:List α} {zs:List AV} {b:Nat} {m:List α->Option β} {K:List AV->Nat->Prop} (h:(Cf b [] ys).bind m=some r) (k:∀o:List α,m o=some r->K (g o) o.length) (hz:zs=g ys:=by exact rfl):N3 zs b K:=Aqv i.eq (hz.trans (i.eq ys)) h k
theorem Gi {α:Type} {z:α} {f:α->AV} {za:AV} {len cap:Int} {b:Nat} {m:List α->Option β} {K:Nat->List AV->Prop} (h:(Eh b len cap z).bind m=some r) (k:∀o:List α,m o=some r->K o.length (o.map f)) (hz:za=f z:=by first | exact (rfl:_=O _ _) | exact (rfl:_=Av _) | exact rfl):P6 len cap b za K:=Aqw hz h k
theorem Pc {α:Type} {l:List α} {f:α->AV} {ys:List AV} {lo hi:Int} {m:List α->Option β} {K:List AV->Prop} (h:(F8 l lo hi).bind m=some r) (k:∀l':List α,m l'=some r->K (l'.map f)) (he:ys=l.map f:=by first | exact rfl | exact Is _ | exact Kn _ | exact Km _):N2 ys lo hi K:=Agu he h k
theorem Ahs {α:Type} {l:List α} {f:α->AV} {ys:List AV} {lo:Int} {m:List α->Option β} {K:List AV->Prop} (h:(F8 l lo l.length).bind m=some r) (k:∀l':List α,m l'=some r->K (l'.map f)) (he:ys=l.map f:=by first | exact rfl | exact Is _ | exact Kn _ | exact Km _):N2 ys lo ys.length K:=Aqs he h k
theorem Ej {S E:Type} {step:S->Option (S⊕E)} {s0:S} {J:E->Option β} {b:Code} (h:(Al step s0).bind J=some r) (iv:S->List (Nat×AV)) (hv:S->List (Nat×Be)) (inv:S->Prop)
  (body:∀(s:S) (u:Nat->Value) (K:Nat->Bi->Hp->Prop) (o:S⊕E),step s=some o->(∀x,.inr x=o->J x=some r)->(∀s' n' e' H',.inl s'=o->Fv e' (iv s')->Fw H' (B6 H (hv s')) n n->inv s'->K n' e' H')->inv s ->
   wc P C b K Qe Qr n (Ik (Ec b) e u (iv s)) (B6 H (hv s)))
  (hb:∀s,Jc n (iv s) (hv s)=true:=by exact fun _=>rfl) (hs:Fv e (iv s0):=by (repeat refine ⟨rfl,?_⟩); exact trivial) (hh:Fw H (B6 H (hv s0)) n n:=by (repeat refine ⟨⟨rfl,rfl⟩,?_⟩); exact trivial) (h0:inv s0:=by first | exact rfl | assumption | exact H5 (by assumption) | ((repeat refine Gn ?_ _ _); first | exact rfl | assumption)):wc P C (.loop b) Qn Qe Qr n e H:=Ag3 h iv hv inv hb hs hh h0 body
theorem Bb {S E:Type} {step:S->Option (S⊕E)} {s0:S} {J:E->Option β} {b:Code} (h:(Al step s0).bind J=some r) (iv:S->List (Nat×AV)) (hv:S->List (Nat×Be))
  (body:∀(s:S) (u:Nat->Value) (K:Nat->Bi->Hp->Prop) (o:S⊕E),step s=some o->(∀x,.inr x=o->J x=some r)->(∀s' n' e' H',.inl s'=o->Fv e' (iv s')->Fw H' (B6 H (hv s')) n n->True->K n' e' H') ->
   wc P C b K Qe Qr n (Ik (Ec b) e u (iv s)) (B6 H (hv s)))
  (hb:∀s,Jc n (iv s) (hv s)=true:=by exact fun _=>rfl) (hs:Fv e (iv s0):=by (repeat refine ⟨rfl,?_⟩); exact trivial) (hh:Fw H (B6 H (hv s0)) n n:=by (repeat refine ⟨⟨rfl,rfl⟩,?_⟩); exact trivial):wc P C (.loop b) Qn Qe Qr n e H:=Ag3 h iv hv (fun _=>True) hb hs hh trivial fun s u K o h1 h2 h3 _=>body s u K o h1 h2 h3
theorem Acd {S S':Type} {c:Code} {o:Option S'} {m:S'->Option β} (inj:S->S') (h:o.bind m=some r) (iv:S->List (Nat×AV)) (hv:S->List (Nat×Be))
  (k1:∀x,o=some x->∀(K:Nat->Bi->Hp->Prop),(∀s n' e' H',inj s=x->Fv e' (iv s)->Fw H' (B6 H (hv s)) n n->K n' e' H')->(∀y,y=x->m y=some r)->wc P C c K Qe Qr n e H)
  (k2:∀(s:S) (u:Nat->Value),m (inj s)=some r->Qn n (Ik (Ec c) e u (iv s)) (B6 H (hv s))) (hb:∀s,Jc n (iv s) (hv s)=true:=by exact fun _=>rfl):wc P C c Qn Qe Qr n e H :=
 Agr h fun x hx hj=>Qj (fun s=>inj s=x) iv hv hb (fun K hK=>k1 x hx K hK hj) fun s u hs=>k2 s u (hj _ hs)
theorem Cd {S:Type} {c:Code} {o:Option S} {m:S->Option β} (h:o.bind m=some r) (iv:S->List (Nat×AV)) (hv:S->List (Nat×Be))
  (k1:∀x,o=some x->∀(K:Nat->Bi->Hp->Prop),(∀s n' e' H',s=x->Fv e' (iv s)->Fw H' (B6 H (hv s)) n n->K n' e' H')->(∀y,y=x->m y=some r)->wc P C c K Qe Qr n e H)
  (k2:∀(s:S) (u:Nat->Value),m s=some r->Qn n (Ik (Ec c) e u (iv s)) (B6 H (hv s))) (hb:∀s,Jc n (iv s) (hv s)=true:=by exact fun _=>rfl):wc P C c Qn Qe Qr n e H:=Acd (fun s=>s) h iv hv k1 k2 hb
abbrev C0:Cfg:={T:=Cb,an:=fun _=>.ask}
theorem pw {f:FuncId} {fn:Func} {c:Code} {args:List AV} {r:AV} (C:Cfg) (hf:Go.Proofs.Tryz.prog.funcs[f]? = some fn) (hv:wc Go.Proofs.Tryz.prog C c (fun _ e H=>N6 C.T fn.results.toList (· = r) e H) (fun _ _ _ _=>False) (fun _ e H=>N6 C.T fn.results.toList (· = r) e H) 0 (Qc args) H0)
   (hT:C.T=Cb:=by exact rfl) (hb:fn.body=some c:=by exact rfl) (hname:(fn.name == "runtime.NumGoroutine")=false:=by kernel_rfl) (hok:Qd fn c args.length=true:=by kernel_rfl) (hfree:r.free=true:=by exact rfl):Aw Go.Proofs.Tryz.prog f args r:=Aqz (by rw [hT]; exact Ag6) Sy hf hb hname hok hfree hv
theorem aw {f:FuncId} {fn:Func} {c:Code} {args:List AV} {r:AV} {hs hs':List Be} (C:Cfg) (fz:Bool) (hf:Go.Proofs.Tryz.prog.funcs[f]? = some fn) (hv:wc Go.Proofs.Tryz.prog C c (fun _ e H=>N9 C.T fz fn.results.toList r hs' e H) (fun _ _ _ _=>False) (fun _ e H=>N9 C.T fz fn.results.toList r hs' e H) hs.length (Qc args) (hp hs))
   (hT:C.T=Cb:=by exact rfl) (hb:fn.body=some c:=by exact rfl) (hname:(fn.name == "runtime.NumGoroutine")=false:=by kernel_rfl) (hok:Qd fn c args.length=true:=by kernel_rfl) (hok':Abc hs r hs'=true:=by exact rfl):Br Go.Proofs.Tryz.prog f args hs r hs':=Aq0 fz (by rw [hT]; exact Ag6) Sy hf hb hname hok hok' hv
end
theorem opk {P:Program} {T:Ch} {an:Nat->Ann} {nl:Nat->List (Nat×Nat)} {o:Oper} {n:Nat} {e:Bi} {H:Hp} {acc:Gm} {K:Nat->Bi->Hp->Gm->Prop} (k:opK P T an nl o n e H acc K):opK P T an nl o n e H acc K:=k
theorem cnd {t:Bool} {A B:Prop} (k:bif t then A else B):bif t then A else B:=k
structure Hd (Q:Prop):Prop where
 get:Q
theorem Z {P Q:Prop} (k:Q) (h:Hd Q->P:=by
  intro q
  repeat first
    | ((with_reducible show D8 (D2 _ _ _ _ _ (_::_) _ _ _ _ _)); (first | refine nx ?_ | refine Mw ?_ | refine Mv ?_))
    | ((with_reducible refine opk ?_); conv=>whnf
       first
      | ((with_reducible show D8 _); refine nw ?_)
      | ((with_reducible show Ge _ _ _); refine Ge.mk _ rfl ?_)
      | ((with_reducible show Ka _ _); refine Nf ?_)
      | ((with_reducible show Jq _ _ _ _); refine Ni ?_)
      | ((with_reducible show Fm _ _ _); (first | refine Ng ?_ | refine Nh ?_)))
    | ((with_reducible show D8 (D2 _ _ _ _ _ [] _ _ _ _ _)); refine Jv ?_)
    | ((with_reducible show D8 (wc _ _ _ _ _ _ _ _ _)); refine nw ?_)
    | with_reducible refine Ax ?_
    | with_reducible refine Ca ?_
    | with_reducible refine Abl ?_
    | with_reducible refine Il ?_
    | with_reducible refine Kg ?_
    | with_reducible refine F4 ?_
    | with_reducible refine Ag0 ?_
    | with_reducible refine Abn ?_
    | with_reducible refine Abm ?_
    | ((with_reducible refine cnd ?_); first | refine F2 rfl ?_ | refine Aa7 rfl ?_)
    | ((with_reducible show Ke _ _ _); refine Ke.mk (by kernel_rfl) ?_)
    | ((with_reducible show wc _ _ (.cond _ _ _) _ _ _ _ _ _); first | refine W7 ?_ | refine Qi ?_)
    | refine nw ?_
    | refine nx ?_
    | refine Jv ?_
    | refine Mw ?_
    | refine Mv ?_
    | (conv=>whnf
       first
      | ((with_reducible show D8 _); refine nw ?_)
      | ((with_reducible show Ge _ _ _); refine Ge.mk _ rfl ?_)
      | ((with_reducible show Ka _ _); refine Nf ?_)
      | ((with_reducible show Jq _ _ _ _); refine Ni ?_)
      | ((with_reducible show Fm _ _ _); (first | refine Ng ?_ | refine Nh ?_)))
  exact q.get):P:=h ⟨k⟩
theorem ZS {P Q:Prop} (k:Q) (h:Hd Q->P:=by
  intro q
  repeat first
    | ((with_reducible show D8 (D2 _ _ _ _ _ (_::_) _ _ _ _ _)); (first | refine nx ?_ | refine Mw ?_ | refine Mv ?_))
    | ((with_reducible refine opk ?_); conv=>whnf
       first
      | ((with_reducible show D8 _); refine nw ?_)
      | ((with_reducible show Ge _ _ _); refine Ge.mk _ rfl ?_)
      | ((with_reducible show Ka _ _); refine Nf ?_)
      | ((with_reducible show Jq _ _ _ _); refine Ni ?_)
      | ((with_reducible show Fm _ _ _); (first | refine Ng ?_ | refine Nh ?_)))
    | ((with_reducible show D8 (D2 _ _ _ _ _ [] _ _ _ _ _)); refine Jv ?_)
    | ((with_reducible show D8 (wc _ _ _ _ _ _ _ _ _)); refine nw ?_)
    | with_reducible refine Ax ?_
    | with_reducible refine Abl ?_
    | with_reducible refine Il ?_
    | with_reducible refine Kg ?_
    | with_reducible refine F4 ?_
    | with_reducible refine Abn ?_
    | with_reducible refine Abm ?_
    | ((with_reducible refine cnd ?_); first | refine F2 rfl ?_ | refine Aa7 rfl ?_)
    | ((with_reducible show Ke _ _ _); refine Ke.mk (by kernel_rfl) ?_)
    | ((with_reducible show wc _ _ (.cond _ _ _) _ _ _ _ _ _); first | refine W7 ?_ | refine Qi ?_)
    | refine nw ?_
    | refine nx ?_
    | refine Jv ?_
    | refine Mw ?_
    | refine Mv ?_
    | (conv=>whnf
       first
      | ((with_reducible show D8 _); refine nw ?_)
      | ((with_reducible show Ge _ _ _); refine Ge.mk _ rfl ?_)
      | ((with_reducible show Ka _ _); refine Nf ?_)
      | ((with_reducible show Jq _ _ _ _); refine Ni ?_)
      | ((with_reducible show Fm _ _ _); (first | refine Ng ?_ | refine Nh ?_)))
  exact q.get):P:=h ⟨k⟩
theorem ZO {P Q:Prop} (k:Q) (h:Hd Q->P:=by
  intro q
  repeat first
    | ((with_reducible show D8 (D2 _ _ _ _ _ (_::_) _ _ _ _ _)); (first | refine nx ?_ | refine Mw ?_ | refine Mv ?_))
    | ((with_reducible refine opk ?_); conv=>whnf
       first
      | ((with_reducible show Ge _ _ _); refine Ge.mk _ rfl ?_)
      | ((with_reducible show Ka _ _); refine Nf ?_)
      | ((with_reducible show Jq _ _ _ _); refine Ni ?_)
      | ((with_reducible show Fm _ _ _); (first | refine Ng ?_ | refine Nh ?_)))
    | ((with_reducible show D8 (D2 _ _ _ _ _ [] _ _ _ _ _)); refine Jv ?_)
    | ((with_reducible show Ke _ _ _); refine Ke.mk (by kernel_rfl) ?_)
    | refine nx ?_
    | refine Jv ?_
    | refine Mw ?_
    | refine Mv ?_
    | (conv=>whnf
       first
      | ((with_reducible show Ge _ _ _); refine Ge.mk _ rfl ?_)
      | ((with_reducible show Ka _ _); refine Nf ?_)
      | ((with_reducible show Jq _ _ _ _); refine Ni ?_)
      | ((with_reducible show Fm _ _ _); (first | refine Ng ?_ | refine Nh ?_)))
  exact q.get):P:=h ⟨k⟩
theorem Y {P:Prop} (h:P:=by
  repeat' first
    | ((with_reducible show D8 (D2 _ _ _ _ _ (_::_) _ _ _ _ _)); first | refine nx ?_ | refine Mw ?_ | refine Mv ?_ | refine Fz h (fun _ h=>?_) (fun _ h=>?_))
    | ((with_reducible refine opk ?_); conv=>whnf
       first
      | ((with_reducible show D8 _); refine nw ?_)
      | ((with_reducible show Ge _ _ _); refine Ge.mk _ rfl ?_)
      | ((with_reducible show Ka _ _); refine Nf ?_)
      | ((with_reducible show E6 _ _ _ _ _ _); (first | refine Bk h (fun _ h=>?_) | refine Ahm h (fun _ h=>?_)))
      | ((with_reducible show Ss _ _ _); refine Ck h (fun _ _ _ _ h=>?_))
      | ((with_reducible show N1 _ _ _ _ _); (first | refine G1 h (fun _ _ _ _ h=>?_) | refine Ro h (fun _ _ _ _ h=>?_)))
      | ((with_reducible show Jq _ _ _ _); refine Ni ?_)
      | ((with_reducible show Su _ _ _ _); refine Ahn ?_)
      | ((with_reducible show K2 _ _ _ _ _ _ _); (first | refine Aho h (fun _ h=>?_) | refine Nj h (fun _ h=>?_) | refine Ahp h (fun _ h=>?_)))
      | ((with_reducible show N3 _ _ _); (first | refine Ahq h (fun _ h=>?_) | refine Ahr h (fun _ h=>?_)))
      | ((with_reducible show P6 _ _ _ _ _); refine Gi h (fun _ h=>?_))
      | ((with_reducible show N2 _ _ _ _); (first | refine Ahs h (fun _ h=>?_) | refine Pc h (fun _ h=>?_)))
      | ((with_reducible show Fm _ _ _); (first | refine Ng ?_ | refine Nh ?_))
      | ((with_reducible show Wl _ _ _); refine S8 h (fun _ h=>?_))
      | ((with_reducible show Wg _ _ _ _); refine S7 h (fun _ h=>?_))
      | ((with_reducible show Wh _ _ _); refine W5 h (fun _ h=>?_))
      | ((with_reducible show Wj _ _ _ _); refine Agx h (fun _ h=>?_))
      | ((with_reducible show Wi _ _ _ _); refine Agy h (fun _ h=>?_))
      | ((with_reducible show Wk _ _ _ _); refine Abj h (fun _ _ _ _ h=>?_))
      | ((with_reducible show Wm _ _); refine F3 h (fun h=>?_))
      | ((with_reducible show Wn _ _ _ _ _); refine Ags h (fun _ h=>?_))
      | ((with_reducible show Wo _ _ _ _); refine Agt h (fun _ h=>?_)))
    | ((with_reducible show D8 (D2 _ _ _ _ _ [] _ _ _ _ _)); refine Jv ?_)
    | ((with_reducible show D8 (wc _ _ _ _ _ _ _ _ _)); refine nw ?_)
    | with_reducible refine Ax ?_
    | with_reducible refine Ca ?_
    | with_reducible refine Abl ?_
    | with_reducible refine Il ?_
    | with_reducible refine Kg ?_
    | with_reducible refine F4 ?_
    | with_reducible refine Ag0 ?_
    | with_reducible refine Abn ?_
    | with_reducible refine Abm ?_
    | ((with_reducible refine cnd ?_); first | refine F2 rfl ?_ | refine Aa7 rfl ?_)
    | ((with_reducible show wc _ _ (.cond _ _ _) _ _ _ _ _ _); first | refine Ao h (fun _ h=>?_) (fun _ h=>?_) | refine W7 ?_ | refine Qi ?_)
    | ((with_reducible show Ke _ _ _); refine Ke.mk (by kernel_rfl) ?_)
    | refine nx ?_
    | refine Jv ?_
    | refine Mw ?_
    | refine Mv ?_
    | refine Fz h (fun _ h=>?_) (fun _ h=>?_)
    | exact lpn h
    | exact jnn h
    | replace h:=Cv h
    | replace h:=lpj h
    | refine nw ?_
    | (conv=>whnf
       first
      | ((with_reducible show D8 _); refine nw ?_)
      | ((with_reducible show Ge _ _ _); refine Ge.mk _ rfl ?_)
      | ((with_reducible show Ka _ _); refine Nf ?_)
      | ((with_reducible show E6 _ _ _ _ _ _); (first | refine Bk h (fun _ h=>?_) | refine Ahm h (fun _ h=>?_)))
      | ((with_reducible show Ss _ _ _); refine Ck h (fun _ _ _ _ h=>?_))
      | ((with_reducible show N1 _ _ _ _ _); (first | refine G1 h (fun _ _ _ _ h=>?_) | refine Ro h (fun _ _ _ _ h=>?_)))
      | ((with_reducible show Jq _ _ _ _); refine Ni ?_)
      | ((with_reducible show Su _ _ _ _); refine Ahn ?_)
      | ((with_reducible show K2 _ _ _ _ _ _ _); (first | refine Aho h (fun _ h=>?_) | refine Nj h (fun _ h=>?_) | refine Ahp h (fun _ h=>?_)))
      | ((with_reducible show N3 _ _ _); (first | refine Ahq h (fun _ h=>?_) | refine Ahr h (fun _ h=>?_)))
      | ((with_reducible show P6 _ _ _ _ _); refine Gi h (fun _ h=>?_))
      | ((with_reducible show N2 _ _ _ _); (first | refine Ahs h (fun _ h=>?_) | refine Pc h (fun _ h=>?_)))
      | ((with_reducible show Fm _ _ _); (first | refine Ng ?_ | refine Nh ?_))
      | ((with_reducible show Wl _ _ _); refine S8 h (fun _ h=>?_))
      | ((with_reducible show Wg _ _ _ _); refine S7 h (fun _ h=>?_))
      | ((with_reducible show Wh _ _ _); refine W5 h (fun _ h=>?_))
      | ((with_reducible show Wj _ _ _ _); refine Agx h (fun _ h=>?_))
      | ((with_reducible show Wi _ _ _ _); refine Agy h (fun _ h=>?_))
      | ((with_reducible show Wk _ _ _ _); refine Abj h (fun _ _ _ _ h=>?_))
      | ((with_reducible show Wm _ _); refine F3 h (fun h=>?_))
      | ((with_reducible show Wn _ _ _ _ _); refine Ags h (fun _ h=>?_))
      | ((with_reducible show Wo _ _ _ _); refine Agt h (fun _ h=>?_)))
    | (have h:=Option.some.inj h; subst h; exact rfl)
    | (cases h; (repeat refine ⟨rfl,?_⟩); exact trivial)
    | (cases h; done)
):P:=h
end Go.Ab
namespace Go.Ab
open Go Go.Proofs
set_option maxRecDepth 10000
set_option linter.unusedVariables false
theorem Arg {a0 r:List Ba} (h:Cf 16 [] a0=some r):Aw Go.Proofs.Tryz.prog 65 [Ar 2 Db a0] (Ar 2 Db r):=by
 have h:((Cf 16 [] a0).bind fun o=>some o)=some r:=by rw [h]; rfl
 refine pw {T:=Cb,an:=(fun s=>bif Nat.beq s 5 then .own else .ask),nl:=(fun s=>bif Nat.beq s 2 then [(0,2)] else [])} Tryz.func65 ?_
 refine Ax ?_
 refine Ca ?_
 refine ZO ?_
 refine Ax (Ax ?_)
 refine Qj (fun b:Bool=>b=true->a0 = []) (fun b=>[(4,Av b)]) (fun _=>[]) (fun _=>rfl) ?_ ?_
 .intro K hK
  refine W9 0 ?_
  intro v hv
  obtain ⟨p,c,rfl,hp⟩:=hv 2 (a0.map Db) rfl
  refine Ca ?_
  refine nx ?_
  refine nx ?_
  refine Jv ?_
  refine hK p.isNone _ _ _ (fun e=>?_) ⟨rfl,trivial⟩ trivial
  cases p with
  | none=>simpa using hp rfl
  | some _=>cases e
 .rintro b _ hb
  cases b with
  | true=>
   have hb:=hb rfl
   subst hb
   have h:some ([]:List Ba)=some r:=by rw [<-h]; rfl
   exact Y
  | false=>
   refine Z ?_
   exact Y
theorem Arh {a0:List Ba} {r:List Ba×List Ba} (h:Lv 16 a0=some r):Br Go.Proofs.Tryz.prog 65 [Ar 2 Db a0] [] (.arr 1 r.2.length 0 r.2.length) [.rows 86 2 (r.1.map Db),.rows 86 2 (r.2.map Db)]:=by
 have h:((Cf 16 [] a0).bind fun o=>some (([]:List Ba),o))=some r:=h
 refine aw {T:=Cb,an:=(fun s=>bif Nat.beq s 5 then .own else bif Nat.beq s 2 then .own else .ask),nl:=(fun _=>[])} false Tryz.func65 ?_
 refine Ax ?_
 refine Ca ?_
 refine ZO ?_
 refine Ax (Ax ?_)
 refine Qj (fun b:Bool=>b=true->a0 = []) (fun b=>[(4,Av b)]) (fun _=>[]) (fun _=>rfl) ?_ ?_
 .intro K hK
  refine W9 0 ?_
  intro v hv
  obtain ⟨p,c,rfl,hp⟩:=hv 2 (a0.map Db) rfl
  refine Ca ?_
  refine nx ?_
  refine nx ?_
  refine Jv ?_
  refine hK p.isNone _ _ _ (fun e=>?_) ⟨rfl,trivial⟩ ⟨⟨rfl,rfl⟩,trivial⟩
  cases p with
  | none=>simpa using hp rfl
  | some _=>cases e
 .rintro b _ hb
  cases b with
  | true=>
   have hb:=hb rfl
   subst hb
   have h:some (([]:List Ba),([]:List Ba))=some r:=by rw [<-h]; rfl
   cases h
   refine ZO ?_
   exact Y
  | false=>
   refine Z ?_
   refine ZO ?_
   refine Nj h (fun _ h=>?_)
   exact Y
theorem Ari {a0:List B8} {r:List B8×List B8} (h:Lv 40 a0=some r):Br Go.Proofs.Tryz.prog 214 [Ar 3 Ey a0] [] (.arr 1 r.2.length 0 r.2.length) [.rows 97 3 (r.1.map Ey),.rows 97 3 (r.2.map Ey)]:=by
 have h:((Cf 40 [] a0).bind fun o=>some (([]:List B8),o))=some r:=h
 refine aw {T:=Cb,an:=(fun s=>bif Nat.beq s 5 then .own else bif Nat.beq s 2 then .own else .ask),nl:=(fun _=>[])} false Tryz.func214 ?_
 refine Ax ?_
 refine Ca ?_
 refine ZO ?_
 refine Ax (Ax ?_)
 refine Qj (fun b:Bool=>b=true->a0 = []) (fun b=>[(4,Av b)]) (fun _=>[]) (fun _=>rfl) ?_ ?_
 .intro K hK
  refine W9 0 ?_
  intro v hv
  obtain ⟨p,c,rfl,hp⟩:=hv 3 (a0.map Ey) rfl
  refine Ca ?_
  refine nx ?_
  refine nx ?_
  refine Jv ?_
  refine hK p.isNone _ _ _ (fun e=>?_) ⟨rfl,trivial⟩ ⟨⟨rfl,rfl⟩,trivial⟩
  cases p with
  | none=>simpa using hp rfl
  | some _=>cases e
 .rintro b _ hb
  cases b with
  | true=>
   have hb:=hb rfl
   subst hb
   have h:some (([]:List B8),([]:List B8))=some r:=by rw [<-h]; rfl
   cases h
   refine ZO ?_
   exact Y
  | false=>
   refine Z ?_
   refine ZO ?_
   refine Nj h (fun _ h=>?_)
   exact Y
theorem Arj {a0:List A6} {r:List A6×List A6} (h:Lv 40 a0=some r):Br Go.Proofs.Tryz.prog 220 [Ar 3 Ed a0] [] (.arr 1 r.2.length 0 r.2.length) [.rows 101 3 (r.1.map Ed),.rows 101 3 (r.2.map Ed)]:=by
 have h:((Cf 40 [] a0).bind fun o=>some (([]:List A6),o))=some r:=h
 refine aw {T:=Cb,an:=(fun s=>bif Nat.beq s 5 then .own else bif Nat.beq s 2 then .own else .ask),nl:=(fun _=>[])} false Tryz.func220 ?_
 refine Ax ?_
 refine Ca ?_
 refine ZO ?_
 refine Ax (Ax ?_)
 refine Qj (fun b:Bool=>b=true->a0 = []) (fun b=>[(4,Av b)]) (fun _=>[]) (fun _=>rfl) ?_ ?_
 .intro K hK
  refine W9 0 ?_
  intro v hv
  obtain ⟨p,c,rfl,hp⟩:=hv 3 (a0.map Ed) rfl
  refine Ca ?_
  refine nx ?_
  refine nx ?_
  refine Jv ?_
  refine hK p.isNone _ _ _ (fun e=>?_) ⟨rfl,trivial⟩ ⟨⟨rfl,rfl⟩,trivial⟩
  cases p with
  | none=>simpa using hp rfl
  | some _=>cases e
 .rintro b _ hb
  cases b with
  | true=>
   have hb:=hb rfl
   subst hb
   have h:some (([]:List A6),([]:List A6))=some r:=by rw [<-h]; rfl
   cases h
   refine ZO ?_
   exact Y
  | false=>
   refine Z ?_
   refine ZO ?_
   refine Nj h (fun _ h=>?_)
   exact Y
end Go.Ab
namespace Go.Ab
open Go Go.Proofs Go.Shelf
set_option maxRecDepth 100000
set_option linter.unusedVariables false
theorem B9.up {σ:Aq} {ι:Bo} {H:Hp} {F:Aq} {w w':World} {x:Nat} (h:B9 σ ι H F w x) (hk:∀(b:Nat) (o:Obj),w.heap[b]? = some o->w'.heap[b]? = some o):B9 σ ι H F w' x:=by
 unfold B9 at h ⊢
 cases hx:H x with
 | none=>rw [hx] at h; exact h
 | dead=>trivial
 | cells E cs=>
  rw [hx] at h
  obtain ⟨b,C,h1,h2,h3,g,f⟩:=h
  exact ⟨b,C,h1,h2,h3,hk _ _ g,f⟩
 | rows E sz xs=>
  rw [hx] at h
  obtain ⟨h0,h1,h2⟩:=h
  refine ⟨h0,h1,?_⟩
  rcases h2 with h2 | ⟨b,c,C,q,l,k,j,i⟩
  .exact .inl h2
  .exact .inr ⟨b,c,C,q,l,k,hk _ _ j,i⟩
 | map es=>
  rw [hx] at h
  obtain ⟨b,M,t,h1,h2,h3,g,f⟩:=h
  exact ⟨b,M,t,h1,h2,h3,hk _ _ g,f⟩
theorem St.growG {σ:Aq} {ι:Bo} {H:Hp} {F:Aq} {W w:World} (s:St σ ι H F W w) (k:Nat) (os:Array Obj):St σ ι H F W (Sort.grow (Sort.ahead w k) os):=by
 have hk:∀(b:Nat) (o:Obj),w.heap[b]? = some o->(Sort.grow (Sort.ahead w k) os).heap[b]? = some o:=by
  intro b o h
  have c:=(Array.getElem?_eq_some_iff.1 h).1
  show (w.heap++os)[b]? = _
  rw [Array.getElem?_append_left c]; exact h
 exact ⟨fun b o h=>hk b o (s.sto b o h),fun b o h=>⟨hk b o (s.fra b o h).1,(s.fra b o h).2⟩,fun h=>(s.obj h).up hk,s.inj,s.os,s.tape,s.output,s.glo,Nat.le_trans s.drw (Nat.le_add_right _ _)⟩
theorem Ark {α:Type} [Inhabited α] (enc:α->Value) (w:World) (b:Nat) (d:Array α) (C:Array Value) (E:TypeId) (h:w.heap[b]? = some (.cells C E (0,0))):Sort.putRow enc w b 0 d=w.setRow b (Sort.putCells enc 0 d C):=by
 have c:(Sort.putRow enc w b 0 d).heap=(w.setRow b (Sort.putCells enc 0 d C)).heap:=by
  apply Array.ext_getElem?
  intro i
  simp only [Sort.putRow,Sort.mapBlock,World.setRow,Array.getElem?_modify]
  split
  .rename_i e; subst e
   rw [h]; simp [Sort.onCells]
  .rfl
 unfold Sort.putRow Sort.mapBlock World.setRow at c ⊢
 simp only at c
 rw [c]
end Go.Ab
namespace Go.Ab
open Go Go.Proofs Go.Shelf Go.Sort
set_option maxRecDepth 100000
set_option linter.unusedVariables false
theorem Arl {v:Value} (h:Dv v=true):v.oneCell'=true:=by cases v <;> first | rfl | cases h
theorem Arm {σ:Aq} {ι:Bo} {H:Hp} {f:FuncId} {v:Value} (h:Conc σ ι H (.fn f []) v):v = .func (.func f) #[] #[]:=by
 cases h with
 | cc h=>cases h
 | fn _ _ vs b _=>
  have:vs = #[]:=Array.size_eq_zero_iff.1 (by simpa using b)
  rw [this]
def Aht {α:Type} (σ:Aq) (eA:α->AV) (sz:Nat) (S:List α) (x:α) (c:List Value):Prop :=
 x∈S/\(eA x).cells.length=sz/\c.length=sz/\∀(j:Nat) (a:AV) (v:Value),(eA x).cells[j]? = some a->c[j]? = some v->CC σ a v/\Dv v=true
abbrev Ld {α:Type} (σ:Aq) (eA:α->AV) (sz:Nat) (S:List α):Type:={p:α×List Value // Aht σ eA sz S p.1 p.2}
theorem Arn {σ:Aq} {W w':World} (j:∀b o,W.heap[b]? = some o->σ b=some o) (s:St σ ι0 H0 (fun _=>none) W w'):∃q f,w'=grow (W.drewN q) f:=by
 have hk:∀b o,W.heap[b]? = some o->w'.heap[b]? = some o:=fun b o h=>s.sto b o (j b o h)
 have k:W.heap.size<=w'.heap.size:=by
  rcases Nat.eq_zero_or_pos W.heap.size with h | h
  .omega
  .have:=hk (W.heap.size-1) _ (Array.getElem?_eq_getElem (by omega))
   have:=(Array.getElem?_eq_some_iff.1 this).1
   omega
 refine ⟨w'.drawn-W.drawn,w'.heap.extract W.heap.size w'.heap.size,?_⟩
 have c:w'.heap=W.heap++w'.heap.extract W.heap.size w'.heap.size:=by
  apply Array.ext_getElem?
  intro i
  by_cases g:i<W.heap.size
  .rw [Array.getElem?_append_left g,Array.getElem?_eq_getElem g]
   exact hk i _ (Array.getElem?_eq_getElem g)
  .rw [Array.getElem?_append_right (by omega)]
   by_cases hj:i<w'.heap.size
   .rw [Array.getElem?_eq_getElem hj,Array.getElem?_eq_getElem (by simp; omega)]
    simp only [Array.getElem_extract]
    congr 2
    omega
   .rw [Array.getElem?_eq_none (by omega),Array.getElem?_eq_none (by simp; omega)]
 have h1:=s.os
 have h2:=s.tape
 have h3:=s.output
 have l:=s.drw
 cases w' with
 | mk heap tape drawn os output=>
  simp only at h1 h2 h3 l c
  unfold grow World.drewN
  simp only [World.mk.injEq]
  exact ⟨c,h2,by omega,h1,h3⟩
theorem Ahu {ρ:Ren} {α:Type} {eA:α->AV} {E:TypeId} {sz f g:Nat} {cmp:α->α->Option Int} (L:SlLaysF0.n6 Go.Proofs.Tryz.prog ρ) (hf:ρ.f 6=f) (a8:Wf Go.Proofs.Tryz.prog f)
  (aE:∀w,(isAgg (ρ.t 24)).run Go.Proofs.Tryz.prog w = .ok true w) (zE:∀w,(Go.sizeOf (ρ.t 24)).run Go.Proofs.Tryz.prog w = .ok sz w) (eg:∀args w,(callFunc g args).run Go.Proofs.Tryz.prog w = .ok (.enter g args) w)
  (az:∀x y n,cmp x y=some n->Aw Go.Proofs.Tryz.prog g [eA x,eA y] (O .i64 n)) (b4:∀x,∃cs,eA x = .agg cs) {l r:List α} (h:Lu cmp l=some r) (am:l≠[]) :
  Br Go.Proofs.Tryz.prog f [.arr 0 l.length 0 l.length,.fn g []] [.rows E sz (l.map eA)] (.tup []) [.rows E sz (r.map eA)]:=by
 obtain ⟨cf,law,be,I,A⟩:=Aq3 h
 refine ⟨a8,fun σ F W w ι vs s ay=>?_⟩
 obtain ⟨v,v2,rfl,G,b7⟩:=Acb ay
 obtain rfl:=Arm b7
 have hh:hp [.rows E sz (l.map eA)] 0 = .rows E sz (l.map eA):=rfl
 have S:=G.arr_inv hh (by simp)
 have hor:=s.obj 0
 unfold B9 at hor
 rw [hh] at hor
 obtain ⟨V,ap,hor⟩:=hor
 rw [List.length_map] at ap
 rcases hor with ⟨_,aj⟩ | ⟨b,X,D,hb,g1,g2,g3,g4,g5,g6⟩
 .exact (am (by simpa using aj)).elim
 rw [List.length_map] at g5
 unfold E4 at S
 rw [hb] at S
 simp only [Nat.zero_mul,Nat.sub_zero] at S
 obtain ⟨ht,ac⟩:=S
 subst ac
 obtain ⟨gg,q1,q2,q3⟩:=g6
 have ab:∀(i:Nat) (x:α),l[i]? = some x->(l.map eA)[i]? = some (eA x):=fun i x hx=>by rw [List.getElem?_map,hx]; rfl
 have a6:∀(i:Nat) (J:i<l.length),Aht σ eA sz l l[i] ((List.range sz).map (gg i)):=by
  intro i J
  have hx:l[i]? = some l[i]:=List.getElem?_eq_getElem J
  refine ⟨List.getElem_mem J,q1 i _ (ab i _ hx),by simp,fun j a v ha G=>?_⟩
  rw [List.getElem?_map,Option.map_eq_some_iff] at G
  obtain ⟨k,hk,rfl⟩:=G
  have bb:k=j:=by
   have:=(List.getElem?_eq_some_iff.1 hk).2
   simpa using this.symm
  subst bb
  exact q2 i _ k a (ab i _ hx) ha
 have hpos:0<l.length:=List.length_pos_iff.2 am
 let d:Array (Ld σ eA sz l):=Array.ofFn fun i:Fin l.length=>⟨(l[i.1],(List.range sz).map (gg i.1)),a6 i.1 i.2⟩
 haveI:Inhabited (Ld σ eA sz l):=⟨⟨(l[0],(List.range sz).map (gg 0)),a6 0 hpos⟩⟩
 have B:d.size=l.length:=by simp [d]
 have bd:∀i (J:i<l.length),d[i]! = ⟨(l[i],(List.range sz).map (gg i)),a6 i J⟩:=fun i J=>by
  rw [getElem!_pos d i (by rw [B]; exact J)]; simp [d]
 let enc:Ld σ eA sz l->List Value:=fun p=>p.1.2
 have hk:∀x:Ld σ eA sz l,(enc x).length=sz:=fun x=>x.2.2.2.1
 have h1:∀x:Ld σ eA sz l,∀v∈enc x,v.oneCell'=true:=by
  intro x v G
  obtain ⟨j,hj⟩:=List.getElem?_of_mem G
  have q:=(List.getElem?_eq_some_iff.1 hj).1
  rw [hk x] at q
  have ha:(eA x.1.1).cells[j]? = some ((eA x.1.1).cells[j]'(by rw [x.2.2.1]; exact q)):=List.getElem?_eq_getElem _
  exact Arl (x.2.2.2.2 j _ v ha hj).2
 let aa:Ld σ eA sz l->Ld σ eA sz l->Int:=fun x y=>cf x.1.1 y.1.1
 have hO:SWO (ltOf aa):=by
  constructor
  .intro x; exact decide_eq_false (law.irr x.1.1)
  .intro x y z Z Y
   exact decide_eq_true (law.trs _ _ _ (of_decide_eq_true Z) (of_decide_eq_true Y))
  .intro x y z Z Y
   exact decide_eq_false (law.ntr _ _ _ (of_decide_eq_false Z) (of_decide_eq_false Y))
 have hH:HoldsK enc sz w b 0 d:=by
  intro t a1
  rw [size_flatK,B] at a1
  have ae:t / sz<l.length:=Nat.div_lt_of_lt_mul (by rw [Nat.mul_comm]; exact a1)
  have ad:t % sz<sz:=Nat.mod_lt _ V
  rw [get_flatK _ _ _ _ (by rw [B]; exact a1),bd _ ae]
  have e:=q3 (t / sz) (t % sz) (by rw [List.length_map]; exact ae) ad
  rw [show t / sz*sz+t % sz=t by rw [Nat.mul_comm]; exact Nat.div_add_mod t sz] at e
  refine ⟨?_,?_⟩
  .rw [Nat.zero_add,Hv g3,e]
   show some _=some (id _)
   congr 1
   show gg _ _=((List.range sz).map (gg (t / sz)))[t % sz]!
   rw [getElem!_pos _ _ (by simpa using ad)]
   simp
  .simp [World.frozen?,g3]
 have hblk:b<w.heap.size:=(Array.getElem?_eq_some_iff.1 g3).1
 have hC:CmpLays Go.Proofs.Tryz.prog g #[] enc sz aa b 0 d.size w:=by
  intro m os dk hs x y
  generalize b6:sortWorldK enc sz w b 0 m dk os=U
  have ar:∀b' o,σ b'=some o->U.heap[b']? = some o:=by
   intro b' o ho
   have ak:b≠b':=by
    rintro rfl
    rw [g1] at ho; cases ho
   have e:=s.sto b' o ho
   have q:=(Array.getElem?_eq_some_iff.1 e).1
   rw [<-b6]
   show ((w.heap.modify b _)++os)[b']? = _
   rw [Array.getElem?_append_left (by simpa using q),Array.getElem?_modify,if_neg ak]; exact e
  have av:=be x.1.1 x.2.1 y.1.1 y.2.1
  have hp:=az _ _ _ av
  have s1:St ((fun b=>U.heap[b]?)) ι0 H0 (fun _=>none) U U:=⟨fun _ _ e=>e,(fun _ _ e=>by cases e),fun _=>rfl,(fun _ _ _ hl=>by cases hl),rfl,rfl,rfl,s.glo.mono ar,Nat.le_refl _⟩
  have b3:∀z:Ld σ eA sz l,Conc ((fun b=>U.heap[b]?)) ι0 H0 (eA z.1.1) (.agg (enc z).toArray):=by
   intro z
   obtain ⟨cs,ax⟩:=b4 z.1.1
   have M:(eA z.1.1).cells=cs:=by rw [ax]; rfl
   rw [ax]
   refine .cc (.agg _ _ ?_ fun i c v hc G=>?_)
   .rw [<-M,z.2.2.1]; simp [hk z]
   .rw [<-M] at hc
    exact (z.2.2.2.2 i c v hc (by simpa using G)).1.mono ar
  refine (hp.2 ((fun b=>U.heap[b]?)) (fun _=>none) U U _ s1 ⟨rfl,?_⟩).mono ?_
  .intro i a v ha G
   match i,ha,G with
   | 0,ha,G=>cases ha; cases G; exact b3 x
   | 1,ha,G=>cases ha; cases G; exact b3 y
   | n+2,ha,G=>simp at ha
  .rintro e w' ⟨v,σ',rfl,aq,b8,hc⟩
   refine ⟨?_,?_⟩
   .cases hc with
    | cc h=>cases h; rfl
   .exact Arn (σ:=σ') (fun b o ho=>aq b o ho) b8
 have call:=AnyQ.slices_SortFunc L sz aE zE enc hk h1 aa hO g #[] b 0 X d w eg hC hH hblk (by rw [B]; omega)
 rw [hf,B] at call
 refine call.mono ?_
 rintro e w' ⟨rfl,u,n,os,ba,b9,rfl⟩
 obtain ⟨p1,p2,p3⟩:=ba
 have R:u.size=l.length:=by rw [p1,B]
 have N:∀(a:Array (Ld σ eA sz l)),a.size=l.length->(a.extract 0 l.length).toList=a.toList:=fun a ha=>by
  rw [<-ha]; simp
 rw [N u R,N d B] at p3
 have ao:d.toList.map (fun p=>p.1.1)=l:=by
  apply List.ext_getElem
  .simp [B]
  .intro i bh bg
   simp [d]
 have ai:(u.toList.map fun p=>p.1.1).Perm l:=by
  have:=p3.map fun p:Ld σ eA sz l=>p.1.1
  rwa [ao] at this
 have hR:(u.toList.map fun p=>p.1.1).Pairwise fun x y=>cf x y<0\/cf y x<0:=by
  refine ((ai.trans I.symm).pairwise_iff (fun {x y} h=>h.symm)).2 ?_
  exact A.imp fun h=>.inl h
 have hS:(u.toList.map fun p=>p.1.1).Pairwise fun x y=>cf x y<0:=by
  rw [List.pairwise_iff_getElem] at hR ⊢
  intro i j J hj au
  simp only [List.length_map,Array.length_toList] at J hj
  rcases hR i j (by simpa using J) (by simpa using hj) au with h | h
  .exact h
  .have:=b9 i j (Nat.zero_le _) au (by omega)
   rw [getElem!_pos u i J,getElem!_pos u j hj] at this
   have:=of_decide_eq_false this
   simp only [List.getElem_map,Array.getElem_toList] at h
   exact (this h).elim
 have ah:u.toList.map (fun p=>p.1.1)=r:=by
  refine List.Perm.eq_of_pairwise (le:=fun x y=>cf x y<0) (fun x y _ _ h1 h2=>(law.irr x (law.trs _ _ _ h1 h2)).elim) hS A (ai.trans I.symm)
 have ag:r.length=l.length:=I.length_eq
 have bf:(flatK enc sz u).size=l.length*sz:=by rw [size_flatK,R]
 have b5:(Sort.putCells id 0 (flatK enc sz u) D).size=X*sz:=by unfold Sort.putCells; rw [Array.size_mapIdx]; exact g4
 have af:∀(i:Nat) (x:α),r[i]? = some x->i<u.size/\(u[i]!).1.1=x:=by
  intro i x hx
  rw [<-ah,List.getElem?_map,Option.map_eq_some_iff] at hx
  obtain ⟨p,hp,rfl⟩:=hx
  have q:=(List.getElem?_eq_some_iff.1 hp).1
  simp only [Array.length_toList] at q
  refine ⟨q,?_⟩
  rw [getElem!_pos u i q]
  have:=(List.getElem?_eq_some_iff.1 hp).2
  simp only [Array.getElem_toList] at this
  rw [this]
 obtain ⟨s',le⟩:=s.setRows 0 E sz _ (r.map eA) hh b X hb (by simp [ag]) (Sort.putCells id 0 (flatK enc sz u) D) b5 (by
  refine ⟨fun i j=>(enc u[i]!)[j]!,?_,?_,?_⟩
  .intro i x hx
   rw [List.getElem?_map] at hx
   obtain ⟨z,hz,rfl⟩:=Option.map_eq_some_iff.1 hx
   obtain ⟨e1,e2⟩:=af i z hz
   rw [<-e2]; exact (u[i]!).2.2.1
  .intro i x j c hx a7
   rw [List.getElem?_map] at hx
   obtain ⟨z,hz,rfl⟩:=Option.map_eq_some_iff.1 hx
   obtain ⟨e1,e2⟩:=af i z hz
   rw [<-e2] at a7
   have q:=(List.getElem?_eq_some_iff.1 a7).1
   rw [(u[i]!).2.2.1,<-(u[i]!).2.2.2.1] at q
   have hg:(u[i]!).1.2[j]? = some ((enc u[i]!)[j]!):=by
    rw [List.getElem?_eq_getElem q,getElem!_pos (enc u[i]!) j q]
   exact (u[i]!).2.2.2.2 j c _ a7 hg
  .intro i j J hj
   rw [List.length_map,ag] at J
   have q:i*sz+j<l.length*sz:=by
    have:=Nat.mul_le_mul_right sz (show i+1<=l.length from J)
    rw [Nat.add_mul,Nat.one_mul] at this; omega
   have hD:i*sz+j<D.size:=by
    rw [g4]
    exact Nat.lt_of_lt_of_le q (Nat.mul_le_mul_right sz g5)
   unfold Sort.putCells
   rw [Array.getElem?_mapIdx,Array.getElem?_eq_getElem hD]
   simp only [Option.map_some,Nat.zero_le,true_and,Nat.zero_add,bf,q,if_true,Nat.sub_zero]
   congr 1
   show id ((flatK enc sz u)[i*sz+j]!)=_
   rw [get_flatK _ _ _ _ (by rw [R]; exact q)]
   have e1:(i*sz+j) / sz=i:=by rw [Nat.mul_comm,Nat.mul_add_div V,Nat.div_eq_of_lt hj,Nat.add_zero]
   have e2:(i*sz+j) % sz=j:=by rw [Nat.mul_comm,Nat.mul_add_mod,Nat.mod_eq_of_lt hj]
   rw [e1,e2]; rfl)
 have eH:Ay (hp [.rows E sz (l.map eA)]) 0 (.rows E sz (r.map eA))=hp [.rows E sz (r.map eA)]:=by
  funext i
  match i with
  | 0=>rfl
  | i+1=>rfl
 rw [eH] at le s'
 have eW:sortWorldK enc sz w b 0 n u os=Sort.grow (Sort.ahead (w.setRow b (Sort.putCells id 0 (flatK enc sz u) D)) n) os:=by
  unfold sortWorldK putRowK
  rw [Ark id (Sort.ahead w n) b (flatK enc sz u) D E g3]
  rfl
 rw [eW]
 exact ⟨_,σ,ι,rfl,le,s'.growG n os,.tup _ _ rfl (fun i c v h1 _=>by cases h1)⟩
def Aro:Ren:={f:=fun x=>match x with | 6=>56 | 15=>108 | 14=>107 | 28=>177 | 29=>178 | 20=>169 | 21=>170 | 22=>171 | 23=>172 | 24=>173 | 25=>174 | 26=>175 | 27=>176 | 46=>244 | 47=>245 | 48=>246 | 49=>247 | 50=>248 | 57=>286 | n=>n,t:=fun x=>match x with | 22=>36 | 24=>72 | 25=>126 | 3=>3 | 39=>177 | 0=>0 | 53=>141 | 55=>196 | 4=>4 | 46=>245 | 45=>244 | 50=>124 | 5=>5 | 9=>9 | 66=>316 | 70=>138 | 76=>359 | 77=>360 | n=>n,g:=fun n=>n}
theorem Arp:SlLaysF0.n6 Go.Proofs.Tryz.prog Aro:=by
 constructor
 case f6=>exact Exists.intro "slices.SortFunc[[]amortcost/api.Term,amortcost/api.Term]" ⟨by kernel_rfl,by kernel_rfl⟩
 case f14=>exact Exists.intro "slices.pdqsortCmpFunc[amortcost/api.Term]" ⟨by kernel_rfl,by kernel_rfl⟩
 case f20=>exact Exists.intro "slices.insertionSortCmpFunc[amortcost/api.Term]" ⟨by kernel_rfl,by kernel_rfl⟩
 case f21=>exact Exists.intro "slices.heapSortCmpFunc[amortcost/api.Term]" ⟨by kernel_rfl,by kernel_rfl⟩
 case f22=>exact Exists.intro "slices.breakPatternsCmpFunc[amortcost/api.Term]" ⟨by kernel_rfl,by kernel_rfl⟩
 case f23=>exact Exists.intro "slices.choosePivotCmpFunc[amortcost/api.Term]" ⟨by kernel_rfl,by kernel_rfl⟩
 case f24=>exact Exists.intro "slices.reverseRangeCmpFunc[amortcost/api.Term]" ⟨by kernel_rfl,by kernel_rfl⟩
 case f25=>exact Exists.intro "slices.partialInsertionSortCmpFunc[amortcost/api.Term]" ⟨by kernel_rfl,by kernel_rfl⟩
 case f26=>exact Exists.intro "slices.partitionEqualCmpFunc[amortcost/api.Term]" ⟨by kernel_rfl,by kernel_rfl⟩
 case f27=>exact Exists.intro "slices.partitionCmpFunc[amortcost/api.Term]" ⟨by kernel_rfl,by kernel_rfl⟩
 case f46=>exact Exists.intro "slices.siftDownCmpFunc[amortcost/api.Term]" ⟨by kernel_rfl,by kernel_rfl⟩
 case f49=>exact Exists.intro "slices.medianAdjacentCmpFunc[amortcost/api.Term]" ⟨by kernel_rfl,by kernel_rfl⟩
 case f50=>exact Exists.intro "slices.medianCmpFunc[amortcost/api.Term]" ⟨by kernel_rfl,by kernel_rfl⟩
 case f57=>exact Exists.intro "slices.order2CmpFunc[amortcost/api.Term]" ⟨by kernel_rfl,by kernel_rfl⟩
 all_goals first | kernel_rfl | (intro w; kernel_rfl)
theorem Arq {α:Type} {eA:α->AV} {g:Nat} {cmp:α->α->Option Int} (j:∀args w,(callFunc g args).run Go.Proofs.Tryz.prog w = .ok (.enter g args) w)
  (b:∀x y n,cmp x y=some n->Aw Go.Proofs.Tryz.prog g [eA x,eA y] (O .i64 n)) (c:∀x,∃cs,eA x = .agg cs) {f r:List α} (h:Lu cmp f=some r) (i:f≠[]) :
  Br Go.Proofs.Tryz.prog 56 [.arr 0 f.length 0 f.length,.fn g []] [.rows 72 5 (f.map eA)] (.tup []) [.rows 72 5 (r.map eA)] :=
 Ahu Arp rfl ⟨_,Tryz.func56,by kernel_rfl,by kernel_rfl⟩ (by intro w; kernel_rfl) (by intro w; kernel_rfl) j b c h i
def Arr:Ren:={f:=fun x=>match x with | 6=>118 | 15=>108 | 14=>185 | 28=>177 | 29=>178 | 20=>250 | 21=>251 | 22=>252 | 23=>253 | 24=>254 | 25=>255 | 26=>256 | 27=>257 | 46=>287 | 47=>245 | 48=>246 | 49=>288 | 50=>289 | 57=>320 | n=>n,t:=fun x=>match x with | 22=>22 | 24=>86 | 25=>186 | 3=>3 | 39=>177 | 0=>0 | 53=>141 | 55=>196 | 4=>4 | 46=>245 | 45=>244 | 50=>124 | 5=>5 | 9=>9 | 66=>316 | 70=>138 | 76=>359 | 77=>360 | n=>n,g:=fun n=>n}
theorem Ars:SlLaysF0.n6 Go.Proofs.Tryz.prog Arr:=by
 constructor
 case f6=>exact Exists.intro "slices.SortFunc[[]amortcost/api.LinTerm,amortcost/api.LinTerm]" ⟨by kernel_rfl,by kernel_rfl⟩
 case f14=>exact Exists.intro "slices.pdqsortCmpFunc[amortcost/api.LinTerm]" ⟨by kernel_rfl,by kernel_rfl⟩
 case f20=>exact Exists.intro "slices.insertionSortCmpFunc[amortcost/api.LinTerm]" ⟨by kernel_rfl,by kernel_rfl⟩
 case f21=>exact Exists.intro "slices.heapSortCmpFunc[amortcost/api.LinTerm]" ⟨by kernel_rfl,by kernel_rfl⟩
 case f22=>exact Exists.intro "slices.breakPatternsCmpFunc[amortcost/api.LinTerm]" ⟨by kernel_rfl,by kernel_rfl⟩
 case f23=>exact Exists.intro "slices.choosePivotCmpFunc[amortcost/api.LinTerm]" ⟨by kernel_rfl,by kernel_rfl⟩
 case f24=>exact Exists.intro "slices.reverseRangeCmpFunc[amortcost/api.LinTerm]" ⟨by kernel_rfl,by kernel_rfl⟩
 case f25=>exact Exists.intro "slices.partialInsertionSortCmpFunc[amortcost/api.LinTerm]" ⟨by kernel_rfl,by kernel_rfl⟩
 case f26=>exact Exists.intro "slices.partitionEqualCmpFunc[amortcost/api.LinTerm]" ⟨by kernel_rfl,by kernel_rfl⟩
 case f27=>exact Exists.intro "slices.partitionCmpFunc[amortcost/api.LinTerm]" ⟨by kernel_rfl,by kernel_rfl⟩
 case f46=>exact Exists.intro "slices.siftDownCmpFunc[amortcost/api.LinTerm]" ⟨by kernel_rfl,by kernel_rfl⟩
 case f49=>exact Exists.intro "slices.medianAdjacentCmpFunc[amortcost/api.LinTerm]" ⟨by kernel_rfl,by kernel_rfl⟩
 case f50=>exact Exists.intro "slices.medianCmpFunc[amortcost/api.LinTerm]" ⟨by kernel_rfl,by kernel_rfl⟩
 case f57=>exact Exists.intro "slices.order2CmpFunc[amortcost/api.LinTerm]" ⟨by kernel_rfl,by kernel_rfl⟩
 all_goals first | kernel_rfl | (intro w; kernel_rfl)
theorem Art {α:Type} {eA:α->AV} {g:Nat} {cmp:α->α->Option Int} (j:∀args w,(callFunc g args).run Go.Proofs.Tryz.prog w = .ok (.enter g args) w)
  (b:∀x y n,cmp x y=some n->Aw Go.Proofs.Tryz.prog g [eA x,eA y] (O .i64 n)) (c:∀x,∃cs,eA x = .agg cs) {f r:List α} (h:Lu cmp f=some r) (i:f≠[]) :
  Br Go.Proofs.Tryz.prog 118 [.arr 0 f.length 0 f.length,.fn g []] [.rows 86 2 (f.map eA)] (.tup []) [.rows 86 2 (r.map eA)] :=
 Ahu Ars rfl ⟨_,Tryz.func118,by kernel_rfl,by kernel_rfl⟩ (by intro w; kernel_rfl) (by intro w; kernel_rfl) j b c h i
end Go.Ab
namespace Go.Ab
open Go Go.Proofs Go.Shelf
set_option maxRecDepth 100000
set_option linter.unusedVariables false
theorem Wb {σ:Aq} {ι:Bo} {H:Hp} {u v:Value} (h:Conc σ ι H (.val u) v):v=u:=by
 cases h with
 | cc h=>cases h; rfl
theorem Ace {ρ:Ren} {α:Type} {eA:α->AV} {E:TypeId} {sz f:Nat} (L:Lays8.n4 Go.Proofs.Tryz.prog ρ) (N:ρ.f 4=f) (g:Wf Go.Proofs.Tryz.prog f) (l:TypeInfo) (z:Value) (G:Go.Proofs.Tryz.prog.info? (ρ.t 25)=some l) (D:l.zero=some z) (X:ρ.t 25=E) (U:l.size=sz) (B:z.cells.size=sz) (q:0<sz) (I:l.bytes<=1000)
  {n:Int} {r:List α} (h:K5 n=some r):Br Go.Proofs.Tryz.prog f [.val (.slice none 0 0),O .i64 n] [] (.arr 0 r.length 0 r.length) [.rows E sz (r.map eA)]:=by
 have V:r = []/\0<=n/\n<=1000000:=by
  unfold K5 at h
  by_cases h1:0<=n
  .by_cases h2:n<=1000000
   .rw [decide_eq_true h1,decide_eq_true h2] at h
    have h:some ([]:List α)=some r:=h
    cases h; exact ⟨rfl,h1,h2⟩
   .rw [decide_eq_false h2,Bool.and_false] at h; cases h
  .rw [decide_eq_false h1,Bool.false_and] at h; cases h
 obtain ⟨rfl,n0,n1⟩:=V
 obtain ⟨m,rfl⟩:∃m:Nat,n=m:=⟨n.toNat,by omega⟩
 refine ⟨g,fun σ F W w ι vs s y=>?_⟩
 obtain ⟨v,u,rfl,S,hu⟩:=Acb y
 obtain rfl:=Wb S
 obtain rfl:=Wb hu
 have M:hp [] 0 = .none:=rfl
 have R:Ay (hp []) 0 (.rows E sz [])=hp [.rows E sz []]:=by
  funext i
  match i with
  | 0=>rfl
  | i+1=>rfl
 by_cases h0:m=0
 .subst h0
  have call:=Any8.slices_Grow_room L none 0 0 0 w (Nat.le_refl _) (by decide) (by decide) (by decide)
  rw [N] at call
  refine call.mono ?_
  rintro e w' ⟨rfl,rfl⟩
  obtain ⟨s',le⟩:=s.newNil 0 M E sz q
  rw [R] at s' le
  refine ⟨_,σ,_,rfl,le,s',.arr 0 0 0 0 _ (by intro e; cases e) (fun Z A xs e=>?_) rfl⟩
  cases e
  refine ⟨Nat.le_refl _,fun _=>?_⟩
  unfold E4
  rw [B7]
  exact ⟨rfl,rfl,rfl⟩
 .have hb:(0+m)*l.bytes<=140737488355328:=by
   have:=Nat.mul_le_mul (show 0+m<=1000000 by omega) I
   omega
  have call:=Any8.slices_Grow_grow L l z G D (by omega) none 0 0 m [] w (Nat.le_refl _) (by omega) hb (by omega) (by simp) (fun _=>rfl) (fun a h=>by cases h)
  rw [N,X] at call
  refine call.mono ?_
  rintro e w' ⟨rfl,rfl⟩
  have hge:=V4 w (0+m) 0 E
  generalize grownCap w (0+m) 0 E=cap at hge
  have b:∀k,(Builtin.zeroCells z.cells k).size=k*sz:=by intro k; simp [Builtin.zeroCells,B]
  generalize Y:(([]:List Value).toArray++Builtin.zeroCells z.cells (0+m-0)++Builtin.zeroCells z.cells (cap-(0+m)))=C
  have J:C.size=cap*sz:=by
   rw [<-Y,Array.size_append,Array.size_append,b,b]
   simp only [List.size_toArray,List.length_nil,Nat.zero_add,Nat.sub_zero,<-Nat.add_mul]
   congr 1; omega
  obtain ⟨s',le⟩:=(s.drew (w.drawn+1)).newRows 0 E sz [] cap C (.inl M) q (by simp) (by simp) J ⟨fun _ _=>.bool false,(by intro i x h; simp at h),(by intro i x j c h; simp at h),(by intro i j h; simp at h)⟩
  rw [R] at s' le
  refine ⟨_,σ,_,rfl,le,s',.arr 0 0 0 0 _ (by intro e; cases e) (fun Z A xs e=>?_) rfl⟩
  cases e
  refine ⟨Nat.le_refl _,fun _=>?_⟩
  unfold E4
  rw [B7]
  exact ⟨Nat.zero_le _,by simp⟩
def Aru:Ren:={f:=fun x=>match x with | 4=>120 | n=>n,t:=fun x=>match x with | 22=>22 | 25=>86 | 3=>3 | 4=>4 | 9=>9 | 20=>20 | 0=>0 | n=>n,g:=fun n=>n}
theorem Arv:Lays8.n4 Go.Proofs.Tryz.prog Aru:=by
 constructor
 case f4=>exact Exists.intro "slices.Grow[[]amortcost/api.LinTerm,amortcost/api.LinTerm]" ⟨by kernel_rfl,by kernel_rfl⟩
 all_goals first | kernel_rfl | (intro w; kernel_rfl)
theorem Arw {α:Type} {eA:α->AV} {n:Int} {r:List α} (h:K5 n=some r):Br Go.Proofs.Tryz.prog 120 [.val (.slice none 0 0),O .i64 n] [] (.arr 0 r.length 0 r.length) [.rows 86 2 (r.map eA)] :=
 Ace Arv rfl ⟨_,Tryz.func120,by kernel_rfl,by kernel_rfl⟩ Tryz.t86 (Tryz.t86.zero.getD .nilFunc) (by kernel_rfl) (by kernel_rfl) rfl (by kernel_rfl) (by kernel_rfl) (by decide) (of_decide_eq_true (by kernel_rfl)) h
def Arx:Ren:={f:=fun x=>match x with | 4=>272 | n=>n,t:=fun x=>match x with | 22=>67 | 25=>97 | 3=>3 | 4=>4 | 9=>9 | 20=>20 | 0=>0 | n=>n,g:=fun n=>n}
theorem Ary:Lays8.n4 Go.Proofs.Tryz.prog Arx:=by
 constructor
 case f4=>exact Exists.intro "slices.Grow[[]amortcost/api.Factor,amortcost/api.Factor]" ⟨by kernel_rfl,by kernel_rfl⟩
 all_goals first | kernel_rfl | (intro w; kernel_rfl)
theorem Arz {α:Type} {eA:α->AV} {n:Int} {r:List α} (h:K5 n=some r):Br Go.Proofs.Tryz.prog 272 [.val (.slice none 0 0),O .i64 n] [] (.arr 0 r.length 0 r.length) [.rows 97 3 (r.map eA)] :=
 Ace Ary rfl ⟨_,Tryz.func272,by kernel_rfl,by kernel_rfl⟩ Tryz.t97 (Tryz.t97.zero.getD .nilFunc) (by kernel_rfl) (by kernel_rfl) rfl (by kernel_rfl) (by kernel_rfl) (by decide) (of_decide_eq_true (by kernel_rfl)) h
def Ar0:Ren:={f:=fun x=>match x with | 4=>273 | n=>n,t:=fun x=>match x with | 22=>68 | 25=>101 | 3=>3 | 4=>4 | 9=>9 | 20=>20 | 0=>0 | n=>n,g:=fun n=>n}
theorem Ar1:Lays8.n4 Go.Proofs.Tryz.prog Ar0:=by
 constructor
 case f4=>exact Exists.intro "slices.Grow[[]amortcost/api.Atom,amortcost/api.Atom]" ⟨by kernel_rfl,by kernel_rfl⟩
 all_goals first | kernel_rfl | (intro w; kernel_rfl)
theorem Ar2 {α:Type} {eA:α->AV} {n:Int} {r:List α} (h:K5 n=some r):Br Go.Proofs.Tryz.prog 273 [.val (.slice none 0 0),O .i64 n] [] (.arr 0 r.length 0 r.length) [.rows 101 3 (r.map eA)] :=
 Ace Ar1 rfl ⟨_,Tryz.func273,by kernel_rfl,by kernel_rfl⟩ Tryz.t101 (Tryz.t101.zero.getD .nilFunc) (by kernel_rfl) (by kernel_rfl) rfl (by kernel_rfl) (by kernel_rfl) (by decide) (of_decide_eq_true (by kernel_rfl)) h
end Go.Ab
