/- Contracts of strings.Builder and strconv.Itoa. -/
import Derived.Test.YtidkdnlhdbbbjaaGreatDoorAtTy
import Derived.Test.YtidkdnlhdbbbjaaGreatDoorAtHandB
import Derived.Shelf.Strconv.Itoa4
import Derived.KernelRfl
import Derived.Shelf.Sort.Plain
import Derived.Shelf.SlSortCmp.WholeK
import Derived.Shelf.Spec.SlicesGrow
namespace Go.Ab
open Go Go.Proofs Go.Shelf
set_option maxRecDepth 100000
def Ald:Ren:={f:=fun x=>match x with | 171=>103 | 243=>166 | 246=>243 | 283=>282 | 284=>283 | 285=>284 | 286=>285 | 129=>178 | 317=>316 | 318=>317 | 319=>318 | 320=>319 | 337=>335 | 338=>336 | 173=>168 | n=>n,t:=fun x=>match x with | 3=>3 | 9=>9 | 2=>2 | 4=>4 | 171=>355 | 0=>0 | 53=>196 | 37=>163 | 5=>5 | 173=>357 | 212=>385 | 51=>141 | 20=>20 | 213=>386 | 46=>177 | 232=>413 | 233=>414 | n=>n,g:=fun x=>match x with | 17=>0 | 18=>1 | 19=>2 | n=>n}
theorem Ale:LaysM.n171 Go.Proofs.Tryz.prog Ald:=by
 constructor
 constructor
 all_goals first | kernel_rfl | (intro w; kernel_rfl)
theorem St.grown {σ:Av} {F:Av} {W w:World} (s:St σ ι0 H0 F W w) (k:Nat) (os:Array Obj):St σ ι0 H0 F W (Sort.grow (w.drewN k) os):=by
 have hk:∀(b:Nat) (o:Obj),w.heap[b]? = some o->(Sort.grow (w.drewN k) os).heap[b]? = some o:=by
  intro b o h
  have c:=(Array.getElem?_eq_some_iff.1 h).1
  show (w.heap++os)[b]? = _
  rw [Array.getElem?_append_left c]; exact h
 exact ⟨fun b o h=>hk b o (s.sto b o h),fun b o h=>⟨hk b o (s.fra b o h).1,(s.fra b o h).2⟩,fun _=>rfl,(fun _ _ _ f=>by cases f),s.os,s.tape,s.output,s.glo,Nat.le_trans s.drw (Nat.le_add_right _ _)⟩
theorem Alf {σ:Av} {ι:Bz} {H:Hp} {F:Av} {W w:World} (s:St σ ι H F W w):Lib.TabIs Go.Proofs.Tryz.prog w "internal/strconv.uint64pow10" .u64 Lib.pow10Tab:=by
 obtain ⟨E,fr,e⟩:=s.glo
 have h:=s.sto _ _ e
 have g:Go.Proofs.Tryz.prog.globalNamed "internal/strconv.uint64pow10" = some 0:=Ale.m17
 unfold Lib.TabIs World.var?
 rw [g]
 simp only [Option.bind_some,h]
theorem T5 {σ:Av} {ι:Bz} {H:Hp} {x:AV} {vs:Array Value} (h:Li σ ι H [x] vs):∃v,vs = #[v]/\Conc σ ι H x v:=by
 obtain ⟨h1,h2⟩:=h
 have h1:vs.size=1:=h1
 refine ⟨vs[0],?_,h2 0 x _ rfl (by simp [h1])⟩
 apply Array.ext
 .simp [h1]
 .intro i hi b
  have:i=0:=by omega
  subst this; rfl
theorem Awg {a0:Int} {r:ByteArray} (h:M6 a0=some r):Ax Go.Proofs.Tryz.prog 103 [O .i64 a0] (Fe r):=by
 unfold M6 at h
 split at h
 .rename_i hc
  cases h
  refine ⟨⟨_,Tryz.func103,by kernel_rfl,by kernel_rfl⟩,fun σ F W w vs s b=>?_⟩
  obtain ⟨v,rfl,hv⟩:=T5 b
  have hv:=hv.val_inv
  subst hv
  have:=Any.strconv_Itoa Ale a0 hc.1 hc.2 w (Alf s)
  refine this.mono ?_
  rintro e w' ⟨rfl,k,os,rfl⟩
  exact ⟨_,σ,rfl,Av.le_refl σ,s.grown k os,.of_val _⟩
 .cases h
theorem Awh:LaysM.n173 Go.Proofs.Tryz.prog Ald:=by
 constructor
 constructor
 all_goals first | kernel_rfl | (intro w; kernel_rfl)
theorem Afk {σ:Av} {ι:Bz} {H:Hp} {x y:AV} {vs:Array Value} (h:Li σ ι H [x,y] vs):∃v u,vs = #[v,u]/\Conc σ ι H x v/\Conc σ ι H y u:=by
 obtain ⟨h1,h2⟩:=h
 have h1:vs.size=2:=h1
 refine ⟨vs[0],vs[1],?_,h2 0 x _ rfl (by simp [h1]),h2 1 y _ rfl (by simp [h1])⟩
 apply Array.ext
 .simp [h1]
 .intro i hi b
  rcases (by omega:i=0\/i=1) with h | h
  .subst h; rfl
  .subst h; rfl
theorem Awi {a0 a1:Int} {r:ByteArray} (h:Zx a0 a1=some r):Ax Go.Proofs.Tryz.prog 168 [O .i64 a0,O .i64 a1] (Fe r):=by
 unfold Zx at h
 cases hb:a1==10 with
 | false=>rw [hb] at h; cases h
 | true=>
  rw [hb] at h
  have hb:=eq_of_beq hb
  subst hb
  have h:M6 a0=some r:=h
  unfold M6 at h
  split at h
  .rename_i hc
   cases h
   refine ⟨⟨_,Tryz.func168,by kernel_rfl,by kernel_rfl⟩,fun σ F W w vs s b=>?_⟩
   obtain ⟨v,u,rfl,hv,hu⟩:=Afk b
   have hv:=hv.val_inv
   have hu:=hu.val_inv
   subst hv; subst hu
   have:=Any.strconv_FormatInt_10 Awh a0 hc.1 hc.2 w (Alf s)
   refine this.mono ?_
   rintro e w' ⟨rfl,k,os,rfl⟩
   exact ⟨_,σ,rfl,Av.le_refl σ,s.grown k os,.of_val _⟩
  .cases h
theorem Aa6 (o:Bl) (os:List Bl):hp (o::os) 0=o:=rfl
theorem Awj (x:AV) (rest:List Bl):Bn Go.Proofs.Tryz.prog 164 [.loc 0 0] (.cells 165 [.loc 0 0,x]::rest) (.tup []) (.cells 165 [.loc 0 0,x]::rest):=by
 refine ⟨⟨_,Tryz.func164,by kernel_rfl,by kernel_rfl⟩,fun σ F W w ι vs s f=>?_⟩
 obtain ⟨v,rfl,hv⟩:=T5 f
 obtain ⟨b,hb,hv⟩:=hv.loc_inv
 subst hv
 have k:=s.obj 0
 unfold Co at k
 rw [Aa6] at k
 obtain ⟨z,C,u,_,_,h3,q,y⟩:=k
 rw [hb] at u; cases u
 have q:C.size=2:=q
 have g:C[0]? = some C[0]:=by simp [q]
 have l:=y 0 (.loc 0 0) C[0] rfl g
 obtain ⟨b2,h,j⟩:=l.loc_inv
 rw [hb] at h; cases h
 have cell:w.cell? ⟨b,0,none⟩=some (.pointer (some ⟨b,0,none⟩)):=by
  rw [Iz h3,g,j]
 refine (Tryz.check_used b w cell).mono ?_
 rintro e w' ⟨rfl,rfl⟩
 exact ⟨_,σ,ι,rfl,Le.refl _ _ _,s,.tup _ _ rfl (fun i c v h1 _=>by cases h1)⟩
theorem Awk (x:AV) (rest:List Bl):Bn Go.Proofs.Tryz.prog 164 [.loc 0 0] (.cells 165 [.val (.pointer none),x]::rest) (.tup []) (.cells 165 [.loc 0 0,x]::rest):=by
 refine ⟨⟨_,Tryz.func164,by kernel_rfl,by kernel_rfl⟩,fun σ F W w ι vs s j=>?_⟩
 obtain ⟨v,rfl,hv⟩:=T5 j
 obtain ⟨b,hb,hv⟩:=hv.loc_inv
 subst hv
 have q:=s.obj 0
 unfold Co at q
 rw [Aa6] at q
 obtain ⟨B,C,z,_,_,h3,g,y⟩:=q
 rw [hb] at z; cases z
 have g:C.size=2:=g
 have k:C[0]? = some C[0]:=by simp [g]
 have l:=(y 0 (.val (.pointer none)) C[0] rfl k).val_inv
 have cell:w.cell? ⟨b,0,none⟩=some (.pointer none):=by
  rw [Iz h3,k,l]
 refine (Tryz.check_fresh b w cell (by simp [World.shape?,h3,g]) (by simp [World.frozen?,h3])).mono ?_
 rintro e w' ⟨rfl,rfl⟩
 obtain ⟨s',le⟩:=s.setBox 0 165 [.val (.pointer none),x] [.loc 0 0,x] rfl b hb #[.pointer (some ⟨b,0,none⟩),C[1]] rfl (by
  intro i c v h1 h2
  match i with
  | 0=>simp at h1 h2; subst h1; subst h2; exact .loc 0 0 b hb
  | 1=>simp at h1 h2; subst h1; subst h2; exact y 1 x _ rfl (by simp [g])
  | i+2=>simp at h1)
 have A:A5 (hp (.cells 165 [.val (.pointer none),x]::rest)) 0 (.cells 165 [.loc 0 0,x])=hp (.cells 165 [.loc 0 0,x]::rest):=by
  funext i
  cases i with
  | zero=>rfl
  | succ i=>rfl
 have eW:w.setCell ⟨b,0,none⟩ (.pointer (some ⟨b,0,none⟩))=w.setRow b #[.pointer (some ⟨b,0,none⟩),C[1]]:=by
  have h:C.setIfInBounds 0 (.pointer (some ⟨b,0,none⟩)) = #[.pointer (some ⟨b,0,none⟩),C[1]]:=by
   apply Array.ext
   .simp [g]
   .intro i hi u
    match i with
    | 0=>simp
    | 1=>rw [Array.getElem_setIfInBounds_ne _ (by decide)]; rfl
    | i+2=>simp at u; omega
  have f:(w.setCell ⟨b,0,none⟩ (.pointer (some ⟨b,0,none⟩))).heap=(w.setRow b #[.pointer (some ⟨b,0,none⟩),C[1]]).heap:=by
   apply Array.ext_getElem?
   intro i
   simp only [World.setCell,World.setRow,Array.getElem?_modify]
   split
   .rename_i e; subst e
    rw [h3]; simp [h]
   .rfl
  unfold World.setCell World.setRow at f ⊢
  simp only at f
  rw [f]
 rw [A] at s' le
 rw [eW]
 exact ⟨_,σ,ι,rfl,le,s',.tup _ _ rfl (fun i c v h1 _=>by cases h1)⟩
theorem Awl {l:List Int} (h:∀x∈l,0<=x/\x<256) {j:Nat} {x:UInt8} (hx:(Fm l)[j]? = some x):l[j]? = some (x.toNat:Int):=by
 simp only [Fm,List.getElem?_map,Option.map_eq_some_iff] at hx
 obtain ⟨y,hy,rfl⟩:=hx
 have b:=h y (List.mem_of_getElem? hy)
 rw [hy]
 congr 1
 have:y.toNat<256:=by omega
 simp only [UInt8.toNat_ofNat']
 omega
theorem St.kill {σ:Av} {ι:Bz} {H:Hp} {F:Av} {W w:World} (s:St σ ι H F W w) (h:Nat):St σ ι (A5 H h .dead) F W w/\Le σ ι H σ ι (A5 H h .dead):=by
 have le:Le σ ι H σ ι (A5 H h .dead):=by
  have:=Le.upd (ι:=ι) (H:=H) (Av.le_refl σ) h (ι h) .dead ⟨fun _ e=>e,(fun _ e=>by cases e),(fun _ k j i e=>by cases e)⟩
  rwa [H5] at this
 obtain ⟨f1,f2⟩:=s.fresh
 refine ⟨s.touch h w.heap.size (fun _ _=>rfl) (fun x e=>C7 _ _ e) le (fun _ _=>rfl) (fun _ _=>rfl) (fun o g=>by rw [f1] at g; cases g) ?_ f2 ?_ ?_ rfl rfl rfl,le⟩
 .intro x _ c f
  have:=(s.block c f).1
  omega
 .intro b c
  rw [Ci] at c; cases c
 .unfold Co
  rw [Ci]; trivial
theorem Awm {p:AV}:Bn Go.Proofs.Tryz.prog 105 [.loc 0 0] [.cells 165 [p,.arr 1 0 0 0],.rows 5 1 []] (Fe .empty) [.cells 165 [p,.arr 1 0 0 0],.dead]:=by
 refine ⟨⟨_,Tryz.func105,by kernel_rfl,by kernel_rfl⟩,fun σ F W w ι vs s u=>?_⟩
 obtain ⟨v,rfl,hv⟩:=T5 u
 obtain ⟨b,hb,hv⟩:=hv.loc_inv
 subst hv
 have I:=s.obj 0
 unfold Co at I
 rw [Aa6] at I
 obtain ⟨b',C,V,_,_,h3,z,Z⟩:=I
 rw [hb] at V; cases V
 have z:C.size=2:=z
 have Y:C = #[C[0],C[1]]:=by
  apply Array.ext
  .simp [z]
  .intro i hi J
   match i with
   | 0=>rfl
   | 1=>rfl
   | i+2=>simp at J; omega
 have M:=Z 1 (.arr 1 0 0 0) C[1] rfl (by simp [z])
 have l:hp [Bl.cells 165 [p,.arr 1 0 0 0],.rows 5 1 []] 1 = .rows 5 1 []:=rfl
 have c:=M.arr_inv l (by simp)
 have hor:=s.obj 1
 unfold Co at hor
 rw [l] at hor
 obtain ⟨_,S,hor⟩:=hor
 have eH:A5 (hp [Bl.cells 165 [p,.arr 1 0 0 0],.rows 5 1 []]) 1 .dead=hp [Bl.cells 165 [p,.arr 1 0 0 0],.dead]:=by
  funext i
  match i with
  | 0=>rfl
  | 1=>rfl
  | i+2=>rfl
 have go:∀(a q:Option Addr) (cap:Nat) (y:Av) (h:World),C[1] = .slice a 0 cap->h.heap[b]? = w.heap[b]?->(Builtin.unsafeSliceData_ #[163] 242 #[.slice a 0 cap]).run Go.Proofs.Tryz.prog w.drew = .ok (.pointer q) h ->
   Le σ ι (hp [Bl.cells 165 [p,.arr 1 0 0 0],.rows 5 1 []]) y ι (hp [Bl.cells 165 [p,.arr 1 0 0 0],.rows 5 1 []])->St y ι (hp [Bl.cells 165 [p,.arr 1 0 0 0],.rows 5 1 []]) F W h ->
   Calls Go.Proofs.Tryz.prog 105 #[.pointer (some ⟨b,0,none⟩)] w fun e w'=>∃v A B,e = .returned v/\Le σ ι (hp [Bl.cells 165 [p,.arr 1 0 0 0],.rows 5 1 []]) A B (hp [Bl.cells 165 [p,.arr 1 0 0 0],.dead])/\St A B (hp [Bl.cells 165 [p,.arr 1 0 0 0],.dead]) F W w'/\Conc A B (hp [Bl.cells 165 [p,.arr 1 0 0 0],.dead]) (Fe .empty) v:=by
  intro a q cap y h f L N le E
  have x:w.heap[b]? = some (.cells #[C[0],.slice a 0 cap] 165 (0,0)):=by
   rw [h3]; congr 1; rw [<-f,<-Y]
  refine (Tryz.builder_str0 b cap C[0] a q w h x (L.trans x) N).mono ?_
  rintro e w' ⟨rfl,rfl⟩
  obtain ⟨R,k⟩:=E.kill 1
  rw [eH] at R k
  exact ⟨_,y,ι,rfl,le.trans k,R,.of_val _⟩
 rcases hor with ⟨hi,_⟩ | ⟨g,j,D,X,g1,g2,g3,g4,g5,g6⟩
 .unfold Fj at c
  rw [hi] at c
  exact go none none 0 σ w.drew c.1 rfl rfl (Le.refl _ _ _) (s.drew _)
 .unfold Fj at c
  rw [X] at c
  simp only [Nat.zero_mul,Nat.zero_add,Nat.sub_zero] at c
  obtain ⟨_,f⟩:=c
  by_cases ht:j=0
  .subst ht
   obtain ⟨E,G⟩:=(s.drew (w.drawn+1)).newFrozen (.view ⟨g,0,none⟩ 5)
   have U:=(Array.getElem?_eq_some_iff.1 h3).1
   refine go _ _ 0 _ (w.drew.alloc (.view ⟨g,0,none⟩ 5)) f ?_ (Lib.run_unsafeSliceData_zero _ _ _ 5 Go.Proofs.Tryz.underlying242 _ _ (5,D.size) (by
    have:w.drew.heap[g]? = some (.cells D 5 (0,0)):=g3
    simp [World.shape?,this])) G E
   show (w.heap.push _)[b]? = _
   rw [Array.getElem?_push,if_neg (by omega)]
  .exact go _ _ j σ w.drew f rfl (Lib.run_unsafeSliceData_row _ _ _ _ _ _ ht) (Le.refl _ _ _) (s.drew _)
theorem Alg {p:AV} {l:List Int} {r:ByteArray} (h:Vh l=some r):Bn Go.Proofs.Tryz.prog 105 [.loc 0 0] [.cells 165 [p,.arr 1 l.length 0 l.length],.rows 5 1 (List.map (O .u8) l)] (Fe r) [.cells 165 [p,.arr 1 l.length 0 l.length],.dead]:=by
 unfold Vh at h
 split at h
 .rename_i V
  cases h
  by_cases u:l = []
  .subst u; exact Awm
  refine ⟨⟨_,Tryz.func105,by kernel_rfl,by kernel_rfl⟩,fun σ F W w ι vs s J=>?_⟩
  obtain ⟨v,rfl,hv⟩:=T5 J
  obtain ⟨b,hb,hv⟩:=hv.loc_inv
  subst hv
  have y:=s.obj 0
  unfold Co at y
  rw [Aa6] at y
  obtain ⟨b',C,e1,_,_,h3,M,h5⟩:=y
  rw [hb] at e1; cases e1
  have M:C.size=2:=M
  have hC:C = #[C[0],C[1]]:=by
   apply Array.ext
   .simp [M]
   .intro i hi R
    match i with
    | 0=>rfl
    | 1=>rfl
    | i+2=>simp at R; omega
  have U:=h5 1 (.arr 1 l.length 0 l.length) C[1] rfl (by simp [M])
  have I:hp [Bl.cells 165 [p,.arr 1 l.length 0 l.length],.rows 5 1 (List.map (O .u8) l)] 1 = .rows 5 1 (List.map (O .u8) l):=rfl
  have k:=U.arr_inv I (by simp)
  have hor:=s.obj 1
  unfold Co at hor
  rw [I] at hor
  obtain ⟨_,G,hor⟩:=hor
  rw [List.length_map] at G
  rcases hor with ⟨_,E⟩ | ⟨g,q,D,hg,g1,g2,g3,g4,g5,g6⟩
  .exact (u (by simpa using E)).elim
  .rw [List.length_map] at g5
   unfold Fj at k
   rw [hg] at k
   simp only [Nat.zero_mul,Nat.zero_add,Nat.sub_zero] at k
   obtain ⟨ht,B⟩:=k
   have c:(Fm l).length=l.length:=by simp [Fm]
   have f:∀(j:Nat) (x:UInt8),(Fm l)[j]? = some x->D[j]? = some (Value.int .u8 x.toNat):=by
    intro j x hx
    have hj:=Awl V hx
    obtain ⟨gg,q1,q2,q3⟩:=g6
    have A:(List.map (O .u8) l)[j]? = some (O .u8 x.toNat):=by rw [List.getElem?_map,hj]; rfl
    have N:j<(List.map (O .u8) l).length:=(List.getElem?_eq_some_iff.1 A).1
    have q4:=q3 j 0 N (by omega)
    have q5:=(q2 j _ 0 _ A rfl).1
    have:gg j 0=Value.int .u8 x.toNat:=by
     generalize gg j 0=z at q5
     cases q5; rfl
    rw [this] at q4
    simpa using q4
   have Y:w.heap[b]? = some (.cells #[C[0],.slice (some ⟨g,0,none⟩) (Fm l).length q] 165 (0,0)):=by
    rw [h3]; congr 1; rw [c]
    have:C[1] = .slice (some ⟨g,0,none⟩) l.length q:=B
    rw [<-this,<-hC]
   have Z:l.length<=D.size:=by rw [g4]; omega
   have call:=Tryz.builder_str b g q C[0] D (Fm l) w (by intro e; apply u; rw [<-List.length_eq_zero_iff,<-c,e]; rfl) Y g3 (by rw [c]; exact g5) (by rw [c]; exact Z) (by rw [c]; omega) f
   refine call.mono ?_
   rintro e w' ⟨rfl,rfl⟩
   have le:Le σ ι (hp [Bl.cells 165 [p,.arr 1 l.length 0 l.length],.rows 5 1 (List.map (O .u8) l)]) σ ι (A5 (hp [Bl.cells 165 [p,.arr 1 l.length 0 l.length],.rows 5 1 (List.map (O .u8) l)]) 1 .dead):=by
    have:=Le.upd (ι:=ι) (H:=hp [Bl.cells 165 [p,.arr 1 l.length 0 l.length],.rows 5 1 (List.map (O .u8) l)]) (Av.le_refl σ) 1 (ι 1) .dead ⟨fun _ e=>e,(fun _ e=>by cases e),(fun _ E1 a6 a1 e=>by cases e)⟩
    rwa [H5] at this
   have eH:A5 (hp [Bl.cells 165 [p,.arr 1 l.length 0 l.length],.rows 5 1 (List.map (O .u8) l)]) 1 .dead=hp [Bl.cells 165 [p,.arr 1 l.length 0 l.length],.dead]:=by
    funext i
    match i with
    | 0=>rfl
    | 1=>rfl
    | i+2=>rfl
   have s2:St σ ι (A5 (hp [Bl.cells 165 [p,.arr 1 l.length 0 l.length],.rows 5 1 (List.map (O .u8) l)]) 1 .dead) F W (w.drew.freeze ⟨g,0,none⟩ (Fm l).length):=by
    have S:∀b,b≠g->(w.drew.freeze ⟨g,0,none⟩ (Fm l).length).heap[b]? = w.heap[b]?:=by
     intro b hb
     unfold World.freeze
     split
     .rfl
     .simp only [Array.getElem?_modify]
      rw [if_neg (Ne.symm hb)]; rfl
    refine s.touch (hdrw:=by unfold World.freeze; split <;> exact Nat.le_succ _) 1 g (fun _ _=>rfl) (fun x e=>C7 _ _ e) le S (fun _ _=>rfl) (fun o y=>by rw [g1] at y; cases y) ?_ g2 ?_ ?_ ?_ ?_ ?_
    .intro x hx L X
     exact hx (s.inj x 1 g L rfl X (by rw [hg]; rfl))
    .intro b0 L
     rw [Ci] at L; cases L
    .unfold Co
     rw [Ci]; trivial
    .unfold World.freeze; split <;> rfl
    .unfold World.freeze; split <;> rfl
    .unfold World.freeze; split <;> rfl
   rw [eH] at le s2
   exact ⟨_,σ,ι,rfl,le,s2,.of_val _⟩
 .cases h
end Go.Ab
namespace Go.Ab
open Go Go.Proofs
set_option linter.unusedVariables false
class OK {α:Type} (o:Option α) (G:outParam (α->Prop)):Prop where
 ok:∀{r:α},o=some r->G r
theorem okz {α:Type} {G:α->Prop}:OK (none:Option α) G:=⟨fun h=>by cases h⟩
section
variable {P:Program} {C:Cfg} {Qn:Nat->Bp->Hp->Prop} {Qe:Nat->Nat->Bp->Hp->Prop} {Qr:Nat->Bp->Hp->Prop} {n:Nat} {e:Bp} {H:Hp} {β:Type} {r:β}
variable {T:Cs} {an:Nat->Ann} {nl:Nat->List (Nat×Nat)} {ops:Array Oper} {o:Oper} {os:List Oper} {acc:Hu} {K:Nat->Bp->Hp->Hu->Prop}
theorem Fv {p:Nat×Bool} {s:Nat} {b:Bool} {m m':Option β} (h:(bif b then m else m')=some r) (h1:b=true->m=some r->El (Ed P T an nl ops (o::os) n (A5 e s (.val (.bool true))) H acc K))
  (h2:b=false->m'=some r->El (Ed P T an nl ops (o::os) n (A5 e s (.val (.bool false))) H acc K)) (hg:o.guard=some p:=by exact rfl) (hs:(ops[p.1]?).bind (·.dst)=some s:=by exact rfl) (hb:e s = .val (.bool b):=by exact rfl):El (Ed P T an nl ops (o::os) n e H acc K):=Avn h h1 h2 hb
theorem nw {c:Code} (k:wc P C c Qn Qe Qr n e H):El (wc P C c Qn Qe Qr n e H):=.mk k
theorem Ck {S E:Type} {o:S⊕E} {J:E->Option β} {x:E} (h:some (Sum.inr x)=some o) (hx:∀x,Sum.inr x=o->J x=some r:=by assumption):J x=some r:=hx x (Option.some.inj h)
theorem lpj {S:Type} {o:S} {J:S->Option β} {x:S} (h:some x=some o) (hx:∀y,y=o->J y=some r:=by assumption):J x=some r:=hx x (Option.some.inj h)
theorem lpn {S E:Type} {o:S⊕E} {s':S} {K:Nat->Bp->Hp->Prop} {iv:S->List (Nat×AV)} {hv:S->List (Nat×Bl)} {inv:S->Prop} {n0:Nat} {H0:Hp} (h:some (Sum.inl s')=some o) (hn:∀s' n' e' H',Sum.inl s'=o->Gj e' (iv s')->Gk H' (Ch H0 (hv s')) n0 n0->inv s'->K n' e' H':=by assumption)
  (hs:Gj e (iv s'):=by (repeat refine ⟨rfl,?_⟩); exact trivial) (hh:Gk H (Ch H0 (hv s')) n0 n0:=by (repeat refine ⟨⟨rfl,rfl⟩,?_⟩); exact trivial) (hi:inv s':=by first | trivial | exact rfl | ((repeat refine Hm ?_ _ _); first | exact rfl | assumption)):K n e H:=hn s' n e H (Option.some.inj h) hs hh hi
theorem jnn {S E:Type} {o x:E} {s:S} {J:S->Prop} {K:Nat->Bp->Hp->Prop} {iv:S->List (Nat×AV)} {hv:S->List (Nat×Bl)} {n0:Nat} {H0:Hp} (h:some x=some o) (hn:∀s n' e' H',J s->Gj e' (iv s)->Gk H' (Ch H0 (hv s)) n0 n0->K n' e' H':=by assumption) (hJ:J s:=by exact Option.some.inj h)
  (hs:Gj e (iv s):=by (repeat refine ⟨rfl,?_⟩); exact trivial) (hh:Gk H (Ch H0 (hv s)) n0 n0:=by (repeat refine ⟨⟨rfl,rfl⟩,?_⟩); exact trivial):K n e H:=hn s n e H hJ hs hh
theorem Bh {α:Type} {o:Option α} {m:α->Option β} {f:FuncId} {args:List AV} {G:α->Prop} {ra:α->AV} {K:Eff->Nat->Prop} (h:o.bind m=some r) [i:OK o G] (k:∀v,m v=some r->K ⟨ra v,[],[]⟩ n) (hG:∀v,G v->Ax P f args (ra v):=by exact fun _ h=>h) (hf:args.all AV.free=true:=by exact rfl):Fk P n H f args K :=
 C3 h fun v hv h=>Fk.mk _ (hG v (i.ok hv)) hf (k v h)
theorem Alh {α:Type} {o:Option α} {m:α->Option β} {f:FuncId} {args args':List AV} {G:α->Prop} {ra:α->AV} {K:Eff->Nat->Prop} (h:o.bind m=some r) [i:OK o G] (k:∀v,m v=some r->K ⟨ra v,[],[]⟩ n) (hG:∀v,G v->Ax P f args' (ra v):=by exact fun _ h=>h) (hs:N7 args args':=by (repeat first | refine ⟨Sub.refl _,?_⟩ | refine ⟨Sub.nil _,?_⟩); exact trivial) (hf:args.all AV.free=true:=by exact rfl):Fk P n H f args K :=
 C3 h fun v hv h=>Fk.mk _ (Ax.sub (hG v (i.ok hv)) hs (Sub.refl _)) hf (k v h)
theorem A9 {α:Type} {o:Option α} {m:α->Option β} {f:FuncId} {args largs:List AV} {G:α->Prop} {ra:α->AV} {hs:List Bl} {hs':α->List Bl} {K:Eff->Nat->Prop} (l:List Nat) (h:o.bind m=some r) [i:OK o G] (k:∀v,m v=some r->K ⟨ren (Dy n l) (ra v),wrs (Dy n l) 0 hs++B6 (Dy n l) l.length ((hs' v).length-l.length),wrs (Dy n l) 0 (hs' v)⟩ (n+((hs' v).length-l.length)))
  (hG:∀v,G v->Bn P f largs hs (ra v) (hs' v):=by exact fun _ h=>h) (ha:largs.map (ren (Dy n l))=args:=by exact rfl) (ok:∀v,Sj n l largs hs (ra v) (hs' v)=true:=by exact fun _=>rfl) (hh:P0 H (wrs (Dy n l) 0 hs):=by (repeat refine ⟨rfl,?_⟩); exact trivial):Fk P n H f args K :=
 C3 h fun v hv h=>Fk.act l largs hs (ra v) (hs' v) (hG v (i.ok hv)) ha (ok v) hh (k v h)
theorem B3 {α:Type} {l:List α} {f:α->AV} {ys:List AV} {i:Int} {m:α->Option β} {K:Nat->AV->Prop} (h:(Ag l i).bind m=some r) (k:∀(n:Nat) (x:α),i=n->l[n]? = some x->m x=some r->K n (f x)) (he:ys=l.map f:=by first | exact rfl | exact Lx _ | exact Ly _ | exact Kg _):U9 ys i K:=Avo he h k
theorem Gx {α:Type} {l:List α} {f:α->AV} {ys:List AV} {i:Int} {m:α->Option β} {K:Nat->Prop} {len kk:Nat} (h:(Ag l i).bind m=some r) (k:∀(n:Nat) (x:α),i=n->l[n]? = some x->m x=some r->K n) (he:ys=l.map f:=by first | exact rfl | exact Lx _ | exact Ly _ | exact Kg _) (hl:len=l.length:=by first | exact rfl | assumption | exact I1 (by assumption) | ((repeat refine Hm ?_ _ _); first | exact rfl | assumption)) (hk:kk=l.length:=by first | exact rfl | assumption | exact I1 (by assumption) | ((repeat refine Hm ?_ _ _); first | exact rfl | assumption)):P1 len kk ys i K:=Avp he hl hk h k
theorem K7 {α:Type} {l:List α} {f:α->AV} {ys:List AV} {i:Int} {m:α->Option β} {K:Nat->Prop} {off len kk:Nat} (h:(F4 l off len i).bind m=some r) (k:∀(n:Nat) (x:α),i=n->l[off+n]? = some x->m x=some r->K n) (he:ys=l.map f:=by first | exact rfl | exact Lx _ | exact Ly _ | exact Kg _) (hk:kk=l.length:=by first | exact rfl | assumption | exact I1 (by assumption) | ((repeat refine Hm ?_ _ _); first | exact rfl | assumption)):P1 len kk ys i K:=Avq he hk h k
theorem O0 {α:Type} {l:List α} {f:α->AV} {ys:List AV} {K:Int->Prop} (k:K (l.length:Int)) (he:ys=l.map f:=by first | exact rfl | exact Lx _ | exact Ly _ | exact Kg _):Lj ys K:=Av2 he k
theorem O1 {α:Type} {l:List α} {f:α->AV} {ys:List AV} {kk:Nat} {K:Prop} (k:K) (he:ys=l.map f:=by first | exact rfl | exact Lx _ | exact Ly _ | exact Kg _) (hk:kk=l.length:=by first | exact rfl | assumption | exact I1 (by assumption) | ((repeat refine Hm ?_ _ _); first | exact rfl | assumption)):F3 kk ys K:=Av3 he hk k
theorem O2 {K:Prop} (k:K):F3 0 [] K:=.mk rfl k
theorem O3 {α:Type} {l:List α} {f:α->AV} {ys:List AV} {n i kk:Nat} {x:α} {K:AV->Prop} (k:K (f x)) (he:ys=l.map f:=by first | exact rfl | exact Lx _ | exact Ly _ | exact Kg _) (hk:kk=l.length:=by first | exact rfl | assumption | exact I1 (by assumption) | ((repeat refine Hm ?_ _ _); first | exact rfl | assumption)) (hi:i=n/\l[n]? = some x:=by first | exact ⟨Nat.zero_add _,by assumption⟩ | exact ⟨rfl,by assumption⟩):Ku kk i ys K:=Avv he hk hi.1 hi.2 k
theorem Ali {α:Type} {l:List α} {f:α->AV} {ys:List AV} {n i:Nat} {j:Int} {x:α} {p:AV} {K:List AV->Prop} (k:K ((Ca l j x).map f)) (he:ys=l.map f:=by first | exact rfl | exact Lx _ | exact Ly _ | exact Kg _) (hp:p=f x:=by exact rfl) (hi:i=n/\j=(n:Int):=by first | exact ⟨Nat.zero_add _,by assumption⟩ | exact ⟨rfl,by assumption⟩ | exact ⟨rfl,Akf _ (by assumption)⟩):Sl ys i p K:=K0 he hp hi.1 hi.2 k
theorem O4 {α:Type} {l ys:List α} {f:α->AV} {xs zs:List AV} {b kk len:Nat} {m:List α->Option β} {K:List AV->Nat->Prop} {KP:List AV->Nat->Nat->Prop} (h:(B9 b l ys).bind m=some r) (k:∀o:List α,m o=some r->K (o.map f) o.length) (he:xs=l.map f/\zs=ys.map f:=by first | exact ⟨rfl,rfl⟩ | (refine ⟨?_,?_⟩; rotate_left; exact rfl; exact rfl)) (hk:kk=l.length:=by first | exact rfl | assumption | exact I1 (by assumption) | ((repeat refine Hm ?_ _ _); first | exact rfl | assumption)) (hl:len=l.length:=by first | exact rfl | assumption | exact I1 (by assumption) | ((repeat refine Hm ?_ _ _); first | exact rfl | assumption)):Mh xs zs kk len b K KP:=Aeq he.1 he.2 hk hl h k
theorem Alj {l:List Int} {s:ByteArray} {xs:List AV} {b kk len:Nat} {m:List Int->Option β} {K:List AV->Nat->Prop} {KP:List AV->Nat->Nat->Prop} (h:(B9 b l (Lo s)).bind m=some r) (k:∀o:List Int,m o=some r->K (o.map fun n=>.val (.int .u8 n)) o.length) (he:xs=l.map fun n=>.val (.int .u8 n):=by exact rfl) (hk:kk=l.length:=by first | exact rfl | assumption | exact I1 (by assumption) | ((repeat refine Hm ?_ _ _); first | exact rfl | assumption)) (hl:len=l.length:=by first | exact rfl | assumption | exact I1 (by assumption) | ((repeat refine Hm ?_ _ _); first | exact rfl | assumption)):Mh xs (Ik s) kk len b K KP:=Avy he hk hl h k
class GL {α:Type} (g:List α->List AV) (f:outParam (α->AV)):Prop where
 eq:∀l,g l=l.map f
instance:GL Bk E4:=⟨Lx⟩
instance:GL I3 Hw:=⟨Ly⟩
instance:GL Gw H9:=⟨Kg⟩
theorem Afl {α:Type} {g:List α->List AV} {f:α->AV} [i:GL g f] {l ys:List α} {zs:List AV} {b kk len:Nat} {m:List α->Option β} {K:List AV->Nat->Prop} {KP:List AV->Nat->Nat->Prop} (h:(B9 b l ys).bind m=some r) (k:∀o:List α,m o=some r->K (g o) o.length) (hz:zs=ys.map f:=by first | exact rfl | exact GL.eq _) (hk:kk=l.length:=by first | exact rfl | assumption | exact I1 (by assumption) | ((repeat refine Hm ?_ _ _); first | exact rfl | assumption)) (hl:len=l.length:=by first | exact rfl | assumption | exact I1 (by assumption) | ((repeat refine Hm ?_ _ _); first | exact rfl | assumption)):Mh (g l) zs kk len b K KP:=Avz i.eq (i.eq l) hz hk hl h k
theorem Alk {α:Type} {ys:List α} {f:α->AV} {zs:List AV} {b:Nat} {m:List α->Option β} {K:List AV->Nat->Prop} (h:(B9 b [] ys).bind m=some r) (k:∀o:List α,m o=some r->K (o.map f) o.length) (hz:zs=ys.map f:=by exact rfl):P4 zs b K:=Akq hz h k
theorem All {α:Type} {g:List α->List AV} {f:α->AV} [i:GL g f] {ys:List α} {zs:List AV} {b:Nat} {m:List α->Option β} {K:List AV->Nat->Prop} (h:(B9 b [] ys).bind m=some r) (k:∀o:List α,m o=some r->K (g o) o.length) (hz:zs=g ys:=by exact rfl):P4 zs b K:=Av0 i.eq (hz.trans (i.eq ys)) h k
theorem Hf {α:Type} {z:α} {f:α->AV} {za:AV} {len cap:Int} {b:Nat} {m:List α->Option β} {K:Nat->List AV->Prop} (h:(Eu b len cap z).bind m=some r) (k:∀o:List α,m o=some r->K o.length (o.map f)) (hz:za=f z:=by first | exact (rfl:_=O _ _) | exact (rfl:_=Aq _) | exact rfl):Sk len cap b za K:=Av1 hz h k
theorem Rl {α:Type} {l:List α} {f:α->AV} {ys:List AV} {lo hi:Int} {m:List α->Option β} {K:List AV->Prop} (h:(G3 l lo hi).bind m=some r) (k:∀l':List α,m l'=some r->K (l'.map f)) (he:ys=l.map f:=by first | exact rfl | exact Lx _ | exact Ly _ | exact Kg _):P3 ys lo hi K:=Akp he h k
theorem Alm {α:Type} {l:List α} {f:α->AV} {ys:List AV} {lo:Int} {m:List α->Option β} {K:List AV->Prop} (h:(G3 l lo l.length).bind m=some r) (k:∀l':List α,m l'=some r->K (l'.map f)) (he:ys=l.map f:=by first | exact rfl | exact Lx _ | exact Ly _ | exact Kg _):P3 ys lo ys.length K:=Avx he h k
theorem D7 {S E:Type} {step:S->Option (S⊕E)} {s0:S} {J:E->Option β} {b:Code} (h:(Al step s0).bind J=some r) (iv:S->List (Nat×AV)) (hv:S->List (Nat×Bl)) (inv:S->Prop)
  (body:∀(s:S) (u:Nat->Value) (K:Nat->Bp->Hp->Prop) (o:S⊕E),step s=some o->(∀x,.inr x=o->J x=some r)->(∀s' n' e' H',.inl s'=o->Gj e' (iv s')->Gk H' (Ch H (hv s')) n n->inv s'->K n' e' H')->inv s ->
   wc P C b K Qe Qr n (Js (Et b) e u (iv s)) (Ch H (hv s)))
  (hb:∀s,J8 n (iv s) (hv s)=true:=by exact fun _=>rfl) (hs:Gj e (iv s0):=by (repeat refine ⟨rfl,?_⟩); exact trivial) (hh:Gk H (Ch H (hv s0)) n n:=by (repeat refine ⟨⟨rfl,rfl⟩,?_⟩); exact trivial) (h0:inv s0:=by first | exact rfl | assumption | exact I1 (by assumption) | ((repeat refine Hm ?_ _ _); first | exact rfl | assumption)):wc P C (.loop b) Qn Qe Qr n e H:=Aky h iv hv inv hb hs hh h0 body
theorem A7 {S E:Type} {step:S->Option (S⊕E)} {s0:S} {J:E->Option β} {b:Code} (h:(Al step s0).bind J=some r) (iv:S->List (Nat×AV)) (hv:S->List (Nat×Bl))
  (body:∀(s:S) (u:Nat->Value) (K:Nat->Bp->Hp->Prop) (o:S⊕E),step s=some o->(∀x,.inr x=o->J x=some r)->(∀s' n' e' H',.inl s'=o->Gj e' (iv s')->Gk H' (Ch H (hv s')) n n->True->K n' e' H') ->
   wc P C b K Qe Qr n (Js (Et b) e u (iv s)) (Ch H (hv s)))
  (hb:∀s,J8 n (iv s) (hv s)=true:=by exact fun _=>rfl) (hs:Gj e (iv s0):=by (repeat refine ⟨rfl,?_⟩); exact trivial) (hh:Gk H (Ch H (hv s0)) n n:=by (repeat refine ⟨⟨rfl,rfl⟩,?_⟩); exact trivial):wc P C (.loop b) Qn Qe Qr n e H:=Aky h iv hv (fun _=>True) hb hs hh trivial fun s u K o h1 h2 h3 _=>body s u K o h1 h2 h3
theorem Afm {S S':Type} {c:Code} {o:Option S'} {m:S'->Option β} (inj:S->S') (h:o.bind m=some r) (iv:S->List (Nat×AV)) (hv:S->List (Nat×Bl))
  (k1:∀x,o=some x->∀(K:Nat->Bp->Hp->Prop),(∀s n' e' H',inj s=x->Gj e' (iv s)->Gk H' (Ch H (hv s)) n n->K n' e' H')->(∀y,y=x->m y=some r)->wc P C c K Qe Qr n e H)
  (k2:∀(s:S) (u:Nat->Value),m (inj s)=some r->Qn n (Js (Et c) e u (iv s)) (Ch H (hv s))) (hb:∀s,J8 n (iv s) (hv s)=true:=by exact fun _=>rfl):wc P C c Qn Qe Qr n e H :=
 Akj h fun x hx hj=>Sz (fun s=>inj s=x) iv hv hb (fun K hK=>k1 x hx K hK hj) fun s u hs=>k2 s u (hj _ hs)
theorem Cn {S:Type} {c:Code} {o:Option S} {m:S->Option β} (h:o.bind m=some r) (iv:S->List (Nat×AV)) (hv:S->List (Nat×Bl))
  (k1:∀x,o=some x->∀(K:Nat->Bp->Hp->Prop),(∀s n' e' H',s=x->Gj e' (iv s)->Gk H' (Ch H (hv s)) n n->K n' e' H')->(∀y,y=x->m y=some r)->wc P C c K Qe Qr n e H)
  (k2:∀(s:S) (u:Nat->Value),m s=some r->Qn n (Js (Et c) e u (iv s)) (Ch H (hv s))) (hb:∀s,J8 n (iv s) (hv s)=true:=by exact fun _=>rfl):wc P C c Qn Qe Qr n e H:=Afm (fun s=>s) h iv hv k1 k2 hb
abbrev C0:Cfg:={T:=Cb,an:=fun _=>.ask}
theorem pw {f:FuncId} {fn:Func} {c:Code} {args:List AV} {r:AV} (C:Cfg) (hf:Go.Proofs.Tryz.prog.funcs[f]? = some fn) (hv:wc Go.Proofs.Tryz.prog C c (fun _ e H=>P7 C.T fn.results.toList (· = r) e H) (fun _ _ _ _=>False) (fun _ e H=>P7 C.T fn.results.toList (· = r) e H) 0 (Ss args) H0)
   (hT:C.T=Cb:=by exact rfl) (hb:fn.body=some c:=by exact rfl) (hname:(fn.name == "runtime.NumGoroutine")=false:=by kernel_rfl) (hok:Su fn c args.length=true:=by kernel_rfl) (hfree:r.free=true:=by exact rfl):Ax Go.Proofs.Tryz.prog f args r:=Av4 (by rw [hT]; exact Ak1) Ve hf hb hname hok hfree hv
theorem aw {f:FuncId} {fn:Func} {c:Code} {args:List AV} {r:AV} {hs hs':List Bl} (C:Cfg) (fz:Bool) (hf:Go.Proofs.Tryz.prog.funcs[f]? = some fn) (hv:wc Go.Proofs.Tryz.prog C c (fun _ e H=>Qa C.T fz fn.results.toList r hs' e H) (fun _ _ _ _=>False) (fun _ e H=>Qa C.T fz fn.results.toList r hs' e H) hs.length (Ss args) (hp hs))
   (hT:C.T=Cb:=by exact rfl) (hb:fn.body=some c:=by exact rfl) (hname:(fn.name == "runtime.NumGoroutine")=false:=by kernel_rfl) (hok:Su fn c args.length=true:=by kernel_rfl) (hok':Ael hs r hs'=true:=by exact rfl):Bn Go.Proofs.Tryz.prog f args hs r hs':=Av5 fz (by rw [hT]; exact Ak1) Ve hf hb hname hok hok' hv
end
theorem opk {P:Program} {T:Cs} {an:Nat->Ann} {nl:Nat->List (Nat×Nat)} {o:Oper} {n:Nat} {e:Bp} {H:Hp} {acc:Hu} {K:Nat->Bp->Hp->Hu->Prop} (k:opK P T an nl o n e H acc K):opK P T an nl o n e H acc K:=k
theorem cnd {t:Bool} {A B:Prop} (k:bif t then A else B):bif t then A else B:=k
structure Hd (Q:Prop):Prop where
 get:Q
theorem Z {P Q:Prop} (k:Q) (h:Hd Q->P:=by
  intro q
  repeat first
    | ((with_reducible show El (Ed _ _ _ _ _ (_::_) _ _ _ _ _)); (first | refine nx ?_ | refine N9 ?_ | refine N8 ?_))
    | ((with_reducible refine opk ?_); conv=>whnf
       first
      | ((with_reducible show El _); refine nw ?_)
      | ((with_reducible show Hb _ _ _); refine Hb.mk _ rfl ?_)
      | ((with_reducible show Lj _ _); refine O0 ?_)
      | ((with_reducible show Ku _ _ _ _); refine O3 ?_)
      | ((with_reducible show F3 _ _ _); (first | refine O1 ?_ | refine O2 ?_)))
    | ((with_reducible show El (Ed _ _ _ _ _ [] _ _ _ _ _)); refine Kz ?_)
    | ((with_reducible show El (wc _ _ _ _ _ _ _ _ _)); refine nw ?_)
    | with_reducible refine Az ?_
    | with_reducible refine Cm ?_
    | with_reducible refine Aeu ?_
    | with_reducible refine Jt ?_
    | with_reducible refine K1 ?_
    | with_reducible refine Gc ?_
    | with_reducible refine Akv ?_
    | with_reducible refine Aew ?_
    | with_reducible refine Aev ?_
    | ((with_reducible refine cnd ?_); first | refine Gb rfl ?_ | refine Aeg rfl ?_)
    | ((with_reducible show Ln _ _ _); refine Ln.mk (by kernel_rfl) ?_)
    | ((with_reducible show wc _ _ (.cond _ _ _) _ _ _ _ _ _); first | refine Z1 ?_ | refine Sy ?_)
    | refine nw ?_
    | refine nx ?_
    | refine Kz ?_
    | refine N9 ?_
    | refine N8 ?_
    | (conv=>whnf
       first
      | ((with_reducible show El _); refine nw ?_)
      | ((with_reducible show Hb _ _ _); refine Hb.mk _ rfl ?_)
      | ((with_reducible show Lj _ _); refine O0 ?_)
      | ((with_reducible show Ku _ _ _ _); refine O3 ?_)
      | ((with_reducible show F3 _ _ _); (first | refine O1 ?_ | refine O2 ?_)))
  exact q.get):P:=h ⟨k⟩
theorem ZS {P Q:Prop} (k:Q) (h:Hd Q->P:=by
  intro q
  repeat first
    | ((with_reducible show El (Ed _ _ _ _ _ (_::_) _ _ _ _ _)); (first | refine nx ?_ | refine N9 ?_ | refine N8 ?_))
    | ((with_reducible refine opk ?_); conv=>whnf
       first
      | ((with_reducible show El _); refine nw ?_)
      | ((with_reducible show Hb _ _ _); refine Hb.mk _ rfl ?_)
      | ((with_reducible show Lj _ _); refine O0 ?_)
      | ((with_reducible show Ku _ _ _ _); refine O3 ?_)
      | ((with_reducible show F3 _ _ _); (first | refine O1 ?_ | refine O2 ?_)))
    | ((with_reducible show El (Ed _ _ _ _ _ [] _ _ _ _ _)); refine Kz ?_)
    | ((with_reducible show El (wc _ _ _ _ _ _ _ _ _)); refine nw ?_)
    | with_reducible refine Az ?_
    | with_reducible refine Aeu ?_
    | with_reducible refine Jt ?_
    | with_reducible refine K1 ?_
    | with_reducible refine Gc ?_
    | with_reducible refine Aew ?_
    | with_reducible refine Aev ?_
    | ((with_reducible refine cnd ?_); first | refine Gb rfl ?_ | refine Aeg rfl ?_)
    | ((with_reducible show Ln _ _ _); refine Ln.mk (by kernel_rfl) ?_)
    | ((with_reducible show wc _ _ (.cond _ _ _) _ _ _ _ _ _); first | refine Z1 ?_ | refine Sy ?_)
    | refine nw ?_
    | refine nx ?_
    | refine Kz ?_
    | refine N9 ?_
    | refine N8 ?_
    | (conv=>whnf
       first
      | ((with_reducible show El _); refine nw ?_)
      | ((with_reducible show Hb _ _ _); refine Hb.mk _ rfl ?_)
      | ((with_reducible show Lj _ _); refine O0 ?_)
      | ((with_reducible show Ku _ _ _ _); refine O3 ?_)
      | ((with_reducible show F3 _ _ _); (first | refine O1 ?_ | refine O2 ?_)))
  exact q.get):P:=h ⟨k⟩
theorem ZO {P Q:Prop} (k:Q) (h:Hd Q->P:=by
  intro q
  repeat first
    | ((with_reducible show El (Ed _ _ _ _ _ (_::_) _ _ _ _ _)); (first | refine nx ?_ | refine N9 ?_ | refine N8 ?_))
    | ((with_reducible refine opk ?_); conv=>whnf
       first
      | ((with_reducible show Hb _ _ _); refine Hb.mk _ rfl ?_)
      | ((with_reducible show Lj _ _); refine O0 ?_)
      | ((with_reducible show Ku _ _ _ _); refine O3 ?_)
      | ((with_reducible show F3 _ _ _); (first | refine O1 ?_ | refine O2 ?_)))
    | ((with_reducible show El (Ed _ _ _ _ _ [] _ _ _ _ _)); refine Kz ?_)
    | ((with_reducible show Ln _ _ _); refine Ln.mk (by kernel_rfl) ?_)
    | refine nx ?_
    | refine Kz ?_
    | refine N9 ?_
    | refine N8 ?_
    | (conv=>whnf
       first
      | ((with_reducible show Hb _ _ _); refine Hb.mk _ rfl ?_)
      | ((with_reducible show Lj _ _); refine O0 ?_)
      | ((with_reducible show Ku _ _ _ _); refine O3 ?_)
      | ((with_reducible show F3 _ _ _); (first | refine O1 ?_ | refine O2 ?_)))
  exact q.get):P:=h ⟨k⟩
theorem Y {P:Prop} (h:P:=by
  repeat' first
    | ((with_reducible show El (Ed _ _ _ _ _ (_::_) _ _ _ _ _)); first | refine nx ?_ | refine N9 ?_ | refine N8 ?_ | refine Fv h (fun _ h=>?_) (fun _ h=>?_))
    | ((with_reducible refine opk ?_); conv=>whnf
       first
      | ((with_reducible show El _); refine nw ?_)
      | ((with_reducible show Hb _ _ _); refine Hb.mk _ rfl ?_)
      | ((with_reducible show Lj _ _); refine O0 ?_)
      | ((with_reducible show Fk _ _ _ _ _ _); (first | refine Bh h (fun _ h=>?_) | refine Alh h (fun _ h=>?_)))
      | ((with_reducible show U9 _ _ _); refine B3 h (fun _ _ _ _ h=>?_))
      | ((with_reducible show P1 _ _ _ _ _); (first | refine Gx h (fun _ _ _ _ h=>?_) | refine K7 h (fun _ _ _ _ h=>?_)))
      | ((with_reducible show Ku _ _ _ _); refine O3 ?_)
      | ((with_reducible show Sl _ _ _ _); refine Ali ?_)
      | ((with_reducible show Mh _ _ _ _ _ _ _); (first | refine Alj h (fun _ h=>?_) | refine O4 h (fun _ h=>?_) | refine Afl h (fun _ h=>?_)))
      | ((with_reducible show P4 _ _ _); (first | refine Alk h (fun _ h=>?_) | refine All h (fun _ h=>?_)))
      | ((with_reducible show Sk _ _ _ _ _); refine Hf h (fun _ h=>?_))
      | ((with_reducible show P3 _ _ _ _); (first | refine Alm h (fun _ h=>?_) | refine Rl h (fun _ h=>?_)))
      | ((with_reducible show F3 _ _ _); (first | refine O1 ?_ | refine O2 ?_))
      | ((with_reducible show Ze _ _ _); refine Vl h (fun _ h=>?_))
      | ((with_reducible show Y8 _ _ _ _); refine Vk h (fun _ h=>?_))
      | ((with_reducible show Y9 _ _ _); refine Zz h (fun _ h=>?_))
      | ((with_reducible show Zb _ _ _ _); refine Aks h (fun _ h=>?_))
      | ((with_reducible show Za _ _ _ _); refine Akt h (fun _ h=>?_))
      | ((with_reducible show Zc _ _ _ _); refine Aes h (fun _ _ _ _ h=>?_))
      | ((with_reducible show Zf _ _); refine Gv h (fun h=>?_))
      | ((with_reducible show Zg _ _ _ _ _); refine Akn h (fun _ h=>?_))
      | ((with_reducible show Zh _ _ _ _); refine Ako h (fun _ h=>?_)))
    | ((with_reducible show El (Ed _ _ _ _ _ [] _ _ _ _ _)); refine Kz ?_)
    | ((with_reducible show El (wc _ _ _ _ _ _ _ _ _)); refine nw ?_)
    | with_reducible refine Az ?_
    | with_reducible refine Cm ?_
    | with_reducible refine Aeu ?_
    | with_reducible refine Jt ?_
    | with_reducible refine K1 ?_
    | with_reducible refine Gc ?_
    | with_reducible refine Akv ?_
    | with_reducible refine Aew ?_
    | with_reducible refine Aev ?_
    | ((with_reducible refine cnd ?_); first | refine Gb rfl ?_ | refine Aeg rfl ?_)
    | ((with_reducible show wc _ _ (.cond _ _ _) _ _ _ _ _ _); first | refine Ao h (fun _ h=>?_) (fun _ h=>?_) | refine Z1 ?_ | refine Sy ?_)
    | ((with_reducible show Ln _ _ _); refine Ln.mk (by kernel_rfl) ?_)
    | refine nx ?_
    | refine Kz ?_
    | refine N9 ?_
    | refine N8 ?_
    | refine Fv h (fun _ h=>?_) (fun _ h=>?_)
    | exact lpn h
    | exact jnn h
    | replace h:=Ck h
    | replace h:=lpj h
    | refine nw ?_
    | (conv=>whnf
       first
      | ((with_reducible show El _); refine nw ?_)
      | ((with_reducible show Hb _ _ _); refine Hb.mk _ rfl ?_)
      | ((with_reducible show Lj _ _); refine O0 ?_)
      | ((with_reducible show Fk _ _ _ _ _ _); (first | refine Bh h (fun _ h=>?_) | refine Alh h (fun _ h=>?_)))
      | ((with_reducible show U9 _ _ _); refine B3 h (fun _ _ _ _ h=>?_))
      | ((with_reducible show P1 _ _ _ _ _); (first | refine Gx h (fun _ _ _ _ h=>?_) | refine K7 h (fun _ _ _ _ h=>?_)))
      | ((with_reducible show Ku _ _ _ _); refine O3 ?_)
      | ((with_reducible show Sl _ _ _ _); refine Ali ?_)
      | ((with_reducible show Mh _ _ _ _ _ _ _); (first | refine Alj h (fun _ h=>?_) | refine O4 h (fun _ h=>?_) | refine Afl h (fun _ h=>?_)))
      | ((with_reducible show P4 _ _ _); (first | refine Alk h (fun _ h=>?_) | refine All h (fun _ h=>?_)))
      | ((with_reducible show Sk _ _ _ _ _); refine Hf h (fun _ h=>?_))
      | ((with_reducible show P3 _ _ _ _); (first | refine Alm h (fun _ h=>?_) | refine Rl h (fun _ h=>?_)))
      | ((with_reducible show F3 _ _ _); (first | refine O1 ?_ | refine O2 ?_))
      | ((with_reducible show Ze _ _ _); refine Vl h (fun _ h=>?_))
      | ((with_reducible show Y8 _ _ _ _); refine Vk h (fun _ h=>?_))
      | ((with_reducible show Y9 _ _ _); refine Zz h (fun _ h=>?_))
      | ((with_reducible show Zb _ _ _ _); refine Aks h (fun _ h=>?_))
      | ((with_reducible show Za _ _ _ _); refine Akt h (fun _ h=>?_))
      | ((with_reducible show Zc _ _ _ _); refine Aes h (fun _ _ _ _ h=>?_))
      | ((with_reducible show Zf _ _); refine Gv h (fun h=>?_))
      | ((with_reducible show Zg _ _ _ _ _); refine Akn h (fun _ h=>?_))
      | ((with_reducible show Zh _ _ _ _); refine Ako h (fun _ h=>?_)))
    | (have h:=Option.some.inj h; subst h; exact rfl)
    | (cases h; (repeat refine ⟨rfl,?_⟩); exact trivial)
    | (cases h; done)
):P:=h
end Go.Ab
namespace Go.Ab
open Go Go.Proofs
set_option maxRecDepth 10000
set_option linter.unusedVariables false
theorem Awn {a0 r:List Bb} (h:B9 16 [] a0=some r):Ax Go.Proofs.Tryz.prog 65 [As 2 Dd a0] (As 2 Dd r):=by
 have h:((B9 16 [] a0).bind fun o=>some o)=some r:=by rw [h]; rfl
 refine pw {T:=Cb,an:=(fun s=>bif Nat.beq s 5 then .own else .ask),nl:=(fun s=>bif Nat.beq s 2 then [(0,2)] else [])} Tryz.func65 ?_
 refine Az ?_
 refine Cm ?_
 refine ZO ?_
 refine Az (Az ?_)
 refine Sz (fun b:Bool=>b=true->a0 = []) (fun b=>[(4,Aq b)]) (fun _=>[]) (fun _=>rfl) ?_ ?_
 .intro K hK
  refine Z3 0 ?_
  intro v hv
  obtain ⟨p,c,rfl,hp⟩:=hv 2 (a0.map Dd) rfl
  refine Cm ?_
  refine nx ?_
  refine nx ?_
  refine Kz ?_
  refine hK p.isNone _ _ _ (fun e=>?_) ⟨rfl,trivial⟩ trivial
  cases p with
  | none=>simpa using hp rfl
  | some _=>cases e
 .rintro b _ hb
  cases b with
  | true=>
   have hb:=hb rfl
   subst hb
   have h:some ([]:List Bb)=some r:=by rw [<-h]; rfl
   exact Y
  | false=>
   refine Z ?_
   exact Y
theorem Awo {a0:List Bb} {r:List Bb×List Bb} (h:M8 16 a0=some r):Bn Go.Proofs.Tryz.prog 65 [As 2 Dd a0] [] (.arr 1 r.2.length 0 r.2.length) [.rows 86 2 (r.1.map Dd),.rows 86 2 (r.2.map Dd)]:=by
 have h:((B9 16 [] a0).bind fun o=>some (([]:List Bb),o))=some r:=h
 refine aw {T:=Cb,an:=(fun s=>bif Nat.beq s 5 then .own else bif Nat.beq s 2 then .own else .ask),nl:=(fun _=>[])} false Tryz.func65 ?_
 refine Az ?_
 refine Cm ?_
 refine ZO ?_
 refine Az (Az ?_)
 refine Sz (fun b:Bool=>b=true->a0 = []) (fun b=>[(4,Aq b)]) (fun _=>[]) (fun _=>rfl) ?_ ?_
 .intro K hK
  refine Z3 0 ?_
  intro v hv
  obtain ⟨p,c,rfl,hp⟩:=hv 2 (a0.map Dd) rfl
  refine Cm ?_
  refine nx ?_
  refine nx ?_
  refine Kz ?_
  refine hK p.isNone _ _ _ (fun e=>?_) ⟨rfl,trivial⟩ ⟨⟨rfl,rfl⟩,trivial⟩
  cases p with
  | none=>simpa using hp rfl
  | some _=>cases e
 .rintro b _ hb
  cases b with
  | true=>
   have hb:=hb rfl
   subst hb
   have h:some (([]:List Bb),([]:List Bb))=some r:=by rw [<-h]; rfl
   cases h
   refine ZO ?_
   exact Y
  | false=>
   refine Z ?_
   refine ZO ?_
   refine O4 h (fun _ h=>?_)
   exact Y
theorem Awp {a0:List Cg} {r:List Cg×List Cg} (h:M8 40 a0=some r):Bn Go.Proofs.Tryz.prog 214 [As 3 Fo a0] [] (.arr 1 r.2.length 0 r.2.length) [.rows 97 3 (r.1.map Fo),.rows 97 3 (r.2.map Fo)]:=by
 have h:((B9 40 [] a0).bind fun o=>some (([]:List Cg),o))=some r:=h
 refine aw {T:=Cb,an:=(fun s=>bif Nat.beq s 5 then .own else bif Nat.beq s 2 then .own else .ask),nl:=(fun _=>[])} false Tryz.func214 ?_
 refine Az ?_
 refine Cm ?_
 refine ZO ?_
 refine Az (Az ?_)
 refine Sz (fun b:Bool=>b=true->a0 = []) (fun b=>[(4,Aq b)]) (fun _=>[]) (fun _=>rfl) ?_ ?_
 .intro K hK
  refine Z3 0 ?_
  intro v hv
  obtain ⟨p,c,rfl,hp⟩:=hv 3 (a0.map Fo) rfl
  refine Cm ?_
  refine nx ?_
  refine nx ?_
  refine Kz ?_
  refine hK p.isNone _ _ _ (fun e=>?_) ⟨rfl,trivial⟩ ⟨⟨rfl,rfl⟩,trivial⟩
  cases p with
  | none=>simpa using hp rfl
  | some _=>cases e
 .rintro b _ hb
  cases b with
  | true=>
   have hb:=hb rfl
   subst hb
   have h:some (([]:List Cg),([]:List Cg))=some r:=by rw [<-h]; rfl
   cases h
   refine ZO ?_
   exact Y
  | false=>
   refine Z ?_
   refine ZO ?_
   refine O4 h (fun _ h=>?_)
   exact Y
theorem Awq {a0:List Ba} {r:List Ba×List Ba} (h:M8 40 a0=some r):Bn Go.Proofs.Tryz.prog 220 [As 3 Ev a0] [] (.arr 1 r.2.length 0 r.2.length) [.rows 101 3 (r.1.map Ev),.rows 101 3 (r.2.map Ev)]:=by
 have h:((B9 40 [] a0).bind fun o=>some (([]:List Ba),o))=some r:=h
 refine aw {T:=Cb,an:=(fun s=>bif Nat.beq s 5 then .own else bif Nat.beq s 2 then .own else .ask),nl:=(fun _=>[])} false Tryz.func220 ?_
 refine Az ?_
 refine Cm ?_
 refine ZO ?_
 refine Az (Az ?_)
 refine Sz (fun b:Bool=>b=true->a0 = []) (fun b=>[(4,Aq b)]) (fun _=>[]) (fun _=>rfl) ?_ ?_
 .intro K hK
  refine Z3 0 ?_
  intro v hv
  obtain ⟨p,c,rfl,hp⟩:=hv 3 (a0.map Ev) rfl
  refine Cm ?_
  refine nx ?_
  refine nx ?_
  refine Kz ?_
  refine hK p.isNone _ _ _ (fun e=>?_) ⟨rfl,trivial⟩ ⟨⟨rfl,rfl⟩,trivial⟩
  cases p with
  | none=>simpa using hp rfl
  | some _=>cases e
 .rintro b _ hb
  cases b with
  | true=>
   have hb:=hb rfl
   subst hb
   have h:some (([]:List Ba),([]:List Ba))=some r:=by rw [<-h]; rfl
   cases h
   refine ZO ?_
   exact Y
  | false=>
   refine Z ?_
   refine ZO ?_
   refine O4 h (fun _ h=>?_)
   exact Y
end Go.Ab
namespace Go.Ab
open Go Go.Proofs Go.Shelf
set_option maxRecDepth 100000
set_option linter.unusedVariables false
def Awr:Ren:={f:=fun x=>match x with | 189=>66 | 125=>108 | 257=>121 | 128=>177 | 129=>178 | 294=>186 | 295=>187 | 296=>188 | 297=>189 | 298=>190 | 299=>191 | 216=>192 | 300=>193 | 301=>194 | 328=>258 | 329=>245 | 330=>246 | 331=>259 | 332=>260 | 215=>179 | 343=>290 | n=>n,t:=fun x=>match x with | 28=>88 | 3=>3 | 46=>177 | 0=>0 | 51=>141 | 53=>196 | 4=>4 | 183=>245 | 182=>244 | 131=>124 | 5=>5 | 9=>9 | 218=>316 | 222=>138 | 228=>359 | 229=>360 | n=>n,g:=fun n=>n}
theorem Aws:Lays.n189 Go.Proofs.Tryz.prog Awr:=by
 constructor
 all_goals first | kernel_rfl | (intro w; kernel_rfl) | constructor
 all_goals first | kernel_rfl | (intro w; kernel_rfl)
theorem Co.up {σ:Av} {ι:Bz} {H:Hp} {F:Av} {w w':World} {x:Nat} (h:Co σ ι H F w x) (hk:∀(b:Nat) (o:Obj),w.heap[b]? = some o->w'.heap[b]? = some o):Co σ ι H F w' x:=by
 unfold Co at h ⊢
 cases hx:H x with
 | none=>rw [hx] at h; exact h
 | dead=>trivial
 | cells E cs=>
  rw [hx] at h
  obtain ⟨b,C,h1,h2,h3,g,f⟩:=h
  exact ⟨b,C,h1,h2,h3,hk _ _ g,f⟩
 | rows E sz xs=>
  rw [hx] at h
  obtain ⟨h0,h1,h2⟩:=h
  refine ⟨h0,h1,?_⟩
  rcases h2 with h2 | ⟨b,c,C,q,l,k,j,i⟩
  .exact .inl h2
  .exact .inr ⟨b,c,C,q,l,k,hk _ _ j,i⟩
 | map es=>
  rw [hx] at h
  obtain ⟨b,M,t,h1,h2,h3,g,f⟩:=h
  exact ⟨b,M,t,h1,h2,h3,hk _ _ g,f⟩
theorem St.growG {σ:Av} {ι:Bz} {H:Hp} {F:Av} {W w:World} (s:St σ ι H F W w) (k:Nat) (os:Array Obj):St σ ι H F W (Sort.grow (Sort.ahead w k) os):=by
 have hk:∀(b:Nat) (o:Obj),w.heap[b]? = some o->(Sort.grow (Sort.ahead w k) os).heap[b]? = some o:=by
  intro b o h
  have c:=(Array.getElem?_eq_some_iff.1 h).1
  show (w.heap++os)[b]? = _
  rw [Array.getElem?_append_left c]; exact h
 exact ⟨fun b o h=>hk b o (s.sto b o h),fun b o h=>⟨hk b o (s.fra b o h).1,(s.fra b o h).2⟩,fun h=>(s.obj h).up hk,s.inj,s.os,s.tape,s.output,s.glo,Nat.le_trans s.drw (Nat.le_add_right _ _)⟩
theorem Aln {α:Type} [Inhabited α] (enc:α->Value) (w:World) (b:Nat) (d:Array α) (C:Array Value) (E:TypeId) (h:w.heap[b]? = some (.cells C E (0,0))):Sort.putRow enc w b 0 d=w.setRow b (Sort.putCells enc 0 d C):=by
 have c:(Sort.putRow enc w b 0 d).heap=(w.setRow b (Sort.putCells enc 0 d C)).heap:=by
  apply Array.ext_getElem?
  intro i
  simp only [Sort.putRow,Sort.mapBlock,World.setRow,Array.getElem?_modify]
  split
  .rename_i e; subst e
   rw [h]; simp [Sort.onCells]
  .rfl
 unfold Sort.putRow Sort.mapBlock World.setRow at c ⊢
 simp only at c
 rw [c]
theorem Awt {b r:List Int} (h:Akg b=some r) (M:b≠[]):Bn Go.Proofs.Tryz.prog 66 [.arr 0 b.length 0 b.length] [.rows 3 1 (List.map (O .i64) b)] (.tup []) [.rows 3 1 (List.map (O .i64) r)]:=by
 cases h
 .skip
  refine ⟨⟨_,Tryz.func66,by kernel_rfl,by kernel_rfl⟩,fun σ F W w ι vs s J=>?_⟩
  obtain ⟨v,rfl,hv⟩:=T5 J
  have hh:hp [.rows 3 1 (List.map (O .i64) b)] 0 = .rows 3 1 (List.map (O .i64) b):=rfl
  have l:=hv.arr_inv hh (by simp)
  have hor:=s.obj 0
  unfold Co at hor
  rw [hh] at hor
  obtain ⟨_,G,hor⟩:=hor
  rw [List.length_map] at G
  rcases hor with ⟨_,E⟩ | ⟨g,q,D,Y,g1,g2,g3,g4,g5,g6⟩
  .exact (M (by simpa using E)).elim
  .rw [List.length_map] at g5
   unfold Fj at l
   rw [Y] at l
   simp only [Nat.zero_mul,Nat.zero_add,Nat.sub_zero] at l
   obtain ⟨ht,B⟩:=l
   subst B
   have k:∀(j:Nat) (x:Int),b[j]? = some x->D[j]? = some (Value.int .i64 x):=by
    intro j x hx
    obtain ⟨Z,q1,q2,q3⟩:=g6
    have A:(List.map (O .i64) b)[j]? = some (O .i64 x):=by rw [List.getElem?_map,hx]; rfl
    have N:j<(List.map (O .i64) b).length:=(List.getElem?_eq_some_iff.1 A).1
    have V:=q3 j 0 N (by omega)
    have U:=(q2 j _ 0 _ A rfl).1
    have:Z j 0=Value.int .i64 x:=by
     generalize Z j 0=z at U
     cases U; rfl
    rw [this] at V
    simpa using V
   have hH:Sort.Holds (Value.int .i64) w g 0 b.toArray:=by
    intro j hj
    have hj':j<b.length:=by simpa using hj
    have hx:b[j]? = some b[j]:=List.getElem?_eq_getElem hj'
    have hD:=k j _ hx
    have e1:b.toArray[j]! = b[j]:=by
     rw [getElem!_pos b.toArray j hj]; simp
    rw [e1]
    refine ⟨?_,?_⟩
    .rw [Nat.zero_add,Iz g3]; exact hD
    .simp [World.frozen?,g3]
   have call:=Any.slices_Sort_int Aws g 0 q b w hH (Array.getElem?_eq_some_iff.1 g3).1 (by omega)
   refine call.mono ?_
   rintro e w' ⟨rfl,n,os,rfl⟩
   generalize hr:b.mergeSort (fun x y=>decide (x<=y))=r
   have I:r.length=b.length:=by rw [<-hr]; exact List.length_mergeSort b
   have L:(Sort.putCells (Value.int .i64) 0 r.toArray D).size=q*1:=by unfold Sort.putCells; rw [Array.size_mapIdx]; exact g4
   obtain ⟨s',le⟩:=s.setRows 0 3 1 _ (List.map (O .i64) r) hh g q Y (by simp [I]) (Sort.putCells (Value.int .i64) 0 r.toArray D) L (by
    refine ⟨fun i _=>match r[i]? with | some z=>.int .i64 z | none=>.bool false,?_,?_,?_⟩
    .intro i x hx
     rw [List.getElem?_map] at hx
     obtain ⟨z,X,rfl⟩:=Option.map_eq_some_iff.1 hx
     rfl
    .intro i x j c hx f
     rw [List.getElem?_map] at hx
     obtain ⟨z,X,rfl⟩:=Option.map_eq_some_iff.1 hx
     have f:([O .i64 z]:List AV)[j]? = some c:=f
     match j with
     | 0=>cases f; simp only [X]; exact ⟨.val _,rfl⟩
     | j+1=>simp at f
    .intro i j hi hj
     have R:j=0:=by omega
     subst R
     have u:i<r.length:=by simpa using hi
     have S:i<D.size:=by rw [g4]; omega
     simp only [Nat.mul_one,Nat.add_zero,List.getElem?_eq_getElem u]
     unfold Sort.putCells
     rw [Array.getElem?_mapIdx,Array.getElem?_eq_getElem S]
     simp only [Option.map_some,Nat.zero_le,true_and,Nat.zero_add,List.size_toArray,u,if_true,Nat.sub_zero]
     congr 2
     rw [getElem!_pos r.toArray i (by simpa using u)]; simp)
   have eH:A5 (hp [.rows 3 1 (List.map (O .i64) b)]) 0 (.rows 3 1 (List.map (O .i64) r))=hp [.rows 3 1 (List.map (O .i64) r)]:=by
    funext i
    match i with
    | 0=>rfl
    | i+1=>rfl
   rw [eH] at le s'
   have eW:Sort.grow (Sort.putRow (Value.int .i64) (Sort.ahead w n) g 0 r.toArray) os=Sort.grow (Sort.ahead (w.setRow g (Sort.putCells (Value.int .i64) 0 r.toArray D)) n) os:=by
    rw [Aln (Value.int .i64) (Sort.ahead w n) g r.toArray D 3 g3]
    rfl
   rw [eW]
   exact ⟨_,σ,ι,rfl,le,s'.growG n os,.tup _ _ rfl (fun i c v h1 _=>by cases h1)⟩
end Go.Ab
namespace Go.Ab
open Go Go.Proofs Go.Shelf Go.Sort
set_option maxRecDepth 100000
set_option linter.unusedVariables false
theorem Awu {v:Value} (h:D4 v=true):v.oneCell'=true:=by cases v <;> first | rfl | cases h
theorem Awv {σ:Av} {ι:Bz} {H:Hp} {f:FuncId} {v:Value} (h:Conc σ ι H (.fn f []) v):v = .func (.func f) #[] #[]:=by
 cases h with
 | cc h=>cases h
 | fn _ _ vs b _=>
  have:vs = #[]:=Array.size_eq_zero_iff.1 (by simpa using b)
  rw [this]
def Alo {α:Type} (σ:Av) (eA:α->AV) (sz:Nat) (S:List α) (x:α) (c:List Value):Prop :=
 x∈S/\(eA x).cells.length=sz/\c.length=sz/\∀(j:Nat) (a:AV) (v:Value),(eA x).cells[j]? = some a->c[j]? = some v->CC σ a v/\D4 v=true
abbrev Mt {α:Type} (σ:Av) (eA:α->AV) (sz:Nat) (S:List α):Type:={p:α×List Value // Alo σ eA sz S p.1 p.2}
theorem Aww {σ:Av} {W w':World} (g:∀b o,W.heap[b]? = some o->σ b=some o) (s:St σ ι0 H0 (fun _=>none) W w'):∃q f,w'=grow (W.drewN q) f:=by
 have hk:∀b o,W.heap[b]? = some o->w'.heap[b]? = some o:=fun b o h=>s.sto b o (g b o h)
 have j:W.heap.size<=w'.heap.size:=by
  rcases Nat.eq_zero_or_pos W.heap.size with h | h
  .omega
  .have:=hk (W.heap.size-1) _ (Array.getElem?_eq_getElem (by omega))
   have:=(Array.getElem?_eq_some_iff.1 this).1
   omega
 refine ⟨w'.drawn-W.drawn,w'.heap.extract W.heap.size w'.heap.size,?_⟩
 have c:w'.heap=W.heap++w'.heap.extract W.heap.size w'.heap.size:=by
  apply Array.ext_getElem?
  intro i
  by_cases hi:i<W.heap.size
  .rw [Array.getElem?_append_left hi,Array.getElem?_eq_getElem hi]
   exact hk i _ (Array.getElem?_eq_getElem hi)
  .rw [Array.getElem?_append_right (by omega)]
   by_cases hj:i<w'.heap.size
   .rw [Array.getElem?_eq_getElem hj,Array.getElem?_eq_getElem (by simp; omega)]
    simp only [Array.getElem_extract]
    congr 2
    omega
   .rw [Array.getElem?_eq_none (by omega),Array.getElem?_eq_none (by simp; omega)]
 have h1:=s.os
 have h2:=s.tape
 have h3:=s.output
 have k:=s.drw
 cases w' with
 | mk heap tape drawn os output=>
  simp only at h1 h2 h3 k c
  unfold grow World.drewN
  simp only [World.mk.injEq]
  exact ⟨c,h2,by omega,h1,h3⟩
theorem Alp {ρ:Ren} {α:Type} {eA:α->AV} {E:TypeId} {sz f g:Nat} {cmp:α->α->Option Int} (L:SlLaysF0.n6 Go.Proofs.Tryz.prog ρ) (hf:ρ.f 6=f) (a6:Y7 Go.Proofs.Tryz.prog f)
  (aE:∀w,(isAgg (ρ.t 24)).run Go.Proofs.Tryz.prog w = .ok true w) (zE:∀w,(Go.sizeOf (ρ.t 24)).run Go.Proofs.Tryz.prog w = .ok sz w) (eg:∀args w,(callFunc g args).run Go.Proofs.Tryz.prog w = .ok (.enter g args) w)
  (ax:∀x y n,cmp x y=some n->Ax Go.Proofs.Tryz.prog g [eA x,eA y] (O .i64 n)) (az:∀x,∃cs,eA x = .agg cs) {l r:List α} (h:M7 cmp l=some r) (aj:l≠[]) :
  Bn Go.Proofs.Tryz.prog f [.arr 0 l.length 0 l.length,.fn g []] [.rows E sz (l.map eA)] (.tup []) [.rows E sz (r.map eA)]:=by
 obtain ⟨cf,law,bb,G,A⟩:=Av8 h
 refine ⟨a6,fun σ F W w ι vs s av=>?_⟩
 obtain ⟨v,v2,rfl,hv,b5⟩:=Afk av
 obtain rfl:=Awv b5
 have hh:hp [.rows E sz (l.map eA)] 0 = .rows E sz (l.map eA):=rfl
 have N:=hv.arr_inv hh (by simp)
 have hor:=s.obj 0
 unfold Co at hor
 rw [hh] at hor
 obtain ⟨S,am,hor⟩:=hor
 rw [List.length_map] at am
 rcases hor with ⟨_,ah⟩ | ⟨b,U,D,hb,g1,g2,g3,g4,g5,g6⟩
 .exact (aj (by simpa using ah)).elim
 rw [List.length_map] at g5
 unfold Fj at N
 rw [hb] at N
 simp only [Nat.zero_mul,Nat.sub_zero] at N
 obtain ⟨ht,aa⟩:=N
 subst aa
 obtain ⟨gg,q1,q2,q3⟩:=g6
 have a8:∀(i:Nat) (x:α),l[i]? = some x->(l.map eA)[i]? = some (eA x):=fun i x hx=>by rw [List.getElem?_map,hx]; rfl
 have Z:∀(i:Nat) (hi:i<l.length),Alo σ eA sz l l[i] ((List.range sz).map (gg i)):=by
  intro i hi
  have hx:l[i]? = some l[i]:=List.getElem?_eq_getElem hi
  refine ⟨List.getElem_mem hi,q1 i _ (a8 i _ hx),by simp,fun j a v ha hv=>?_⟩
  rw [List.getElem?_map,Option.map_eq_some_iff] at hv
  obtain ⟨k,hk,rfl⟩:=hv
  have b9:k=j:=by
   have:=(List.getElem?_eq_some_iff.1 hk).2
   simpa using this.symm
  subst b9
  exact q2 i _ k a (a8 i _ hx) ha
 have hpos:0<l.length:=List.length_pos_iff.2 aj
 let d:Array (Mt σ eA sz l):=Array.ofFn fun i:Fin l.length=>⟨(l[i.1],(List.range sz).map (gg i.1)),Z i.1 i.2⟩
 haveI:Inhabited (Mt σ eA sz l):=⟨⟨(l[0],(List.range sz).map (gg 0)),Z 0 hpos⟩⟩
 have B:d.size=l.length:=by simp [d]
 have ba:∀i (hi:i<l.length),d[i]! = ⟨(l[i],(List.range sz).map (gg i)),Z i hi⟩:=fun i hi=>by
  rw [getElem!_pos d i (by rw [B]; exact hi)]; simp [d]
 let enc:Mt σ eA sz l->List Value:=fun p=>p.1.2
 have hk:∀x:Mt σ eA sz l,(enc x).length=sz:=fun x=>x.2.2.2.1
 have h1:∀x:Mt σ eA sz l,∀v∈enc x,v.oneCell'=true:=by
  intro x v hv
  obtain ⟨j,hj⟩:=List.getElem?_of_mem hv
  have q:=(List.getElem?_eq_some_iff.1 hj).1
  rw [hk x] at q
  have ha:(eA x.1.1).cells[j]? = some ((eA x.1.1).cells[j]'(by rw [x.2.2.1]; exact q)):=List.getElem?_eq_getElem _
  exact Awu (x.2.2.2.2 j _ v ha hj).2
 let a7:Mt σ eA sz l->Mt σ eA sz l->Int:=fun x y=>cf x.1.1 y.1.1
 have hO:SWO (ltOf a7):=by
  constructor
  .intro x; exact decide_eq_false (law.irr x.1.1)
  .intro x y z X V
   exact decide_eq_true (law.trs _ _ _ (of_decide_eq_true X) (of_decide_eq_true V))
  .intro x y z X V
   exact decide_eq_false (law.ntr _ _ _ (of_decide_eq_false X) (of_decide_eq_false V))
 have hH:HoldsK enc sz w b 0 d:=by
  intro t Y
  rw [size_flatK,B] at Y
  have ac:t / sz<l.length:=Nat.div_lt_of_lt_mul (by rw [Nat.mul_comm]; exact Y)
  have ab:t % sz<sz:=Nat.mod_lt _ S
  rw [get_flatK _ _ _ _ (by rw [B]; exact Y),ba _ ac]
  have e:=q3 (t / sz) (t % sz) (by rw [List.length_map]; exact ac) ab
  rw [show t / sz*sz+t % sz=t by rw [Nat.mul_comm]; exact Nat.div_add_mod t sz] at e
  refine ⟨?_,?_⟩
  .rw [Nat.zero_add,Iz g3,e]
   show some _=some (id _)
   congr 1
   show gg _ _=((List.range sz).map (gg (t / sz)))[t % sz]!
   rw [getElem!_pos _ _ (by simpa using ab)]
   simp
  .simp [World.frozen?,g3]
 have hblk:b<w.heap.size:=(Array.getElem?_eq_some_iff.1 g3).1
 have hC:CmpLays Go.Proofs.Tryz.prog g #[] enc sz a7 b 0 d.size w:=by
  intro m os dk hs x y
  generalize b4:sortWorldK enc sz w b 0 m dk os=R
  have ap:∀b' o,σ b'=some o->R.heap[b']? = some o:=by
   intro b' o ho
   have ai:b≠b':=by
    rintro rfl
    rw [g1] at ho; cases ho
   have e:=s.sto b' o ho
   have q:=(Array.getElem?_eq_some_iff.1 e).1
   rw [<-b4]
   show ((w.heap.modify b _)++os)[b']? = _
   rw [Array.getElem?_append_left (by simpa using q),Array.getElem?_modify,if_neg ai]; exact e
  have ar:=bb x.1.1 x.2.1 y.1.1 y.2.1
  have hp:=ax _ _ _ ar
  have s1:St ((fun b=>R.heap[b]?)) ι0 H0 (fun _=>none) R R:=⟨fun _ _ e=>e,(fun _ _ e=>by cases e),fun _=>rfl,(fun _ _ _ hl=>by cases hl),rfl,rfl,rfl,s.glo.mono ap,Nat.le_refl _⟩
  have ay:∀z:Mt σ eA sz l,Conc ((fun b=>R.heap[b]?)) ι0 H0 (eA z.1.1) (.agg (enc z).toArray):=by
   intro z
   obtain ⟨cs,au⟩:=az z.1.1
   have I:(eA z.1.1).cells=cs:=by rw [au]; rfl
   rw [au]
   refine .cc (.agg _ _ ?_ fun i c v hc hv=>?_)
   .rw [<-I,z.2.2.1]; simp [hk z]
   .rw [<-I] at hc
    exact (z.2.2.2.2 i c v hc (by simpa using hv)).1.mono ap
  refine (hp.2 ((fun b=>R.heap[b]?)) (fun _=>none) R R _ s1 ⟨rfl,?_⟩).mono ?_
  .intro i a v ha hv
   match i,ha,hv with
   | 0,ha,hv=>cases ha; cases hv; exact ay x
   | 1,ha,hv=>cases ha; cases hv; exact ay y
   | n+2,ha,hv=>simp at ha
  .rintro e w' ⟨v,σ',rfl,ao,b6,hc⟩
   refine ⟨?_,?_⟩
   .cases hc with
    | cc h=>cases h; rfl
   .exact Aww (σ:=σ') (fun b o ho=>ao b o ho) b6
 have call:=AnyQ.slices_SortFunc L sz aE zE enc hk h1 a7 hO g #[] b 0 U d w eg hC hH hblk (by rw [B]; omega)
 rw [hf,B] at call
 refine call.mono ?_
 rintro e w' ⟨rfl,u,n,os,b8,b7,rfl⟩
 obtain ⟨p1,p2,p3⟩:=b8
 have M:u.size=l.length:=by rw [p1,B]
 have J:∀(a:Array (Mt σ eA sz l)),a.size=l.length->(a.extract 0 l.length).toList=a.toList:=fun a ha=>by
  rw [<-ha]; simp
 rw [J u M,J d B] at p3
 have ak:d.toList.map (fun p=>p.1.1)=l:=by
  apply List.ext_getElem
  .simp [B]
  .intro i bf be
   simp [d]
 have ag:(u.toList.map fun p=>p.1.1).Perm l:=by
  have:=p3.map fun p:Mt σ eA sz l=>p.1.1
  rwa [ak] at this
 have hR:(u.toList.map fun p=>p.1.1).Pairwise fun x y=>cf x y<0\/cf y x<0:=by
  refine ((ag.trans G.symm).pairwise_iff (fun {x y} h=>h.symm)).2 ?_
  exact A.imp fun h=>.inl h
 have hS:(u.toList.map fun p=>p.1.1).Pairwise fun x y=>cf x y<0:=by
  rw [List.pairwise_iff_getElem] at hR ⊢
  intro i j hi hj aq
  simp only [List.length_map,Array.length_toList] at hi hj
  rcases hR i j (by simpa using hi) (by simpa using hj) aq with h | h
  .exact h
  .have:=b7 i j (Nat.zero_le _) aq (by omega)
   rw [getElem!_pos u i hi,getElem!_pos u j hj] at this
   have:=of_decide_eq_false this
   simp only [List.getElem_map,Array.getElem_toList] at h
   exact (this h).elim
 have af:u.toList.map (fun p=>p.1.1)=r:=by
  refine List.Perm.eq_of_pairwise (le:=fun x y=>cf x y<0) (fun x y _ _ h1 h2=>(law.irr x (law.trs _ _ _ h1 h2)).elim) hS A (ag.trans G.symm)
 have ae:r.length=l.length:=G.length_eq
 have bd:(flatK enc sz u).size=l.length*sz:=by rw [size_flatK,M]
 have b3:(Sort.putCells id 0 (flatK enc sz u) D).size=U*sz:=by unfold Sort.putCells; rw [Array.size_mapIdx]; exact g4
 have ad:∀(i:Nat) (x:α),r[i]? = some x->i<u.size/\(u[i]!).1.1=x:=by
  intro i x hx
  rw [<-af,List.getElem?_map,Option.map_eq_some_iff] at hx
  obtain ⟨p,hp,rfl⟩:=hx
  have q:=(List.getElem?_eq_some_iff.1 hp).1
  simp only [Array.length_toList] at q
  refine ⟨q,?_⟩
  rw [getElem!_pos u i q]
  have:=(List.getElem?_eq_some_iff.1 hp).2
  simp only [Array.getElem_toList] at this
  rw [this]
 obtain ⟨s',le⟩:=s.setRows 0 E sz _ (r.map eA) hh b U hb (by simp [ae]) (Sort.putCells id 0 (flatK enc sz u) D) b3 (by
  refine ⟨fun i j=>(enc u[i]!)[j]!,?_,?_,?_⟩
  .intro i x hx
   rw [List.getElem?_map] at hx
   obtain ⟨z,hz,rfl⟩:=Option.map_eq_some_iff.1 hx
   obtain ⟨e1,e2⟩:=ad i z hz
   rw [<-e2]; exact (u[i]!).2.2.1
  .intro i x j c hx a1
   rw [List.getElem?_map] at hx
   obtain ⟨z,hz,rfl⟩:=Option.map_eq_some_iff.1 hx
   obtain ⟨e1,e2⟩:=ad i z hz
   rw [<-e2] at a1
   have q:=(List.getElem?_eq_some_iff.1 a1).1
   rw [(u[i]!).2.2.1,<-(u[i]!).2.2.2.1] at q
   have hg:(u[i]!).1.2[j]? = some ((enc u[i]!)[j]!):=by
    rw [List.getElem?_eq_getElem q,getElem!_pos (enc u[i]!) j q]
   exact (u[i]!).2.2.2.2 j c _ a1 hg
  .intro i j hi hj
   rw [List.length_map,ae] at hi
   have q:i*sz+j<l.length*sz:=by
    have:=Nat.mul_le_mul_right sz (show i+1<=l.length from hi)
    rw [Nat.add_mul,Nat.one_mul] at this; omega
   have hD:i*sz+j<D.size:=by
    rw [g4]
    exact Nat.lt_of_lt_of_le q (Nat.mul_le_mul_right sz g5)
   unfold Sort.putCells
   rw [Array.getElem?_mapIdx,Array.getElem?_eq_getElem hD]
   simp only [Option.map_some,Nat.zero_le,true_and,Nat.zero_add,bd,q,if_true,Nat.sub_zero]
   congr 1
   show id ((flatK enc sz u)[i*sz+j]!)=_
   rw [get_flatK _ _ _ _ (by rw [M]; exact q)]
   have e1:(i*sz+j) / sz=i:=by rw [Nat.mul_comm,Nat.mul_add_div S,Nat.div_eq_of_lt hj,Nat.add_zero]
   have e2:(i*sz+j) % sz=j:=by rw [Nat.mul_comm,Nat.mul_add_mod,Nat.mod_eq_of_lt hj]
   rw [e1,e2]; rfl)
 have eH:A5 (hp [.rows E sz (l.map eA)]) 0 (.rows E sz (r.map eA))=hp [.rows E sz (r.map eA)]:=by
  funext i
  match i with
  | 0=>rfl
  | i+1=>rfl
 rw [eH] at le s'
 have eW:sortWorldK enc sz w b 0 n u os=Sort.grow (Sort.ahead (w.setRow b (Sort.putCells id 0 (flatK enc sz u) D)) n) os:=by
  unfold sortWorldK putRowK
  rw [Aln id (Sort.ahead w n) b (flatK enc sz u) D E g3]
  rfl
 rw [eW]
 exact ⟨_,σ,ι,rfl,le,s'.growG n os,.tup _ _ rfl (fun i c v h1 _=>by cases h1)⟩
def Awx:Ren:={f:=fun x=>match x with | 6=>56 | 15=>108 | 14=>107 | 28=>177 | 29=>178 | 20=>169 | 21=>170 | 22=>171 | 23=>172 | 24=>173 | 25=>174 | 26=>175 | 27=>176 | 46=>244 | 47=>245 | 48=>246 | 49=>247 | 50=>248 | 57=>286 | n=>n,t:=fun x=>match x with | 22=>36 | 24=>72 | 25=>126 | 3=>3 | 39=>177 | 0=>0 | 53=>141 | 55=>196 | 4=>4 | 46=>245 | 45=>244 | 50=>124 | 5=>5 | 9=>9 | 66=>316 | 70=>138 | 76=>359 | 77=>360 | n=>n,g:=fun n=>n}
theorem Awy:SlLaysF0.n6 Go.Proofs.Tryz.prog Awx:=by
 constructor
 case f6=>exact Exists.intro "slices.SortFunc[[]amortcost/api.Term,amortcost/api.Term]" ⟨by kernel_rfl,by kernel_rfl⟩
 case f14=>exact Exists.intro "slices.pdqsortCmpFunc[amortcost/api.Term]" ⟨by kernel_rfl,by kernel_rfl⟩
 case f20=>exact Exists.intro "slices.insertionSortCmpFunc[amortcost/api.Term]" ⟨by kernel_rfl,by kernel_rfl⟩
 case f21=>exact Exists.intro "slices.heapSortCmpFunc[amortcost/api.Term]" ⟨by kernel_rfl,by kernel_rfl⟩
 case f22=>exact Exists.intro "slices.breakPatternsCmpFunc[amortcost/api.Term]" ⟨by kernel_rfl,by kernel_rfl⟩
 case f23=>exact Exists.intro "slices.choosePivotCmpFunc[amortcost/api.Term]" ⟨by kernel_rfl,by kernel_rfl⟩
 case f24=>exact Exists.intro "slices.reverseRangeCmpFunc[amortcost/api.Term]" ⟨by kernel_rfl,by kernel_rfl⟩
 case f25=>exact Exists.intro "slices.partialInsertionSortCmpFunc[amortcost/api.Term]" ⟨by kernel_rfl,by kernel_rfl⟩
 case f26=>exact Exists.intro "slices.partitionEqualCmpFunc[amortcost/api.Term]" ⟨by kernel_rfl,by kernel_rfl⟩
 case f27=>exact Exists.intro "slices.partitionCmpFunc[amortcost/api.Term]" ⟨by kernel_rfl,by kernel_rfl⟩
 case f46=>exact Exists.intro "slices.siftDownCmpFunc[amortcost/api.Term]" ⟨by kernel_rfl,by kernel_rfl⟩
 case f49=>exact Exists.intro "slices.medianAdjacentCmpFunc[amortcost/api.Term]" ⟨by kernel_rfl,by kernel_rfl⟩
 case f50=>exact Exists.intro "slices.medianCmpFunc[amortcost/api.Term]" ⟨by kernel_rfl,by kernel_rfl⟩
 case f57=>exact Exists.intro "slices.order2CmpFunc[amortcost/api.Term]" ⟨by kernel_rfl,by kernel_rfl⟩
 all_goals first | kernel_rfl | (intro w; kernel_rfl)
theorem Awz {α:Type} {eA:α->AV} {g:Nat} {cmp:α->α->Option Int} (j:∀args w,(callFunc g args).run Go.Proofs.Tryz.prog w = .ok (.enter g args) w)
  (b:∀x y n,cmp x y=some n->Ax Go.Proofs.Tryz.prog g [eA x,eA y] (O .i64 n)) (c:∀x,∃cs,eA x = .agg cs) {f r:List α} (h:M7 cmp f=some r) (i:f≠[]) :
  Bn Go.Proofs.Tryz.prog 56 [.arr 0 f.length 0 f.length,.fn g []] [.rows 72 5 (f.map eA)] (.tup []) [.rows 72 5 (r.map eA)] :=
 Alp Awy rfl ⟨_,Tryz.func56,by kernel_rfl,by kernel_rfl⟩ (by intro w; kernel_rfl) (by intro w; kernel_rfl) j b c h i
def Aw0:Ren:={f:=fun x=>match x with | 6=>118 | 15=>108 | 14=>185 | 28=>177 | 29=>178 | 20=>250 | 21=>251 | 22=>252 | 23=>253 | 24=>254 | 25=>255 | 26=>256 | 27=>257 | 46=>287 | 47=>245 | 48=>246 | 49=>288 | 50=>289 | 57=>320 | n=>n,t:=fun x=>match x with | 22=>22 | 24=>86 | 25=>186 | 3=>3 | 39=>177 | 0=>0 | 53=>141 | 55=>196 | 4=>4 | 46=>245 | 45=>244 | 50=>124 | 5=>5 | 9=>9 | 66=>316 | 70=>138 | 76=>359 | 77=>360 | n=>n,g:=fun n=>n}
theorem Aw1:SlLaysF0.n6 Go.Proofs.Tryz.prog Aw0:=by
 constructor
 case f6=>exact Exists.intro "slices.SortFunc[[]amortcost/api.LinTerm,amortcost/api.LinTerm]" ⟨by kernel_rfl,by kernel_rfl⟩
 case f14=>exact Exists.intro "slices.pdqsortCmpFunc[amortcost/api.LinTerm]" ⟨by kernel_rfl,by kernel_rfl⟩
 case f20=>exact Exists.intro "slices.insertionSortCmpFunc[amortcost/api.LinTerm]" ⟨by kernel_rfl,by kernel_rfl⟩
 case f21=>exact Exists.intro "slices.heapSortCmpFunc[amortcost/api.LinTerm]" ⟨by kernel_rfl,by kernel_rfl⟩
 case f22=>exact Exists.intro "slices.breakPatternsCmpFunc[amortcost/api.LinTerm]" ⟨by kernel_rfl,by kernel_rfl⟩
 case f23=>exact Exists.intro "slices.choosePivotCmpFunc[amortcost/api.LinTerm]" ⟨by kernel_rfl,by kernel_rfl⟩
 case f24=>exact Exists.intro "slices.reverseRangeCmpFunc[amortcost/api.LinTerm]" ⟨by kernel_rfl,by kernel_rfl⟩
 case f25=>exact Exists.intro "slices.partialInsertionSortCmpFunc[amortcost/api.LinTerm]" ⟨by kernel_rfl,by kernel_rfl⟩
 case f26=>exact Exists.intro "slices.partitionEqualCmpFunc[amortcost/api.LinTerm]" ⟨by kernel_rfl,by kernel_rfl⟩
 case f27=>exact Exists.intro "slices.partitionCmpFunc[amortcost/api.LinTerm]" ⟨by kernel_rfl,by kernel_rfl⟩
 case f46=>exact Exists.intro "slices.siftDownCmpFunc[amortcost/api.LinTerm]" ⟨by kernel_rfl,by kernel_rfl⟩
 case f49=>exact Exists.intro "slices.medianAdjacentCmpFunc[amortcost/api.LinTerm]" ⟨by kernel_rfl,by kernel_rfl⟩
 case f50=>exact Exists.intro "slices.medianCmpFunc[amortcost/api.LinTerm]" ⟨by kernel_rfl,by kernel_rfl⟩
 case f57=>exact Exists.intro "slices.order2CmpFunc[amortcost/api.LinTerm]" ⟨by kernel_rfl,by kernel_rfl⟩
 all_goals first | kernel_rfl | (intro w; kernel_rfl)
theorem Aw2 {α:Type} {eA:α->AV} {g:Nat} {cmp:α->α->Option Int} (j:∀args w,(callFunc g args).run Go.Proofs.Tryz.prog w = .ok (.enter g args) w)
  (b:∀x y n,cmp x y=some n->Ax Go.Proofs.Tryz.prog g [eA x,eA y] (O .i64 n)) (c:∀x,∃cs,eA x = .agg cs) {f r:List α} (h:M7 cmp f=some r) (i:f≠[]) :
  Bn Go.Proofs.Tryz.prog 118 [.arr 0 f.length 0 f.length,.fn g []] [.rows 86 2 (f.map eA)] (.tup []) [.rows 86 2 (r.map eA)] :=
 Alp Aw1 rfl ⟨_,Tryz.func118,by kernel_rfl,by kernel_rfl⟩ (by intro w; kernel_rfl) (by intro w; kernel_rfl) j b c h i
end Go.Ab
namespace Go.Ab
open Go Go.Proofs Go.Shelf
set_option maxRecDepth 100000
set_option linter.unusedVariables false
theorem Y3 {σ:Av} {ι:Bz} {H:Hp} {u v:Value} (h:Conc σ ι H (.val u) v):v=u:=by
 cases h with
 | cc h=>cases h; rfl
theorem Afn {ρ:Ren} {α:Type} {eA:α->AV} {E:TypeId} {sz f:Nat} (L:Lays8.n4 Go.Proofs.Tryz.prog ρ) (N:ρ.f 4=f) (g:Y7 Go.Proofs.Tryz.prog f) (l:TypeInfo) (z:Value) (G:Go.Proofs.Tryz.prog.info? (ρ.t 25)=some l) (D:l.zero=some z) (V:ρ.t 25=E) (S:l.size=sz) (B:z.cells.size=sz) (q:0<sz) (I:l.bytes<=1000)
  {n:Int} {r:List α} (h:Mj n=some r):Bn Go.Proofs.Tryz.prog f [.val (.slice none 0 0),O .i64 n] [] (.arr 0 r.length 0 r.length) [.rows E sz (r.map eA)]:=by
 have U:r = []/\0<=n/\n<=1000000:=by
  unfold Mj at h
  by_cases h1:0<=n
  .by_cases h2:n<=1000000
   .rw [decide_eq_true h1,decide_eq_true h2] at h
    have h:some ([]:List α)=some r:=h
    cases h; exact ⟨rfl,h1,h2⟩
   .rw [decide_eq_false h2,Bool.and_false] at h; cases h
  .rw [decide_eq_false h1,Bool.false_and] at h; cases h
 obtain ⟨rfl,n0,Z⟩:=U
 obtain ⟨m,rfl⟩:∃m:Nat,n=m:=⟨n.toNat,by omega⟩
 refine ⟨g,fun σ F W w ι vs s y=>?_⟩
 obtain ⟨v,u,rfl,hv,hu⟩:=Afk y
 obtain rfl:=Y3 hv
 obtain rfl:=Y3 hu
 have M:hp [] 0 = .none:=rfl
 have R:A5 (hp []) 0 (.rows E sz [])=hp [.rows E sz []]:=by
  funext i
  match i with
  | 0=>rfl
  | i+1=>rfl
 by_cases h0:m=0
 .subst h0
  have call:=Any8.slices_Grow_room L none 0 0 0 w (Nat.le_refl _) (by decide) (by decide) (by decide)
  rw [N] at call
  refine call.mono ?_
  rintro e w' ⟨rfl,rfl⟩
  obtain ⟨s',le⟩:=s.newNil 0 M E sz q
  rw [R] at s' le
  refine ⟨_,σ,_,rfl,le,s',.arr 0 0 0 0 _ (by intro e; cases e) (fun Y A xs e=>?_) rfl⟩
  cases e
  refine ⟨Nat.le_refl _,fun _=>?_⟩
  unfold Fj
  rw [Ci]
  exact ⟨rfl,rfl,rfl⟩
 .have hb:(0+m)*l.bytes<=140737488355328:=by
   have:=Nat.mul_le_mul (show 0+m<=1000000 by omega) I
   omega
  have call:=Any8.slices_Grow_grow L l z G D (by omega) none 0 0 m [] w (Nat.le_refl _) (by omega) hb (by omega) (by simp) (fun _=>rfl) (fun a h=>by cases h)
  rw [N,V] at call
  refine call.mono ?_
  rintro e w' ⟨rfl,rfl⟩
  have hge:=Yx w (0+m) 0 E
  generalize grownCap w (0+m) 0 E=cap at hge
  have b:∀k,(Builtin.zeroCells z.cells k).size=k*sz:=by intro k; simp [Builtin.zeroCells,B]
  generalize X:(([]:List Value).toArray++Builtin.zeroCells z.cells (0+m-0)++Builtin.zeroCells z.cells (cap-(0+m)))=C
  have J:C.size=cap*sz:=by
   rw [<-X,Array.size_append,Array.size_append,b,b]
   simp only [List.size_toArray,List.length_nil,Nat.zero_add,Nat.sub_zero,<-Nat.add_mul]
   congr 1; omega
  obtain ⟨s',le⟩:=(s.drew (w.drawn+1)).newRows 0 E sz [] cap C (.inl M) q (by simp) (by simp) J ⟨fun _ _=>.bool false,(by intro i x h; simp at h),(by intro i x j c h; simp at h),(by intro i j h; simp at h)⟩
  rw [R] at s' le
  refine ⟨_,σ,_,rfl,le,s',.arr 0 0 0 0 _ (by intro e; cases e) (fun Y A xs e=>?_) rfl⟩
  cases e
  refine ⟨Nat.le_refl _,fun _=>?_⟩
  unfold Fj
  rw [Ci]
  exact ⟨Nat.zero_le _,by simp⟩
def Aw3:Ren:={f:=fun x=>match x with | 4=>120 | n=>n,t:=fun x=>match x with | 22=>22 | 25=>86 | 3=>3 | 4=>4 | 9=>9 | 20=>20 | 0=>0 | n=>n,g:=fun n=>n}
theorem Aw4:Lays8.n4 Go.Proofs.Tryz.prog Aw3:=by
 constructor
 case f4=>exact Exists.intro "slices.Grow[[]amortcost/api.LinTerm,amortcost/api.LinTerm]" ⟨by kernel_rfl,by kernel_rfl⟩
 all_goals first | kernel_rfl | (intro w; kernel_rfl)
theorem Aw5 {α:Type} {eA:α->AV} {n:Int} {r:List α} (h:Mj n=some r):Bn Go.Proofs.Tryz.prog 120 [.val (.slice none 0 0),O .i64 n] [] (.arr 0 r.length 0 r.length) [.rows 86 2 (r.map eA)] :=
 Afn Aw4 rfl ⟨_,Tryz.func120,by kernel_rfl,by kernel_rfl⟩ Tryz.t86 (Tryz.t86.zero.getD .nilFunc) (by kernel_rfl) (by kernel_rfl) rfl (by kernel_rfl) (by kernel_rfl) (by decide) (of_decide_eq_true (by kernel_rfl)) h
def Aw6:Ren:={f:=fun x=>match x with | 4=>272 | n=>n,t:=fun x=>match x with | 22=>67 | 25=>97 | 3=>3 | 4=>4 | 9=>9 | 20=>20 | 0=>0 | n=>n,g:=fun n=>n}
theorem Aw7:Lays8.n4 Go.Proofs.Tryz.prog Aw6:=by
 constructor
 case f4=>exact Exists.intro "slices.Grow[[]amortcost/api.Factor,amortcost/api.Factor]" ⟨by kernel_rfl,by kernel_rfl⟩
 all_goals first | kernel_rfl | (intro w; kernel_rfl)
theorem Aw8 {α:Type} {eA:α->AV} {n:Int} {r:List α} (h:Mj n=some r):Bn Go.Proofs.Tryz.prog 272 [.val (.slice none 0 0),O .i64 n] [] (.arr 0 r.length 0 r.length) [.rows 97 3 (r.map eA)] :=
 Afn Aw7 rfl ⟨_,Tryz.func272,by kernel_rfl,by kernel_rfl⟩ Tryz.t97 (Tryz.t97.zero.getD .nilFunc) (by kernel_rfl) (by kernel_rfl) rfl (by kernel_rfl) (by kernel_rfl) (by decide) (of_decide_eq_true (by kernel_rfl)) h
def Aw9:Ren:={f:=fun x=>match x with | 4=>273 | n=>n,t:=fun x=>match x with | 22=>68 | 25=>101 | 3=>3 | 4=>4 | 9=>9 | 20=>20 | 0=>0 | n=>n,g:=fun n=>n}
theorem Axa:Lays8.n4 Go.Proofs.Tryz.prog Aw9:=by
 constructor
 case f4=>exact Exists.intro "slices.Grow[[]amortcost/api.Atom,amortcost/api.Atom]" ⟨by kernel_rfl,by kernel_rfl⟩
 all_goals first | kernel_rfl | (intro w; kernel_rfl)
theorem Axb {α:Type} {eA:α->AV} {n:Int} {r:List α} (h:Mj n=some r):Bn Go.Proofs.Tryz.prog 273 [.val (.slice none 0 0),O .i64 n] [] (.arr 0 r.length 0 r.length) [.rows 101 3 (r.map eA)] :=
 Afn Axa rfl ⟨_,Tryz.func273,by kernel_rfl,by kernel_rfl⟩ Tryz.t101 (Tryz.t101.zero.getD .nilFunc) (by kernel_rfl) (by kernel_rfl) rfl (by kernel_rfl) (by kernel_rfl) (by decide) (of_decide_eq_true (by kernel_rfl)) h
end Go.Ab
