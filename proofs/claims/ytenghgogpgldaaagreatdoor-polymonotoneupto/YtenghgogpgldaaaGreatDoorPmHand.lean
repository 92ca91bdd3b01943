/- Contracts of strings.Builder and strconv.Itoa. -/
import Derived.Test.YtenghgogpgldaaaGreatDoorPmTy
import Derived.Test.YtenghgogpgldaaaGreatDoorPmHandB
import Derived.Shelf.Strconv.Itoa4
import Derived.KernelRfl
import Derived.Shelf.Sort.Plain
import Derived.Shelf.SlSortCmp.WholeK
namespace Go.Ab
open Go Go.Proofs Go.Shelf
set_option maxRecDepth 100000
def Ah4:Ren:={f:=fun x=>match x with | 171=>145 | 243=>215 | 246=>289 | 283=>316 | 284=>317 | 285=>318 | 286=>319 | 129=>189 | 317=>356 | 318=>357 | 319=>358 | 320=>359 | 337=>378 | 338=>379 | 173=>217 | n=>n,t:=fun x=>match x with | 3=>3 | 9=>9 | 2=>2 | 4=>4 | 171=>359 | 0=>0 | 53=>140 | 37=>185 | 5=>5 | 173=>361 | 212=>390 | 51=>133 | 20=>20 | 213=>391 | 46=>164 | 232=>423 | 233=>424 | n=>n,g:=fun x=>match x with | 17=>0 | 18=>1 | 19=>2 | n=>n}
theorem Ah5:LaysM.n171 Go.Proofs.Tryz.prog Ah4:=by
 constructor
 constructor
 all_goals first | kernel_rfl | (intro w; kernel_rfl)
theorem St.grown {σ:Aw} {F:Aw} {W w:World} (s:St σ ι0 H0 F W w) (k:Nat) (os:Array Obj):St σ ι0 H0 F W (Sort.grow (w.drewN k) os):=by
 have hk:∀(b:Nat) (o:Obj),w.heap[b]? = some o->(Sort.grow (w.drewN k) os).heap[b]? = some o:=by
  intro b o h
  have c:=(Array.getElem?_eq_some_iff.1 h).1
  show (w.heap++os)[b]? = _
  rw [Array.getElem?_append_left c]; exact h
 exact ⟨fun b o h=>hk b o (s.sto b o h),fun b o h=>⟨hk b o (s.fra b o h).1,(s.fra b o h).2⟩,fun _=>rfl,(fun _ _ _ f=>by cases f),s.os,s.tape,s.output,s.glo,Nat.le_trans s.drw (Nat.le_add_right _ _)⟩
theorem Ah6 {σ:Aw} {ι:Bl} {H:Hp} {F:Aw} {W w:World} (s:St σ ι H F W w):Lib.TabIs Go.Proofs.Tryz.prog w "internal/strconv.uint64pow10" .u64 Lib.pow10Tab:=by
 obtain ⟨E,fr,e⟩:=s.glo
 have h:=s.sto _ _ e
 have g:Go.Proofs.Tryz.prog.globalNamed "internal/strconv.uint64pow10" = some 0:=Ah5.m17
 unfold Lib.TabIs World.var?
 rw [g]
 simp only [Option.bind_some,h]
theorem Rp {σ:Aw} {ι:Bl} {H:Hp} {x:AV} {vs:Array Value} (h:Kb σ ι H [x] vs):∃v,vs = #[v]/\Conc σ ι H x v:=by
 obtain ⟨h1,h2⟩:=h
 have h1:vs.size=1:=h1
 refine ⟨vs[0],?_,h2 0 x _ rfl (by simp [h1])⟩
 apply Array.ext
 .simp [h1]
 .intro i hi b
  have:i=0:=by omega
  subst this; rfl
theorem Ar2 {a0:Int} {r:ByteArray} (h:Lq a0=some r):As Go.Proofs.Tryz.prog 145 [O .i64 a0] (Ei r):=by
 unfold Lq at h
 split at h
 .rename_i hc
  cases h
  refine ⟨⟨_,Tryz.func145,by kernel_rfl,by kernel_rfl⟩,fun σ F W w vs s b=>?_⟩
  obtain ⟨v,rfl,hv⟩:=Rp b
  have hv:=hv.val_inv
  subst hv
  have:=Any.strconv_Itoa Ah5 a0 hc.1 hc.2 w (Ah6 s)
  refine this.mono ?_
  rintro e w' ⟨rfl,k,os,rfl⟩
  exact ⟨_,σ,rfl,Aw.le_refl σ,s.grown k os,.of_val _⟩
 .cases h
theorem Ar3:LaysM.n173 Go.Proofs.Tryz.prog Ah4:=by
 constructor
 constructor
 all_goals first | kernel_rfl | (intro w; kernel_rfl)
theorem Ah7 {σ:Aw} {ι:Bl} {H:Hp} {x y:AV} {vs:Array Value} (h:Kb σ ι H [x,y] vs):∃v u,vs = #[v,u]/\Conc σ ι H x v/\Conc σ ι H y u:=by
 obtain ⟨h1,h2⟩:=h
 have h1:vs.size=2:=h1
 refine ⟨vs[0],vs[1],?_,h2 0 x _ rfl (by simp [h1]),h2 1 y _ rfl (by simp [h1])⟩
 apply Array.ext
 .simp [h1]
 .intro i hi b
  rcases (by omega:i=0\/i=1) with h | h
  .subst h; rfl
  .subst h; rfl
theorem Ar4 {a0 a1:Int} {r:ByteArray} (h:Xb a0 a1=some r):As Go.Proofs.Tryz.prog 217 [O .i64 a0,O .i64 a1] (Ei r):=by
 unfold Xb at h
 cases hb:a1==10 with
 | false=>rw [hb] at h; cases h
 | true=>
  rw [hb] at h
  have hb:=eq_of_beq hb
  subst hb
  have h:Lq a0=some r:=h
  unfold Lq at h
  split at h
  .rename_i hc
   cases h
   refine ⟨⟨_,Tryz.func217,by kernel_rfl,by kernel_rfl⟩,fun σ F W w vs s b=>?_⟩
   obtain ⟨v,u,rfl,hv,hu⟩:=Ah7 b
   have hv:=hv.val_inv
   have hu:=hu.val_inv
   subst hv; subst hu
   have:=Any.strconv_FormatInt_10 Ar3 a0 hc.1 hc.2 w (Ah6 s)
   refine this.mono ?_
   rintro e w' ⟨rfl,k,os,rfl⟩
   exact ⟨_,σ,rfl,Aw.le_refl σ,s.grown k os,.of_val _⟩
  .cases h
theorem Ym (o:Bb) (os:List Bb):hp (o::os) 0=o:=rfl
theorem Ar5 (x:AV) (rest:List Bb):Br Go.Proofs.Tryz.prog 213 [.loc 0 0] (.cells 187 [.loc 0 0,x]::rest) (.tup []) (.cells 187 [.loc 0 0,x]::rest):=by
 refine ⟨⟨_,Tryz.func213,by kernel_rfl,by kernel_rfl⟩,fun σ F W w ι vs s f=>?_⟩
 obtain ⟨v,rfl,hv⟩:=Rp f
 obtain ⟨b,hb,hv⟩:=hv.loc_inv
 subst hv
 have k:=s.obj 0
 unfold B5 at k
 rw [Ym] at k
 obtain ⟨z,C,u,_,_,h3,q,y⟩:=k
 rw [hb] at u; cases u
 have q:C.size=2:=q
 have g:C[0]? = some C[0]:=by simp [q]
 have l:=y 0 (.loc 0 0) C[0] rfl g
 obtain ⟨b2,h,j⟩:=l.loc_inv
 rw [hb] at h; cases h
 have cell:w.cell? ⟨b,0,none⟩=some (.pointer (some ⟨b,0,none⟩)):=by
  rw [Hq h3,g,j]
 refine (Tryz.check_used b w cell).mono ?_
 rintro e w' ⟨rfl,rfl⟩
 exact ⟨_,σ,ι,rfl,Le.refl _ _ _,s,.tup _ _ rfl (fun i c v h1 _=>by cases h1)⟩
theorem Ar6 (x:AV) (rest:List Bb):Br Go.Proofs.Tryz.prog 213 [.loc 0 0] (.cells 187 [.val (.pointer none),x]::rest) (.tup []) (.cells 187 [.loc 0 0,x]::rest):=by
 refine ⟨⟨_,Tryz.func213,by kernel_rfl,by kernel_rfl⟩,fun σ F W w ι vs s j=>?_⟩
 obtain ⟨v,rfl,hv⟩:=Rp j
 obtain ⟨b,hb,hv⟩:=hv.loc_inv
 subst hv
 have q:=s.obj 0
 unfold B5 at q
 rw [Ym] at q
 obtain ⟨D,C,z,_,_,h3,g,y⟩:=q
 rw [hb] at z; cases z
 have g:C.size=2:=g
 have k:C[0]? = some C[0]:=by simp [g]
 have l:=(y 0 (.val (.pointer none)) C[0] rfl k).val_inv
 have cell:w.cell? ⟨b,0,none⟩=some (.pointer none):=by
  rw [Hq h3,k,l]
 refine (Tryz.check_fresh b w cell (by simp [World.shape?,h3,g]) (by simp [World.frozen?,h3])).mono ?_
 rintro e w' ⟨rfl,rfl⟩
 obtain ⟨s',le⟩:=s.setBox 0 187 [.val (.pointer none),x] [.loc 0 0,x] rfl b hb #[.pointer (some ⟨b,0,none⟩),C[1]] rfl (by
  intro i c v h1 h2
  match i with
  | 0=>simp at h1 h2; subst h1; subst h2; exact .loc 0 0 b hb
  | 1=>simp at h1 h2; subst h1; subst h2; exact y 1 x _ rfl (by simp [g])
  | i+2=>simp at h1)
 have B:A3 (hp (.cells 187 [.val (.pointer none),x]::rest)) 0 (.cells 187 [.loc 0 0,x])=hp (.cells 187 [.loc 0 0,x]::rest):=by
  funext i
  cases i with
  | zero=>rfl
  | succ i=>rfl
 have A:w.setCell ⟨b,0,none⟩ (.pointer (some ⟨b,0,none⟩))=w.setRow b #[.pointer (some ⟨b,0,none⟩),C[1]]:=by
  have h:C.setIfInBounds 0 (.pointer (some ⟨b,0,none⟩)) = #[.pointer (some ⟨b,0,none⟩),C[1]]:=by
   apply Array.ext
   .simp [g]
   .intro i hi u
    match i with
    | 0=>simp
    | 1=>rw [Array.getElem_setIfInBounds_ne _ (by decide)]; rfl
    | i+2=>simp at u; omega
  have f:(w.setCell ⟨b,0,none⟩ (.pointer (some ⟨b,0,none⟩))).heap=(w.setRow b #[.pointer (some ⟨b,0,none⟩),C[1]]).heap:=by
   apply Array.ext_getElem?
   intro i
   simp only [World.setCell,World.setRow,Array.getElem?_modify]
   split
   .rename_i e; subst e
    rw [h3]; simp [h]
   .rfl
  unfold World.setCell World.setRow at f ⊢
  simp only at f
  rw [f]
 rw [B] at s' le
 rw [A]
 exact ⟨_,σ,ι,rfl,le,s',.tup _ _ rfl (fun i c v h1 _=>by cases h1)⟩
theorem Ar7 {l:List Int} (h:∀x∈l,0<=x/\x<256) {j:Nat} {x:UInt8} (hx:(Eu l)[j]? = some x):l[j]? = some (x.toNat:Int):=by
 simp only [Eu,List.getElem?_map,Option.map_eq_some_iff] at hx
 obtain ⟨y,hy,rfl⟩:=hx
 have b:=h y (List.mem_of_getElem? hy)
 rw [hy]
 congr 1
 have:y.toNat<256:=by omega
 simp only [UInt8.toNat_ofNat']
 omega
theorem St.kill {σ:Aw} {ι:Bl} {H:Hp} {F:Aw} {W w:World} (s:St σ ι H F W w) (h:Nat):St σ ι (A3 H h .dead) F W w/\Le σ ι H σ ι (A3 H h .dead):=by
 have le:Le σ ι H σ ι (A3 H h .dead):=by
  have:=Le.upd (ι:=ι) (H:=H) (Aw.le_refl σ) h (ι h) .dead ⟨fun _ e=>e,(fun _ e=>by cases e),(fun _ k j i e=>by cases e)⟩
  rwa [Gx] at this
 obtain ⟨f1,f2⟩:=s.fresh
 refine ⟨s.touch h w.heap.size (fun _ _=>rfl) (fun x e=>Ct _ _ e) le (fun _ _=>rfl) (fun _ _=>rfl) (fun o g=>by rw [f1] at g; cases g) ?_ f2 ?_ ?_ rfl rfl rfl,le⟩
 .intro x _ c f
  have:=(s.block c f).1
  omega
 .intro b c
  rw [B4] at c; cases c
 .unfold B5
  rw [B4]; trivial
theorem Ar8 {p:AV}:Br Go.Proofs.Tryz.prog 147 [.loc 0 0] [.cells 187 [p,.arr 1 0 0 0],.rows 5 1 []] (Ei .empty) [.cells 187 [p,.arr 1 0 0 0],.dead]:=by
 refine ⟨⟨_,Tryz.func147,by kernel_rfl,by kernel_rfl⟩,fun σ F W w ι vs s u=>?_⟩
 obtain ⟨v,rfl,hv⟩:=Rp u
 obtain ⟨b,hb,hv⟩:=hv.loc_inv
 subst hv
 have I:=s.obj 0
 unfold B5 at I
 rw [Ym] at I
 obtain ⟨b',C,V,_,_,h3,z,Z⟩:=I
 rw [hb] at V; cases V
 have z:C.size=2:=z
 have Y:C = #[C[0],C[1]]:=by
  apply Array.ext
  .simp [z]
  .intro i hi J
   match i with
   | 0=>rfl
   | 1=>rfl
   | i+2=>simp at J; omega
 have M:=Z 1 (.arr 1 0 0 0) C[1] rfl (by simp [z])
 have l:hp [Bb.cells 187 [p,.arr 1 0 0 0],.rows 5 1 []] 1 = .rows 5 1 []:=rfl
 have c:=M.arr_inv l (by simp)
 have hor:=s.obj 1
 unfold B5 at hor
 rw [l] at hor
 obtain ⟨_,S,hor⟩:=hor
 have eH:A3 (hp [Bb.cells 187 [p,.arr 1 0 0 0],.rows 5 1 []]) 1 .dead=hp [Bb.cells 187 [p,.arr 1 0 0 0],.dead]:=by
  funext i
  match i with
  | 0=>rfl
  | 1=>rfl
  | i+2=>rfl
 have go:∀(a q:Option Addr) (cap:Nat) (y:Aw) (h:World),C[1] = .slice a 0 cap->h.heap[b]? = w.heap[b]?->(Builtin.unsafeSliceData_ #[185] 256 #[.slice a 0 cap]).run Go.Proofs.Tryz.prog w.drew = .ok (.pointer q) h ->
   Le σ ι (hp [Bb.cells 187 [p,.arr 1 0 0 0],.rows 5 1 []]) y ι (hp [Bb.cells 187 [p,.arr 1 0 0 0],.rows 5 1 []])->St y ι (hp [Bb.cells 187 [p,.arr 1 0 0 0],.rows 5 1 []]) F W h ->
   Calls Go.Proofs.Tryz.prog 147 #[.pointer (some ⟨b,0,none⟩)] w fun e w'=>∃v A B,e = .returned v/\Le σ ι (hp [Bb.cells 187 [p,.arr 1 0 0 0],.rows 5 1 []]) A B (hp [Bb.cells 187 [p,.arr 1 0 0 0],.dead])/\St A B (hp [Bb.cells 187 [p,.arr 1 0 0 0],.dead]) F W w'/\Conc A B (hp [Bb.cells 187 [p,.arr 1 0 0 0],.dead]) (Ei .empty) v:=by
  intro a q cap y h f L N le E
  have x:w.heap[b]? = some (.cells #[C[0],.slice a 0 cap] 187 (0,0)):=by
   rw [h3]; congr 1; rw [<-f,<-Y]
  refine (Tryz.builder_str0 b cap C[0] a q w h x (L.trans x) N).mono ?_
  rintro e w' ⟨rfl,rfl⟩
  obtain ⟨R,k⟩:=E.kill 1
  rw [eH] at R k
  exact ⟨_,y,ι,rfl,le.trans k,R,.of_val _⟩
 rcases hor with ⟨hi,_⟩ | ⟨g,j,D,X,g1,g2,g3,g4,g5,g6⟩
 .unfold E4 at c
  rw [hi] at c
  exact go none none 0 σ w.drew c.1 rfl rfl (Le.refl _ _ _) (s.drew _)
 .unfold E4 at c
  rw [X] at c
  simp only [Nat.zero_mul,Nat.zero_add,Nat.sub_zero] at c
  obtain ⟨_,f⟩:=c
  by_cases ht:j=0
  .subst ht
   obtain ⟨E,G⟩:=(s.drew (w.drawn+1)).newFrozen (.view ⟨g,0,none⟩ 5)
   have U:=(Array.getElem?_eq_some_iff.1 h3).1
   refine go _ _ 0 _ (w.drew.alloc (.view ⟨g,0,none⟩ 5)) f ?_ (Lib.run_unsafeSliceData_zero _ _ _ 5 Go.Proofs.Tryz.underlying256 _ _ (5,D.size) (by
    have:w.drew.heap[g]? = some (.cells D 5 (0,0)):=g3
    simp [World.shape?,this])) G E
   show (w.heap.push _)[b]? = _
   rw [Array.getElem?_push,if_neg (by omega)]
  .exact go _ _ j σ w.drew f rfl (Lib.run_unsafeSliceData_row _ _ _ _ _ _ ht) (Le.refl _ _ _) (s.drew _)
theorem Ah8 {p:AV} {l:List Int} {r:ByteArray} (h:Sz l=some r):Br Go.Proofs.Tryz.prog 147 [.loc 0 0] [.cells 187 [p,.arr 1 l.length 0 l.length],.rows 5 1 (List.map (O .u8) l)] (Ei r) [.cells 187 [p,.arr 1 l.length 0 l.length],.dead]:=by
 unfold Sz at h
 split at h
 .rename_i V
  cases h
  by_cases u:l = []
  .subst u; exact Ar8
  refine ⟨⟨_,Tryz.func147,by kernel_rfl,by kernel_rfl⟩,fun σ F W w ι vs s J=>?_⟩
  obtain ⟨v,rfl,hv⟩:=Rp J
  obtain ⟨b,hb,hv⟩:=hv.loc_inv
  subst hv
  have y:=s.obj 0
  unfold B5 at y
  rw [Ym] at y
  obtain ⟨b',C,e1,_,_,h3,M,h5⟩:=y
  rw [hb] at e1; cases e1
  have M:C.size=2:=M
  have hC:C = #[C[0],C[1]]:=by
   apply Array.ext
   .simp [M]
   .intro i hi R
    match i with
    | 0=>rfl
    | 1=>rfl
    | i+2=>simp at R; omega
  have U:=h5 1 (.arr 1 l.length 0 l.length) C[1] rfl (by simp [M])
  have I:hp [Bb.cells 187 [p,.arr 1 l.length 0 l.length],.rows 5 1 (List.map (O .u8) l)] 1 = .rows 5 1 (List.map (O .u8) l):=rfl
  have k:=U.arr_inv I (by simp)
  have hor:=s.obj 1
  unfold B5 at hor
  rw [I] at hor
  obtain ⟨_,G,hor⟩:=hor
  rw [List.length_map] at G
  rcases hor with ⟨_,E⟩ | ⟨g,q,D,hg,g1,g2,g3,g4,g5,g6⟩
  .exact (u (by simpa using E)).elim
  .rw [List.length_map] at g5
   unfold E4 at k
   rw [hg] at k
   simp only [Nat.zero_mul,Nat.zero_add,Nat.sub_zero] at k
   obtain ⟨ht,B⟩:=k
   have c:(Eu l).length=l.length:=by simp [Eu]
   have f:∀(j:Nat) (x:UInt8),(Eu l)[j]? = some x->D[j]? = some (Value.int .u8 x.toNat):=by
    intro j x hx
    have hj:=Ar7 V hx
    obtain ⟨gg,q1,q2,q3⟩:=g6
    have A:(List.map (O .u8) l)[j]? = some (O .u8 x.toNat):=by rw [List.getElem?_map,hj]; rfl
    have N:j<(List.map (O .u8) l).length:=(List.getElem?_eq_some_iff.1 A).1
    have q4:=q3 j 0 N (by omega)
    have q5:=(q2 j _ 0 _ A rfl).1
    have:gg j 0=Value.int .u8 x.toNat:=by
     generalize gg j 0=z at q5
     cases q5; rfl
    rw [this] at q4
    simpa using q4
   have Y:w.heap[b]? = some (.cells #[C[0],.slice (some ⟨g,0,none⟩) (Eu l).length q] 187 (0,0)):=by
    rw [h3]; congr 1; rw [c]
    have:C[1] = .slice (some ⟨g,0,none⟩) l.length q:=B
    rw [<-this,<-hC]
   have Z:l.length<=D.size:=by rw [g4]; omega
   have call:=Tryz.builder_str b g q C[0] D (Eu l) w (by intro e; apply u; rw [<-List.length_eq_zero_iff,<-c,e]; rfl) Y g3 (by rw [c]; exact g5) (by rw [c]; exact Z) (by rw [c]; omega) f
   refine call.mono ?_
   rintro e w' ⟨rfl,rfl⟩
   have le:Le σ ι (hp [Bb.cells 187 [p,.arr 1 l.length 0 l.length],.rows 5 1 (List.map (O .u8) l)]) σ ι (A3 (hp [Bb.cells 187 [p,.arr 1 l.length 0 l.length],.rows 5 1 (List.map (O .u8) l)]) 1 .dead):=by
    have:=Le.upd (ι:=ι) (H:=hp [Bb.cells 187 [p,.arr 1 l.length 0 l.length],.rows 5 1 (List.map (O .u8) l)]) (Aw.le_refl σ) 1 (ι 1) .dead ⟨fun _ e=>e,(fun _ e=>by cases e),(fun _ E1 a6 a1 e=>by cases e)⟩
    rwa [Gx] at this
   have eH:A3 (hp [Bb.cells 187 [p,.arr 1 l.length 0 l.length],.rows 5 1 (List.map (O .u8) l)]) 1 .dead=hp [Bb.cells 187 [p,.arr 1 l.length 0 l.length],.dead]:=by
    funext i
    match i with
    | 0=>rfl
    | 1=>rfl
    | i+2=>rfl
   have s2:St σ ι (A3 (hp [Bb.cells 187 [p,.arr 1 l.length 0 l.length],.rows 5 1 (List.map (O .u8) l)]) 1 .dead) F W (w.drew.freeze ⟨g,0,none⟩ (Eu l).length):=by
    have S:∀b,b≠g->(w.drew.freeze ⟨g,0,none⟩ (Eu l).length).heap[b]? = w.heap[b]?:=by
     intro b hb
     unfold World.freeze
     split
     .rfl
     .simp only [Array.getElem?_modify]
      rw [if_neg (Ne.symm hb)]; rfl
    refine s.touch (hdrw:=by unfold World.freeze; split <;> exact Nat.le_succ _) 1 g (fun _ _=>rfl) (fun x e=>Ct _ _ e) le S (fun _ _=>rfl) (fun o y=>by rw [g1] at y; cases y) ?_ g2 ?_ ?_ ?_ ?_ ?_
    .intro x hx L X
     exact hx (s.inj x 1 g L rfl X (by rw [hg]; rfl))
    .intro b0 L
     rw [B4] at L; cases L
    .unfold B5
     rw [B4]; trivial
    .unfold World.freeze; split <;> rfl
    .unfold World.freeze; split <;> rfl
    .unfold World.freeze; split <;> rfl
   rw [eH] at le s2
   exact ⟨_,σ,ι,rfl,le,s2,.of_val _⟩
 .cases h
end Go.Ab
namespace Go.Ab
open Go Go.Proofs
set_option linter.unusedVariables false
class OK {α:Type} (o:Option α) (G:outParam (α->Prop)):Prop where
 ok:∀{r:α},o=some r->G r
theorem Dl {α:Type} {G:α->Prop}:OK (none:Option α) G:=⟨fun h=>by cases h⟩
section
variable {P:Program} {C:Cfg} {Qn:Nat->Bh->Hp->Prop} {Qe:Nat->Nat->Bh->Hp->Prop} {Qr:Nat->Bh->Hp->Prop} {n:Nat} {e:Bh} {H:Hp} {β:Type} {r:β}
variable {T:Cb} {an:Nat->Ann} {nl:Nat->List (Nat×Nat)} {ops:Array Oper} {o:Oper} {os:List Oper} {acc:Gp} {K:Nat->Bh->Hp->Gp->Prop}
theorem Fx {p:Nat×Bool} {s:Nat} {b:Bool} {m m':Option β} (h:(bif b then m else m')=some r) (h1:b=true->m=some r->Dv (Dq P T an nl ops (o::os) n (A3 e s (.val (.bool true))) H acc K))
  (h2:b=false->m'=some r->Dv (Dq P T an nl ops (o::os) n (A3 e s (.val (.bool false))) H acc K)) (hg:o.guard=some p:=by exact rfl) (hs:(ops[p.1]?).bind (·.dst)=some s:=by exact rfl) (hb:e s = .val (.bool b):=by exact rfl):Dv (Dq P T an nl ops (o::os) n e H acc K):=Ara h h1 h2 hb
theorem nw {c:Code} (k:wc P C c Qn Qe Qr n e H):Dv (wc P C c Qn Qe Qr n e H):=.mk k
theorem Ca {S E:Type} {o:S⊕E} {J:E->Option β} {x:E} (h:some (Sum.inr x)=some o) (hx:∀x,Sum.inr x=o->J x=some r:=by assumption):J x=some r:=hx x (Option.some.inj h)
theorem lpj {S:Type} {o:S} {J:S->Option β} {x:S} (h:some x=some o) (hx:∀y,y=o->J y=some r:=by assumption):J x=some r:=hx x (Option.some.inj h)
theorem lpn {S E:Type} {o:S⊕E} {s':S} {K:Nat->Bh->Hp->Prop} {iv:S->List (Nat×AV)} {hv:S->List (Nat×Bb)} {inv:S->Prop} {n0:Nat} {H0:Hp} (h:some (Sum.inl s')=some o) (hn:∀s' n' e' H',Sum.inl s'=o->Fo e' (iv s')->Fp H' (B2 H0 (hv s')) n0 n0->inv s'->K n' e' H':=by assumption)
  (hs:Fo e (iv s'):=by (repeat refine ⟨rfl,?_⟩); exact trivial) (hh:Fp H (B2 H0 (hv s')) n0 n0:=by (repeat refine ⟨⟨rfl,rfl⟩,?_⟩); exact trivial) (hi:inv s':=by first | trivial | exact rfl | ((repeat refine Gi ?_ _ _); first | exact rfl | assumption)):K n e H:=hn s' n e H (Option.some.inj h) hs hh hi
theorem jnn {S E:Type} {o x:E} {s:S} {J:S->Prop} {K:Nat->Bh->Hp->Prop} {iv:S->List (Nat×AV)} {hv:S->List (Nat×Bb)} {n0:Nat} {H0:Hp} (h:some x=some o) (hn:∀s n' e' H',J s->Fo e' (iv s)->Fp H' (B2 H0 (hv s)) n0 n0->K n' e' H':=by assumption) (hJ:J s:=by exact Option.some.inj h)
  (hs:Fo e (iv s):=by (repeat refine ⟨rfl,?_⟩); exact trivial) (hh:Fp H (B2 H0 (hv s)) n0 n0:=by (repeat refine ⟨⟨rfl,rfl⟩,?_⟩); exact trivial):K n e H:=hn s n e H hJ hs hh
theorem Bc {α:Type} {o:Option α} {m:α->Option β} {f:FuncId} {args:List AV} {G:α->Prop} {ra:α->AV} {K:Eff->Nat->Prop} (h:o.bind m=some r) [i:OK o G] (k:∀v,m v=some r->K ⟨ra v,[],[]⟩ n) (hG:∀v,G v->As P f args (ra v):=by exact fun _ h=>h) (hf:args.all AV.free=true:=by exact rfl):Fv P n H f args K :=
 C5 h fun v hv h=>Fv.mk _ (hG v (i.ok hv)) hf (k v h)
theorem Ah9 {α:Type} {o:Option α} {m:α->Option β} {f:FuncId} {args args':List AV} {G:α->Prop} {ra:α->AV} {K:Eff->Nat->Prop} (h:o.bind m=some r) [i:OK o G] (k:∀v,m v=some r->K ⟨ra v,[],[]⟩ n) (hG:∀v,G v->As P f args' (ra v):=by exact fun _ h=>h) (hs:Mq args args':=by (repeat first | refine ⟨Sub.refl _,?_⟩ | refine ⟨Sub.nil _,?_⟩); exact trivial) (hf:args.all AV.free=true:=by exact rfl):Fv P n H f args K :=
 C5 h fun v hv h=>Fv.mk _ (As.sub (hG v (i.ok hv)) hs (Sub.refl _)) hf (k v h)
theorem A7 {α:Type} {o:Option α} {m:α->Option β} {f:FuncId} {args largs:List AV} {G:α->Prop} {ra:α->AV} {hs:List Bb} {hs':α->List Bb} {K:Eff->Nat->Prop} (l:List Nat) (h:o.bind m=some r) [i:OK o G] (k:∀v,m v=some r->K ⟨ren (C4 n l) (ra v),wrs (C4 n l) 0 hs++Bq (C4 n l) l.length ((hs' v).length-l.length),wrs (C4 n l) 0 (hs' v)⟩ (n+((hs' v).length-l.length)))
  (hG:∀v,G v->Br P f largs hs (ra v) (hs' v):=by exact fun _ h=>h) (ha:largs.map (ren (C4 n l))=args:=by exact rfl) (ok:∀v,Qb n l largs hs (ra v) (hs' v)=true:=by exact fun _=>rfl) (hh:N7 H (wrs (C4 n l) 0 hs):=by (repeat refine ⟨rfl,?_⟩); exact trivial):Fv P n H f args K :=
 C5 h fun v hv h=>Fv.act l largs hs (ra v) (hs' v) (hG v (i.ok hv)) ha (ok v) hh (k v h)
theorem Bn {α:Type} {l:List α} {f:α->AV} {ys:List AV} {i:Int} {m:α->Option β} {K:Nat->AV->Prop} (h:(Af l i).bind m=some r) (k:∀(n:Nat) (x:α),i=n->l[n]? = some x->m x=some r->K n (f x)) (he:ys=l.map f:=by first | exact rfl | exact Iu _ | exact Jz _ | exact Ia _):Sq ys i K:=Arb he h k
theorem Ic {α:Type} {l:List α} {f:α->AV} {ys:List AV} {i:Int} {m:α->Option β} {K:Nat->Prop} {len kk:Nat} (h:(Af l i).bind m=some r) (k:∀(n:Nat) (x:α),i=n->l[n]? = some x->m x=some r->K n) (he:ys=l.map f:=by first | exact rfl | exact Iu _ | exact Jz _ | exact Ia _) (hl:len=l.length:=by first | exact rfl | assumption | exact Ir (by assumption) | ((repeat refine Gi ?_ _ _); first | exact rfl | assumption)) (hk:kk=l.length:=by first | exact rfl | assumption | exact Ir (by assumption) | ((repeat refine Gi ?_ _ _); first | exact rfl | assumption)):N8 len kk ys i K:=Arc he hl hk h k
theorem J1 {α:Type} {l:List α} {f:α->AV} {ys:List AV} {i:Int} {m:α->Option β} {K:Nat->Prop} {off len kk:Nat} (h:(Fa l off len i).bind m=some r) (k:∀(n:Nat) (x:α),i=n->l[off+n]? = some x->m x=some r->K n) (he:ys=l.map f:=by first | exact rfl | exact Iu _ | exact Jz _ | exact Ia _) (hk:kk=l.length:=by first | exact rfl | assumption | exact Ir (by assumption) | ((repeat refine Gi ?_ _ _); first | exact rfl | assumption)):N8 len kk ys i K:=Ard he hk h k
theorem Ng {α:Type} {l:List α} {f:α->AV} {ys:List AV} {K:Int->Prop} (k:K (l.length:Int)) (he:ys=l.map f:=by first | exact rfl | exact Iu _ | exact Jz _ | exact Ia _):Kc ys K:=Arp he k
theorem Nh {α:Type} {l:List α} {f:α->AV} {ys:List AV} {kk:Nat} {K:Prop} (k:K) (he:ys=l.map f:=by first | exact rfl | exact Iu _ | exact Jz _ | exact Ia _) (hk:kk=l.length:=by first | exact rfl | assumption | exact Ir (by assumption) | ((repeat refine Gi ?_ _ _); first | exact rfl | assumption)):E9 kk ys K:=Arq he hk k
theorem Ni {K:Prop} (k:K):E9 0 [] K:=.mk rfl k
theorem Nj {α:Type} {l:List α} {f:α->AV} {ys:List AV} {n i kk:Nat} {x:α} {K:AV->Prop} (k:K (f x)) (he:ys=l.map f:=by first | exact rfl | exact Iu _ | exact Jz _ | exact Ia _) (hk:kk=l.length:=by first | exact rfl | assumption | exact Ir (by assumption) | ((repeat refine Gi ?_ _ _); first | exact rfl | assumption)) (hi:i=n/\l[n]? = some x:=by first | exact ⟨Nat.zero_add _,by assumption⟩ | exact ⟨rfl,by assumption⟩):Jo kk i ys K:=Ari he hk hi.1 hi.2 k
theorem Aia {α:Type} {l:List α} {f:α->AV} {ys:List AV} {n i:Nat} {j:Int} {x:α} {p:AV} {K:List AV->Prop} (k:K ((Cp l j x).map f)) (he:ys=l.map f:=by first | exact rfl | exact Iu _ | exact Jz _ | exact Ia _) (hp:p=f x:=by exact rfl) (hi:i=n/\j=(n:Int):=by first | exact ⟨Nat.zero_add _,by assumption⟩ | exact ⟨rfl,by assumption⟩ | exact ⟨rfl,Ag4 _ (by assumption)⟩):Qd ys i p K:=K2 he hp hi.1 hi.2 k
theorem Uz {α:Type} {l ys:List α} {f:α->AV} {xs zs:List AV} {b kk len:Nat} {m:List α->Option β} {K:List AV->Nat->Prop} {KP:List AV->Nat->Nat->Prop} (h:(B6 b l ys).bind m=some r) (k:∀o:List α,m o=some r->K (o.map f) o.length) (he:xs=l.map f/\zs=ys.map f:=by first | exact ⟨rfl,rfl⟩ | (refine ⟨?_,?_⟩; rotate_left; exact rfl; exact rfl)) (hk:kk=l.length:=by first | exact rfl | assumption | exact Ir (by assumption) | ((repeat refine Gi ?_ _ _); first | exact rfl | assumption)) (hl:len=l.length:=by first | exact rfl | assumption | exact Ir (by assumption) | ((repeat refine Gi ?_ _ _); first | exact rfl | assumption)):K0 xs zs kk len b K KP:=Abp he.1 he.2 hk hl h k
theorem Aib {l:List Int} {s:ByteArray} {xs:List AV} {b kk len:Nat} {m:List Int->Option β} {K:List AV->Nat->Prop} {KP:List AV->Nat->Nat->Prop} (h:(B6 b l (Ki s)).bind m=some r) (k:∀o:List Int,m o=some r->K (o.map fun n=>.val (.int .u8 n)) o.length) (he:xs=l.map fun n=>.val (.int .u8 n):=by exact rfl) (hk:kk=l.length:=by first | exact rfl | assumption | exact Ir (by assumption) | ((repeat refine Gi ?_ _ _); first | exact rfl | assumption)) (hl:len=l.length:=by first | exact rfl | assumption | exact Ir (by assumption) | ((repeat refine Gi ?_ _ _); first | exact rfl | assumption)):K0 xs (Hb s) kk len b K KP:=Arl he hk hl h k
class GL {α:Type} (g:List α->List AV) (f:outParam (α->AV)):Prop where
 eq:∀l,g l=l.map f
instance:GL Bd C6:=⟨Iu⟩
instance:GL Ht Fb:=⟨Jz⟩
instance:GL Ez Ev:=⟨Ia⟩
theorem Ac2 {α:Type} {g:List α->List AV} {f:α->AV} [i:GL g f] {l ys:List α} {zs:List AV} {b kk len:Nat} {m:List α->Option β} {K:List AV->Nat->Prop} {KP:List AV->Nat->Nat->Prop} (h:(B6 b l ys).bind m=some r) (k:∀o:List α,m o=some r->K (g o) o.length) (hz:zs=ys.map f:=by first | exact rfl | exact GL.eq _) (hk:kk=l.length:=by first | exact rfl | assumption | exact Ir (by assumption) | ((repeat refine Gi ?_ _ _); first | exact rfl | assumption)) (hl:len=l.length:=by first | exact rfl | assumption | exact Ir (by assumption) | ((repeat refine Gi ?_ _ _); first | exact rfl | assumption)):K0 (g l) zs kk len b K KP:=Arm i.eq (i.eq l) hz hk hl h k
theorem Aic {α:Type} {ys:List α} {f:α->AV} {zs:List AV} {b:Nat} {m:List α->Option β} {K:List AV->Nat->Prop} (h:(B6 b [] ys).bind m=some r) (k:∀o:List α,m o=some r->K (o.map f) o.length) (hz:zs=ys.map f:=by exact rfl):Oa zs b K:=Ahf hz h k
theorem Aid {α:Type} {g:List α->List AV} {f:α->AV} [i:GL g f] {ys:List α} {zs:List AV} {b:Nat} {m:List α->Option β} {K:List AV->Nat->Prop} (h:(B6 b [] ys).bind m=some r) (k:∀o:List α,m o=some r->K (g o) o.length) (hz:zs=g ys:=by exact rfl):Oa zs b K:=Arn i.eq (hz.trans (i.eq ys)) h k
theorem Ga {α:Type} {z:α} {f:α->AV} {za:AV} {len cap:Int} {b:Nat} {m:List α->Option β} {K:Nat->List AV->Prop} (h:(En b len cap z).bind m=some r) (k:∀o:List α,m o=some r->K o.length (o.map f)) (hz:za=f z:=by first | exact (rfl:_=O _ _) | exact (rfl:_=An _) | exact rfl):Qc len cap b za K:=Aro hz h k
theorem Ph {α:Type} {l:List α} {f:α->AV} {ys:List AV} {lo hi:Int} {m:List α->Option β} {K:List AV->Prop} (h:(G1 l lo hi).bind m=some r) (k:∀l':List α,m l'=some r->K (l'.map f)) (he:ys=l.map f:=by first | exact rfl | exact Iu _ | exact Jz _ | exact Ia _):N9 ys lo hi K:=Ahe he h k
theorem Aie {α:Type} {l:List α} {f:α->AV} {ys:List AV} {lo:Int} {m:List α->Option β} {K:List AV->Prop} (h:(G1 l lo l.length).bind m=some r) (k:∀l':List α,m l'=some r->K (l'.map f)) (he:ys=l.map f:=by first | exact rfl | exact Iu _ | exact Jz _ | exact Ia _):N9 ys lo ys.length K:=Ark he h k
theorem Fc {S E:Type} {step:S->Option (S⊕E)} {s0:S} {J:E->Option β} {b:Code} (h:(Aj step s0).bind J=some r) (iv:S->List (Nat×AV)) (hv:S->List (Nat×Bb)) (inv:S->Prop)
  (body:∀(s:S) (u:Nat->Value) (K:Nat->Bh->Hp->Prop) (o:S⊕E),step s=some o->(∀x,.inr x=o->J x=some r)->(∀s' n' e' H',.inl s'=o->Fo e' (iv s')->Fp H' (B2 H (hv s')) n n->inv s'->K n' e' H')->inv s ->
   wc P C b K Qe Qr n (Iq (D1 b) e u (iv s)) (B2 H (hv s)))
  (hb:∀s,I8 n (iv s) (hv s)=true:=by exact fun _=>rfl) (hs:Fo e (iv s0):=by (repeat refine ⟨rfl,?_⟩); exact trivial) (hh:Fp H (B2 H (hv s0)) n n:=by (repeat refine ⟨⟨rfl,rfl⟩,?_⟩); exact trivial) (h0:inv s0:=by first | exact rfl | assumption | exact Ir (by assumption) | ((repeat refine Gi ?_ _ _); first | exact rfl | assumption)):wc P C (.loop b) Qn Qe Qr n e H:=Aho h iv hv inv hb hs hh h0 body
theorem A2 {S E:Type} {step:S->Option (S⊕E)} {s0:S} {J:E->Option β} {b:Code} (h:(Aj step s0).bind J=some r) (iv:S->List (Nat×AV)) (hv:S->List (Nat×Bb))
  (body:∀(s:S) (u:Nat->Value) (K:Nat->Bh->Hp->Prop) (o:S⊕E),step s=some o->(∀x,.inr x=o->J x=some r)->(∀s' n' e' H',.inl s'=o->Fo e' (iv s')->Fp H' (B2 H (hv s')) n n->True->K n' e' H') ->
   wc P C b K Qe Qr n (Iq (D1 b) e u (iv s)) (B2 H (hv s)))
  (hb:∀s,I8 n (iv s) (hv s)=true:=by exact fun _=>rfl) (hs:Fo e (iv s0):=by (repeat refine ⟨rfl,?_⟩); exact trivial) (hh:Fp H (B2 H (hv s0)) n n:=by (repeat refine ⟨⟨rfl,rfl⟩,?_⟩); exact trivial):wc P C (.loop b) Qn Qe Qr n e H:=Aho h iv hv (fun _=>True) hb hs hh trivial fun s u K o h1 h2 h3 _=>body s u K o h1 h2 h3
theorem Ac3 {S S':Type} {c:Code} {o:Option S'} {m:S'->Option β} (inj:S->S') (h:o.bind m=some r) (iv:S->List (Nat×AV)) (hv:S->List (Nat×Bb))
  (k1:∀x,o=some x->∀(K:Nat->Bh->Hp->Prop),(∀s n' e' H',inj s=x->Fo e' (iv s)->Fp H' (B2 H (hv s)) n n->K n' e' H')->(∀y,y=x->m y=some r)->wc P C c K Qe Qr n e H)
  (k2:∀(s:S) (u:Nat->Value),m (inj s)=some r->Qn n (Iq (D1 c) e u (iv s)) (B2 H (hv s))) (hb:∀s,I8 n (iv s) (hv s)=true:=by exact fun _=>rfl):wc P C c Qn Qe Qr n e H :=
 Ag8 h fun x hx hj=>S5 (fun s=>inj s=x) iv hv hb (fun K hK=>k1 x hx K hK hj) fun s u hs=>k2 s u (hj _ hs)
theorem Bz {S:Type} {c:Code} {o:Option S} {m:S->Option β} (h:o.bind m=some r) (iv:S->List (Nat×AV)) (hv:S->List (Nat×Bb))
  (k1:∀x,o=some x->∀(K:Nat->Bh->Hp->Prop),(∀s n' e' H',s=x->Fo e' (iv s)->Fp H' (B2 H (hv s)) n n->K n' e' H')->(∀y,y=x->m y=some r)->wc P C c K Qe Qr n e H)
  (k2:∀(s:S) (u:Nat->Value),m s=some r->Qn n (Iq (D1 c) e u (iv s)) (B2 H (hv s))) (hb:∀s,I8 n (iv s) (hv s)=true:=by exact fun _=>rfl):wc P C c Qn Qe Qr n e H:=Ac3 (fun s=>s) h iv hv k1 k2 hb
abbrev C0:Cfg:={T:=Cg,an:=fun _=>.ask}
theorem pw {f:FuncId} {fn:Func} {c:Code} {args:List AV} {r:AV} (C:Cfg) (hf:Go.Proofs.Tryz.prog.funcs[f]? = some fn) (hv:wc Go.Proofs.Tryz.prog C c (fun _ e H=>Od C.T fn.results.toList (· = r) e H) (fun _ _ _ _=>False) (fun _ e H=>Od C.T fn.results.toList (· = r) e H) 0 (Qk args) H0)
   (hT:C.T=Cg:=by exact rfl) (hb:fn.body=some c:=by exact rfl) (hname:(fn.name == "runtime.NumGoroutine")=false:=by kernel_rfl) (hok:Ql fn c args.length=true:=by kernel_rfl) (hfree:r.free=true:=by exact rfl):As Go.Proofs.Tryz.prog f args r:=Arr (by rw [hT]; exact Ahs) Sw hf hb hname hok hfree hv
theorem aw {f:FuncId} {fn:Func} {c:Code} {args:List AV} {r:AV} {hs hs':List Bb} (C:Cfg) (fz:Bool) (hf:Go.Proofs.Tryz.prog.funcs[f]? = some fn) (hv:wc Go.Proofs.Tryz.prog C c (fun _ e H=>Og C.T fz fn.results.toList r hs' e H) (fun _ _ _ _=>False) (fun _ e H=>Og C.T fz fn.results.toList r hs' e H) hs.length (Qk args) (hp hs))
   (hT:C.T=Cg:=by exact rfl) (hb:fn.body=some c:=by exact rfl) (hname:(fn.name == "runtime.NumGoroutine")=false:=by kernel_rfl) (hok:Ql fn c args.length=true:=by kernel_rfl) (hok':Abj hs r hs'=true:=by exact rfl):Br Go.Proofs.Tryz.prog f args hs r hs':=Ars fz (by rw [hT]; exact Ahs) Sw hf hb hname hok hok' hv
end
theorem opk {P:Program} {T:Cb} {an:Nat->Ann} {nl:Nat->List (Nat×Nat)} {o:Oper} {n:Nat} {e:Bh} {H:Hp} {acc:Gp} {K:Nat->Bh->Hp->Gp->Prop} (k:opK P T an nl o n e H acc K):opK P T an nl o n e H acc K:=k
theorem cnd {t:Bool} {A B:Prop} (k:bif t then A else B):bif t then A else B:=k
structure Hd (Q:Prop):Prop where
 get:Q
theorem Z {P Q:Prop} (k:Q) (h:Hd Q->P:=by
  intro q
  repeat first
    | ((with_reducible show Dv (Dq _ _ _ _ _ (_::_) _ _ _ _ _)); (first | refine nx ?_ | refine Ms ?_ | refine Mr ?_))
    | ((with_reducible refine opk ?_); conv=>whnf
       first
      | ((with_reducible show Dv _); refine nw ?_)
      | ((with_reducible show F9 _ _ _); refine F9.mk _ rfl ?_)
      | ((with_reducible show Kc _ _); refine Ng ?_)
      | ((with_reducible show Jo _ _ _ _); refine Nj ?_)
      | ((with_reducible show E9 _ _ _); (first | refine Nh ?_ | refine Ni ?_)))
    | ((with_reducible show Dv (Dq _ _ _ _ _ [] _ _ _ _ _)); refine Kh ?_)
    | ((with_reducible show Dv (wc _ _ _ _ _ _ _ _ _)); refine nw ?_)
    | with_reducible refine A4 ?_
    | with_reducible refine B7 ?_
    | with_reducible refine Abu ?_
    | with_reducible refine K4 ?_
    | with_reducible refine K5 ?_
    | with_reducible refine Gq ?_
    | with_reducible refine Ahl ?_
    | with_reducible refine Abw ?_
    | with_reducible refine Abv ?_
    | ((with_reducible refine cnd ?_); first | refine Gn rfl ?_ | refine Abe rfl ?_)
    | ((with_reducible show Kg _ _ _); refine Kg.mk (by kernel_rfl) ?_)
    | ((with_reducible show wc _ _ (.cond _ _ _) _ _ _ _ _ _); first | refine Xg ?_ | refine Xh ?_)
    | refine nw ?_
    | refine nx ?_
    | refine Kh ?_
    | refine Ms ?_
    | refine Mr ?_
    | (conv=>whnf
       first
      | ((with_reducible show Dv _); refine nw ?_)
      | ((with_reducible show F9 _ _ _); refine F9.mk _ rfl ?_)
      | ((with_reducible show Kc _ _); refine Ng ?_)
      | ((with_reducible show Jo _ _ _ _); refine Nj ?_)
      | ((with_reducible show E9 _ _ _); (first | refine Nh ?_ | refine Ni ?_)))
  exact q.get):P:=h ⟨k⟩
theorem ZS {P Q:Prop} (k:Q) (h:Hd Q->P:=by
  intro q
  repeat first
    | ((with_reducible show Dv (Dq _ _ _ _ _ (_::_) _ _ _ _ _)); (first | refine nx ?_ | refine Ms ?_ | refine Mr ?_))
    | ((with_reducible refine opk ?_); conv=>whnf
       first
      | ((with_reducible show Dv _); refine nw ?_)
      | ((with_reducible show F9 _ _ _); refine F9.mk _ rfl ?_)
      | ((with_reducible show Kc _ _); refine Ng ?_)
      | ((with_reducible show Jo _ _ _ _); refine Nj ?_)
      | ((with_reducible show E9 _ _ _); (first | refine Nh ?_ | refine Ni ?_)))
    | ((with_reducible show Dv (Dq _ _ _ _ _ [] _ _ _ _ _)); refine Kh ?_)
    | ((with_reducible show Dv (wc _ _ _ _ _ _ _ _ _)); refine nw ?_)
    | with_reducible refine A4 ?_
    | with_reducible refine Abu ?_
    | with_reducible refine K4 ?_
    | with_reducible refine K5 ?_
    | with_reducible refine Gq ?_
    | with_reducible refine Abw ?_
    | with_reducible refine Abv ?_
    | ((with_reducible refine cnd ?_); first | refine Gn rfl ?_ | refine Abe rfl ?_)
    | ((with_reducible show Kg _ _ _); refine Kg.mk (by kernel_rfl) ?_)
    | ((with_reducible show wc _ _ (.cond _ _ _) _ _ _ _ _ _); first | refine Xg ?_ | refine Xh ?_)
    | refine nw ?_
    | refine nx ?_
    | refine Kh ?_
    | refine Ms ?_
    | refine Mr ?_
    | (conv=>whnf
       first
      | ((with_reducible show Dv _); refine nw ?_)
      | ((with_reducible show F9 _ _ _); refine F9.mk _ rfl ?_)
      | ((with_reducible show Kc _ _); refine Ng ?_)
      | ((with_reducible show Jo _ _ _ _); refine Nj ?_)
      | ((with_reducible show E9 _ _ _); (first | refine Nh ?_ | refine Ni ?_)))
  exact q.get):P:=h ⟨k⟩
theorem ZO {P Q:Prop} (k:Q) (h:Hd Q->P:=by
  intro q
  repeat first
    | ((with_reducible show Dv (Dq _ _ _ _ _ (_::_) _ _ _ _ _)); (first | refine nx ?_ | refine Ms ?_ | refine Mr ?_))
    | ((with_reducible refine opk ?_); conv=>whnf
       first
      | ((with_reducible show F9 _ _ _); refine F9.mk _ rfl ?_)
      | ((with_reducible show Kc _ _); refine Ng ?_)
      | ((with_reducible show Jo _ _ _ _); refine Nj ?_)
      | ((with_reducible show E9 _ _ _); (first | refine Nh ?_ | refine Ni ?_)))
    | ((with_reducible show Dv (Dq _ _ _ _ _ [] _ _ _ _ _)); refine Kh ?_)
    | ((with_reducible show Kg _ _ _); refine Kg.mk (by kernel_rfl) ?_)
    | refine nx ?_
    | refine Kh ?_
    | refine Ms ?_
    | refine Mr ?_
    | (conv=>whnf
       first
      | ((with_reducible show F9 _ _ _); refine F9.mk _ rfl ?_)
      | ((with_reducible show Kc _ _); refine Ng ?_)
      | ((with_reducible show Jo _ _ _ _); refine Nj ?_)
      | ((with_reducible show E9 _ _ _); (first | refine Nh ?_ | refine Ni ?_)))
  exact q.get):P:=h ⟨k⟩
theorem Y {P:Prop} (h:P:=by
  repeat' first
    | ((with_reducible show Dv (Dq _ _ _ _ _ (_::_) _ _ _ _ _)); first | refine nx ?_ | refine Ms ?_ | refine Mr ?_ | refine Fx h (fun _ h=>?_) (fun _ h=>?_))
    | ((with_reducible refine opk ?_); conv=>whnf
       first
      | ((with_reducible show Dv _); refine nw ?_)
      | ((with_reducible show F9 _ _ _); refine F9.mk _ rfl ?_)
      | ((with_reducible show Kc _ _); refine Ng ?_)
      | ((with_reducible show Fv _ _ _ _ _ _); (first | refine Bc h (fun _ h=>?_) | refine Ah9 h (fun _ h=>?_)))
      | ((with_reducible show Sq _ _ _); refine Bn h (fun _ _ _ _ h=>?_))
      | ((with_reducible show N8 _ _ _ _ _); (first | refine Ic h (fun _ _ _ _ h=>?_) | refine J1 h (fun _ _ _ _ h=>?_)))
      | ((with_reducible show Jo _ _ _ _); refine Nj ?_)
      | ((with_reducible show Qd _ _ _ _); refine Aia ?_)
      | ((with_reducible show K0 _ _ _ _ _ _ _); (first | refine Aib h (fun _ h=>?_) | refine Uz h (fun _ h=>?_) | refine Ac2 h (fun _ h=>?_)))
      | ((with_reducible show Oa _ _ _); (first | refine Aic h (fun _ h=>?_) | refine Aid h (fun _ h=>?_)))
      | ((with_reducible show Qc _ _ _ _ _); refine Ga h (fun _ h=>?_))
      | ((with_reducible show N9 _ _ _ _); (first | refine Aie h (fun _ h=>?_) | refine Ph h (fun _ h=>?_)))
      | ((with_reducible show E9 _ _ _); (first | refine Nh ?_ | refine Ni ?_))
      | ((with_reducible show Ws _ _ _); refine S4 h (fun _ h=>?_))
      | ((with_reducible show Wm _ _ _ _); refine S3 h (fun _ h=>?_))
      | ((with_reducible show Wn _ _ _); refine Xd h (fun _ h=>?_))
      | ((with_reducible show Wp _ _ _ _); refine Ahj h (fun _ h=>?_))
      | ((with_reducible show Wo _ _ _ _); refine Xe h (fun _ h=>?_))
      | ((with_reducible show Wq _ _ _ _); refine Abs h (fun _ _ _ _ h=>?_))
      | ((with_reducible show Wt _ _); refine Fw h (fun h=>?_))
      | ((with_reducible show Wu _ _ _ _ _); refine Ahc h (fun _ h=>?_))
      | ((with_reducible show Wv _ _ _ _); refine Ahd h (fun _ h=>?_)))
    | ((with_reducible show Dv (Dq _ _ _ _ _ [] _ _ _ _ _)); refine Kh ?_)
    | ((with_reducible show Dv (wc _ _ _ _ _ _ _ _ _)); refine nw ?_)
    | with_reducible refine A4 ?_
    | with_reducible refine B7 ?_
    | with_reducible refine Abu ?_
    | with_reducible refine K4 ?_
    | with_reducible refine K5 ?_
    | with_reducible refine Gq ?_
    | with_reducible refine Ahl ?_
    | with_reducible refine Abw ?_
    | with_reducible refine Abv ?_
    | ((with_reducible refine cnd ?_); first | refine Gn rfl ?_ | refine Abe rfl ?_)
    | ((with_reducible show wc _ _ (.cond _ _ _) _ _ _ _ _ _); first | refine Am h (fun _ h=>?_) (fun _ h=>?_) | refine Xg ?_ | refine Xh ?_)
    | ((with_reducible show Kg _ _ _); refine Kg.mk (by kernel_rfl) ?_)
    | refine nx ?_
    | refine Kh ?_
    | refine Ms ?_
    | refine Mr ?_
    | refine Fx h (fun _ h=>?_) (fun _ h=>?_)
    | exact lpn h
    | exact jnn h
    | replace h:=Ca h
    | replace h:=lpj h
    | refine nw ?_
    | (conv=>whnf
       first
      | ((with_reducible show Dv _); refine nw ?_)
      | ((with_reducible show F9 _ _ _); refine F9.mk _ rfl ?_)
      | ((with_reducible show Kc _ _); refine Ng ?_)
      | ((with_reducible show Fv _ _ _ _ _ _); (first | refine Bc h (fun _ h=>?_) | refine Ah9 h (fun _ h=>?_)))
      | ((with_reducible show Sq _ _ _); refine Bn h (fun _ _ _ _ h=>?_))
      | ((with_reducible show N8 _ _ _ _ _); (first | refine Ic h (fun _ _ _ _ h=>?_) | refine J1 h (fun _ _ _ _ h=>?_)))
      | ((with_reducible show Jo _ _ _ _); refine Nj ?_)
      | ((with_reducible show Qd _ _ _ _); refine Aia ?_)
      | ((with_reducible show K0 _ _ _ _ _ _ _); (first | refine Aib h (fun _ h=>?_) | refine Uz h (fun _ h=>?_) | refine Ac2 h (fun _ h=>?_)))
      | ((with_reducible show Oa _ _ _); (first | refine Aic h (fun _ h=>?_) | refine Aid h (fun _ h=>?_)))
      | ((with_reducible show Qc _ _ _ _ _); refine Ga h (fun _ h=>?_))
      | ((with_reducible show N9 _ _ _ _); (first | refine Aie h (fun _ h=>?_) | refine Ph h (fun _ h=>?_)))
      | ((with_reducible show E9 _ _ _); (first | refine Nh ?_ | refine Ni ?_))
      | ((with_reducible show Ws _ _ _); refine S4 h (fun _ h=>?_))
      | ((with_reducible show Wm _ _ _ _); refine S3 h (fun _ h=>?_))
      | ((with_reducible show Wn _ _ _); refine Xd h (fun _ h=>?_))
      | ((with_reducible show Wp _ _ _ _); refine Ahj h (fun _ h=>?_))
      | ((with_reducible show Wo _ _ _ _); refine Xe h (fun _ h=>?_))
      | ((with_reducible show Wq _ _ _ _); refine Abs h (fun _ _ _ _ h=>?_))
      | ((with_reducible show Wt _ _); refine Fw h (fun h=>?_))
      | ((with_reducible show Wu _ _ _ _ _); refine Ahc h (fun _ h=>?_))
      | ((with_reducible show Wv _ _ _ _); refine Ahd h (fun _ h=>?_)))
    | (have h:=Option.some.inj h; subst h; exact rfl)
    | (cases h; (repeat refine ⟨rfl,?_⟩); exact trivial)
    | (cases h; done)
):P:=h
end Go.Ab
namespace Go.Ab
open Go Go.Proofs
set_option maxRecDepth 10000
set_option linter.unusedVariables false
theorem Ar9 {a0 r:List C1} (h:B6 16 [] a0=some r):As Go.Proofs.Tryz.prog 255 [Av 2 Gj a0] (Av 2 Gj r):=by
 have h:((B6 16 [] a0).bind fun o=>some o)=some r:=by rw [h]; rfl
 refine pw {T:=Cg,an:=(fun s=>bif Nat.beq s 5 then .own else .ask),nl:=(fun s=>bif Nat.beq s 2 then [(0,2)] else [])} Tryz.func255 ?_
 refine A4 ?_
 refine B7 ?_
 refine ZO ?_
 refine A4 (A4 ?_)
 refine S5 (fun b:Bool=>b=true->a0 = []) (fun b=>[(4,An b)]) (fun _=>[]) (fun _=>rfl) ?_ ?_
 .intro K hK
  refine Aby 0 ?_
  intro v hv
  obtain ⟨p,c,rfl,hp⟩:=hv 2 (a0.map Gj) rfl
  refine B7 ?_
  refine nx ?_
  refine nx ?_
  refine Kh ?_
  refine hK p.isNone _ _ _ (fun e=>?_) ⟨rfl,trivial⟩ trivial
  cases p with
  | none=>simpa using hp rfl
  | some _=>cases e
 .rintro b _ hb
  cases b with
  | true=>
   have hb:=hb rfl
   subst hb
   have h:some ([]:List C1)=some r:=by rw [<-h]; rfl
   exact Y
  | false=>
   refine Z ?_
   exact Y
theorem Asa {a0 r:List Cj} (h:B6 40 [] a0=some r):As Go.Proofs.Tryz.prog 235 [Av 3 Er a0] (Av 3 Er r):=by
 have h:((B6 40 [] a0).bind fun o=>some o)=some r:=by rw [h]; rfl
 refine pw {T:=Cg,an:=(fun s=>bif Nat.beq s 5 then .own else .ask),nl:=(fun s=>bif Nat.beq s 2 then [(0,3)] else [])} Tryz.func235 ?_
 refine A4 ?_
 refine B7 ?_
 refine ZO ?_
 refine A4 (A4 ?_)
 refine S5 (fun b:Bool=>b=true->a0 = []) (fun b=>[(4,An b)]) (fun _=>[]) (fun _=>rfl) ?_ ?_
 .intro K hK
  refine Aby 0 ?_
  intro v hv
  obtain ⟨p,c,rfl,hp⟩:=hv 3 (a0.map Er) rfl
  refine B7 ?_
  refine nx ?_
  refine nx ?_
  refine Kh ?_
  refine hK p.isNone _ _ _ (fun e=>?_) ⟨rfl,trivial⟩ trivial
  cases p with
  | none=>simpa using hp rfl
  | some _=>cases e
 .rintro b _ hb
  cases b with
  | true=>
   have hb:=hb rfl
   subst hb
   have h:some ([]:List Cj)=some r:=by rw [<-h]; rfl
   exact Y
  | false=>
   refine Z ?_
   exact Y
theorem Asb {a0 r:List B8} (h:B6 40 [] a0=some r):As Go.Proofs.Tryz.prog 241 [Av 3 Ee a0] (Av 3 Ee r):=by
 have h:((B6 40 [] a0).bind fun o=>some o)=some r:=by rw [h]; rfl
 refine pw {T:=Cg,an:=(fun s=>bif Nat.beq s 5 then .own else .ask),nl:=(fun s=>bif Nat.beq s 2 then [(0,3)] else [])} Tryz.func241 ?_
 refine A4 ?_
 refine B7 ?_
 refine ZO ?_
 refine A4 (A4 ?_)
 refine S5 (fun b:Bool=>b=true->a0 = []) (fun b=>[(4,An b)]) (fun _=>[]) (fun _=>rfl) ?_ ?_
 .intro K hK
  refine Aby 0 ?_
  intro v hv
  obtain ⟨p,c,rfl,hp⟩:=hv 3 (a0.map Ee) rfl
  refine B7 ?_
  refine nx ?_
  refine nx ?_
  refine Kh ?_
  refine hK p.isNone _ _ _ (fun e=>?_) ⟨rfl,trivial⟩ trivial
  cases p with
  | none=>simpa using hp rfl
  | some _=>cases e
 .rintro b _ hb
  cases b with
  | true=>
   have hb:=hb rfl
   subst hb
   have h:some ([]:List B8)=some r:=by rw [<-h]; rfl
   exact Y
  | false=>
   refine Z ?_
   exact Y
end Go.Ab
namespace Go.Ab
open Go Go.Proofs Go.Shelf
set_option maxRecDepth 100000
set_option linter.unusedVariables false
def Asd:Ren:={f:=fun x=>match x with | 189=>60 | 125=>120 | 257=>119 | 128=>188 | 129=>189 | 294=>180 | 295=>181 | 296=>182 | 297=>183 | 298=>184 | 299=>185 | 216=>117 | 300=>186 | 301=>187 | 328=>257 | 329=>258 | 330=>259 | 331=>260 | 332=>261 | 215=>167 | 343=>304 | n=>n,t:=fun x=>match x with | 28=>52 | 3=>3 | 46=>164 | 0=>0 | 51=>133 | 53=>140 | 4=>4 | 183=>218 | 182=>217 | 131=>102 | 5=>5 | 9=>9 | 218=>292 | 222=>148 | 228=>346 | 229=>347 | n=>n,g:=fun n=>n}
theorem Ase:Lays.n189 Go.Proofs.Tryz.prog Asd:=by
 constructor
 all_goals first | kernel_rfl | (intro w; kernel_rfl) | constructor
 all_goals first | kernel_rfl | (intro w; kernel_rfl)
theorem B5.up {σ:Aw} {ι:Bl} {H:Hp} {F:Aw} {w w':World} {x:Nat} (h:B5 σ ι H F w x) (hk:∀(b:Nat) (o:Obj),w.heap[b]? = some o->w'.heap[b]? = some o):B5 σ ι H F w' x:=by
 unfold B5 at h ⊢
 cases hx:H x with
 | none=>rw [hx] at h; exact h
 | dead=>trivial
 | cells E cs=>
  rw [hx] at h
  obtain ⟨b,C,h1,h2,h3,g,f⟩:=h
  exact ⟨b,C,h1,h2,h3,hk _ _ g,f⟩
 | rows E sz xs=>
  rw [hx] at h
  obtain ⟨h0,h1,h2⟩:=h
  refine ⟨h0,h1,?_⟩
  rcases h2 with h2 | ⟨b,c,C,q,l,k,j,i⟩
  .exact .inl h2
  .exact .inr ⟨b,c,C,q,l,k,hk _ _ j,i⟩
 | map es=>
  rw [hx] at h
  obtain ⟨b,M,t,h1,h2,h3,g,f⟩:=h
  exact ⟨b,M,t,h1,h2,h3,hk _ _ g,f⟩
theorem St.growG {σ:Aw} {ι:Bl} {H:Hp} {F:Aw} {W w:World} (s:St σ ι H F W w) (k:Nat) (os:Array Obj):St σ ι H F W (Sort.grow (Sort.ahead w k) os):=by
 have hk:∀(b:Nat) (o:Obj),w.heap[b]? = some o->(Sort.grow (Sort.ahead w k) os).heap[b]? = some o:=by
  intro b o h
  have c:=(Array.getElem?_eq_some_iff.1 h).1
  show (w.heap++os)[b]? = _
  rw [Array.getElem?_append_left c]; exact h
 exact ⟨fun b o h=>hk b o (s.sto b o h),fun b o h=>⟨hk b o (s.fra b o h).1,(s.fra b o h).2⟩,fun h=>(s.obj h).up hk,s.inj,s.os,s.tape,s.output,s.glo,Nat.le_trans s.drw (Nat.le_add_right _ _)⟩
theorem Aif {α:Type} [Inhabited α] (enc:α->Value) (w:World) (b:Nat) (d:Array α) (C:Array Value) (E:TypeId) (h:w.heap[b]? = some (.cells C E (0,0))):Sort.putRow enc w b 0 d=w.setRow b (Sort.putCells enc 0 d C):=by
 have c:(Sort.putRow enc w b 0 d).heap=(w.setRow b (Sort.putCells enc 0 d C)).heap:=by
  apply Array.ext_getElem?
  intro i
  simp only [Sort.putRow,Sort.mapBlock,World.setRow,Array.getElem?_modify]
  split
  .rename_i e; subst e
   rw [h]; simp [Sort.onCells]
  .rfl
 unfold Sort.putRow Sort.mapBlock World.setRow at c ⊢
 simp only at c
 rw [c]
theorem Asf {b r:List Int} (h:Ag5 b=some r) (M:b≠[]):Br Go.Proofs.Tryz.prog 60 [.arr 0 b.length 0 b.length] [.rows 3 1 (List.map (O .i64) b)] (.tup []) [.rows 3 1 (List.map (O .i64) r)]:=by
 cases h
 .skip
  refine ⟨⟨_,Tryz.func60,by kernel_rfl,by kernel_rfl⟩,fun σ F W w ι vs s J=>?_⟩
  obtain ⟨v,rfl,hv⟩:=Rp J
  have hh:hp [.rows 3 1 (List.map (O .i64) b)] 0 = .rows 3 1 (List.map (O .i64) b):=rfl
  have l:=hv.arr_inv hh (by simp)
  have hor:=s.obj 0
  unfold B5 at hor
  rw [hh] at hor
  obtain ⟨_,G,hor⟩:=hor
  rw [List.length_map] at G
  rcases hor with ⟨_,E⟩ | ⟨g,q,D,Y,g1,g2,g3,g4,g5,g6⟩
  .exact (M (by simpa using E)).elim
  .rw [List.length_map] at g5
   unfold E4 at l
   rw [Y] at l
   simp only [Nat.zero_mul,Nat.zero_add,Nat.sub_zero] at l
   obtain ⟨ht,B⟩:=l
   subst B
   have k:∀(j:Nat) (x:Int),b[j]? = some x->D[j]? = some (Value.int .i64 x):=by
    intro j x hx
    obtain ⟨Z,q1,q2,q3⟩:=g6
    have A:(List.map (O .i64) b)[j]? = some (O .i64 x):=by rw [List.getElem?_map,hx]; rfl
    have N:j<(List.map (O .i64) b).length:=(List.getElem?_eq_some_iff.1 A).1
    have V:=q3 j 0 N (by omega)
    have U:=(q2 j _ 0 _ A rfl).1
    have:Z j 0=Value.int .i64 x:=by
     generalize Z j 0=z at U
     cases U; rfl
    rw [this] at V
    simpa using V
   have hH:Sort.Holds (Value.int .i64) w g 0 b.toArray:=by
    intro j hj
    have hj':j<b.length:=by simpa using hj
    have hx:b[j]? = some b[j]:=List.getElem?_eq_getElem hj'
    have hD:=k j _ hx
    have e1:b.toArray[j]! = b[j]:=by
     rw [getElem!_pos b.toArray j hj]; simp
    rw [e1]
    refine ⟨?_,?_⟩
    .rw [Nat.zero_add,Hq g3]; exact hD
    .simp [World.frozen?,g3]
   have call:=Any.slices_Sort_int Ase g 0 q b w hH (Array.getElem?_eq_some_iff.1 g3).1 (by omega)
   refine call.mono ?_
   rintro e w' ⟨rfl,n,os,rfl⟩
   generalize hr:b.mergeSort (fun x y=>decide (x<=y))=r
   have I:r.length=b.length:=by rw [<-hr]; exact List.length_mergeSort b
   have L:(Sort.putCells (Value.int .i64) 0 r.toArray D).size=q*1:=by unfold Sort.putCells; rw [Array.size_mapIdx]; exact g4
   obtain ⟨s',le⟩:=s.setRows 0 3 1 _ (List.map (O .i64) r) hh g q Y (by simp [I]) (Sort.putCells (Value.int .i64) 0 r.toArray D) L (by
    refine ⟨fun i _=>match r[i]? with | some z=>.int .i64 z | none=>.bool false,?_,?_,?_⟩
    .intro i x hx
     rw [List.getElem?_map] at hx
     obtain ⟨z,X,rfl⟩:=Option.map_eq_some_iff.1 hx
     rfl
    .intro i x j c hx f
     rw [List.getElem?_map] at hx
     obtain ⟨z,X,rfl⟩:=Option.map_eq_some_iff.1 hx
     have f:([O .i64 z]:List AV)[j]? = some c:=f
     match j with
     | 0=>cases f; simp only [X]; exact ⟨.val _,rfl⟩
     | j+1=>simp at f
    .intro i j hi hj
     have R:j=0:=by omega
     subst R
     have u:i<r.length:=by simpa using hi
     have S:i<D.size:=by rw [g4]; omega
     simp only [Nat.mul_one,Nat.add_zero,List.getElem?_eq_getElem u]
     unfold Sort.putCells
     rw [Array.getElem?_mapIdx,Array.getElem?_eq_getElem S]
     simp only [Option.map_some,Nat.zero_le,true_and,Nat.zero_add,List.size_toArray,u,if_true,Nat.sub_zero]
     congr 2
     rw [getElem!_pos r.toArray i (by simpa using u)]; simp)
   have eH:A3 (hp [.rows 3 1 (List.map (O .i64) b)]) 0 (.rows 3 1 (List.map (O .i64) r))=hp [.rows 3 1 (List.map (O .i64) r)]:=by
    funext i
    match i with
    | 0=>rfl
    | i+1=>rfl
   rw [eH] at le s'
   have eW:Sort.grow (Sort.putRow (Value.int .i64) (Sort.ahead w n) g 0 r.toArray) os=Sort.grow (Sort.ahead (w.setRow g (Sort.putCells (Value.int .i64) 0 r.toArray D)) n) os:=by
    rw [Aif (Value.int .i64) (Sort.ahead w n) g r.toArray D 3 g3]
    rfl
   rw [eW]
   exact ⟨_,σ,ι,rfl,le,s'.growG n os,.tup _ _ rfl (fun i c v h1 _=>by cases h1)⟩
end Go.Ab
namespace Go.Ab
open Go Go.Proofs Go.Shelf Go.Sort
set_option maxRecDepth 100000
set_option linter.unusedVariables false
theorem Asg {v:Value} (h:Di v=true):v.oneCell'=true:=by cases v <;> first | rfl | cases h
theorem Ash {σ:Aw} {ι:Bl} {H:Hp} {f:FuncId} {v:Value} (h:Conc σ ι H (.fn f []) v):v = .func (.func f) #[] #[]:=by
 cases h with
 | cc h=>cases h
 | fn _ _ vs b _=>
  have:vs = #[]:=Array.size_eq_zero_iff.1 (by simpa using b)
  rw [this]
def Aig {α:Type} (σ:Aw) (eA:α->AV) (sz:Nat) (S:List α) (x:α) (c:List Value):Prop :=
 x∈S/\(eA x).cells.length=sz/\c.length=sz/\∀(j:Nat) (a:AV) (v:Value),(eA x).cells[j]? = some a->c[j]? = some v->CC σ a v/\Di v=true
abbrev Lc {α:Type} (σ:Aw) (eA:α->AV) (sz:Nat) (S:List α):Type:={p:α×List Value // Aig σ eA sz S p.1 p.2}
theorem Asi {σ:Aw} {W w':World} (g:∀b o,W.heap[b]? = some o->σ b=some o) (s:St σ ι0 H0 (fun _=>none) W w'):∃q f,w'=grow (W.drewN q) f:=by
 have hk:∀b o,W.heap[b]? = some o->w'.heap[b]? = some o:=fun b o h=>s.sto b o (g b o h)
 have j:W.heap.size<=w'.heap.size:=by
  rcases Nat.eq_zero_or_pos W.heap.size with h | h
  .omega
  .have:=hk (W.heap.size-1) _ (Array.getElem?_eq_getElem (by omega))
   have:=(Array.getElem?_eq_some_iff.1 this).1
   omega
 refine ⟨w'.drawn-W.drawn,w'.heap.extract W.heap.size w'.heap.size,?_⟩
 have c:w'.heap=W.heap++w'.heap.extract W.heap.size w'.heap.size:=by
  apply Array.ext_getElem?
  intro i
  by_cases hi:i<W.heap.size
  .rw [Array.getElem?_append_left hi,Array.getElem?_eq_getElem hi]
   exact hk i _ (Array.getElem?_eq_getElem hi)
  .rw [Array.getElem?_append_right (by omega)]
   by_cases hj:i<w'.heap.size
   .rw [Array.getElem?_eq_getElem hj,Array.getElem?_eq_getElem (by simp; omega)]
    simp only [Array.getElem_extract]
    congr 2
    omega
   .rw [Array.getElem?_eq_none (by omega),Array.getElem?_eq_none (by simp; omega)]
 have h1:=s.os
 have h2:=s.tape
 have h3:=s.output
 have k:=s.drw
 cases w' with
 | mk heap tape drawn os output=>
  simp only at h1 h2 h3 k c
  unfold grow World.drewN
  simp only [World.mk.injEq]
  exact ⟨c,h2,by omega,h1,h3⟩
theorem Asj {ρ:Ren} {α:Type} {eA:α->AV} {E:TypeId} {sz f g:Nat} {cmp:α->α->Option Int} (L:SlLaysF0.n6 Go.Proofs.Tryz.prog ρ) (hf:ρ.f 6=f) (a6:Aa1 Go.Proofs.Tryz.prog f)
  (aE:∀w,(isAgg (ρ.t 24)).run Go.Proofs.Tryz.prog w = .ok true w) (zE:∀w,(Go.sizeOf (ρ.t 24)).run Go.Proofs.Tryz.prog w = .ok sz w) (eg:∀args w,(callFunc g args).run Go.Proofs.Tryz.prog w = .ok (.enter g args) w)
  (ax:∀x y n,cmp x y=some n->As Go.Proofs.Tryz.prog g [eA x,eA y] (O .i64 n)) (az:∀x,∃cs,eA x = .agg cs) {l r:List α} (h:S6 cmp l=some r) (aj:l≠[]) :
  Br Go.Proofs.Tryz.prog f [.arr 0 l.length 0 l.length,.fn g []] [.rows E sz (l.map eA)] (.tup []) [.rows E sz (r.map eA)]:=by
 obtain ⟨cf,law,bb,G,A⟩:=Arw h
 refine ⟨a6,fun σ F W w ι vs s av=>?_⟩
 obtain ⟨v,v2,rfl,hv,b5⟩:=Ah7 av
 obtain rfl:=Ash b5
 have hh:hp [.rows E sz (l.map eA)] 0 = .rows E sz (l.map eA):=rfl
 have N:=hv.arr_inv hh (by simp)
 have hor:=s.obj 0
 unfold B5 at hor
 rw [hh] at hor
 obtain ⟨S,am,hor⟩:=hor
 rw [List.length_map] at am
 rcases hor with ⟨_,ah⟩ | ⟨b,U,D,hb,g1,g2,g3,g4,g5,g6⟩
 .exact (aj (by simpa using ah)).elim
 rw [List.length_map] at g5
 unfold E4 at N
 rw [hb] at N
 simp only [Nat.zero_mul,Nat.sub_zero] at N
 obtain ⟨ht,aa⟩:=N
 subst aa
 obtain ⟨gg,q1,q2,q3⟩:=g6
 have a8:∀(i:Nat) (x:α),l[i]? = some x->(l.map eA)[i]? = some (eA x):=fun i x hx=>by rw [List.getElem?_map,hx]; rfl
 have Z:∀(i:Nat) (hi:i<l.length),Aig σ eA sz l l[i] ((List.range sz).map (gg i)):=by
  intro i hi
  have hx:l[i]? = some l[i]:=List.getElem?_eq_getElem hi
  refine ⟨List.getElem_mem hi,q1 i _ (a8 i _ hx),by simp,fun j a v ha hv=>?_⟩
  rw [List.getElem?_map,Option.map_eq_some_iff] at hv
  obtain ⟨k,hk,rfl⟩:=hv
  have b9:k=j:=by
   have:=(List.getElem?_eq_some_iff.1 hk).2
   simpa using this.symm
  subst b9
  exact q2 i _ k a (a8 i _ hx) ha
 have hpos:0<l.length:=List.length_pos_iff.2 aj
 let d:Array (Lc σ eA sz l):=Array.ofFn fun i:Fin l.length=>⟨(l[i.1],(List.range sz).map (gg i.1)),Z i.1 i.2⟩
 haveI:Inhabited (Lc σ eA sz l):=⟨⟨(l[0],(List.range sz).map (gg 0)),Z 0 hpos⟩⟩
 have B:d.size=l.length:=by simp [d]
 have ba:∀i (hi:i<l.length),d[i]! = ⟨(l[i],(List.range sz).map (gg i)),Z i hi⟩:=fun i hi=>by
  rw [getElem!_pos d i (by rw [B]; exact hi)]; simp [d]
 let enc:Lc σ eA sz l->List Value:=fun p=>p.1.2
 have hk:∀x:Lc σ eA sz l,(enc x).length=sz:=fun x=>x.2.2.2.1
 have h1:∀x:Lc σ eA sz l,∀v∈enc x,v.oneCell'=true:=by
  intro x v hv
  obtain ⟨j,hj⟩:=List.getElem?_of_mem hv
  have q:=(List.getElem?_eq_some_iff.1 hj).1
  rw [hk x] at q
  have ha:(eA x.1.1).cells[j]? = some ((eA x.1.1).cells[j]'(by rw [x.2.2.1]; exact q)):=List.getElem?_eq_getElem _
  exact Asg (x.2.2.2.2 j _ v ha hj).2
 let a7:Lc σ eA sz l->Lc σ eA sz l->Int:=fun x y=>cf x.1.1 y.1.1
 have hO:SWO (ltOf a7):=by
  constructor
  .intro x; exact decide_eq_false (law.irr x.1.1)
  .intro x y z X V
   exact decide_eq_true (law.trs _ _ _ (of_decide_eq_true X) (of_decide_eq_true V))
  .intro x y z X V
   exact decide_eq_false (law.ntr _ _ _ (of_decide_eq_false X) (of_decide_eq_false V))
 have hH:HoldsK enc sz w b 0 d:=by
  intro t Y
  rw [size_flatK,B] at Y
  have ac:t / sz<l.length:=Nat.div_lt_of_lt_mul (by rw [Nat.mul_comm]; exact Y)
  have ab:t % sz<sz:=Nat.mod_lt _ S
  rw [get_flatK _ _ _ _ (by rw [B]; exact Y),ba _ ac]
  have e:=q3 (t / sz) (t % sz) (by rw [List.length_map]; exact ac) ab
  rw [show t / sz*sz+t % sz=t by rw [Nat.mul_comm]; exact Nat.div_add_mod t sz] at e
  refine ⟨?_,?_⟩
  .rw [Nat.zero_add,Hq g3,e]
   show some _=some (id _)
   congr 1
   show gg _ _=((List.range sz).map (gg (t / sz)))[t % sz]!
   rw [getElem!_pos _ _ (by simpa using ab)]
   simp
  .simp [World.frozen?,g3]
 have hblk:b<w.heap.size:=(Array.getElem?_eq_some_iff.1 g3).1
 have hC:CmpLays Go.Proofs.Tryz.prog g #[] enc sz a7 b 0 d.size w:=by
  intro m os dk hs x y
  generalize b4:sortWorldK enc sz w b 0 m dk os=R
  have ap:∀b' o,σ b'=some o->R.heap[b']? = some o:=by
   intro b' o ho
   have ai:b≠b':=by
    rintro rfl
    rw [g1] at ho; cases ho
   have e:=s.sto b' o ho
   have q:=(Array.getElem?_eq_some_iff.1 e).1
   rw [<-b4]
   show ((w.heap.modify b _)++os)[b']? = _
   rw [Array.getElem?_append_left (by simpa using q),Array.getElem?_modify,if_neg ai]; exact e
  have ar:=bb x.1.1 x.2.1 y.1.1 y.2.1
  have hp:=ax _ _ _ ar
  have s1:St ((fun b=>R.heap[b]?)) ι0 H0 (fun _=>none) R R:=⟨fun _ _ e=>e,(fun _ _ e=>by cases e),fun _=>rfl,(fun _ _ _ hl=>by cases hl),rfl,rfl,rfl,s.glo.mono ap,Nat.le_refl _⟩
  have ay:∀z:Lc σ eA sz l,Conc ((fun b=>R.heap[b]?)) ι0 H0 (eA z.1.1) (.agg (enc z).toArray):=by
   intro z
   obtain ⟨cs,au⟩:=az z.1.1
   have I:(eA z.1.1).cells=cs:=by rw [au]; rfl
   rw [au]
   refine .cc (.agg _ _ ?_ fun i c v hc hv=>?_)
   .rw [<-I,z.2.2.1]; simp [hk z]
   .rw [<-I] at hc
    exact (z.2.2.2.2 i c v hc (by simpa using hv)).1.mono ap
  refine (hp.2 ((fun b=>R.heap[b]?)) (fun _=>none) R R _ s1 ⟨rfl,?_⟩).mono ?_
  .intro i a v ha hv
   match i,ha,hv with
   | 0,ha,hv=>cases ha; cases hv; exact ay x
   | 1,ha,hv=>cases ha; cases hv; exact ay y
   | n+2,ha,hv=>simp at ha
  .rintro e w' ⟨v,σ',rfl,ao,b6,hc⟩
   refine ⟨?_,?_⟩
   .cases hc with
    | cc h=>cases h; rfl
   .exact Asi (σ:=σ') (fun b o ho=>ao b o ho) b6
 have call:=AnyQ.slices_SortFunc L sz aE zE enc hk h1 a7 hO g #[] b 0 U d w eg hC hH hblk (by rw [B]; omega)
 rw [hf,B] at call
 refine call.mono ?_
 rintro e w' ⟨rfl,u,n,os,b8,b7,rfl⟩
 obtain ⟨p1,p2,p3⟩:=b8
 have M:u.size=l.length:=by rw [p1,B]
 have J:∀(a:Array (Lc σ eA sz l)),a.size=l.length->(a.extract 0 l.length).toList=a.toList:=fun a ha=>by
  rw [<-ha]; simp
 rw [J u M,J d B] at p3
 have ak:d.toList.map (fun p=>p.1.1)=l:=by
  apply List.ext_getElem
  .simp [B]
  .intro i bf be
   simp [d]
 have ag:(u.toList.map fun p=>p.1.1).Perm l:=by
  have:=p3.map fun p:Lc σ eA sz l=>p.1.1
  rwa [ak] at this
 have hR:(u.toList.map fun p=>p.1.1).Pairwise fun x y=>cf x y<0\/cf y x<0:=by
  refine ((ag.trans G.symm).pairwise_iff (fun {x y} h=>h.symm)).2 ?_
  exact A.imp fun h=>.inl h
 have hS:(u.toList.map fun p=>p.1.1).Pairwise fun x y=>cf x y<0:=by
  rw [List.pairwise_iff_getElem] at hR ⊢
  intro i j hi hj aq
  simp only [List.length_map,Array.length_toList] at hi hj
  rcases hR i j (by simpa using hi) (by simpa using hj) aq with h | h
  .exact h
  .have:=b7 i j (Nat.zero_le _) aq (by omega)
   rw [getElem!_pos u i hi,getElem!_pos u j hj] at this
   have:=of_decide_eq_false this
   simp only [List.getElem_map,Array.getElem_toList] at h
   exact (this h).elim
 have af:u.toList.map (fun p=>p.1.1)=r:=by
  refine List.Perm.eq_of_pairwise (le:=fun x y=>cf x y<0) (fun x y _ _ h1 h2=>(law.irr x (law.trs _ _ _ h1 h2)).elim) hS A (ag.trans G.symm)
 have ae:r.length=l.length:=G.length_eq
 have bd:(flatK enc sz u).size=l.length*sz:=by rw [size_flatK,M]
 have b3:(Sort.putCells id 0 (flatK enc sz u) D).size=U*sz:=by unfold Sort.putCells; rw [Array.size_mapIdx]; exact g4
 have ad:∀(i:Nat) (x:α),r[i]? = some x->i<u.size/\(u[i]!).1.1=x:=by
  intro i x hx
  rw [<-af,List.getElem?_map,Option.map_eq_some_iff] at hx
  obtain ⟨p,hp,rfl⟩:=hx
  have q:=(List.getElem?_eq_some_iff.1 hp).1
  simp only [Array.length_toList] at q
  refine ⟨q,?_⟩
  rw [getElem!_pos u i q]
  have:=(List.getElem?_eq_some_iff.1 hp).2
  simp only [Array.getElem_toList] at this
  rw [this]
 obtain ⟨s',le⟩:=s.setRows 0 E sz _ (r.map eA) hh b U hb (by simp [ae]) (Sort.putCells id 0 (flatK enc sz u) D) b3 (by
  refine ⟨fun i j=>(enc u[i]!)[j]!,?_,?_,?_⟩
  .intro i x hx
   rw [List.getElem?_map] at hx
   obtain ⟨z,hz,rfl⟩:=Option.map_eq_some_iff.1 hx
   obtain ⟨e1,e2⟩:=ad i z hz
   rw [<-e2]; exact (u[i]!).2.2.1
  .intro i x j c hx a1
   rw [List.getElem?_map] at hx
   obtain ⟨z,hz,rfl⟩:=Option.map_eq_some_iff.1 hx
   obtain ⟨e1,e2⟩:=ad i z hz
   rw [<-e2] at a1
   have q:=(List.getElem?_eq_some_iff.1 a1).1
   rw [(u[i]!).2.2.1,<-(u[i]!).2.2.2.1] at q
   have hg:(u[i]!).1.2[j]? = some ((enc u[i]!)[j]!):=by
    rw [List.getElem?_eq_getElem q,getElem!_pos (enc u[i]!) j q]
   exact (u[i]!).2.2.2.2 j c _ a1 hg
  .intro i j hi hj
   rw [List.length_map,ae] at hi
   have q:i*sz+j<l.length*sz:=by
    have:=Nat.mul_le_mul_right sz (show i+1<=l.length from hi)
    rw [Nat.add_mul,Nat.one_mul] at this; omega
   have hD:i*sz+j<D.size:=by
    rw [g4]
    exact Nat.lt_of_lt_of_le q (Nat.mul_le_mul_right sz g5)
   unfold Sort.putCells
   rw [Array.getElem?_mapIdx,Array.getElem?_eq_getElem hD]
   simp only [Option.map_some,Nat.zero_le,true_and,Nat.zero_add,bd,q,if_true,Nat.sub_zero]
   congr 1
   show id ((flatK enc sz u)[i*sz+j]!)=_
   rw [get_flatK _ _ _ _ (by rw [M]; exact q)]
   have e1:(i*sz+j) / sz=i:=by rw [Nat.mul_comm,Nat.mul_add_div S,Nat.div_eq_of_lt hj,Nat.add_zero]
   have e2:(i*sz+j) % sz=j:=by rw [Nat.mul_comm,Nat.mul_add_mod,Nat.mod_eq_of_lt hj]
   rw [e1,e2]; rfl)
 have eH:A3 (hp [.rows E sz (l.map eA)]) 0 (.rows E sz (r.map eA))=hp [.rows E sz (r.map eA)]:=by
  funext i
  match i with
  | 0=>rfl
  | i+1=>rfl
 rw [eH] at le s'
 have eW:sortWorldK enc sz w b 0 n u os=Sort.grow (Sort.ahead (w.setRow b (Sort.putCells id 0 (flatK enc sz u) D)) n) os:=by
  unfold sortWorldK putRowK
  rw [Aif id (Sort.ahead w n) b (flatK enc sz u) D E g3]
  rfl
 rw [eW]
 exact ⟨_,σ,ι,rfl,le,s'.growG n os,.tup _ _ rfl (fun i c v h1 _=>by cases h1)⟩
def Ask:Ren:={f:=fun x=>match x with | 6=>92 | 15=>120 | 14=>164 | 28=>188 | 29=>189 | 20=>246 | 21=>247 | 22=>248 | 23=>249 | 24=>250 | 25=>251 | 26=>252 | 27=>253 | 46=>301 | 47=>258 | 48=>259 | 49=>302 | 50=>303 | 57=>345 | n=>n,t:=fun x=>match x with | 22=>28 | 24=>84 | 25=>143 | 3=>3 | 39=>164 | 0=>0 | 53=>133 | 55=>140 | 4=>4 | 46=>218 | 45=>217 | 50=>102 | 5=>5 | 9=>9 | 66=>292 | 70=>148 | 76=>346 | 77=>347 | n=>n,g:=fun n=>n}
theorem Asl:SlLaysF0.n6 Go.Proofs.Tryz.prog Ask:=by
 constructor
 case f6=>exact Exists.intro "slices.SortFunc[[]amortcost/api.Term,amortcost/api.Term]" ⟨by kernel_rfl,by kernel_rfl⟩
 case f14=>exact Exists.intro "slices.pdqsortCmpFunc[amortcost/api.Term]" ⟨by kernel_rfl,by kernel_rfl⟩
 case f20=>exact Exists.intro "slices.insertionSortCmpFunc[amortcost/api.Term]" ⟨by kernel_rfl,by kernel_rfl⟩
 case f21=>exact Exists.intro "slices.heapSortCmpFunc[amortcost/api.Term]" ⟨by kernel_rfl,by kernel_rfl⟩
 case f22=>exact Exists.intro "slices.breakPatternsCmpFunc[amortcost/api.Term]" ⟨by kernel_rfl,by kernel_rfl⟩
 case f23=>exact Exists.intro "slices.choosePivotCmpFunc[amortcost/api.Term]" ⟨by kernel_rfl,by kernel_rfl⟩
 case f24=>exact Exists.intro "slices.reverseRangeCmpFunc[amortcost/api.Term]" ⟨by kernel_rfl,by kernel_rfl⟩
 case f25=>exact Exists.intro "slices.partialInsertionSortCmpFunc[amortcost/api.Term]" ⟨by kernel_rfl,by kernel_rfl⟩
 case f26=>exact Exists.intro "slices.partitionEqualCmpFunc[amortcost/api.Term]" ⟨by kernel_rfl,by kernel_rfl⟩
 case f27=>exact Exists.intro "slices.partitionCmpFunc[amortcost/api.Term]" ⟨by kernel_rfl,by kernel_rfl⟩
 case f46=>exact Exists.intro "slices.siftDownCmpFunc[amortcost/api.Term]" ⟨by kernel_rfl,by kernel_rfl⟩
 case f49=>exact Exists.intro "slices.medianAdjacentCmpFunc[amortcost/api.Term]" ⟨by kernel_rfl,by kernel_rfl⟩
 case f50=>exact Exists.intro "slices.medianCmpFunc[amortcost/api.Term]" ⟨by kernel_rfl,by kernel_rfl⟩
 case f57=>exact Exists.intro "slices.order2CmpFunc[amortcost/api.Term]" ⟨by kernel_rfl,by kernel_rfl⟩
 all_goals first | kernel_rfl | (intro w; kernel_rfl)
theorem Asm {α:Type} {eA:α->AV} {g:Nat} {cmp:α->α->Option Int} (j:∀args w,(callFunc g args).run Go.Proofs.Tryz.prog w = .ok (.enter g args) w)
  (b:∀x y n,cmp x y=some n->As Go.Proofs.Tryz.prog g [eA x,eA y] (O .i64 n)) (c:∀x,∃cs,eA x = .agg cs) {f r:List α} (h:S6 cmp f=some r) (i:f≠[]) :
  Br Go.Proofs.Tryz.prog 92 [.arr 0 f.length 0 f.length,.fn g []] [.rows 84 5 (f.map eA)] (.tup []) [.rows 84 5 (r.map eA)] :=
 Asj Asl rfl ⟨_,Tryz.func92,by kernel_rfl,by kernel_rfl⟩ (by intro w; kernel_rfl) (by intro w; kernel_rfl) j b c h i
end Go.Ab
