/- Contracts of strings.Builder and strconv.Itoa. -/
import Derived.Test.YtenghgogpgldaaaGreatDoorPsTy
import Derived.Test.YtenghgogpgldaaaGreatDoorPsHandB
import Derived.Shelf.Strconv.Itoa4
import Derived.KernelRfl
import Derived.Shelf.Sort.Plain
import Derived.Shelf.SlSortCmp.WholeK
namespace Go.Ab
open Go Go.Proofs Go.Shelf
set_option maxRecDepth 100000
def Agr:Ren:={f:=fun x=>match x with | 171=>145 | 243=>215 | 246=>289 | 283=>316 | 284=>317 | 285=>318 | 286=>319 | 129=>189 | 317=>356 | 318=>357 | 319=>358 | 320=>359 | 337=>378 | 338=>379 | 173=>217 | n=>n,t:=fun x=>match x with | 3=>3 | 9=>9 | 2=>2 | 4=>4 | 171=>359 | 0=>0 | 53=>140 | 37=>185 | 5=>5 | 173=>361 | 212=>390 | 51=>133 | 20=>20 | 213=>391 | 46=>164 | 232=>423 | 233=>424 | n=>n,g:=fun x=>match x with | 17=>0 | 18=>1 | 19=>2 | n=>n}
theorem Ags:LaysM.n171 Go.Proofs.Tryz.prog Agr:=by
 constructor
 constructor
 all_goals first | kernel_rfl | (intro w; kernel_rfl)
theorem St.grown {σ:Aw} {F:Aw} {W w:World} (s:St σ ι0 H0 F W w) (k:Nat) (os:Array Obj):St σ ι0 H0 F W (Sort.grow (w.drewN k) os):=by
 have hk:∀(b:Nat) (o:Obj),w.heap[b]? = some o->(Sort.grow (w.drewN k) os).heap[b]? = some o:=by
  intro b o h
  have c:=(Array.getElem?_eq_some_iff.1 h).1
  show (w.heap++os)[b]? = _
  rw [Array.getElem?_append_left c]; exact h
 exact ⟨fun b o h=>hk b o (s.sto b o h),fun b o h=>⟨hk b o (s.fra b o h).1,(s.fra b o h).2⟩,fun _=>rfl,(fun _ _ _ f=>by cases f),s.os,s.tape,s.output,s.glo,Nat.le_trans s.drw (Nat.le_add_right _ _)⟩
theorem Agt {σ:Aw} {ι:Bn} {H:Hp} {F:Aw} {W w:World} (s:St σ ι H F W w):Lib.TabIs Go.Proofs.Tryz.prog w "internal/strconv.uint64pow10" .u64 Lib.pow10Tab:=by
 obtain ⟨E,fr,e⟩:=s.glo
 have h:=s.sto _ _ e
 have g:Go.Proofs.Tryz.prog.globalNamed "internal/strconv.uint64pow10" = some 0:=Ags.m17
 unfold Lib.TabIs World.var?
 rw [g]
 simp only [Option.bind_some,h]
theorem Uq {σ:Aw} {ι:Bn} {H:Hp} {x:AV} {vs:Array Value} (h:Jv σ ι H [x] vs):∃v,vs = #[v]/\Conc σ ι H x v:=by
 obtain ⟨h1,h2⟩:=h
 have h1:vs.size=1:=h1
 refine ⟨vs[0],?_,h2 0 x _ rfl (by simp [h1])⟩
 apply Array.ext
 .simp [h1]
 .intro i hi b
  have:i=0:=by omega
  subst this; rfl
theorem Apy {a0:Int} {r:ByteArray} (h:Lj a0=some r):Aq Go.Proofs.Tryz.prog 145 [O .i64 a0] (Db r):=by
 unfold Lj at h
 split at h
 .rename_i hc
  cases h
  refine ⟨⟨_,Tryz.func145,by kernel_rfl,by kernel_rfl⟩,fun σ F W w vs s b=>?_⟩
  obtain ⟨v,rfl,c⟩:=Uq b
  have c:=c.val_inv
  subst c
  have:=Any.strconv_Itoa Ags a0 hc.1 hc.2 w (Agt s)
  refine this.mono ?_
  rintro e w' ⟨rfl,k,os,rfl⟩
  exact ⟨_,σ,rfl,Aw.le_refl σ,s.grown k os,.of_val _⟩
 .cases h
theorem Apz:LaysM.n173 Go.Proofs.Tryz.prog Agr:=by
 constructor
 constructor
 all_goals first | kernel_rfl | (intro w; kernel_rfl)
theorem Agu {σ:Aw} {ι:Bn} {H:Hp} {x y:AV} {vs:Array Value} (h:Jv σ ι H [x,y] vs):∃v u,vs = #[v,u]/\Conc σ ι H x v/\Conc σ ι H y u:=by
 obtain ⟨h1,h2⟩:=h
 have h1:vs.size=2:=h1
 refine ⟨vs[0],vs[1],?_,h2 0 x _ rfl (by simp [h1]),h2 1 y _ rfl (by simp [h1])⟩
 apply Array.ext
 .simp [h1]
 .intro i hi b
  rcases (by omega:i=0\/i=1) with h | h
  .subst h; rfl
  .subst h; rfl
theorem Ap0 {a0 a1:Int} {r:ByteArray} (h:Wm a0 a1=some r):Aq Go.Proofs.Tryz.prog 217 [O .i64 a0,O .i64 a1] (Db r):=by
 unfold Wm at h
 cases hb:a1==10 with
 | false=>rw [hb] at h; cases h
 | true=>
  rw [hb] at h
  have hb:=eq_of_beq hb
  subst hb
  have h:Lj a0=some r:=h
  unfold Lj at h
  split at h
  .rename_i hc
   cases h
   refine ⟨⟨_,Tryz.func217,by kernel_rfl,by kernel_rfl⟩,fun σ F W w vs s b=>?_⟩
   obtain ⟨v,u,rfl,c,hu⟩:=Agu b
   have c:=c.val_inv
   have hu:=hu.val_inv
   subst c; subst hu
   have:=Any.strconv_FormatInt_10 Apz a0 hc.1 hc.2 w (Agt s)
   refine this.mono ?_
   rintro e w' ⟨rfl,k,os,rfl⟩
   exact ⟨_,σ,rfl,Aw.le_refl σ,s.grown k os,.of_val _⟩
  .cases h
theorem Xq (o:Bf) (os:List Bf):hp (o::os) 0=o:=rfl
theorem Ap1 (x:AV) (rest:List Bf):Ce Go.Proofs.Tryz.prog 213 [.loc 0 0] (.cells 187 [.loc 0 0,x]::rest) (.tup []) (.cells 187 [.loc 0 0,x]::rest):=by
 refine ⟨⟨_,Tryz.func213,by kernel_rfl,by kernel_rfl⟩,fun σ F W w ι vs s f=>?_⟩
 obtain ⟨v,rfl,k⟩:=Uq f
 obtain ⟨b,hb,k⟩:=k.loc_inv
 subst k
 have l:=s.obj 0
 unfold B8 at l
 rw [Xq] at l
 obtain ⟨A,C,y,_,_,h3,u,z⟩:=l
 rw [hb] at y; cases y
 have u:C.size=2:=u
 have g:C[0]? = some C[0]:=by simp [u]
 have q:=z 0 (.loc 0 0) C[0] rfl g
 obtain ⟨b2,h,j⟩:=q.loc_inv
 rw [hb] at h; cases h
 have cell:w.cell? ⟨b,0,none⟩=some (.pointer (some ⟨b,0,none⟩)):=by
  rw [Hj h3,g,j]
 refine (Tryz.check_used b w cell).mono ?_
 rintro e w' ⟨rfl,rfl⟩
 exact ⟨_,σ,ι,rfl,Le.refl _ _ _,s,.tup _ _ rfl (fun i c v h1 _=>by cases h1)⟩
theorem Ap2 (x:AV) (rest:List Bf):Ce Go.Proofs.Tryz.prog 213 [.loc 0 0] (.cells 187 [.val (.pointer none),x]::rest) (.tup []) (.cells 187 [.loc 0 0,x]::rest):=by
 refine ⟨⟨_,Tryz.func213,by kernel_rfl,by kernel_rfl⟩,fun σ F W w ι vs s j=>?_⟩
 obtain ⟨v,rfl,q⟩:=Uq j
 obtain ⟨b,hb,q⟩:=q.loc_inv
 subst q
 have u:=s.obj 0
 unfold B8 at u
 rw [Xq] at u
 obtain ⟨E,C,A,_,_,h3,g,z⟩:=u
 rw [hb] at A; cases A
 have g:C.size=2:=g
 have k:C[0]? = some C[0]:=by simp [g]
 have l:=(z 0 (.val (.pointer none)) C[0] rfl k).val_inv
 have cell:w.cell? ⟨b,0,none⟩=some (.pointer none):=by
  rw [Hj h3,k,l]
 refine (Tryz.check_fresh b w cell (by simp [World.shape?,h3,g]) (by simp [World.frozen?,h3])).mono ?_
 rintro e w' ⟨rfl,rfl⟩
 obtain ⟨s',le⟩:=s.setBox 0 187 [.val (.pointer none),x] [.loc 0 0,x] rfl b hb #[.pointer (some ⟨b,0,none⟩),C[1]] rfl (by
  intro i c v h1 h2
  match i with
  | 0=>simp at h1 h2; subst h1; subst h2; exact .loc 0 0 b hb
  | 1=>simp at h1 h2; subst h1; subst h2; exact z 1 x _ rfl (by simp [g])
  | i+2=>simp at h1)
 have D:A4 (hp (.cells 187 [.val (.pointer none),x]::rest)) 0 (.cells 187 [.loc 0 0,x])=hp (.cells 187 [.loc 0 0,x]::rest):=by
  funext i
  cases i with
  | zero=>rfl
  | succ i=>rfl
 have B:w.setCell ⟨b,0,none⟩ (.pointer (some ⟨b,0,none⟩))=w.setRow b #[.pointer (some ⟨b,0,none⟩),C[1]]:=by
  have h:C.setIfInBounds 0 (.pointer (some ⟨b,0,none⟩)) = #[.pointer (some ⟨b,0,none⟩),C[1]]:=by
   apply Array.ext
   .simp [g]
   .intro i hi y
    match i with
    | 0=>simp
    | 1=>rw [Array.getElem_setIfInBounds_ne _ (by decide)]; rfl
    | i+2=>simp at y; omega
  have f:(w.setCell ⟨b,0,none⟩ (.pointer (some ⟨b,0,none⟩))).heap=(w.setRow b #[.pointer (some ⟨b,0,none⟩),C[1]]).heap:=by
   apply Array.ext_getElem?
   intro i
   simp only [World.setCell,World.setRow,Array.getElem?_modify]
   split
   .rename_i e; subst e
    rw [h3]; simp [h]
   .rfl
  unfold World.setCell World.setRow at f ⊢
  simp only at f
  rw [f]
 rw [D] at s' le
 rw [B]
 exact ⟨_,σ,ι,rfl,le,s',.tup _ _ rfl (fun i c v h1 _=>by cases h1)⟩
theorem Ap3 {l:List Int} (h:∀x∈l,0<=x/\x<256) {j:Nat} {x:UInt8} (hx:(Es l)[j]? = some x):l[j]? = some (x.toNat:Int):=by
 simp only [Es,List.getElem?_map,Option.map_eq_some_iff] at hx
 obtain ⟨y,hy,rfl⟩:=hx
 have b:=h y (List.mem_of_getElem? hy)
 rw [hy]
 congr 1
 have:y.toNat<256:=by omega
 simp only [UInt8.toNat_ofNat']
 omega
theorem St.kill {σ:Aw} {ι:Bn} {H:Hp} {F:Aw} {W w:World} (s:St σ ι H F W w) (h:Nat):St σ ι (A4 H h .dead) F W w/\Le σ ι H σ ι (A4 H h .dead):=by
 have le:Le σ ι H σ ι (A4 H h .dead):=by
  have:=Le.upd (ι:=ι) (H:=H) (Aw.le_refl σ) h (ι h) .dead ⟨fun _ e=>e,(fun _ e=>by cases e),(fun _ k j i e=>by cases e)⟩
  rwa [Gr] at this
 obtain ⟨f1,f2⟩:=s.fresh
 refine ⟨s.touch h w.heap.size (fun _ _=>rfl) (fun x e=>Cs _ _ e) le (fun _ _=>rfl) (fun _ _=>rfl) (fun o g=>by rw [f1] at g; cases g) ?_ f2 ?_ ?_ rfl rfl rfl,le⟩
 .intro x _ c f
  have:=(s.block c f).1
  omega
 .intro b c
  rw [B6] at c; cases c
 .unfold B8
  rw [B6]; trivial
theorem Ap4 {p:AV}:Ce Go.Proofs.Tryz.prog 147 [.loc 0 0] [.cells 187 [p,.arr 1 0 0 0],.rows 5 1 []] (Db .empty) [.cells 187 [p,.arr 1 0 0 0],.dead]:=by
 refine ⟨⟨_,Tryz.func147,by kernel_rfl,by kernel_rfl⟩,fun σ F W w ι vs s u=>?_⟩
 obtain ⟨v,rfl,I⟩:=Uq u
 obtain ⟨b,hb,I⟩:=I.loc_inv
 subst I
 have J:=s.obj 0
 unfold B8 at J
 rw [Xq] at J
 obtain ⟨b',C,X,_,_,h3,z,h5⟩:=J
 rw [hb] at X; cases X
 have z:C.size=2:=z
 have Z:C = #[C[0],C[1]]:=by
  apply Array.ext
  .simp [z]
  .intro i hi L
   match i with
   | 0=>rfl
   | 1=>rfl
   | i+2=>simp at L; omega
 have N:=h5 1 (.arr 1 0 0 0) C[1] rfl (by simp [z])
 have l:hp [Bf.cells 187 [p,.arr 1 0 0 0],.rows 5 1 []] 1 = .rows 5 1 []:=rfl
 have c:=N.arr_inv l (by simp)
 have hor:=s.obj 1
 unfold B8 at hor
 rw [l] at hor
 obtain ⟨_,U,hor⟩:=hor
 have eH:A4 (hp [Bf.cells 187 [p,.arr 1 0 0 0],.rows 5 1 []]) 1 .dead=hp [Bf.cells 187 [p,.arr 1 0 0 0],.dead]:=by
  funext i
  match i with
  | 0=>rfl
  | 1=>rfl
  | i+2=>rfl
 have go:∀(a q:Option Addr) (cap:Nat) (y:Aw) (h:World),C[1] = .slice a 0 cap->h.heap[b]? = w.heap[b]?->(Builtin.unsafeSliceData_ #[185] 256 #[.slice a 0 cap]).run Go.Proofs.Tryz.prog w.drew = .ok (.pointer q) h ->
   Le σ ι (hp [Bf.cells 187 [p,.arr 1 0 0 0],.rows 5 1 []]) y ι (hp [Bf.cells 187 [p,.arr 1 0 0 0],.rows 5 1 []])->St y ι (hp [Bf.cells 187 [p,.arr 1 0 0 0],.rows 5 1 []]) F W h ->
   Calls Go.Proofs.Tryz.prog 147 #[.pointer (some ⟨b,0,none⟩)] w fun e w'=>∃v A B,e = .returned v/\Le σ ι (hp [Bf.cells 187 [p,.arr 1 0 0 0],.rows 5 1 []]) A B (hp [Bf.cells 187 [p,.arr 1 0 0 0],.dead])/\St A B (hp [Bf.cells 187 [p,.arr 1 0 0 0],.dead]) F W w'/\Conc A B (hp [Bf.cells 187 [p,.arr 1 0 0 0],.dead]) (Db .empty) v:=by
  intro a q cap y h f M R le E
  have x:w.heap[b]? = some (.cells #[C[0],.slice a 0 cap] 187 (0,0)):=by
   rw [h3]; congr 1; rw [<-f,<-Z]
  refine (Tryz.builder_str0 b cap C[0] a q w h x (M.trans x) R).mono ?_
  rintro e w' ⟨rfl,rfl⟩
  obtain ⟨S,k⟩:=E.kill 1
  rw [eH] at S k
  exact ⟨_,y,ι,rfl,le.trans k,S,.of_val _⟩
 rcases hor with ⟨hi,_⟩ | ⟨g,j,D,Y,g1,g2,g3,g4,g5,g6⟩
 .unfold E9 at c
  rw [hi] at c
  exact go none none 0 σ w.drew c.1 rfl rfl (Le.refl _ _ _) (s.drew _)
 .unfold E9 at c
  rw [Y] at c
  simp only [Nat.zero_mul,Nat.zero_add,Nat.sub_zero] at c
  obtain ⟨_,f⟩:=c
  by_cases ht:j=0
  .subst ht
   obtain ⟨E,G⟩:=(s.drew (w.drawn+1)).newFrozen (.view ⟨g,0,none⟩ 5)
   have V:=(Array.getElem?_eq_some_iff.1 h3).1
   refine go _ _ 0 _ (w.drew.alloc (.view ⟨g,0,none⟩ 5)) f ?_ (Lib.run_unsafeSliceData_zero _ _ _ 5 Go.Proofs.Tryz.underlying256 _ _ (5,D.size) (by
    have:w.drew.heap[g]? = some (.cells D 5 (0,0)):=g3
    simp [World.shape?,this])) G E
   show (w.heap.push _)[b]? = _
   rw [Array.getElem?_push,if_neg (by omega)]
  .exact go _ _ j σ w.drew f rfl (Lib.run_unsafeSliceData_row _ _ _ _ _ _ ht) (Le.refl _ _ _) (s.drew _)
theorem Agv {p:AV} {l:List Int} {r:ByteArray} (h:Su l=some r):Ce Go.Proofs.Tryz.prog 147 [.loc 0 0] [.cells 187 [p,.arr 1 l.length 0 l.length],.rows 5 1 (List.map (O .u8) l)] (Db r) [.cells 187 [p,.arr 1 l.length 0 l.length],.dead]:=by
 unfold Su at h
 split at h
 .rename_i X
  cases h
  by_cases u:l = []
  .subst u; exact Ap4
  refine ⟨⟨_,Tryz.func147,by kernel_rfl,by kernel_rfl⟩,fun σ F W w ι vs s J=>?_⟩
  obtain ⟨v,rfl,N⟩:=Uq J
  obtain ⟨b,hb,N⟩:=N.loc_inv
  subst N
  have y:=s.obj 0
  unfold B8 at y
  rw [Xq] at y
  obtain ⟨b',C,e1,_,_,h3,M,h5⟩:=y
  rw [hb] at e1; cases e1
  have M:C.size=2:=M
  have hC:C = #[C[0],C[1]]:=by
   apply Array.ext
   .simp [M]
   .intro i hi S
    match i with
    | 0=>rfl
    | 1=>rfl
    | i+2=>simp at S; omega
  have V:=h5 1 (.arr 1 l.length 0 l.length) C[1] rfl (by simp [M])
  have I:hp [Bf.cells 187 [p,.arr 1 l.length 0 l.length],.rows 5 1 (List.map (O .u8) l)] 1 = .rows 5 1 (List.map (O .u8) l):=rfl
  have k:=V.arr_inv I (by simp)
  have hor:=s.obj 1
  unfold B8 at hor
  rw [I] at hor
  obtain ⟨_,G,hor⟩:=hor
  rw [List.length_map] at G
  rcases hor with ⟨_,E⟩ | ⟨g,q,D,hg,g1,g2,g3,g4,g5,g6⟩
  .exact (u (by simpa using E)).elim
  .rw [List.length_map] at g5
   unfold E9 at k
   rw [hg] at k
   simp only [Nat.zero_mul,Nat.zero_add,Nat.sub_zero] at k
   obtain ⟨ht,B⟩:=k
   have c:(Es l).length=l.length:=by simp [Es]
   have f:∀(j:Nat) (x:UInt8),(Es l)[j]? = some x->D[j]? = some (Value.int .u8 x.toNat):=by
    intro j x hx
    have hj:=Ap3 X hx
    obtain ⟨gg,q1,q2,q3⟩:=g6
    have A:(List.map (O .u8) l)[j]? = some (O .u8 x.toNat):=by rw [List.getElem?_map,hj]; rfl
    have R:j<(List.map (O .u8) l).length:=(List.getElem?_eq_some_iff.1 A).1
    have q4:=q3 j 0 R (by omega)
    have q5:=(q2 j _ 0 _ A rfl).1
    have:gg j 0=Value.int .u8 x.toNat:=by
     generalize gg j 0=z at q5
     cases q5; rfl
    rw [this] at q4
    simpa using q4
   have Z:w.heap[b]? = some (.cells #[C[0],.slice (some ⟨g,0,none⟩) (Es l).length q] 187 (0,0)):=by
    rw [h3]; congr 1; rw [c]
    have:C[1] = .slice (some ⟨g,0,none⟩) l.length q:=B
    rw [<-this,<-hC]
   have a1:l.length<=D.size:=by rw [g4]; omega
   have call:=Tryz.builder_str b g q C[0] D (Es l) w (by intro e; apply u; rw [<-List.length_eq_zero_iff,<-c,e]; rfl) Z g3 (by rw [c]; exact g5) (by rw [c]; exact a1) (by rw [c]; omega) f
   refine call.mono ?_
   rintro e w' ⟨rfl,rfl⟩
   have le:Le σ ι (hp [Bf.cells 187 [p,.arr 1 l.length 0 l.length],.rows 5 1 (List.map (O .u8) l)]) σ ι (A4 (hp [Bf.cells 187 [p,.arr 1 l.length 0 l.length],.rows 5 1 (List.map (O .u8) l)]) 1 .dead):=by
    have:=Le.upd (ι:=ι) (H:=hp [Bf.cells 187 [p,.arr 1 l.length 0 l.length],.rows 5 1 (List.map (O .u8) l)]) (Aw.le_refl σ) 1 (ι 1) .dead ⟨fun _ e=>e,(fun _ e=>by cases e),(fun _ E1 a7 a6 e=>by cases e)⟩
    rwa [Gr] at this
   have eH:A4 (hp [Bf.cells 187 [p,.arr 1 l.length 0 l.length],.rows 5 1 (List.map (O .u8) l)]) 1 .dead=hp [Bf.cells 187 [p,.arr 1 l.length 0 l.length],.dead]:=by
    funext i
    match i with
    | 0=>rfl
    | 1=>rfl
    | i+2=>rfl
   have s2:St σ ι (A4 (hp [Bf.cells 187 [p,.arr 1 l.length 0 l.length],.rows 5 1 (List.map (O .u8) l)]) 1 .dead) F W (w.drew.freeze ⟨g,0,none⟩ (Es l).length):=by
    have U:∀b,b≠g->(w.drew.freeze ⟨g,0,none⟩ (Es l).length).heap[b]? = w.heap[b]?:=by
     intro b hb
     unfold World.freeze
     split
     .rfl
     .simp only [Array.getElem?_modify]
      rw [if_neg (Ne.symm hb)]; rfl
    refine s.touch (hdrw:=by unfold World.freeze; split <;> exact Nat.le_succ _) 1 g (fun _ _=>rfl) (fun x e=>Cs _ _ e) le U (fun _ _=>rfl) (fun o y=>by rw [g1] at y; cases y) ?_ g2 ?_ ?_ ?_ ?_ ?_
    .intro x hx L Y
     exact hx (s.inj x 1 g L rfl Y (by rw [hg]; rfl))
    .intro b0 L
     rw [B6] at L; cases L
    .unfold B8
     rw [B6]; trivial
    .unfold World.freeze; split <;> rfl
    .unfold World.freeze; split <;> rfl
    .unfold World.freeze; split <;> rfl
   rw [eH] at le s2
   exact ⟨_,σ,ι,rfl,le,s2,.of_val _⟩
 .cases h
end Go.Ab
namespace Go.Ab
open Go Go.Proofs
set_option linter.unusedVariables false
class OK {α:Type} (o:Option α) (G:outParam (α->Prop)):Prop where
 ok:∀{r:α},o=some r->G r
theorem okz {α:Type} {G:α->Prop}:OK (none:Option α) G:=⟨fun h=>by cases h⟩
section
variable {P:Program} {C:Cfg} {Qn:Nat->Bi->Hp->Prop} {Qe:Nat->Nat->Bi->Hp->Prop} {Qr:Nat->Bi->Hp->Prop} {n:Nat} {e:Bi} {H:Hp} {β:Type} {r:β}
variable {T:Ch} {an:Nat->Ann} {nl:Nat->List (Nat×Nat)} {ops:Array Oper} {o:Oper} {os:List Oper} {acc:Gj} {K:Nat->Bi->Hp->Gj->Prop}
theorem Fm {p:Nat×Bool} {s:Nat} {b:Bool} {m m':Option β} (h:(bif b then m else m')=some r) (h1:b=true->m=some r->D1 (Dv P T an nl ops (o::os) n (A4 e s (.val (.bool true))) H acc K))
  (h2:b=false->m'=some r->D1 (Dv P T an nl ops (o::os) n (A4 e s (.val (.bool false))) H acc K)) (hg:o.guard=some p:=by exact rfl) (hs:(ops[p.1]?).bind (·.dst)=some s:=by exact rfl) (hb:e s = .val (.bool b):=by exact rfl):D1 (Dv P T an nl ops (o::os) n e H acc K):=Ao8 h h1 h2 hb
theorem nw {c:Code} (k:wc P C c Qn Qe Qr n e H):D1 (wc P C c Qn Qe Qr n e H):=.mk k
theorem Cl {S E:Type} {o:S⊕E} {J:E->Option β} {x:E} (h:some (Sum.inr x)=some o) (hx:∀x,Sum.inr x=o->J x=some r:=by assumption):J x=some r:=hx x (Option.some.inj h)
theorem lpj {S:Type} {o:S} {J:S->Option β} {x:S} (h:some x=some o) (hx:∀y,y=o->J y=some r:=by assumption):J x=some r:=hx x (Option.some.inj h)
theorem lpn {S E:Type} {o:S⊕E} {s':S} {K:Nat->Bi->Hp->Prop} {iv:S->List (Nat×AV)} {hv:S->List (Nat×Bf)} {inv:S->Prop} {n0:Nat} {H0:Hp} (h:some (Sum.inl s')=some o) (hn:∀s' n' e' H',Sum.inl s'=o->Fh e' (iv s')->Fi H' (B4 H0 (hv s')) n0 n0->inv s'->K n' e' H':=by assumption)
  (hs:Fh e (iv s'):=by (repeat refine ⟨rfl,?_⟩); exact trivial) (hh:Fi H (B4 H0 (hv s')) n0 n0:=by (repeat refine ⟨⟨rfl,rfl⟩,?_⟩); exact trivial) (hi:inv s':=by first | trivial | exact rfl | ((repeat refine Fb ?_ _ _); first | exact rfl | assumption)):K n e H:=hn s' n e H (Option.some.inj h) hs hh hi
theorem jnn {S E:Type} {o x:E} {s:S} {J:S->Prop} {K:Nat->Bi->Hp->Prop} {iv:S->List (Nat×AV)} {hv:S->List (Nat×Bf)} {n0:Nat} {H0:Hp} (h:some x=some o) (hn:∀s n' e' H',J s->Fh e' (iv s)->Fi H' (B4 H0 (hv s)) n0 n0->K n' e' H':=by assumption) (hJ:J s:=by exact Option.some.inj h)
  (hs:Fh e (iv s):=by (repeat refine ⟨rfl,?_⟩); exact trivial) (hh:Fi H (B4 H0 (hv s)) n0 n0:=by (repeat refine ⟨⟨rfl,rfl⟩,?_⟩); exact trivial):K n e H:=hn s n e H hJ hs hh
theorem Bd {α:Type} {o:Option α} {m:α->Option β} {f:FuncId} {args:List AV} {G:α->Prop} {ra:α->AV} {K:Eff->Nat->Prop} (h:o.bind m=some r) [i:OK o G] (k:∀v,m v=some r->K ⟨ra v,[],[]⟩ n) (hG:∀v,G v->Aq P f args (ra v):=by exact fun _ h=>h) (hf:args.all AV.free=true:=by exact rfl):Ff P n H f args K :=
 Dh h fun v hv h=>Ff.mk _ (hG v (i.ok hv)) hf (k v h)
theorem Agw {α:Type} {o:Option α} {m:α->Option β} {f:FuncId} {args args':List AV} {G:α->Prop} {ra:α->AV} {K:Eff->Nat->Prop} (h:o.bind m=some r) [i:OK o G] (k:∀v,m v=some r->K ⟨ra v,[],[]⟩ n) (hG:∀v,G v->Aq P f args' (ra v):=by exact fun _ h=>h) (hs:Mj args args':=by (repeat first | refine ⟨Sub.refl _,?_⟩ | refine ⟨Sub.nil _,?_⟩); exact trivial) (hf:args.all AV.free=true:=by exact rfl):Ff P n H f args K :=
 Dh h fun v hv h=>Ff.mk _ (Aq.sub (hG v (i.ok hv)) hs (Sub.refl _)) hf (k v h)
theorem Be {α:Type} {o:Option α} {m:α->Option β} {f:FuncId} {args largs:List AV} {G:α->Prop} {ra:α->AV} {hs:List Bf} {hs':α->List Bf} {K:Eff->Nat->Prop} (l:List Nat) (h:o.bind m=some r) [i:OK o G] (k:∀v,m v=some r->K ⟨ren (C9 n l) (ra v),wrs (C9 n l) 0 hs++Bu (C9 n l) l.length ((hs' v).length-l.length),wrs (C9 n l) 0 (hs' v)⟩ (n+((hs' v).length-l.length)))
  (hG:∀v,G v->Ce P f largs hs (ra v) (hs' v):=by exact fun _ h=>h) (ha:largs.map (ren (C9 n l))=args:=by exact rfl) (ok:∀v,P9 n l largs hs (ra v) (hs' v)=true:=by exact fun _=>rfl) (hh:N0 H (wrs (C9 n l) 0 hs):=by (repeat refine ⟨rfl,?_⟩); exact trivial):Ff P n H f args K :=
 Dh h fun v hv h=>Ff.act l largs hs (ra v) (hs' v) (hG v (i.ok hv)) ha (ok v) hh (k v h)
theorem B2 {α:Type} {l:List α} {f:α->AV} {ys:List AV} {i:Int} {m:α->Option β} {K:Nat->AV->Prop} (h:(Af l i).bind m=some r) (k:∀(n:Nat) (x:α),i=n->l[n]? = some x->m x=some r->K n (f x)) (he:ys=l.map f:=by first | exact rfl | exact H8 _ | exact Jd _ | exact Kb _):Sj ys i K:=Afw he h k
theorem K0 {α:Type} {l:List α} {f:α->AV} {ys:List AV} {i:Int} {m:α->Option β} {K:Nat->Prop} {len kk:Nat} (h:(Af l i).bind m=some r) (k:∀(n:Nat) (x:α),i=n->l[n]? = some x->m x=some r->K n) (he:ys=l.map f:=by first | exact rfl | exact H8 _ | exact Jd _ | exact Kb _) (hl:len=l.length:=by first | exact rfl | assumption | exact Ir (by assumption) | ((repeat refine Fb ?_ _ _); first | exact rfl | assumption)) (hk:kk=l.length:=by first | exact rfl | assumption | exact Ir (by assumption) | ((repeat refine Fb ?_ _ _); first | exact rfl | assumption)):N1 len kk ys i K:=Ao9 he hl hk h k
theorem K1 {α:Type} {l:List α} {f:α->AV} {ys:List AV} {i:Int} {m:α->Option β} {K:Nat->Prop} {off len kk:Nat} (h:(Ey l off len i).bind m=some r) (k:∀(n:Nat) (x:α),i=n->l[off+n]? = some x->m x=some r->K n) (he:ys=l.map f:=by first | exact rfl | exact H8 _ | exact Jd _ | exact Kb _) (hk:kk=l.length:=by first | exact rfl | assumption | exact Ir (by assumption) | ((repeat refine Fb ?_ _ _); first | exact rfl | assumption)):N1 len kk ys i K:=Apa he hk h k
theorem M9 {α:Type} {l:List α} {f:α->AV} {ys:List AV} {K:Int->Prop} (k:K (l.length:Int)) (he:ys=l.map f:=by first | exact rfl | exact H8 _ | exact Jd _ | exact Kb _):Jx ys K:=Af4 he k
theorem Na {α:Type} {l:List α} {f:α->AV} {ys:List AV} {kk:Nat} {K:Prop} (k:K) (he:ys=l.map f:=by first | exact rfl | exact H8 _ | exact Jd _ | exact Kb _) (hk:kk=l.length:=by first | exact rfl | assumption | exact Ir (by assumption) | ((repeat refine Fb ?_ _ _); first | exact rfl | assumption)):Fa kk ys K:=Apn he hk k
theorem Nb {K:Prop} (k:K):Fa 0 [] K:=.mk rfl k
theorem Nc {α:Type} {l:List α} {f:α->AV} {ys:List AV} {n i kk:Nat} {x:α} {K:AV->Prop} (k:K (f x)) (he:ys=l.map f:=by first | exact rfl | exact H8 _ | exact Jd _ | exact Kb _) (hk:kk=l.length:=by first | exact rfl | assumption | exact Ir (by assumption) | ((repeat refine Fb ?_ _ _); first | exact rfl | assumption)) (hi:i=n/\l[n]? = some x:=by first | exact ⟨Nat.zero_add _,by assumption⟩ | exact ⟨rfl,by assumption⟩):I0 kk i ys K:=Apg he hk hi.1 hi.2 k
theorem Agx {α:Type} {l:List α} {f:α->AV} {ys:List AV} {n i:Nat} {j:Int} {x:α} {p:AV} {K:List AV->Prop} (k:K ((Cq l j x).map f)) (he:ys=l.map f:=by first | exact rfl | exact H8 _ | exact Jd _ | exact Kb _) (hp:p=f x:=by exact rfl) (hi:i=n/\j=(n:Int):=by first | exact ⟨Nat.zero_add _,by assumption⟩ | exact ⟨rfl,by assumption⟩ | exact ⟨rfl,Aaq _ (by assumption)⟩):Sk ys i p K:=Lk he hp hi.1 hi.2 k
theorem Pj {α:Type} {l ys:List α} {f:α->AV} {xs zs:List AV} {b kk len:Nat} {m:List α->Option β} {K:List AV->Nat->Prop} {KP:List AV->Nat->Nat->Prop} (h:(B0 b l ys).bind m=some r) (k:∀o:List α,m o=some r->K (o.map f) o.length) (he:xs=l.map f/\zs=ys.map f:=by first | exact ⟨rfl,rfl⟩ | (refine ⟨?_,?_⟩; rotate_left; exact rfl; exact rfl)) (hk:kk=l.length:=by first | exact rfl | assumption | exact Ir (by assumption) | ((repeat refine Fb ?_ _ _); first | exact rfl | assumption)) (hl:len=l.length:=by first | exact rfl | assumption | exact Ir (by assumption) | ((repeat refine Fb ?_ _ _); first | exact rfl | assumption)):Jw xs zs kk len b K KP:=Aau he.1 he.2 hk hl h k
theorem Agy {l:List Int} {s:ByteArray} {xs:List AV} {b kk len:Nat} {m:List Int->Option β} {K:List AV->Nat->Prop} {KP:List AV->Nat->Nat->Prop} (h:(B0 b l (J3 s)).bind m=some r) (k:∀o:List Int,m o=some r->K (o.map fun n=>.val (.int .u8 n)) o.length) (he:xs=l.map fun n=>.val (.int .u8 n):=by exact rfl) (hk:kk=l.length:=by first | exact rfl | assumption | exact Ir (by assumption) | ((repeat refine Fb ?_ _ _); first | exact rfl | assumption)) (hl:len=l.length:=by first | exact rfl | assumption | exact Ir (by assumption) | ((repeat refine Fb ?_ _ _); first | exact rfl | assumption)):Jw xs (G1 s) kk len b K KP:=Api he hk hl h k
class GL {α:Type} (g:List α->List AV) (f:outParam (α->AV)):Prop where
 eq:∀l,g l=l.map f
instance:GL Bh Dc:=⟨H8⟩
instance:GL Gv Et:=⟨Jd⟩
instance:GL Ro Xk:=⟨Kb⟩
theorem Agz {α:Type} {g:List α->List AV} {f:α->AV} [i:GL g f] {l ys:List α} {zs:List AV} {b kk len:Nat} {m:List α->Option β} {K:List AV->Nat->Prop} {KP:List AV->Nat->Nat->Prop} (h:(B0 b l ys).bind m=some r) (k:∀o:List α,m o=some r->K (g o) o.length) (hz:zs=ys.map f:=by first | exact rfl | exact GL.eq _) (hk:kk=l.length:=by first | exact rfl | assumption | exact Ir (by assumption) | ((repeat refine Fb ?_ _ _); first | exact rfl | assumption)) (hl:len=l.length:=by first | exact rfl | assumption | exact Ir (by assumption) | ((repeat refine Fb ?_ _ _); first | exact rfl | assumption)):Jw (g l) zs kk len b K KP:=Apj i.eq (i.eq l) hz hk hl h k
theorem Ag0 {α:Type} {ys:List α} {f:α->AV} {zs:List AV} {b:Nat} {m:List α->Option β} {K:List AV->Nat->Prop} (h:(B0 b [] ys).bind m=some r) (k:∀o:List α,m o=some r->K (o.map f) o.length) (hz:zs=ys.map f:=by exact rfl):N3 zs b K:=Af2 hz h k
theorem Ag1 {α:Type} {g:List α->List AV} {f:α->AV} [i:GL g f] {ys:List α} {zs:List AV} {b:Nat} {m:List α->Option β} {K:List AV->Nat->Prop} (h:(B0 b [] ys).bind m=some r) (k:∀o:List α,m o=some r->K (g o) o.length) (hz:zs=g ys:=by exact rfl):N3 zs b K:=Apk i.eq (hz.trans (i.eq ys)) h k
theorem Gd {α:Type} {z:α} {f:α->AV} {za:AV} {len cap:Int} {b:Nat} {m:List α->Option β} {K:Nat->List AV->Prop} (h:(Ew b len cap z).bind m=some r) (k:∀o:List α,m o=some r->K o.length (o.map f)) (hz:za=f z:=by first | exact (rfl:_=O _ _) | exact (rfl:_=Al _) | exact rfl):Qa len cap b za K:=Apl hz h k
theorem Pk {α:Type} {l:List α} {f:α->AV} {ys:List AV} {lo hi:Int} {m:List α->Option β} {K:List AV->Prop} (h:(F5 l lo hi).bind m=some r) (k:∀l':List α,m l'=some r->K (l'.map f)) (he:ys=l.map f:=by first | exact rfl | exact H8 _ | exact Jd _ | exact Kb _):N2 ys lo hi K:=Af1 he h k
theorem Ag2 {α:Type} {l:List α} {f:α->AV} {ys:List AV} {lo:Int} {m:List α->Option β} {K:List AV->Prop} (h:(F5 l lo l.length).bind m=some r) (k:∀l':List α,m l'=some r->K (l'.map f)) (he:ys=l.map f:=by first | exact rfl | exact H8 _ | exact Jd _ | exact Kb _):N2 ys lo ys.length K:=Aph he h k
theorem Gl {S E:Type} {step:S->Option (S⊕E)} {s0:S} {J:E->Option β} {b:Code} (h:(An step s0).bind J=some r) (iv:S->List (Nat×AV)) (hv:S->List (Nat×Bf)) (inv:S->Prop)
  (body:∀(s:S) (u:Nat->Value) (K:Nat->Bi->Hp->Prop) (o:S⊕E),step s=some o->(∀x,.inr x=o->J x=some r)->(∀s' n' e' H',.inl s'=o->Fh e' (iv s')->Fi H' (B4 H (hv s')) n n->inv s'->K n' e' H')->inv s ->
   wc P C b K Qe Qr n (H3 (D6 b) e u (iv s)) (B4 H (hv s)))
  (hb:∀s,Ip n (iv s) (hv s)=true:=by exact fun _=>rfl) (hs:Fh e (iv s0):=by (repeat refine ⟨rfl,?_⟩); exact trivial) (hh:Fi H (B4 H (hv s0)) n n:=by (repeat refine ⟨⟨rfl,rfl⟩,?_⟩); exact trivial) (h0:inv s0:=by first | exact rfl | assumption | exact Ir (by assumption) | ((repeat refine Fb ?_ _ _); first | exact rfl | assumption)):wc P C (.loop b) Qn Qe Qr n e H:=Agb h iv hv inv hb hs hh h0 body
theorem Az {S E:Type} {step:S->Option (S⊕E)} {s0:S} {J:E->Option β} {b:Code} (h:(An step s0).bind J=some r) (iv:S->List (Nat×AV)) (hv:S->List (Nat×Bf))
  (body:∀(s:S) (u:Nat->Value) (K:Nat->Bi->Hp->Prop) (o:S⊕E),step s=some o->(∀x,.inr x=o->J x=some r)->(∀s' n' e' H',.inl s'=o->Fh e' (iv s')->Fi H' (B4 H (hv s')) n n->True->K n' e' H') ->
   wc P C b K Qe Qr n (H3 (D6 b) e u (iv s)) (B4 H (hv s)))
  (hb:∀s,Ip n (iv s) (hv s)=true:=by exact fun _=>rfl) (hs:Fh e (iv s0):=by (repeat refine ⟨rfl,?_⟩); exact trivial) (hh:Fi H (B4 H (hv s0)) n n:=by (repeat refine ⟨⟨rfl,rfl⟩,?_⟩); exact trivial):wc P C (.loop b) Qn Qe Qr n e H:=Agb h iv hv (fun _=>True) hb hs hh trivial fun s u K o h1 h2 h3 _=>body s u K o h1 h2 h3
theorem Xr {S S':Type} {c:Code} {o:Option S'} {m:S'->Option β} (inj:S->S') (h:o.bind m=some r) (iv:S->List (Nat×AV)) (hv:S->List (Nat×Bf))
  (k1:∀x,o=some x->∀(K:Nat->Bi->Hp->Prop),(∀s n' e' H',inj s=x->Fh e' (iv s)->Fi H' (B4 H (hv s)) n n->K n' e' H')->(∀y,y=x->m y=some r)->wc P C c K Qe Qr n e H)
  (k2:∀(s:S) (u:Nat->Value),m (inj s)=some r->Qn n (H3 (D6 c) e u (iv s)) (B4 H (hv s))) (hb:∀s,Ip n (iv s) (hv s)=true:=by exact fun _=>rfl):wc P C c Qn Qe Qr n e H :=
 Aar h fun x hx hj=>Qm (fun s=>inj s=x) iv hv hb (fun K hK=>k1 x hx K hK hj) fun s u hs=>k2 s u (hj _ hs)
theorem Bo {S:Type} {c:Code} {o:Option S} {m:S->Option β} (h:o.bind m=some r) (iv:S->List (Nat×AV)) (hv:S->List (Nat×Bf))
  (k1:∀x,o=some x->∀(K:Nat->Bi->Hp->Prop),(∀s n' e' H',s=x->Fh e' (iv s)->Fi H' (B4 H (hv s)) n n->K n' e' H')->(∀y,y=x->m y=some r)->wc P C c K Qe Qr n e H)
  (k2:∀(s:S) (u:Nat->Value),m s=some r->Qn n (H3 (D6 c) e u (iv s)) (B4 H (hv s))) (hb:∀s,Ip n (iv s) (hv s)=true:=by exact fun _=>rfl):wc P C c Qn Qe Qr n e H:=Xr (fun s=>s) h iv hv k1 k2 hb
abbrev C0:Cfg:={T:=B7,an:=fun _=>.ask}
theorem pw {f:FuncId} {fn:Func} {c:Code} {args:List AV} {r:AV} (C:Cfg) (hf:Go.Proofs.Tryz.prog.funcs[f]? = some fn) (hv:wc Go.Proofs.Tryz.prog C c (fun _ e H=>N6 C.T fn.results.toList (· = r) e H) (fun _ _ _ _=>False) (fun _ e H=>N6 C.T fn.results.toList (· = r) e H) 0 (Qh args) H0)
   (hT:C.T=B7:=by exact rfl) (hb:fn.body=some c:=by exact rfl) (hname:(fn.name == "runtime.NumGoroutine")=false:=by kernel_rfl) (hok:Qi fn c args.length=true:=by kernel_rfl) (hfree:r.free=true:=by exact rfl):Aq Go.Proofs.Tryz.prog f args r:=Apo (by rw [hT]; exact Agf) So hf hb hname hok hfree hv
theorem aw {f:FuncId} {fn:Func} {c:Code} {args:List AV} {r:AV} {hs hs':List Bf} (C:Cfg) (fz:Bool) (hf:Go.Proofs.Tryz.prog.funcs[f]? = some fn) (hv:wc Go.Proofs.Tryz.prog C c (fun _ e H=>N9 C.T fz fn.results.toList r hs' e H) (fun _ _ _ _=>False) (fun _ e H=>N9 C.T fz fn.results.toList r hs' e H) hs.length (Qh args) (hp hs))
   (hT:C.T=B7:=by exact rfl) (hb:fn.body=some c:=by exact rfl) (hname:(fn.name == "runtime.NumGoroutine")=false:=by kernel_rfl) (hok:Qi fn c args.length=true:=by kernel_rfl) (hok':Aal hs r hs'=true:=by exact rfl):Ce Go.Proofs.Tryz.prog f args hs r hs':=App fz (by rw [hT]; exact Agf) So hf hb hname hok hok' hv
end
theorem opk {P:Program} {T:Ch} {an:Nat->Ann} {nl:Nat->List (Nat×Nat)} {o:Oper} {n:Nat} {e:Bi} {H:Hp} {acc:Gj} {K:Nat->Bi->Hp->Gj->Prop} (k:opK P T an nl o n e H acc K):opK P T an nl o n e H acc K:=k
theorem cnd {t:Bool} {A B:Prop} (k:bif t then A else B):bif t then A else B:=k
structure Hd (Q:Prop):Prop where
 get:Q
theorem Z {P Q:Prop} (k:Q) (h:Hd Q->P:=by
  intro q
  repeat first
    | ((with_reducible show D1 (Dv _ _ _ _ _ (_::_) _ _ _ _ _)); (first | refine nx ?_ | refine Ml ?_ | refine Mk ?_))
    | ((with_reducible refine opk ?_); conv=>whnf
       first
      | ((with_reducible show D1 _); refine nw ?_)
      | ((with_reducible show F4 _ _ _); refine F4.mk _ rfl ?_)
      | ((with_reducible show Jx _ _); refine M9 ?_)
      | ((with_reducible show I0 _ _ _ _); refine Nc ?_)
      | ((with_reducible show Fa _ _ _); (first | refine Na ?_ | refine Nb ?_)))
    | ((with_reducible show D1 (Dv _ _ _ _ _ [] _ _ _ _ _)); refine J2 ?_)
    | ((with_reducible show D1 (wc _ _ _ _ _ _ _ _ _)); refine nw ?_)
    | with_reducible refine Ax ?_
    | with_reducible refine Bq ?_
    | with_reducible refine Aaz ?_
    | with_reducible refine I5 ?_
    | with_reducible refine J5 ?_
    | with_reducible refine Fw ?_
    | with_reducible refine Af8 ?_
    | with_reducible refine Aa1 ?_
    | with_reducible refine Aa0 ?_
    | ((with_reducible refine cnd ?_); first | refine Fv rfl ?_ | refine Aag rfl ?_)
    | ((with_reducible show J1 _ _ _); refine J1.mk (by kernel_rfl) ?_)
    | ((with_reducible show wc _ _ (.cond _ _ _) _ _ _ _ _ _); first | refine Wr ?_ | refine Sx ?_)
    | refine nw ?_
    | refine nx ?_
    | refine J2 ?_
    | refine Ml ?_
    | refine Mk ?_
    | (conv=>whnf
       first
      | ((with_reducible show D1 _); refine nw ?_)
      | ((with_reducible show F4 _ _ _); refine F4.mk _ rfl ?_)
      | ((with_reducible show Jx _ _); refine M9 ?_)
      | ((with_reducible show I0 _ _ _ _); refine Nc ?_)
      | ((with_reducible show Fa _ _ _); (first | refine Na ?_ | refine Nb ?_)))
  exact q.get):P:=h ⟨k⟩
theorem ZS {P Q:Prop} (k:Q) (h:Hd Q->P:=by
  intro q
  repeat first
    | ((with_reducible show D1 (Dv _ _ _ _ _ (_::_) _ _ _ _ _)); (first | refine nx ?_ | refine Ml ?_ | refine Mk ?_))
    | ((with_reducible refine opk ?_); conv=>whnf
       first
      | ((with_reducible show D1 _); refine nw ?_)
      | ((with_reducible show F4 _ _ _); refine F4.mk _ rfl ?_)
      | ((with_reducible show Jx _ _); refine M9 ?_)
      | ((with_reducible show I0 _ _ _ _); refine Nc ?_)
      | ((with_reducible show Fa _ _ _); (first | refine Na ?_ | refine Nb ?_)))
    | ((with_reducible show D1 (Dv _ _ _ _ _ [] _ _ _ _ _)); refine J2 ?_)
    | ((with_reducible show D1 (wc _ _ _ _ _ _ _ _ _)); refine nw ?_)
    | with_reducible refine Ax ?_
    | with_reducible refine Aaz ?_
    | with_reducible refine I5 ?_
    | with_reducible refine J5 ?_
    | with_reducible refine Fw ?_
    | with_reducible refine Aa1 ?_
    | with_reducible refine Aa0 ?_
    | ((with_reducible refine cnd ?_); first | refine Fv rfl ?_ | refine Aag rfl ?_)
    | ((with_reducible show J1 _ _ _); refine J1.mk (by kernel_rfl) ?_)
    | ((with_reducible show wc _ _ (.cond _ _ _) _ _ _ _ _ _); first | refine Wr ?_ | refine Sx ?_)
    | refine nw ?_
    | refine nx ?_
    | refine J2 ?_
    | refine Ml ?_
    | refine Mk ?_
    | (conv=>whnf
       first
      | ((with_reducible show D1 _); refine nw ?_)
      | ((with_reducible show F4 _ _ _); refine F4.mk _ rfl ?_)
      | ((with_reducible show Jx _ _); refine M9 ?_)
      | ((with_reducible show I0 _ _ _ _); refine Nc ?_)
      | ((with_reducible show Fa _ _ _); (first | refine Na ?_ | refine Nb ?_)))
  exact q.get):P:=h ⟨k⟩
theorem ZO {P Q:Prop} (k:Q) (h:Hd Q->P:=by
  intro q
  repeat first
    | ((with_reducible show D1 (Dv _ _ _ _ _ (_::_) _ _ _ _ _)); (first | refine nx ?_ | refine Ml ?_ | refine Mk ?_))
    | ((with_reducible refine opk ?_); conv=>whnf
       first
      | ((with_reducible show F4 _ _ _); refine F4.mk _ rfl ?_)
      | ((with_reducible show Jx _ _); refine M9 ?_)
      | ((with_reducible show I0 _ _ _ _); refine Nc ?_)
      | ((with_reducible show Fa _ _ _); (first | refine Na ?_ | refine Nb ?_)))
    | ((with_reducible show D1 (Dv _ _ _ _ _ [] _ _ _ _ _)); refine J2 ?_)
    | ((with_reducible show J1 _ _ _); refine J1.mk (by kernel_rfl) ?_)
    | refine nx ?_
    | refine J2 ?_
    | refine Ml ?_
    | refine Mk ?_
    | (conv=>whnf
       first
      | ((with_reducible show F4 _ _ _); refine F4.mk _ rfl ?_)
      | ((with_reducible show Jx _ _); refine M9 ?_)
      | ((with_reducible show I0 _ _ _ _); refine Nc ?_)
      | ((with_reducible show Fa _ _ _); (first | refine Na ?_ | refine Nb ?_)))
  exact q.get):P:=h ⟨k⟩
theorem Y {P:Prop} (h:P:=by
  repeat' first
    | ((with_reducible show D1 (Dv _ _ _ _ _ (_::_) _ _ _ _ _)); first | refine nx ?_ | refine Ml ?_ | refine Mk ?_ | refine Fm h (fun _ h=>?_) (fun _ h=>?_))
    | ((with_reducible refine opk ?_); conv=>whnf
       first
      | ((with_reducible show D1 _); refine nw ?_)
      | ((with_reducible show F4 _ _ _); refine F4.mk _ rfl ?_)
      | ((with_reducible show Jx _ _); refine M9 ?_)
      | ((with_reducible show Ff _ _ _ _ _ _); (first | refine Bd h (fun _ h=>?_) | refine Agw h (fun _ h=>?_)))
      | ((with_reducible show Sj _ _ _); refine B2 h (fun _ _ _ _ h=>?_))
      | ((with_reducible show N1 _ _ _ _ _); (first | refine K0 h (fun _ _ _ _ h=>?_) | refine K1 h (fun _ _ _ _ h=>?_)))
      | ((with_reducible show I0 _ _ _ _); refine Nc ?_)
      | ((with_reducible show Sk _ _ _ _); refine Agx ?_)
      | ((with_reducible show Jw _ _ _ _ _ _ _); (first | refine Agy h (fun _ h=>?_) | refine Pj h (fun _ h=>?_) | refine Agz h (fun _ h=>?_)))
      | ((with_reducible show N3 _ _ _); (first | refine Ag0 h (fun _ h=>?_) | refine Ag1 h (fun _ h=>?_)))
      | ((with_reducible show Qa _ _ _ _ _); refine Gd h (fun _ h=>?_))
      | ((with_reducible show N2 _ _ _ _); (first | refine Ag2 h (fun _ h=>?_) | refine Pk h (fun _ h=>?_)))
      | ((with_reducible show Fa _ _ _); (first | refine Na ?_ | refine Nb ?_))
      | ((with_reducible show V4 _ _ _); refine J4 h (fun _ h=>?_))
      | ((with_reducible show Vx _ _ _ _); refine Sw h (fun _ h=>?_))
      | ((with_reducible show Vy _ _ _); refine Wo h (fun _ h=>?_))
      | ((with_reducible show V1 _ _ _ _); refine Af6 h (fun _ h=>?_))
      | ((with_reducible show Vz _ _ _ _); refine Wp h (fun _ h=>?_))
      | ((with_reducible show V2 _ _ _ _); refine Aax h (fun _ _ _ _ h=>?_))
      | ((with_reducible show V5 _ _); refine Fq h (fun h=>?_))
      | ((with_reducible show V6 _ _ _ _ _); refine Afz h (fun _ h=>?_))
      | ((with_reducible show V7 _ _ _ _); refine Af0 h (fun _ h=>?_)))
    | ((with_reducible show D1 (Dv _ _ _ _ _ [] _ _ _ _ _)); refine J2 ?_)
    | ((with_reducible show D1 (wc _ _ _ _ _ _ _ _ _)); refine nw ?_)
    | with_reducible refine Ax ?_
    | with_reducible refine Bq ?_
    | with_reducible refine Aaz ?_
    | with_reducible refine I5 ?_
    | with_reducible refine J5 ?_
    | with_reducible refine Fw ?_
    | with_reducible refine Af8 ?_
    | with_reducible refine Aa1 ?_
    | with_reducible refine Aa0 ?_
    | ((with_reducible refine cnd ?_); first | refine Fv rfl ?_ | refine Aag rfl ?_)
    | ((with_reducible show wc _ _ (.cond _ _ _) _ _ _ _ _ _); first | refine Ao h (fun _ h=>?_) (fun _ h=>?_) | refine Wr ?_ | refine Sx ?_)
    | ((with_reducible show J1 _ _ _); refine J1.mk (by kernel_rfl) ?_)
    | refine nx ?_
    | refine J2 ?_
    | refine Ml ?_
    | refine Mk ?_
    | refine Fm h (fun _ h=>?_) (fun _ h=>?_)
    | exact lpn h
    | exact jnn h
    | replace h:=Cl h
    | replace h:=lpj h
    | refine nw ?_
    | (conv=>whnf
       first
      | ((with_reducible show D1 _); refine nw ?_)
      | ((with_reducible show F4 _ _ _); refine F4.mk _ rfl ?_)
      | ((with_reducible show Jx _ _); refine M9 ?_)
      | ((with_reducible show Ff _ _ _ _ _ _); (first | refine Bd h (fun _ h=>?_) | refine Agw h (fun _ h=>?_)))
      | ((with_reducible show Sj _ _ _); refine B2 h (fun _ _ _ _ h=>?_))
      | ((with_reducible show N1 _ _ _ _ _); (first | refine K0 h (fun _ _ _ _ h=>?_) | refine K1 h (fun _ _ _ _ h=>?_)))
      | ((with_reducible show I0 _ _ _ _); refine Nc ?_)
      | ((with_reducible show Sk _ _ _ _); refine Agx ?_)
      | ((with_reducible show Jw _ _ _ _ _ _ _); (first | refine Agy h (fun _ h=>?_) | refine Pj h (fun _ h=>?_) | refine Agz h (fun _ h=>?_)))
      | ((with_reducible show N3 _ _ _); (first | refine Ag0 h (fun _ h=>?_) | refine Ag1 h (fun _ h=>?_)))
      | ((with_reducible show Qa _ _ _ _ _); refine Gd h (fun _ h=>?_))
      | ((with_reducible show N2 _ _ _ _); (first | refine Ag2 h (fun _ h=>?_) | refine Pk h (fun _ h=>?_)))
      | ((with_reducible show Fa _ _ _); (first | refine Na ?_ | refine Nb ?_))
      | ((with_reducible show V4 _ _ _); refine J4 h (fun _ h=>?_))
      | ((with_reducible show Vx _ _ _ _); refine Sw h (fun _ h=>?_))
      | ((with_reducible show Vy _ _ _); refine Wo h (fun _ h=>?_))
      | ((with_reducible show V1 _ _ _ _); refine Af6 h (fun _ h=>?_))
      | ((with_reducible show Vz _ _ _ _); refine Wp h (fun _ h=>?_))
      | ((with_reducible show V2 _ _ _ _); refine Aax h (fun _ _ _ _ h=>?_))
      | ((with_reducible show V5 _ _); refine Fq h (fun h=>?_))
      | ((with_reducible show V6 _ _ _ _ _); refine Afz h (fun _ h=>?_))
      | ((with_reducible show V7 _ _ _ _); refine Af0 h (fun _ h=>?_)))
    | (have h:=Option.some.inj h; subst h; exact rfl)
    | (cases h; (repeat refine ⟨rfl,?_⟩); exact trivial)
    | (cases h; done)
):P:=h
end Go.Ab
namespace Go.Ab
open Go Go.Proofs
set_option maxRecDepth 10000
set_option linter.unusedVariables false
theorem Ap5 {a0 r:List Dd} (h:B0 16 [] a0=some r):Aq Go.Proofs.Tryz.prog 255 [Ar 2 Gb a0] (Ar 2 Gb r):=by
 have h:((B0 16 [] a0).bind fun o=>some o)=some r:=by rw [h]; rfl
 refine pw {T:=B7,an:=(fun s=>bif Nat.beq s 5 then .own else .ask),nl:=(fun s=>bif Nat.beq s 2 then [(0,2)] else [])} Tryz.func255 ?_
 refine Ax ?_
 refine Bq ?_
 refine ZO ?_
 refine Ax (Ax ?_)
 refine Qm (fun b:Bool=>b=true->a0 = []) (fun b=>[(4,Al b)]) (fun _=>[]) (fun _=>rfl) ?_ ?_
 .intro K hK
  refine Aa3 0 ?_
  intro v hv
  obtain ⟨p,c,rfl,hp⟩:=hv 2 (a0.map Gb) rfl
  refine Bq ?_
  refine nx ?_
  refine nx ?_
  refine J2 ?_
  refine hK p.isNone _ _ _ (fun e=>?_) ⟨rfl,trivial⟩ trivial
  cases p with
  | none=>simpa using hp rfl
  | some _=>cases e
 .rintro b _ hb
  cases b with
  | true=>
   have hb:=hb rfl
   subst hb
   have h:some ([]:List Dd)=some r:=by rw [<-h]; rfl
   exact Y
  | false=>
   refine Z ?_
   exact Y
theorem Ap6 {a0 r:List Cm} (h:B0 40 [] a0=some r):Aq Go.Proofs.Tryz.prog 235 [Ar 3 El a0] (Ar 3 El r):=by
 have h:((B0 40 [] a0).bind fun o=>some o)=some r:=by rw [h]; rfl
 refine pw {T:=B7,an:=(fun s=>bif Nat.beq s 5 then .own else .ask),nl:=(fun s=>bif Nat.beq s 2 then [(0,3)] else [])} Tryz.func235 ?_
 refine Ax ?_
 refine Bq ?_
 refine ZO ?_
 refine Ax (Ax ?_)
 refine Qm (fun b:Bool=>b=true->a0 = []) (fun b=>[(4,Al b)]) (fun _=>[]) (fun _=>rfl) ?_ ?_
 .intro K hK
  refine Aa3 0 ?_
  intro v hv
  obtain ⟨p,c,rfl,hp⟩:=hv 3 (a0.map El) rfl
  refine Bq ?_
  refine nx ?_
  refine nx ?_
  refine J2 ?_
  refine hK p.isNone _ _ _ (fun e=>?_) ⟨rfl,trivial⟩ trivial
  cases p with
  | none=>simpa using hp rfl
  | some _=>cases e
 .rintro b _ hb
  cases b with
  | true=>
   have hb:=hb rfl
   subst hb
   have h:some ([]:List Cm)=some r:=by rw [<-h]; rfl
   exact Y
  | false=>
   refine Z ?_
   exact Y
theorem Ap7 {a0 r:List Ca} (h:B0 40 [] a0=some r):Aq Go.Proofs.Tryz.prog 241 [Ar 3 Ef a0] (Ar 3 Ef r):=by
 have h:((B0 40 [] a0).bind fun o=>some o)=some r:=by rw [h]; rfl
 refine pw {T:=B7,an:=(fun s=>bif Nat.beq s 5 then .own else .ask),nl:=(fun s=>bif Nat.beq s 2 then [(0,3)] else [])} Tryz.func241 ?_
 refine Ax ?_
 refine Bq ?_
 refine ZO ?_
 refine Ax (Ax ?_)
 refine Qm (fun b:Bool=>b=true->a0 = []) (fun b=>[(4,Al b)]) (fun _=>[]) (fun _=>rfl) ?_ ?_
 .intro K hK
  refine Aa3 0 ?_
  intro v hv
  obtain ⟨p,c,rfl,hp⟩:=hv 3 (a0.map Ef) rfl
  refine Bq ?_
  refine nx ?_
  refine nx ?_
  refine J2 ?_
  refine hK p.isNone _ _ _ (fun e=>?_) ⟨rfl,trivial⟩ trivial
  cases p with
  | none=>simpa using hp rfl
  | some _=>cases e
 .rintro b _ hb
  cases b with
  | true=>
   have hb:=hb rfl
   subst hb
   have h:some ([]:List Ca)=some r:=by rw [<-h]; rfl
   exact Y
  | false=>
   refine Z ?_
   exact Y
end Go.Ab
namespace Go.Ab
open Go Go.Proofs Go.Shelf
set_option maxRecDepth 100000
set_option linter.unusedVariables false
theorem B8.up {σ:Aw} {ι:Bn} {H:Hp} {F:Aw} {w w':World} {x:Nat} (h:B8 σ ι H F w x) (hk:∀(b:Nat) (o:Obj),w.heap[b]? = some o->w'.heap[b]? = some o):B8 σ ι H F w' x:=by
 unfold B8 at h ⊢
 cases hx:H x with
 | none=>rw [hx] at h; exact h
 | dead=>trivial
 | cells E cs=>
  rw [hx] at h
  obtain ⟨b,C,h1,h2,h3,g,f⟩:=h
  exact ⟨b,C,h1,h2,h3,hk _ _ g,f⟩
 | rows E sz xs=>
  rw [hx] at h
  obtain ⟨h0,h1,h2⟩:=h
  refine ⟨h0,h1,?_⟩
  rcases h2 with h2 | ⟨b,c,C,q,l,k,j,i⟩
  .exact .inl h2
  .exact .inr ⟨b,c,C,q,l,k,hk _ _ j,i⟩
 | map es=>
  rw [hx] at h
  obtain ⟨b,M,t,h1,h2,h3,g,f⟩:=h
  exact ⟨b,M,t,h1,h2,h3,hk _ _ g,f⟩
theorem St.growG {σ:Aw} {ι:Bn} {H:Hp} {F:Aw} {W w:World} (s:St σ ι H F W w) (k:Nat) (os:Array Obj):St σ ι H F W (Sort.grow (Sort.ahead w k) os):=by
 have hk:∀(b:Nat) (o:Obj),w.heap[b]? = some o->(Sort.grow (Sort.ahead w k) os).heap[b]? = some o:=by
  intro b o h
  have c:=(Array.getElem?_eq_some_iff.1 h).1
  show (w.heap++os)[b]? = _
  rw [Array.getElem?_append_left c]; exact h
 exact ⟨fun b o h=>hk b o (s.sto b o h),fun b o h=>⟨hk b o (s.fra b o h).1,(s.fra b o h).2⟩,fun h=>(s.obj h).up hk,s.inj,s.os,s.tape,s.output,s.glo,Nat.le_trans s.drw (Nat.le_add_right _ _)⟩
theorem Ap8 {α:Type} [Inhabited α] (enc:α->Value) (w:World) (b:Nat) (d:Array α) (C:Array Value) (E:TypeId) (h:w.heap[b]? = some (.cells C E (0,0))):Sort.putRow enc w b 0 d=w.setRow b (Sort.putCells enc 0 d C):=by
 have c:(Sort.putRow enc w b 0 d).heap=(w.setRow b (Sort.putCells enc 0 d C)).heap:=by
  apply Array.ext_getElem?
  intro i
  simp only [Sort.putRow,Sort.mapBlock,World.setRow,Array.getElem?_modify]
  split
  .rename_i e; subst e
   rw [h]; simp [Sort.onCells]
  .rfl
 unfold Sort.putRow Sort.mapBlock World.setRow at c ⊢
 simp only at c
 rw [c]
end Go.Ab
namespace Go.Ab
open Go Go.Proofs Go.Shelf Go.Sort
set_option maxRecDepth 100000
set_option linter.unusedVariables false
theorem Ap9 {v:Value} (h:Dn v=true):v.oneCell'=true:=by cases v <;> first | rfl | cases h
theorem Aqa {σ:Aw} {ι:Bn} {H:Hp} {f:FuncId} {v:Value} (h:Conc σ ι H (.fn f []) v):v = .func (.func f) #[] #[]:=by
 cases h with
 | cc h=>cases h
 | fn _ _ vs b _=>
  have:vs = #[]:=Array.size_eq_zero_iff.1 (by simpa using b)
  rw [this]
def Ag3 {α:Type} (σ:Aw) (eA:α->AV) (sz:Nat) (S:List α) (x:α) (c:List Value):Prop :=
 x∈S/\(eA x).cells.length=sz/\c.length=sz/\∀(j:Nat) (a:AV) (v:Value),(eA x).cells[j]? = some a->c[j]? = some v->CC σ a v/\Dn v=true
abbrev K2 {α:Type} (σ:Aw) (eA:α->AV) (sz:Nat) (S:List α):Type:={p:α×List Value // Ag3 σ eA sz S p.1 p.2}
theorem Aqb {σ:Aw} {W w':World} (g:∀b o,W.heap[b]? = some o->σ b=some o) (s:St σ ι0 H0 (fun _=>none) W w'):∃q f,w'=grow (W.drewN q) f:=by
 have hk:∀b o,W.heap[b]? = some o->w'.heap[b]? = some o:=fun b o h=>s.sto b o (g b o h)
 have j:W.heap.size<=w'.heap.size:=by
  rcases Nat.eq_zero_or_pos W.heap.size with h | h
  .omega
  .have:=hk (W.heap.size-1) _ (Array.getElem?_eq_getElem (by omega))
   have:=(Array.getElem?_eq_some_iff.1 this).1
   omega
 refine ⟨w'.drawn-W.drawn,w'.heap.extract W.heap.size w'.heap.size,?_⟩
 have c:w'.heap=W.heap++w'.heap.extract W.heap.size w'.heap.size:=by
  apply Array.ext_getElem?
  intro i
  by_cases hi:i<W.heap.size
  .rw [Array.getElem?_append_left hi,Array.getElem?_eq_getElem hi]
   exact hk i _ (Array.getElem?_eq_getElem hi)
  .rw [Array.getElem?_append_right (by omega)]
   by_cases hj:i<w'.heap.size
   .rw [Array.getElem?_eq_getElem hj,Array.getElem?_eq_getElem (by simp; omega)]
    simp only [Array.getElem_extract]
    congr 2
    omega
   .rw [Array.getElem?_eq_none (by omega),Array.getElem?_eq_none (by simp; omega)]
 have h1:=s.os
 have h2:=s.tape
 have h3:=s.output
 have k:=s.drw
 cases w' with
 | mk heap tape drawn os output=>
  simp only at h1 h2 h3 k c
  unfold grow World.drewN
  simp only [World.mk.injEq]
  exact ⟨c,h2,by omega,h1,h3⟩
theorem Aqc {ρ:Ren} {α:Type} {eA:α->AV} {E:TypeId} {sz f g:Nat} {cmp:α->α->Option Int} (L:SlLaysF0.n6 Go.Proofs.Tryz.prog ρ) (hf:ρ.f 6=f) (a7:Z1 Go.Proofs.Tryz.prog f)
  (aE:∀w,(isAgg (ρ.t 24)).run Go.Proofs.Tryz.prog w = .ok true w) (zE:∀w,(Go.sizeOf (ρ.t 24)).run Go.Proofs.Tryz.prog w = .ok sz w) (eg:∀args w,(callFunc g args).run Go.Proofs.Tryz.prog w = .ok (.enter g args) w)
  (ay:∀x y n,cmp x y=some n->Aq Go.Proofs.Tryz.prog g [eA x,eA y] (O .i64 n)) (b3:∀x,∃cs,eA x = .agg cs) {l r:List α} (h:Ob cmp l=some r) (ak:l≠[]) :
  Ce Go.Proofs.Tryz.prog f [.arr 0 l.length 0 l.length,.fn g []] [.rows E sz (l.map eA)] (.tup []) [.rows E sz (r.map eA)]:=by
 obtain ⟨cf,law,bd,I,A⟩:=Aps h
 refine ⟨a7,fun σ F W w ι vs s ax=>?_⟩
 obtain ⟨v,v2,rfl,G,b6⟩:=Agu ax
 obtain rfl:=Aqa b6
 have hh:hp [.rows E sz (l.map eA)] 0 = .rows E sz (l.map eA):=rfl
 have R:=G.arr_inv hh (by simp)
 have hor:=s.obj 0
 unfold B8 at hor
 rw [hh] at hor
 obtain ⟨U,ao,hor⟩:=hor
 rw [List.length_map] at ao
 rcases hor with ⟨_,ai⟩ | ⟨b,V,D,hb,g1,g2,g3,g4,g5,g6⟩
 .exact (ak (by simpa using ai)).elim
 rw [List.length_map] at g5
 unfold E9 at R
 rw [hb] at R
 simp only [Nat.zero_mul,Nat.sub_zero] at R
 obtain ⟨ht,ab⟩:=R
 subst ab
 obtain ⟨gg,q1,q2,q3⟩:=g6
 have aa:∀(i:Nat) (x:α),l[i]? = some x->(l.map eA)[i]? = some (eA x):=fun i x hx=>by rw [List.getElem?_map,hx]; rfl
 have a1:∀(i:Nat) (hi:i<l.length),Ag3 σ eA sz l l[i] ((List.range sz).map (gg i)):=by
  intro i hi
  have hx:l[i]? = some l[i]:=List.getElem?_eq_getElem hi
  refine ⟨List.getElem_mem hi,q1 i _ (aa i _ hx),by simp,fun j a v ha G=>?_⟩
  rw [List.getElem?_map,Option.map_eq_some_iff] at G
  obtain ⟨k,hk,rfl⟩:=G
  have ba:k=j:=by
   have:=(List.getElem?_eq_some_iff.1 hk).2
   simpa using this.symm
  subst ba
  exact q2 i _ k a (aa i _ hx) ha
 have hpos:0<l.length:=List.length_pos_iff.2 ak
 let d:Array (K2 σ eA sz l):=Array.ofFn fun i:Fin l.length=>⟨(l[i.1],(List.range sz).map (gg i.1)),a1 i.1 i.2⟩
 haveI:Inhabited (K2 σ eA sz l):=⟨⟨(l[0],(List.range sz).map (gg 0)),a1 0 hpos⟩⟩
 have B:d.size=l.length:=by simp [d]
 have bb:∀i (hi:i<l.length),d[i]! = ⟨(l[i],(List.range sz).map (gg i)),a1 i hi⟩:=fun i hi=>by
  rw [getElem!_pos d i (by rw [B]; exact hi)]; simp [d]
 let enc:K2 σ eA sz l->List Value:=fun p=>p.1.2
 have hk:∀x:K2 σ eA sz l,(enc x).length=sz:=fun x=>x.2.2.2.1
 have h1:∀x:K2 σ eA sz l,∀v∈enc x,v.oneCell'=true:=by
  intro x v G
  obtain ⟨j,hj⟩:=List.getElem?_of_mem G
  have q:=(List.getElem?_eq_some_iff.1 hj).1
  rw [hk x] at q
  have ha:(eA x.1.1).cells[j]? = some ((eA x.1.1).cells[j]'(by rw [x.2.2.1]; exact q)):=List.getElem?_eq_getElem _
  exact Ap9 (x.2.2.2.2 j _ v ha hj).2
 let a8:K2 σ eA sz l->K2 σ eA sz l->Int:=fun x y=>cf x.1.1 y.1.1
 have hO:SWO (ltOf a8):=by
  constructor
  .intro x; exact decide_eq_false (law.irr x.1.1)
  .intro x y z Y X
   exact decide_eq_true (law.trs _ _ _ (of_decide_eq_true Y) (of_decide_eq_true X))
  .intro x y z Y X
   exact decide_eq_false (law.ntr _ _ _ (of_decide_eq_false Y) (of_decide_eq_false X))
 have hH:HoldsK enc sz w b 0 d:=by
  intro t Z
  rw [size_flatK,B] at Z
  have ad:t / sz<l.length:=Nat.div_lt_of_lt_mul (by rw [Nat.mul_comm]; exact Z)
  have ac:t % sz<sz:=Nat.mod_lt _ U
  rw [get_flatK _ _ _ _ (by rw [B]; exact Z),bb _ ad]
  have e:=q3 (t / sz) (t % sz) (by rw [List.length_map]; exact ad) ac
  rw [show t / sz*sz+t % sz=t by rw [Nat.mul_comm]; exact Nat.div_add_mod t sz] at e
  refine ⟨?_,?_⟩
  .rw [Nat.zero_add,Hj g3,e]
   show some _=some (id _)
   congr 1
   show gg _ _=((List.range sz).map (gg (t / sz)))[t % sz]!
   rw [getElem!_pos _ _ (by simpa using ac)]
   simp
  .simp [World.frozen?,g3]
 have hblk:b<w.heap.size:=(Array.getElem?_eq_some_iff.1 g3).1
 have hC:CmpLays Go.Proofs.Tryz.prog g #[] enc sz a8 b 0 d.size w:=by
  intro m os dk hs x y
  generalize b5:sortWorldK enc sz w b 0 m dk os=S
  have aq:∀b' o,σ b'=some o->S.heap[b']? = some o:=by
   intro b' o ho
   have aj:b≠b':=by
    rintro rfl
    rw [g1] at ho; cases ho
   have e:=s.sto b' o ho
   have q:=(Array.getElem?_eq_some_iff.1 e).1
   rw [<-b5]
   show ((w.heap.modify b _)++os)[b']? = _
   rw [Array.getElem?_append_left (by simpa using q),Array.getElem?_modify,if_neg aj]; exact e
  have au:=bd x.1.1 x.2.1 y.1.1 y.2.1
  have hp:=ay _ _ _ au
  have s1:St ((fun b=>S.heap[b]?)) ι0 H0 (fun _=>none) S S:=⟨fun _ _ e=>e,(fun _ _ e=>by cases e),fun _=>rfl,(fun _ _ _ hl=>by cases hl),rfl,rfl,rfl,s.glo.mono aq,Nat.le_refl _⟩
  have az:∀z:K2 σ eA sz l,Conc ((fun b=>S.heap[b]?)) ι0 H0 (eA z.1.1) (.agg (enc z).toArray):=by
   intro z
   obtain ⟨cs,av⟩:=b3 z.1.1
   have J:(eA z.1.1).cells=cs:=by rw [av]; rfl
   rw [av]
   refine .cc (.agg _ _ ?_ fun i c v hc G=>?_)
   .rw [<-J,z.2.2.1]; simp [hk z]
   .rw [<-J] at hc
    exact (z.2.2.2.2 i c v hc (by simpa using G)).1.mono aq
  refine (hp.2 ((fun b=>S.heap[b]?)) (fun _=>none) S S _ s1 ⟨rfl,?_⟩).mono ?_
  .intro i a v ha G
   match i,ha,G with
   | 0,ha,G=>cases ha; cases G; exact az x
   | 1,ha,G=>cases ha; cases G; exact az y
   | n+2,ha,G=>simp at ha
  .rintro e w' ⟨v,σ',rfl,ap,b7,hc⟩
   refine ⟨?_,?_⟩
   .cases hc with
    | cc h=>cases h; rfl
   .exact Aqb (σ:=σ') (fun b o ho=>ap b o ho) b7
 have call:=AnyQ.slices_SortFunc L sz aE zE enc hk h1 a8 hO g #[] b 0 V d w eg hC hH hblk (by rw [B]; omega)
 rw [hf,B] at call
 refine call.mono ?_
 rintro e w' ⟨rfl,u,n,os,b9,b8,rfl⟩
 obtain ⟨p1,p2,p3⟩:=b9
 have N:u.size=l.length:=by rw [p1,B]
 have M:∀(a:Array (K2 σ eA sz l)),a.size=l.length->(a.extract 0 l.length).toList=a.toList:=fun a ha=>by
  rw [<-ha]; simp
 rw [M u N,M d B] at p3
 have am:d.toList.map (fun p=>p.1.1)=l:=by
  apply List.ext_getElem
  .simp [B]
  .intro i bg bf
   simp [d]
 have ah:(u.toList.map fun p=>p.1.1).Perm l:=by
  have:=p3.map fun p:K2 σ eA sz l=>p.1.1
  rwa [am] at this
 have hR:(u.toList.map fun p=>p.1.1).Pairwise fun x y=>cf x y<0\/cf y x<0:=by
  refine ((ah.trans I.symm).pairwise_iff (fun {x y} h=>h.symm)).2 ?_
  exact A.imp fun h=>.inl h
 have hS:(u.toList.map fun p=>p.1.1).Pairwise fun x y=>cf x y<0:=by
  rw [List.pairwise_iff_getElem] at hR ⊢
  intro i j hi hj ar
  simp only [List.length_map,Array.length_toList] at hi hj
  rcases hR i j (by simpa using hi) (by simpa using hj) ar with h | h
  .exact h
  .have:=b8 i j (Nat.zero_le _) ar (by omega)
   rw [getElem!_pos u i hi,getElem!_pos u j hj] at this
   have:=of_decide_eq_false this
   simp only [List.getElem_map,Array.getElem_toList] at h
   exact (this h).elim
 have ag:u.toList.map (fun p=>p.1.1)=r:=by
  refine List.Perm.eq_of_pairwise (le:=fun x y=>cf x y<0) (fun x y _ _ h1 h2=>(law.irr x (law.trs _ _ _ h1 h2)).elim) hS A (ah.trans I.symm)
 have af:r.length=l.length:=I.length_eq
 have be:(flatK enc sz u).size=l.length*sz:=by rw [size_flatK,N]
 have b4:(Sort.putCells id 0 (flatK enc sz u) D).size=V*sz:=by unfold Sort.putCells; rw [Array.size_mapIdx]; exact g4
 have ae:∀(i:Nat) (x:α),r[i]? = some x->i<u.size/\(u[i]!).1.1=x:=by
  intro i x hx
  rw [<-ag,List.getElem?_map,Option.map_eq_some_iff] at hx
  obtain ⟨p,hp,rfl⟩:=hx
  have q:=(List.getElem?_eq_some_iff.1 hp).1
  simp only [Array.length_toList] at q
  refine ⟨q,?_⟩
  rw [getElem!_pos u i q]
  have:=(List.getElem?_eq_some_iff.1 hp).2
  simp only [Array.getElem_toList] at this
  rw [this]
 obtain ⟨s',le⟩:=s.setRows 0 E sz _ (r.map eA) hh b V hb (by simp [af]) (Sort.putCells id 0 (flatK enc sz u) D) b4 (by
  refine ⟨fun i j=>(enc u[i]!)[j]!,?_,?_,?_⟩
  .intro i x hx
   rw [List.getElem?_map] at hx
   obtain ⟨z,hz,rfl⟩:=Option.map_eq_some_iff.1 hx
   obtain ⟨e1,e2⟩:=ae i z hz
   rw [<-e2]; exact (u[i]!).2.2.1
  .intro i x j c hx a6
   rw [List.getElem?_map] at hx
   obtain ⟨z,hz,rfl⟩:=Option.map_eq_some_iff.1 hx
   obtain ⟨e1,e2⟩:=ae i z hz
   rw [<-e2] at a6
   have q:=(List.getElem?_eq_some_iff.1 a6).1
   rw [(u[i]!).2.2.1,<-(u[i]!).2.2.2.1] at q
   have hg:(u[i]!).1.2[j]? = some ((enc u[i]!)[j]!):=by
    rw [List.getElem?_eq_getElem q,getElem!_pos (enc u[i]!) j q]
   exact (u[i]!).2.2.2.2 j c _ a6 hg
  .intro i j hi hj
   rw [List.length_map,af] at hi
   have q:i*sz+j<l.length*sz:=by
    have:=Nat.mul_le_mul_right sz (show i+1<=l.length from hi)
    rw [Nat.add_mul,Nat.one_mul] at this; omega
   have hD:i*sz+j<D.size:=by
    rw [g4]
    exact Nat.lt_of_lt_of_le q (Nat.mul_le_mul_right sz g5)
   unfold Sort.putCells
   rw [Array.getElem?_mapIdx,Array.getElem?_eq_getElem hD]
   simp only [Option.map_some,Nat.zero_le,true_and,Nat.zero_add,be,q,if_true,Nat.sub_zero]
   congr 1
   show id ((flatK enc sz u)[i*sz+j]!)=_
   rw [get_flatK _ _ _ _ (by rw [N]; exact q)]
   have e1:(i*sz+j) / sz=i:=by rw [Nat.mul_comm,Nat.mul_add_div U,Nat.div_eq_of_lt hj,Nat.add_zero]
   have e2:(i*sz+j) % sz=j:=by rw [Nat.mul_comm,Nat.mul_add_mod,Nat.mod_eq_of_lt hj]
   rw [e1,e2]; rfl)
 have eH:A4 (hp [.rows E sz (l.map eA)]) 0 (.rows E sz (r.map eA))=hp [.rows E sz (r.map eA)]:=by
  funext i
  match i with
  | 0=>rfl
  | i+1=>rfl
 rw [eH] at le s'
 have eW:sortWorldK enc sz w b 0 n u os=Sort.grow (Sort.ahead (w.setRow b (Sort.putCells id 0 (flatK enc sz u) D)) n) os:=by
  unfold sortWorldK putRowK
  rw [Ap8 id (Sort.ahead w n) b (flatK enc sz u) D E g3]
  rfl
 rw [eW]
 exact ⟨_,σ,ι,rfl,le,s'.growG n os,.tup _ _ rfl (fun i c v h1 _=>by cases h1)⟩
def Aqd:Ren:={f:=fun x=>match x with | 6=>92 | 15=>120 | 14=>164 | 28=>188 | 29=>189 | 20=>246 | 21=>247 | 22=>248 | 23=>249 | 24=>250 | 25=>251 | 26=>252 | 27=>253 | 46=>301 | 47=>258 | 48=>259 | 49=>302 | 50=>303 | 57=>345 | n=>n,t:=fun x=>match x with | 22=>28 | 24=>84 | 25=>143 | 3=>3 | 39=>164 | 0=>0 | 53=>133 | 55=>140 | 4=>4 | 46=>218 | 45=>217 | 50=>102 | 5=>5 | 9=>9 | 66=>292 | 70=>148 | 76=>346 | 77=>347 | n=>n,g:=fun n=>n}
theorem Aqe:SlLaysF0.n6 Go.Proofs.Tryz.prog Aqd:=by
 constructor
 case f6=>exact Exists.intro "slices.SortFunc[[]amortcost/api.Term,amortcost/api.Term]" ⟨by kernel_rfl,by kernel_rfl⟩
 case f14=>exact Exists.intro "slices.pdqsortCmpFunc[amortcost/api.Term]" ⟨by kernel_rfl,by kernel_rfl⟩
 case f20=>exact Exists.intro "slices.insertionSortCmpFunc[amortcost/api.Term]" ⟨by kernel_rfl,by kernel_rfl⟩
 case f21=>exact Exists.intro "slices.heapSortCmpFunc[amortcost/api.Term]" ⟨by kernel_rfl,by kernel_rfl⟩
 case f22=>exact Exists.intro "slices.breakPatternsCmpFunc[amortcost/api.Term]" ⟨by kernel_rfl,by kernel_rfl⟩
 case f23=>exact Exists.intro "slices.choosePivotCmpFunc[amortcost/api.Term]" ⟨by kernel_rfl,by kernel_rfl⟩
 case f24=>exact Exists.intro "slices.reverseRangeCmpFunc[amortcost/api.Term]" ⟨by kernel_rfl,by kernel_rfl⟩
 case f25=>exact Exists.intro "slices.partialInsertionSortCmpFunc[amortcost/api.Term]" ⟨by kernel_rfl,by kernel_rfl⟩
 case f26=>exact Exists.intro "slices.partitionEqualCmpFunc[amortcost/api.Term]" ⟨by kernel_rfl,by kernel_rfl⟩
 case f27=>exact Exists.intro "slices.partitionCmpFunc[amortcost/api.Term]" ⟨by kernel_rfl,by kernel_rfl⟩
 case f46=>exact Exists.intro "slices.siftDownCmpFunc[amortcost/api.Term]" ⟨by kernel_rfl,by kernel_rfl⟩
 case f49=>exact Exists.intro "slices.medianAdjacentCmpFunc[amortcost/api.Term]" ⟨by kernel_rfl,by kernel_rfl⟩
 case f50=>exact Exists.intro "slices.medianCmpFunc[amortcost/api.Term]" ⟨by kernel_rfl,by kernel_rfl⟩
 case f57=>exact Exists.intro "slices.order2CmpFunc[amortcost/api.Term]" ⟨by kernel_rfl,by kernel_rfl⟩
 all_goals first | kernel_rfl | (intro w; kernel_rfl)
theorem Aqf {α:Type} {eA:α->AV} {g:Nat} {cmp:α->α->Option Int} (j:∀args w,(callFunc g args).run Go.Proofs.Tryz.prog w = .ok (.enter g args) w)
  (b:∀x y n,cmp x y=some n->Aq Go.Proofs.Tryz.prog g [eA x,eA y] (O .i64 n)) (c:∀x,∃cs,eA x = .agg cs) {f r:List α} (h:Ob cmp f=some r) (i:f≠[]) :
  Ce Go.Proofs.Tryz.prog 92 [.arr 0 f.length 0 f.length,.fn g []] [.rows 84 5 (f.map eA)] (.tup []) [.rows 84 5 (r.map eA)] :=
 Aqc Aqe rfl ⟨_,Tryz.func92,by kernel_rfl,by kernel_rfl⟩ (by intro w; kernel_rfl) (by intro w; kernel_rfl) j b c h i
end Go.Ab
