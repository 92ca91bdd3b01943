/- Contracts of strings.Builder and strconv.Itoa. -/
import Derived.Test.YtidkdnlhdbbbjaaGreatDoorAzTy
import Derived.Test.YtidkdnlhdbbbjaaGreatDoorAzHandB
import Derived.Shelf.Strconv.Itoa4
import Derived.KernelRfl
import Derived.Shelf.Sort.Plain
import Derived.Shelf.SlSortCmp.WholeK
import Derived.Shelf.Spec.SlicesGrow
namespace Go.Ab
open Go Go.Proofs Go.Shelf
set_option maxRecDepth 100000
def Agl:Ren:={f:=fun x=>match x with | 171=>103 | 243=>166 | 246=>243 | 283=>282 | 284=>283 | 285=>284 | 286=>285 | 129=>178 | 317=>316 | 318=>317 | 319=>318 | 320=>319 | 337=>335 | 338=>336 | 173=>168 | n=>n,t:=fun x=>match x with | 3=>3 | 9=>9 | 2=>2 | 4=>4 | 171=>355 | 0=>0 | 53=>196 | 37=>163 | 5=>5 | 173=>357 | 212=>385 | 51=>141 | 20=>20 | 213=>386 | 46=>177 | 232=>413 | 233=>414 | n=>n,g:=fun x=>match x with | 17=>0 | 18=>1 | 19=>2 | n=>n}
theorem Agm:LaysM.n171 Go.Proofs.Tryz.prog Agl:=by
 constructor
 constructor
 all_goals first | kernel_rfl | (intro w; kernel_rfl)
theorem St.grown {σ:Ao} {F:Ao} {W w:World} (s:St σ ι0 H0 F W w) (k:Nat) (os:Array Obj):St σ ι0 H0 F W (Sort.grow (w.drewN k) os):=by
 have hk:∀(b:Nat) (o:Obj),w.heap[b]? = some o->(Sort.grow (w.drewN k) os).heap[b]? = some o:=by
  intro b o h
  have c:=(Array.getElem?_eq_some_iff.1 h).1
  show (w.heap++os)[b]? = _
  rw [Array.getElem?_append_left c]; exact h
 exact ⟨fun b o h=>hk b o (s.sto b o h),fun b o h=>⟨hk b o (s.fra b o h).1,(s.fra b o h).2⟩,fun _=>rfl,(fun _ _ _ f=>by cases f),s.os,s.tape,s.output,s.glo,Nat.le_trans s.drw (Nat.le_add_right _ _)⟩
theorem Agn {σ:Ao} {ι:Bn} {H:Hp} {F:Ao} {W w:World} (s:St σ ι H F W w):Lib.TabIs Go.Proofs.Tryz.prog w "internal/strconv.uint64pow10" .u64 Lib.pow10Tab:=by
 obtain ⟨E,fr,e⟩:=s.glo
 have h:=s.sto _ _ e
 have g:Go.Proofs.Tryz.prog.globalNamed "internal/strconv.uint64pow10" = some 0:=Agm.m17
 unfold Lib.TabIs World.var?
 rw [g]
 simp only [Option.bind_some,h]
theorem Tu {σ:Ao} {ι:Bn} {H:Hp} {x:O} {vs:Array Value} (h:Jx σ ι H [x] vs):∃v,vs = #[v]/\Conc σ ι H x v:=by
 obtain ⟨h1,h2⟩:=h
 have h1:vs.size=1:=h1
 refine ⟨vs[0],?_,h2 0 x _ rfl (by simp [h1])⟩
 apply Array.ext
 .simp [h1]
 .intro i c b
  have:i=0:=by omega
  subst this; rfl
theorem Ap5 {a0:Int} {r:ByteArray} (h:Ld a0=some r):Ax Go.Proofs.Tryz.prog 103 [Aa .i64 a0] (El r):=by
 unfold Ld at h
 split at h
 .rename_i hc
  cases h
  refine ⟨⟨_,Tryz.func103,by kernel_rfl,by kernel_rfl⟩,fun σ F W w vs s b=>?_⟩
  obtain ⟨v,rfl,c⟩:=Tu b
  have c:=c.val_inv
  subst c
  have:=Any.strconv_Itoa Agm a0 hc.1 hc.2 w (Agn s)
  refine this.mono ?_
  rintro e w' ⟨rfl,k,os,rfl⟩
  exact ⟨_,σ,rfl,Ao.le_refl σ,s.grown k os,.of_val _⟩
 .cases h
theorem Ap6:LaysM.n173 Go.Proofs.Tryz.prog Agl:=by
 constructor
 constructor
 all_goals first | kernel_rfl | (intro w; kernel_rfl)
theorem Abg {σ:Ao} {ι:Bn} {H:Hp} {x y:O} {vs:Array Value} (h:Jx σ ι H [x,y] vs):∃v u,vs = #[v,u]/\Conc σ ι H x v/\Conc σ ι H y u:=by
 obtain ⟨h1,h2⟩:=h
 have h1:vs.size=2:=h1
 refine ⟨vs[0],vs[1],?_,h2 0 x _ rfl (by simp [h1]),h2 1 y _ rfl (by simp [h1])⟩
 apply Array.ext
 .simp [h1]
 .intro i c b
  rcases (by omega:i=0\/i=1) with h | h
  .subst h; rfl
  .subst h; rfl
theorem Ap7 {a0 a1:Int} {r:ByteArray} (h:V9 a0 a1=some r):Ax Go.Proofs.Tryz.prog 168 [Aa .i64 a0,Aa .i64 a1] (El r):=by
 unfold V9 at h
 cases hb:a1==10 with
 | false=>rw [hb] at h; cases h
 | true=>
  rw [hb] at h
  have hb:=eq_of_beq hb
  subst hb
  have h:Ld a0=some r:=h
  unfold Ld at h
  split at h
  .rename_i hc
   cases h
   refine ⟨⟨_,Tryz.func168,by kernel_rfl,by kernel_rfl⟩,fun σ F W w vs s b=>?_⟩
   obtain ⟨v,u,rfl,c,hu⟩:=Abg b
   have c:=c.val_inv
   have hu:=hu.val_inv
   subst c; subst hu
   have:=Any.strconv_FormatInt_10 Ap6 a0 hc.1 hc.2 w (Agn s)
   refine this.mono ?_
   rintro e w' ⟨rfl,k,os,rfl⟩
   exact ⟨_,σ,rfl,Ao.le_refl σ,s.grown k os,.of_val _⟩
  .cases h
theorem Xi (o:Bd) (os:List Bd):hp (o::os) 0=o:=rfl
theorem Ap8 (x:O) (rest:List Bd):Bp Go.Proofs.Tryz.prog 164 [.loc 0 0] (.cells 165 [.loc 0 0,x]::rest) (.tup []) (.cells 165 [.loc 0 0,x]::rest):=by
 refine ⟨⟨_,Tryz.func164,by kernel_rfl,by kernel_rfl⟩,fun σ F W w ι vs s f=>?_⟩
 obtain ⟨v,rfl,k⟩:=Tu f
 obtain ⟨b,hb,k⟩:=k.loc_inv
 subst k
 have l:=s.obj 0
 unfold B7 at l
 rw [Xi] at l
 obtain ⟨A,C,y,_,_,h3,u,z⟩:=l
 rw [hb] at y; cases y
 have u:C.size=2:=u
 have g:C[0]? = some C[0]:=by simp [u]
 have q:=z 0 (.loc 0 0) C[0] rfl g
 obtain ⟨b2,h,j⟩:=q.loc_inv
 rw [hb] at h; cases h
 have cell:w.cell? ⟨b,0,none⟩=some (.pointer (some ⟨b,0,none⟩)):=by
  rw [Hk h3,g,j]
 refine (Tryz.check_used b w cell).mono ?_
 rintro e w' ⟨rfl,rfl⟩
 exact ⟨_,σ,ι,rfl,Le.refl _ _ _,s,.tup _ _ rfl (fun i c v h1 _=>by cases h1)⟩
theorem Ap9 (x:O) (rest:List Bd):Bp Go.Proofs.Tryz.prog 164 [.loc 0 0] (.cells 165 [.val (.pointer none),x]::rest) (.tup []) (.cells 165 [.loc 0 0,x]::rest):=by
 refine ⟨⟨_,Tryz.func164,by kernel_rfl,by kernel_rfl⟩,fun σ F W w ι vs s j=>?_⟩
 obtain ⟨v,rfl,q⟩:=Tu j
 obtain ⟨b,hb,q⟩:=q.loc_inv
 subst q
 have u:=s.obj 0
 unfold B7 at u
 rw [Xi] at u
 obtain ⟨G,C,A,_,_,h3,g,z⟩:=u
 rw [hb] at A; cases A
 have g:C.size=2:=g
 have k:C[0]? = some C[0]:=by simp [g]
 have l:=(z 0 (.val (.pointer none)) C[0] rfl k).val_inv
 have cell:w.cell? ⟨b,0,none⟩=some (.pointer none):=by
  rw [Hk h3,k,l]
 refine (Tryz.check_fresh b w cell (by simp [World.shape?,h3,g]) (by simp [World.frozen?,h3])).mono ?_
 rintro e w' ⟨rfl,rfl⟩
 obtain ⟨s',le⟩:=s.setBox 0 165 [.val (.pointer none),x] [.loc 0 0,x] rfl b hb #[.pointer (some ⟨b,0,none⟩),C[1]] rfl (by
  intro i c v h1 h2
  match i with
  | 0=>simp at h1 h2; subst h1; subst h2; exact .loc 0 0 b hb
  | 1=>simp at h1 h2; subst h1; subst h2; exact z 1 x _ rfl (by simp [g])
  | i+2=>simp at h1)
 have D:Av (hp (.cells 165 [.val (.pointer none),x]::rest)) 0 (.cells 165 [.loc 0 0,x])=hp (.cells 165 [.loc 0 0,x]::rest):=by
  funext i
  cases i with
  | zero=>rfl
  | succ i=>rfl
 have B:w.setCell ⟨b,0,none⟩ (.pointer (some ⟨b,0,none⟩))=w.setRow b #[.pointer (some ⟨b,0,none⟩),C[1]]:=by
  have h:C.setIfInBounds 0 (.pointer (some ⟨b,0,none⟩)) = #[.pointer (some ⟨b,0,none⟩),C[1]]:=by
   apply Array.ext
   .simp [g]
   .intro i E y
    match i with
    | 0=>simp
    | 1=>rw [Array.getElem_setIfInBounds_ne _ (by decide)]; rfl
    | i+2=>simp at y; omega
  have f:(w.setCell ⟨b,0,none⟩ (.pointer (some ⟨b,0,none⟩))).heap=(w.setRow b #[.pointer (some ⟨b,0,none⟩),C[1]]).heap:=by
   apply Array.ext_getElem?
   intro i
   simp only [World.setCell,World.setRow,Array.getElem?_modify]
   split
   .rename_i e; subst e
    rw [h3]; simp [h]
   .rfl
  unfold World.setCell World.setRow at f ⊢
  simp only at f
  rw [f]
 rw [D] at s' le
 rw [B]
 exact ⟨_,σ,ι,rfl,le,s',.tup _ _ rfl (fun i c v h1 _=>by cases h1)⟩
theorem Aqa {l:List Int} (h:∀x∈l,0<=x/\x<256) {j:Nat} {x:UInt8} (hx:(En l)[j]? = some x):l[j]? = some (x.toNat:Int):=by
 simp only [En,List.getElem?_map,Option.map_eq_some_iff] at hx
 obtain ⟨y,hy,rfl⟩:=hx
 have b:=h y (List.mem_of_getElem? hy)
 rw [hy]
 congr 1
 have:y.toNat<256:=by omega
 simp only [UInt8.toNat_ofNat']
 omega
theorem St.kill {σ:Ao} {ι:Bn} {H:Hp} {F:Ao} {W w:World} (s:St σ ι H F W w) (h:Nat):St σ ι (Av H h .dead) F W w/\Le σ ι H σ ι (Av H h .dead):=by
 have le:Le σ ι H σ ι (Av H h .dead):=by
  have:=Le.upd (ι:=ι) (H:=H) (Ao.le_refl σ) h (ι h) .dead ⟨fun _ e=>e,(fun _ e=>by cases e),(fun _ k j i e=>by cases e)⟩
  rwa [Gj] at this
 obtain ⟨f1,f2⟩:=s.fresh
 refine ⟨s.touch h w.heap.size (fun _ _=>rfl) (fun x e=>Cw _ _ e) le (fun _ _=>rfl) (fun _ _=>rfl) (fun o g=>by rw [f1] at g; cases g) ?_ f2 ?_ ?_ rfl rfl rfl,le⟩
 .intro x _ c f
  have:=(s.block c f).1
  omega
 .intro b c
  rw [B2] at c; cases c
 .unfold B7
  rw [B2]; trivial
theorem Aqb {p:O}:Bp Go.Proofs.Tryz.prog 105 [.loc 0 0] [.cells 165 [p,.arr 1 0 0 0],.rows 5 1 []] (El .empty) [.cells 165 [p,.arr 1 0 0 0],.dead]:=by
 refine ⟨⟨_,Tryz.func105,by kernel_rfl,by kernel_rfl⟩,fun σ F W w ι vs s u=>?_⟩
 obtain ⟨v,rfl,I⟩:=Tu u
 obtain ⟨b,hb,I⟩:=I.loc_inv
 subst I
 have J:=s.obj 0
 unfold B7 at J
 rw [Xi] at J
 obtain ⟨b',C,Y,_,_,h3,z,h5⟩:=J
 rw [hb] at Y; cases Y
 have z:C.size=2:=z
 have hC:C = #[C[0],C[1]]:=by
  apply Array.ext
  .simp [z]
  .intro i V L
   match i with
   | 0=>rfl
   | 1=>rfl
   | i+2=>simp at L; omega
 have N:=h5 1 (.arr 1 0 0 0) C[1] rfl (by simp [z])
 have l:hp [Bd.cells 165 [p,.arr 1 0 0 0],.rows 5 1 []] 1 = .rows 5 1 []:=rfl
 have c:=N.arr_inv l (by simp)
 have hor:=s.obj 1
 unfold B7 at hor
 rw [l] at hor
 obtain ⟨_,U,hor⟩:=hor
 have eH:Av (hp [Bd.cells 165 [p,.arr 1 0 0 0],.rows 5 1 []]) 1 .dead=hp [Bd.cells 165 [p,.arr 1 0 0 0],.dead]:=by
  funext i
  match i with
  | 0=>rfl
  | 1=>rfl
  | i+2=>rfl
 have go:∀(a q:Option Addr) (cap:Nat) (y:Ao) (h:World),C[1] = .slice a 0 cap->h.heap[b]? = w.heap[b]?->(Builtin.unsafeSliceData_ #[163] 242 #[.slice a 0 cap]).run Go.Proofs.Tryz.prog w.drew = .ok (.pointer q) h ->
   Le σ ι (hp [Bd.cells 165 [p,.arr 1 0 0 0],.rows 5 1 []]) y ι (hp [Bd.cells 165 [p,.arr 1 0 0 0],.rows 5 1 []])->St y ι (hp [Bd.cells 165 [p,.arr 1 0 0 0],.rows 5 1 []]) F W h ->
   Calls Go.Proofs.Tryz.prog 105 #[.pointer (some ⟨b,0,none⟩)] w fun e w'=>∃v A B,e = .returned v/\Le σ ι (hp [Bd.cells 165 [p,.arr 1 0 0 0],.rows 5 1 []]) A B (hp [Bd.cells 165 [p,.arr 1 0 0 0],.dead])/\St A B (hp [Bd.cells 165 [p,.arr 1 0 0 0],.dead]) F W w'/\Conc A B (hp [Bd.cells 165 [p,.arr 1 0 0 0],.dead]) (El .empty) v:=by
  intro a q cap y h f M R le E
  have x:w.heap[b]? = some (.cells #[C[0],.slice a 0 cap] 165 (0,0)):=by
   rw [h3]; congr 1; rw [<-f,<-hC]
  refine (Tryz.builder_str0 b cap C[0] a q w h x (M.trans x) R).mono ?_
  rintro e w' ⟨rfl,rfl⟩
  obtain ⟨S,k⟩:=E.kill 1
  rw [eH] at S k
  exact ⟨_,y,ι,rfl,le.trans k,S,.of_val _⟩
 rcases hor with ⟨V,_⟩ | ⟨g,j,D,Z,g1,g2,g3,g4,g5,g6⟩
 .unfold Es at c
  rw [V] at c
  exact go none none 0 σ w.drew c.1 rfl rfl (Le.refl _ _ _) (s.drew _)
 .unfold Es at c
  rw [Z] at c
  simp only [Nat.zero_mul,Nat.zero_add,Nat.sub_zero] at c
  obtain ⟨_,f⟩:=c
  by_cases ht:j=0
  .subst ht
   obtain ⟨E,G⟩:=(s.drew (w.drawn+1)).newFrozen (.view ⟨g,0,none⟩ 5)
   have X:=(Array.getElem?_eq_some_iff.1 h3).1
   refine go _ _ 0 _ (w.drew.alloc (.view ⟨g,0,none⟩ 5)) f ?_ (Lib.run_unsafeSliceData_zero _ _ _ 5 Go.Proofs.Tryz.underlying242 _ _ (5,D.size) (by
    have:w.drew.heap[g]? = some (.cells D 5 (0,0)):=g3
    simp [World.shape?,this])) G E
   show (w.heap.push _)[b]? = _
   rw [Array.getElem?_push,if_neg (by omega)]
  .exact go _ _ j σ w.drew f rfl (Lib.run_unsafeSliceData_row _ _ _ _ _ _ ht) (Le.refl _ _ _) (s.drew _)
theorem Ago {p:O} {l:List Int} {r:ByteArray} (h:R9 l=some r):Bp Go.Proofs.Tryz.prog 105 [.loc 0 0] [.cells 165 [p,.arr 1 l.length 0 l.length],.rows 5 1 (List.map (Aa .u8) l)] (El r) [.cells 165 [p,.arr 1 l.length 0 l.length],.dead]:=by
 unfold R9 at h
 split at h
 .rename_i X
  cases h
  by_cases u:l = []
  .subst u; exact Aqb
  refine ⟨⟨_,Tryz.func105,by kernel_rfl,by kernel_rfl⟩,fun σ F W w ι vs s J=>?_⟩
  obtain ⟨v,rfl,N⟩:=Tu J
  obtain ⟨b,hb,N⟩:=N.loc_inv
  subst N
  have y:=s.obj 0
  unfold B7 at y
  rw [Xi] at y
  obtain ⟨b',C,e1,_,_,h3,M,h5⟩:=y
  rw [hb] at e1; cases e1
  have M:C.size=2:=M
  have hC:C = #[C[0],C[1]]:=by
   apply Array.ext
   .simp [M]
   .intro i hi S
    match i with
    | 0=>rfl
    | 1=>rfl
    | i+2=>simp at S; omega
  have V:=h5 1 (.arr 1 l.length 0 l.length) C[1] rfl (by simp [M])
  have I:hp [Bd.cells 165 [p,.arr 1 l.length 0 l.length],.rows 5 1 (List.map (Aa .u8) l)] 1 = .rows 5 1 (List.map (Aa .u8) l):=rfl
  have k:=V.arr_inv I (by simp)
  have hor:=s.obj 1
  unfold B7 at hor
  rw [I] at hor
  obtain ⟨_,G,hor⟩:=hor
  rw [List.length_map] at G
  rcases hor with ⟨_,E⟩ | ⟨g,q,D,hg,g1,g2,g3,g4,g5,g6⟩
  .exact (u (by simpa using E)).elim
  .rw [List.length_map] at g5
   unfold Es at k
   rw [hg] at k
   simp only [Nat.zero_mul,Nat.zero_add,Nat.sub_zero] at k
   obtain ⟨ht,B⟩:=k
   have c:(En l).length=l.length:=by simp [En]
   have f:∀(j:Nat) (x:UInt8),(En l)[j]? = some x->D[j]? = some (Value.int .u8 x.toNat):=by
    intro j x hx
    have hj:=Aqa X hx
    obtain ⟨gg,q1,q2,q3⟩:=g6
    have A:(List.map (Aa .u8) l)[j]? = some (Aa .u8 x.toNat):=by rw [List.getElem?_map,hj]; rfl
    have R:j<(List.map (Aa .u8) l).length:=(List.getElem?_eq_some_iff.1 A).1
    have q4:=q3 j 0 R (by omega)
    have q5:=(q2 j _ 0 _ A rfl).1
    have:gg j 0=Value.int .u8 x.toNat:=by
     generalize gg j 0=z at q5
     cases q5; rfl
    rw [this] at q4
    simpa using q4
   have Z:w.heap[b]? = some (.cells #[C[0],.slice (some ⟨g,0,none⟩) (En l).length q] 165 (0,0)):=by
    rw [h3]; congr 1; rw [c]
    have:C[1] = .slice (some ⟨g,0,none⟩) l.length q:=B
    rw [<-this,<-hC]
   have a1:l.length<=D.size:=by rw [g4]; omega
   have call:=Tryz.builder_str b g q C[0] D (En l) w (by intro e; apply u; rw [<-List.length_eq_zero_iff,<-c,e]; rfl) Z g3 (by rw [c]; exact g5) (by rw [c]; exact a1) (by rw [c]; omega) f
   refine call.mono ?_
   rintro e w' ⟨rfl,rfl⟩
   have le:Le σ ι (hp [Bd.cells 165 [p,.arr 1 l.length 0 l.length],.rows 5 1 (List.map (Aa .u8) l)]) σ ι (Av (hp [Bd.cells 165 [p,.arr 1 l.length 0 l.length],.rows 5 1 (List.map (Aa .u8) l)]) 1 .dead):=by
    have:=Le.upd (ι:=ι) (H:=hp [Bd.cells 165 [p,.arr 1 l.length 0 l.length],.rows 5 1 (List.map (Aa .u8) l)]) (Ao.le_refl σ) 1 (ι 1) .dead ⟨fun _ e=>e,(fun _ e=>by cases e),(fun _ E1 a7 a6 e=>by cases e)⟩
    rwa [Gj] at this
   have eH:Av (hp [Bd.cells 165 [p,.arr 1 l.length 0 l.length],.rows 5 1 (List.map (Aa .u8) l)]) 1 .dead=hp [Bd.cells 165 [p,.arr 1 l.length 0 l.length],.dead]:=by
    funext i
    match i with
    | 0=>rfl
    | 1=>rfl
    | i+2=>rfl
   have s2:St σ ι (Av (hp [Bd.cells 165 [p,.arr 1 l.length 0 l.length],.rows 5 1 (List.map (Aa .u8) l)]) 1 .dead) F W (w.drew.freeze ⟨g,0,none⟩ (En l).length):=by
    have U:∀b,b≠g->(w.drew.freeze ⟨g,0,none⟩ (En l).length).heap[b]? = w.heap[b]?:=by
     intro b hb
     unfold World.freeze
     split
     .rfl
     .simp only [Array.getElem?_modify]
      rw [if_neg (Ne.symm hb)]; rfl
    refine s.touch (hdrw:=by unfold World.freeze; split <;> exact Nat.le_succ _) 1 g (fun _ _=>rfl) (fun x e=>Cw _ _ e) le U (fun _ _=>rfl) (fun o y=>by rw [g1] at y; cases y) ?_ g2 ?_ ?_ ?_ ?_ ?_
    .intro x hx L Y
     exact hx (s.inj x 1 g L rfl Y (by rw [hg]; rfl))
    .intro b0 L
     rw [B2] at L; cases L
    .unfold B7
     rw [B2]; trivial
    .unfold World.freeze; split <;> rfl
    .unfold World.freeze; split <;> rfl
    .unfold World.freeze; split <;> rfl
   rw [eH] at le s2
   exact ⟨_,σ,ι,rfl,le,s2,.of_val _⟩
 .cases h
end Go.Ab
namespace Go.Ab
open Go Go.Proofs
set_option linter.unusedVariables false
class OK {α:Type} (o:Option α) (G:outParam (α->Prop)):Prop where
 ok:∀{r:α},o=some r->G r
theorem okz {α:Type} {G:α->Prop}:OK (none:Option α) G:=⟨fun h=>by cases h⟩
section
variable {P:Program} {C:Cfg} {Qn:Nat->Bh->Hp->Prop} {Qe:Nat->Nat->Bh->Hp->Prop} {Qr:Nat->Bh->Hp->Prop} {n:Nat} {e:Bh} {H:Hp} {β:Type} {r:β}
variable {T:Ca} {an:Nat->Ann} {nl:Nat->List (Nat×Nat)} {ops:Array Oper} {o:Oper} {os:List Oper} {acc:F9} {K:Nat->Bh->Hp->F9->Prop}
theorem Fw {p:Nat×Bool} {s:Nat} {b:Bool} {m m':Option β} (h:(bif b then m else m')=some r) (h1:b=true->m=some r->D0 (Dv P T an nl ops (o::os) n (Av e s (.val (.bool true))) H acc K))
  (h2:b=false->m'=some r->D0 (Dv P T an nl ops (o::os) n (Av e s (.val (.bool false))) H acc K)) (hg:o.guard=some p:=by exact rfl) (hs:(ops[p.1]?).bind (·.dst)=some s:=by exact rfl) (hb:e s = .val (.bool b):=by exact rfl):D0 (Dv P T an nl ops (o::os) n e H acc K):=Api h h1 h2 hb
theorem nw {c:Code} (k:wc P C c Qn Qe Qr n e H):D0 (wc P C c Qn Qe Qr n e H):=.mk k
theorem C3 {S E:Type} {o:S⊕E} {J:E->Option β} {x:E} (h:some (Sum.inr x)=some o) (hx:∀x,Sum.inr x=o->J x=some r:=by assumption):J x=some r:=hx x (Option.some.inj h)
theorem lpj {S:Type} {o:S} {J:S->Option β} {x:S} (h:some x=some o) (hx:∀y,y=o->J y=some r:=by assumption):J x=some r:=hx x (Option.some.inj h)
theorem lpn {S E:Type} {o:S⊕E} {s':S} {K:Nat->Bh->Hp->Prop} {iv:S->List (Nat×O)} {hv:S->List (Nat×Bd)} {inv:S->Prop} {n0:Nat} {H0:Hp} (h:some (Sum.inl s')=some o) (hn:∀s' n' e' H',Sum.inl s'=o->Fo e' (iv s')->Fp H' (B1 H0 (hv s')) n0 n0->inv s'->K n' e' H':=by assumption)
  (hs:Fo e (iv s'):=by (repeat refine ⟨rfl,?_⟩); exact trivial) (hh:Fp H (B1 H0 (hv s')) n0 n0:=by (repeat refine ⟨⟨rfl,rfl⟩,?_⟩); exact trivial) (hi:inv s':=by first | trivial | exact rfl | ((repeat refine Ga ?_ _ _); first | exact rfl | assumption)):K n e H:=hn s' n e H (Option.some.inj h) hs hh hi
theorem jnn {S E:Type} {o x:E} {s:S} {J:S->Prop} {K:Nat->Bh->Hp->Prop} {iv:S->List (Nat×O)} {hv:S->List (Nat×Bd)} {n0:Nat} {H0:Hp} (h:some x=some o) (hn:∀s n' e' H',J s->Fo e' (iv s)->Fp H' (B1 H0 (hv s)) n0 n0->K n' e' H':=by assumption) (hJ:J s:=by exact Option.some.inj h)
  (hs:Fo e (iv s):=by (repeat refine ⟨rfl,?_⟩); exact trivial) (hh:Fp H (B1 H0 (hv s)) n0 n0:=by (repeat refine ⟨⟨rfl,rfl⟩,?_⟩); exact trivial):K n e H:=hn s n e H hJ hs hh
theorem Bu {α:Type} {o:Option α} {m:α->Option β} {f:FuncId} {args:List O} {G:α->Prop} {ra:α->O} {K:Eff->Nat->Prop} (h:o.bind m=some r) [i:OK o G] (k:∀v,m v=some r->K ⟨ra v,[],[]⟩ n) (hG:∀v,G v->Ax P f args (ra v):=by exact fun _ h=>h) (hf:args.all O.free=true:=by exact rfl):E6 P n H f args K :=
 C7 h fun v hv h=>E6.mk _ (hG v (i.ok hv)) hf (k v h)
theorem Agp {α:Type} {o:Option α} {m:α->Option β} {f:FuncId} {args args':List O} {G:α->Prop} {ra:α->O} {K:Eff->Nat->Prop} (h:o.bind m=some r) [i:OK o G] (k:∀v,m v=some r->K ⟨ra v,[],[]⟩ n) (hG:∀v,G v->Ax P f args' (ra v):=by exact fun _ h=>h) (hs:Mf args args':=by (repeat first | refine ⟨Sub.refl _,?_⟩ | refine ⟨Sub.nil _,?_⟩); exact trivial) (hf:args.all O.free=true:=by exact rfl):E6 P n H f args K :=
 C7 h fun v hv h=>E6.mk _ (Ax.sub (hG v (i.ok hv)) hs (Sub.refl _)) hf (k v h)
theorem A5 {α:Type} {o:Option α} {m:α->Option β} {f:FuncId} {args largs:List O} {G:α->Prop} {ra:α->O} {hs:List Bd} {hs':α->List Bd} {K:Eff->Nat->Prop} (l:List Nat) (h:o.bind m=some r) [i:OK o G] (k:∀v,m v=some r->K ⟨ren (De n l) (ra v),wrs (De n l) 0 hs++Bt (De n l) l.length ((hs' v).length-l.length),wrs (De n l) 0 (hs' v)⟩ (n+((hs' v).length-l.length)))
  (hG:∀v,G v->Bp P f largs hs (ra v) (hs' v):=by exact fun _ h=>h) (ha:largs.map (ren (De n l))=args:=by exact rfl) (ok:∀v,Pi n l largs hs (ra v) (hs' v)=true:=by exact fun _=>rfl) (hh:Ni H (wrs (De n l) 0 hs):=by (repeat refine ⟨rfl,?_⟩); exact trivial):E6 P n H f args K :=
 C7 h fun v hv h=>E6.act l largs hs (ra v) (hs' v) (hG v (i.ok hv)) ha (ok v) hh (k v h)
theorem Ch {α:Type} {l:List α} {f:α->O} {ys:List O} {i:Int} {m:α->Option β} {K:Nat->O->Prop} (h:(Ag l i).bind m=some r) (k:∀(n:Nat) (x:α),i=n->l[n]? = some x->m x=some r->K n (f x)) (he:ys=l.map f:=by first | exact rfl | exact Ka _ | exact Kc _ | exact Kb _):Ry ys i K:=Aft he h k
theorem G4 {α:Type} {l:List α} {f:α->O} {ys:List O} {i:Int} {m:α->Option β} {K:Nat->Prop} {len kk:Nat} (h:(Ag l i).bind m=some r) (k:∀(n:Nat) (x:α),i=n->l[n]? = some x->m x=some r->K n) (he:ys=l.map f:=by first | exact rfl | exact Ka _ | exact Kc _ | exact Kb _) (hl:len=l.length:=by first | exact rfl | assumption | exact Ht (by assumption) | ((repeat refine Ga ?_ _ _); first | exact rfl | assumption)) (hk:kk=l.length:=by first | exact rfl | assumption | exact Ht (by assumption) | ((repeat refine Ga ?_ _ _); first | exact rfl | assumption)):Nj len kk ys i K:=Apk he hl hk h k
theorem Qw {α:Type} {l:List α} {f:α->O} {ys:List O} {i:Int} {m:α->Option β} {K:Nat->Prop} {off len kk:Nat} (h:(Hs l off len i).bind m=some r) (k:∀(n:Nat) (x:α),i=n->l[off+n]? = some x->m x=some r->K n) (he:ys=l.map f:=by first | exact rfl | exact Ka _ | exact Kc _ | exact Kb _) (hk:kk=l.length:=by first | exact rfl | assumption | exact Ht (by assumption) | ((repeat refine Ga ?_ _ _); first | exact rfl | assumption)):Nj len kk ys i K:=Apl he hk h k
theorem My {α:Type} {l:List α} {f:α->O} {ys:List O} {K:Int->Prop} (k:K (l.length:Int)) (he:ys=l.map f:=by first | exact rfl | exact Ka _ | exact Kc _ | exact Kb _):Jy ys K:=Afy he k
theorem Mz {α:Type} {l:List α} {f:α->O} {ys:List O} {kk:Nat} {K:Prop} (k:K) (he:ys=l.map f:=by first | exact rfl | exact Ka _ | exact Kc _ | exact Kb _) (hk:kk=l.length:=by first | exact rfl | assumption | exact Ht (by assumption) | ((repeat refine Ga ?_ _ _); first | exact rfl | assumption)):Ff kk ys K:=Apt he hk k
theorem M0 {K:Prop} (k:K):Ff 0 [] K:=.mk rfl k
theorem M1 {α:Type} {l:List α} {f:α->O} {ys:List O} {n i kk:Nat} {x:α} {K:O->Prop} (k:K (f x)) (he:ys=l.map f:=by first | exact rfl | exact Ka _ | exact Kc _ | exact Kb _) (hk:kk=l.length:=by first | exact rfl | assumption | exact Ht (by assumption) | ((repeat refine Ga ?_ _ _); first | exact rfl | assumption)) (hi:i=n/\l[n]? = some x:=by first | exact ⟨Nat.zero_add _,by assumption⟩ | exact ⟨rfl,by assumption⟩):Jd kk i ys K:=Apn he hk hi.1 hi.2 k
theorem Agq {α:Type} {l:List α} {f:α->O} {ys:List O} {n i:Nat} {j:Int} {x:α} {p:O} {K:List O->Prop} (k:K ((B9 l j x).map f)) (he:ys=l.map f:=by first | exact rfl | exact Ka _ | exact Kc _ | exact Kb _) (hp:p=f x:=by exact rfl) (hi:i=n/\j=(n:Int):=by first | exact ⟨Nat.zero_add _,by assumption⟩ | exact ⟨rfl,by assumption⟩ | exact ⟨rfl,Apj _ (by assumption)⟩):Rz ys i p K:=Lf he hp hi.1 hi.2 k
theorem Qx {α:Type} {l ys:List α} {f:α->O} {xs zs:List O} {b kk len:Nat} {m:List α->Option β} {K:List O->Nat->Prop} {KP:List O->Nat->Nat->Prop} (h:(B8 b l ys).bind m=some r) (k:∀o:List α,m o=some r->K (o.map f) o.length) (he:xs=l.map f/\zs=ys.map f:=by first | exact ⟨rfl,rfl⟩ | (refine ⟨?_,?_⟩; rotate_left; exact rfl; exact rfl)) (hk:kk=l.length:=by first | exact rfl | assumption | exact Ht (by assumption) | ((repeat refine Ga ?_ _ _); first | exact rfl | assumption)) (hl:len=l.length:=by first | exact rfl | assumption | exact Ht (by assumption) | ((repeat refine Ga ?_ _ _); first | exact rfl | assumption)):Kr xs zs kk len b K KP:=Aan he.1 he.2 hk hl h k
theorem Agr {l:List Int} {s:ByteArray} {xs:List O} {b kk len:Nat} {m:List Int->Option β} {K:List O->Nat->Prop} {KP:List O->Nat->Nat->Prop} (h:(B8 b l (J3 s)).bind m=some r) (k:∀o:List Int,m o=some r->K (o.map fun n=>.val (.int .u8 n)) o.length) (he:xs=l.map fun n=>.val (.int .u8 n):=by exact rfl) (hk:kk=l.length:=by first | exact rfl | assumption | exact Ht (by assumption) | ((repeat refine Ga ?_ _ _); first | exact rfl | assumption)) (hl:len=l.length:=by first | exact rfl | assumption | exact Ht (by assumption) | ((repeat refine Ga ?_ _ _); first | exact rfl | assumption)):Kr xs (Gw s) kk len b K KP:=App he hk hl h k
class GL {α:Type} (g:List α->List O) (f:outParam (α->O)):Prop where
 eq:∀l,g l=l.map f
instance:GL Bm Gd:=⟨Ka⟩
instance:GL Jo Ib:=⟨Kc⟩
instance:GL Qq W8:=⟨Kb⟩
theorem Ags {α:Type} {g:List α->List O} {f:α->O} [i:GL g f] {l ys:List α} {zs:List O} {b kk len:Nat} {m:List α->Option β} {K:List O->Nat->Prop} {KP:List O->Nat->Nat->Prop} (h:(B8 b l ys).bind m=some r) (k:∀o:List α,m o=some r->K (g o) o.length) (hz:zs=ys.map f:=by first | exact rfl | exact GL.eq _) (hk:kk=l.length:=by first | exact rfl | assumption | exact Ht (by assumption) | ((repeat refine Ga ?_ _ _); first | exact rfl | assumption)) (hl:len=l.length:=by first | exact rfl | assumption | exact Ht (by assumption) | ((repeat refine Ga ?_ _ _); first | exact rfl | assumption)):Kr (g l) zs kk len b K KP:=Apq i.eq (i.eq l) hz hk hl h k
theorem Agt {α:Type} {ys:List α} {f:α->O} {zs:List O} {b:Nat} {m:List α->Option β} {K:List O->Nat->Prop} (h:(B8 b [] ys).bind m=some r) (k:∀o:List α,m o=some r->K (o.map f) o.length) (hz:zs=ys.map f:=by exact rfl):Nl zs b K:=Afx hz h k
theorem Agu {α:Type} {g:List α->List O} {f:α->O} [i:GL g f] {ys:List α} {zs:List O} {b:Nat} {m:List α->Option β} {K:List O->Nat->Prop} (h:(B8 b [] ys).bind m=some r) (k:∀o:List α,m o=some r->K (g o) o.length) (hz:zs=g ys:=by exact rfl):Nl zs b K:=Apr i.eq (hz.trans (i.eq ys)) h k
theorem Hf {α:Type} {z:α} {f:α->O} {za:O} {len cap:Int} {b:Nat} {m:List α->Option β} {K:Nat->List O->Prop} (h:(Eb b len cap z).bind m=some r) (k:∀o:List α,m o=some r->K o.length (o.map f)) (hz:za=f z:=by first | exact (rfl:_=Aa _ _) | exact (rfl:_=Au _) | exact rfl):Pj len cap b za K:=Aps hz h k
theorem Oq {α:Type} {l:List α} {f:α->O} {ys:List O} {lo hi:Int} {m:List α->Option β} {K:List O->Prop} (h:(Fz l lo hi).bind m=some r) (k:∀l':List α,m l'=some r->K (l'.map f)) (he:ys=l.map f:=by first | exact rfl | exact Ka _ | exact Kc _ | exact Kb _):Nk ys lo hi K:=Afw he h k
theorem Agv {α:Type} {l:List α} {f:α->O} {ys:List O} {lo:Int} {m:List α->Option β} {K:List O->Prop} (h:(Fz l lo l.length).bind m=some r) (k:∀l':List α,m l'=some r->K (l'.map f)) (he:ys=l.map f:=by first | exact rfl | exact Ka _ | exact Kc _ | exact Kb _):Nk ys lo ys.length K:=Apo he h k
theorem Ev {S E:Type} {step:S->Option (S⊕E)} {s0:S} {J:E->Option β} {b:Code} (h:(Ak step s0).bind J=some r) (iv:S->List (Nat×O)) (hv:S->List (Nat×Bd)) (inv:S->Prop)
  (body:∀(s:S) (u:Nat->Value) (K:Nat->Bh->Hp->Prop) (o:S⊕E),step s=some o->(∀x,.inr x=o->J x=some r)->(∀s' n' e' H',.inl s'=o->Fo e' (iv s')->Fp H' (B1 H (hv s')) n n->inv s'->K n' e' H')->inv s ->
   wc P C b K Qe Qr n (H8 (D4 b) e u (iv s)) (B1 H (hv s)))
  (hb:∀s,Iw n (iv s) (hv s)=true:=by exact fun _=>rfl) (hs:Fo e (iv s0):=by (repeat refine ⟨rfl,?_⟩); exact trivial) (hh:Fp H (B1 H (hv s0)) n n:=by (repeat refine ⟨⟨rfl,rfl⟩,?_⟩); exact trivial) (h0:inv s0:=by first | exact rfl | assumption | exact Ht (by assumption) | ((repeat refine Ga ?_ _ _); first | exact rfl | assumption)):wc P C (.loop b) Qn Qe Qr n e H:=Af6 h iv hv inv hb hs hh h0 body
theorem Bc {S E:Type} {step:S->Option (S⊕E)} {s0:S} {J:E->Option β} {b:Code} (h:(Ak step s0).bind J=some r) (iv:S->List (Nat×O)) (hv:S->List (Nat×Bd))
  (body:∀(s:S) (u:Nat->Value) (K:Nat->Bh->Hp->Prop) (o:S⊕E),step s=some o->(∀x,.inr x=o->J x=some r)->(∀s' n' e' H',.inl s'=o->Fo e' (iv s')->Fp H' (B1 H (hv s')) n n->True->K n' e' H') ->
   wc P C b K Qe Qr n (H8 (D4 b) e u (iv s)) (B1 H (hv s)))
  (hb:∀s,Iw n (iv s) (hv s)=true:=by exact fun _=>rfl) (hs:Fo e (iv s0):=by (repeat refine ⟨rfl,?_⟩); exact trivial) (hh:Fp H (B1 H (hv s0)) n n:=by (repeat refine ⟨⟨rfl,rfl⟩,?_⟩); exact trivial):wc P C (.loop b) Qn Qe Qr n e H:=Af6 h iv hv (fun _=>True) hb hs hh trivial fun s u K o h1 h2 h3 _=>body s u K o h1 h2 h3
theorem Abh {S S':Type} {c:Code} {o:Option S'} {m:S'->Option β} (inj:S->S') (h:o.bind m=some r) (iv:S->List (Nat×O)) (hv:S->List (Nat×Bd))
  (k1:∀x,o=some x->∀(K:Nat->Bh->Hp->Prop),(∀s n' e' H',inj s=x->Fo e' (iv s)->Fp H' (B1 H (hv s)) n n->K n' e' H')->(∀y,y=x->m y=some r)->wc P C c K Qe Qr n e H)
  (k2:∀(s:S) (u:Nat->Value),m (inj s)=some r->Qn n (H8 (D4 c) e u (iv s)) (B1 H (hv s))) (hb:∀s,Iw n (iv s) (hv s)=true:=by exact fun _=>rfl):wc P C c Qn Qe Qr n e H :=
 Afs h fun x hx hj=>Pv (fun s=>inj s=x) iv hv hb (fun K hK=>k1 x hx K hK hj) fun s u hs=>k2 s u (hj _ hs)
theorem Cm {S:Type} {c:Code} {o:Option S} {m:S->Option β} (h:o.bind m=some r) (iv:S->List (Nat×O)) (hv:S->List (Nat×Bd))
  (k1:∀x,o=some x->∀(K:Nat->Bh->Hp->Prop),(∀s n' e' H',s=x->Fo e' (iv s)->Fp H' (B1 H (hv s)) n n->K n' e' H')->(∀y,y=x->m y=some r)->wc P C c K Qe Qr n e H)
  (k2:∀(s:S) (u:Nat->Value),m s=some r->Qn n (H8 (D4 c) e u (iv s)) (B1 H (hv s))) (hb:∀s,Iw n (iv s) (hv s)=true:=by exact fun _=>rfl):wc P C c Qn Qe Qr n e H:=Abh (fun s=>s) h iv hv k1 k2 hb
abbrev C0:Cfg:={T:=Cl,an:=fun _=>.ask}
theorem pw {f:FuncId} {fn:Func} {c:Code} {args:List O} {r:O} (C:Cfg) (hf:Go.Proofs.Tryz.prog.funcs[f]? = some fn) (hv:wc Go.Proofs.Tryz.prog C c (fun _ e H=>No C.T fn.results.toList (· = r) e H) (fun _ _ _ _=>False) (fun _ e H=>No C.T fn.results.toList (· = r) e H) 0 (Pp args) H0)
   (hT:C.T=Cl:=by exact rfl) (hb:fn.body=some c:=by exact rfl) (hname:(fn.name == "runtime.NumGoroutine")=false:=by kernel_rfl) (hok:Pq fn c args.length=true:=by kernel_rfl) (hfree:r.free=true:=by exact rfl):Ax Go.Proofs.Tryz.prog f args r:=Apu (by rw [hT]; exact Af9) R5 hf hb hname hok hfree hv
theorem aw {f:FuncId} {fn:Func} {c:Code} {args:List O} {r:O} {hs hs':List Bd} (C:Cfg) (fz:Bool) (hf:Go.Proofs.Tryz.prog.funcs[f]? = some fn) (hv:wc Go.Proofs.Tryz.prog C c (fun _ e H=>Ns C.T fz fn.results.toList r hs' e H) (fun _ _ _ _=>False) (fun _ e H=>Ns C.T fz fn.results.toList r hs' e H) hs.length (Pp args) (hp hs))
   (hT:C.T=Cl:=by exact rfl) (hb:fn.body=some c:=by exact rfl) (hname:(fn.name == "runtime.NumGoroutine")=false:=by kernel_rfl) (hok:Pq fn c args.length=true:=by kernel_rfl) (hok':Aai hs r hs'=true:=by exact rfl):Bp Go.Proofs.Tryz.prog f args hs r hs':=Apv fz (by rw [hT]; exact Af9) R5 hf hb hname hok hok' hv
end
theorem opk {P:Program} {T:Ca} {an:Nat->Ann} {nl:Nat->List (Nat×Nat)} {o:Oper} {n:Nat} {e:Bh} {H:Hp} {acc:F9} {K:Nat->Bh->Hp->F9->Prop} (k:opK P T an nl o n e H acc K):opK P T an nl o n e H acc K:=k
theorem cnd {t:Bool} {A B:Prop} (k:bif t then A else B):bif t then A else B:=k
structure Hd (Q:Prop):Prop where
 get:Q
theorem Z {P Q:Prop} (k:Q) (h:Hd Q->P:=by
  intro q
  repeat first
    | ((with_reducible show D0 (Dv _ _ _ _ _ (_::_) _ _ _ _ _)); (first | refine nx ?_ | refine Mi ?_ | refine Mh ?_))
    | ((with_reducible refine opk ?_); conv=>whnf
       first
      | ((with_reducible show D0 _); refine nw ?_)
      | ((with_reducible show F4 _ _ _); refine F4.mk _ rfl ?_)
      | ((with_reducible show Jy _ _); refine My ?_)
      | ((with_reducible show Jd _ _ _ _); refine M1 ?_)
      | ((with_reducible show Ff _ _ _); (first | refine Mz ?_ | refine M0 ?_)))
    | ((with_reducible show D0 (Dv _ _ _ _ _ [] _ _ _ _ _)); refine Ji ?_)
    | ((with_reducible show D0 (wc _ _ _ _ _ _ _ _ _)); refine nw ?_)
    | with_reducible refine Az ?_
    | with_reducible refine Cg ?_
    | with_reducible refine Aar ?_
    | with_reducible refine Ix ?_
    | with_reducible refine J4 ?_
    | with_reducible refine Gb ?_
    | with_reducible refine Af3 ?_
    | with_reducible refine Aat ?_
    | with_reducible refine Aas ?_
    | ((with_reducible refine cnd ?_); first | refine F8 rfl ?_ | refine Aad rfl ?_)
    | ((with_reducible show J2 _ _ _); refine J2.mk (by kernel_rfl) ?_)
    | ((with_reducible show wc _ _ (.cond _ _ _) _ _ _ _ _ _); first | refine Wc ?_ | refine Pu ?_)
    | refine nw ?_
    | refine nx ?_
    | refine Ji ?_
    | refine Mi ?_
    | refine Mh ?_
    | (conv=>whnf
       first
      | ((with_reducible show D0 _); refine nw ?_)
      | ((with_reducible show F4 _ _ _); refine F4.mk _ rfl ?_)
      | ((with_reducible show Jy _ _); refine My ?_)
      | ((with_reducible show Jd _ _ _ _); refine M1 ?_)
      | ((with_reducible show Ff _ _ _); (first | refine Mz ?_ | refine M0 ?_)))
  exact q.get):P:=h ⟨k⟩
theorem ZS {P Q:Prop} (k:Q) (h:Hd Q->P:=by
  intro q
  repeat first
    | ((with_reducible show D0 (Dv _ _ _ _ _ (_::_) _ _ _ _ _)); (first | refine nx ?_ | refine Mi ?_ | refine Mh ?_))
    | ((with_reducible refine opk ?_); conv=>whnf
       first
      | ((with_reducible show D0 _); refine nw ?_)
      | ((with_reducible show F4 _ _ _); refine F4.mk _ rfl ?_)
      | ((with_reducible show Jy _ _); refine My ?_)
      | ((with_reducible show Jd _ _ _ _); refine M1 ?_)
      | ((with_reducible show Ff _ _ _); (first | refine Mz ?_ | refine M0 ?_)))
    | ((with_reducible show D0 (Dv _ _ _ _ _ [] _ _ _ _ _)); refine Ji ?_)
    | ((with_reducible show D0 (wc _ _ _ _ _ _ _ _ _)); refine nw ?_)
    | with_reducible refine Az ?_
    | with_reducible refine Aar ?_
    | with_reducible refine Ix ?_
    | with_reducible refine J4 ?_
    | with_reducible refine Gb ?_
    | with_reducible refine Aat ?_
    | with_reducible refine Aas ?_
    | ((with_reducible refine cnd ?_); first | refine F8 rfl ?_ | refine Aad rfl ?_)
    | ((with_reducible show J2 _ _ _); refine J2.mk (by kernel_rfl) ?_)
    | ((with_reducible show wc _ _ (.cond _ _ _) _ _ _ _ _ _); first | refine Wc ?_ | refine Pu ?_)
    | refine nw ?_
    | refine nx ?_
    | refine Ji ?_
    | refine Mi ?_
    | refine Mh ?_
    | (conv=>whnf
       first
      | ((with_reducible show D0 _); refine nw ?_)
      | ((with_reducible show F4 _ _ _); refine F4.mk _ rfl ?_)
      | ((with_reducible show Jy _ _); refine My ?_)
      | ((with_reducible show Jd _ _ _ _); refine M1 ?_)
      | ((with_reducible show Ff _ _ _); (first | refine Mz ?_ | refine M0 ?_)))
  exact q.get):P:=h ⟨k⟩
theorem ZO {P Q:Prop} (k:Q) (h:Hd Q->P:=by
  intro q
  repeat first
    | ((with_reducible show D0 (Dv _ _ _ _ _ (_::_) _ _ _ _ _)); (first | refine nx ?_ | refine Mi ?_ | refine Mh ?_))
    | ((with_reducible refine opk ?_); conv=>whnf
       first
      | ((with_reducible show F4 _ _ _); refine F4.mk _ rfl ?_)
      | ((with_reducible show Jy _ _); refine My ?_)
      | ((with_reducible show Jd _ _ _ _); refine M1 ?_)
      | ((with_reducible show Ff _ _ _); (first | refine Mz ?_ | refine M0 ?_)))
    | ((with_reducible show D0 (Dv _ _ _ _ _ [] _ _ _ _ _)); refine Ji ?_)
    | ((with_reducible show J2 _ _ _); refine J2.mk (by kernel_rfl) ?_)
    | refine nx ?_
    | refine Ji ?_
    | refine Mi ?_
    | refine Mh ?_
    | (conv=>whnf
       first
      | ((with_reducible show F4 _ _ _); refine F4.mk _ rfl ?_)
      | ((with_reducible show Jy _ _); refine My ?_)
      | ((with_reducible show Jd _ _ _ _); refine M1 ?_)
      | ((with_reducible show Ff _ _ _); (first | refine Mz ?_ | refine M0 ?_)))
  exact q.get):P:=h ⟨k⟩
theorem Y {P:Prop} (h:P:=by
  repeat' first
    | ((with_reducible show D0 (Dv _ _ _ _ _ (_::_) _ _ _ _ _)); first | refine nx ?_ | refine Mi ?_ | refine Mh ?_ | refine Fw h (fun _ h=>?_) (fun _ h=>?_))
    | ((with_reducible refine opk ?_); conv=>whnf
       first
      | ((with_reducible show D0 _); refine nw ?_)
      | ((with_reducible show F4 _ _ _); refine F4.mk _ rfl ?_)
      | ((with_reducible show Jy _ _); refine My ?_)
      | ((with_reducible show E6 _ _ _ _ _ _); (first | refine Bu h (fun _ h=>?_) | refine Agp h (fun _ h=>?_)))
      | ((with_reducible show Ry _ _ _); refine Ch h (fun _ _ _ _ h=>?_))
      | ((with_reducible show Nj _ _ _ _ _); (first | refine G4 h (fun _ _ _ _ h=>?_) | refine Qw h (fun _ _ _ _ h=>?_)))
      | ((with_reducible show Jd _ _ _ _); refine M1 ?_)
      | ((with_reducible show Rz _ _ _ _); refine Agq ?_)
      | ((with_reducible show Kr _ _ _ _ _ _ _); (first | refine Agr h (fun _ h=>?_) | refine Qx h (fun _ h=>?_) | refine Ags h (fun _ h=>?_)))
      | ((with_reducible show Nl _ _ _); (first | refine Agt h (fun _ h=>?_) | refine Agu h (fun _ h=>?_)))
      | ((with_reducible show Pj _ _ _ _ _); refine Hf h (fun _ h=>?_))
      | ((with_reducible show Nk _ _ _ _); (first | refine Agv h (fun _ h=>?_) | refine Oq h (fun _ h=>?_)))
      | ((with_reducible show Ff _ _ _); (first | refine Mz ?_ | refine M0 ?_))
      | ((with_reducible show Vp _ _ _); refine Se h (fun _ h=>?_))
      | ((with_reducible show Vk _ _ _ _); refine Sc h (fun _ h=>?_))
      | ((with_reducible show Vl _ _ _); refine Sd h (fun _ h=>?_))
      | ((with_reducible show Vn _ _ _ _); refine Af0 h (fun _ h=>?_))
      | ((with_reducible show Vm _ _ _ _); refine Af1 h (fun _ h=>?_))
      | ((with_reducible show Vo _ _ _ _); refine Aap h (fun _ _ _ _ h=>?_))
      | ((with_reducible show Vq _ _); refine Fu h (fun h=>?_))
      | ((with_reducible show Vr _ _ _ _ _); refine Afu h (fun _ h=>?_))
      | ((with_reducible show Vs _ _ _ _); refine Afv h (fun _ h=>?_)))
    | ((with_reducible show D0 (Dv _ _ _ _ _ [] _ _ _ _ _)); refine Ji ?_)
    | ((with_reducible show D0 (wc _ _ _ _ _ _ _ _ _)); refine nw ?_)
    | with_reducible refine Az ?_
    | with_reducible refine Cg ?_
    | with_reducible refine Aar ?_
    | with_reducible refine Ix ?_
    | with_reducible refine J4 ?_
    | with_reducible refine Gb ?_
    | with_reducible refine Af3 ?_
    | with_reducible refine Aat ?_
    | with_reducible refine Aas ?_
    | ((with_reducible refine cnd ?_); first | refine F8 rfl ?_ | refine Aad rfl ?_)
    | ((with_reducible show wc _ _ (.cond _ _ _) _ _ _ _ _ _); first | refine As h (fun _ h=>?_) (fun _ h=>?_) | refine Wc ?_ | refine Pu ?_)
    | ((with_reducible show J2 _ _ _); refine J2.mk (by kernel_rfl) ?_)
    | refine nx ?_
    | refine Ji ?_
    | refine Mi ?_
    | refine Mh ?_
    | refine Fw h (fun _ h=>?_) (fun _ h=>?_)
    | exact lpn h
    | exact jnn h
    | replace h:=C3 h
    | replace h:=lpj h
    | refine nw ?_
    | (conv=>whnf
       first
      | ((with_reducible show D0 _); refine nw ?_)
      | ((with_reducible show F4 _ _ _); refine F4.mk _ rfl ?_)
      | ((with_reducible show Jy _ _); refine My ?_)
      | ((with_reducible show E6 _ _ _ _ _ _); (first | refine Bu h (fun _ h=>?_) | refine Agp h (fun _ h=>?_)))
      | ((with_reducible show Ry _ _ _); refine Ch h (fun _ _ _ _ h=>?_))
      | ((with_reducible show Nj _ _ _ _ _); (first | refine G4 h (fun _ _ _ _ h=>?_) | refine Qw h (fun _ _ _ _ h=>?_)))
      | ((with_reducible show Jd _ _ _ _); refine M1 ?_)
      | ((with_reducible show Rz _ _ _ _); refine Agq ?_)
      | ((with_reducible show Kr _ _ _ _ _ _ _); (first | refine Agr h (fun _ h=>?_) | refine Qx h (fun _ h=>?_) | refine Ags h (fun _ h=>?_)))
      | ((with_reducible show Nl _ _ _); (first | refine Agt h (fun _ h=>?_) | refine Agu h (fun _ h=>?_)))
      | ((with_reducible show Pj _ _ _ _ _); refine Hf h (fun _ h=>?_))
      | ((with_reducible show Nk _ _ _ _); (first | refine Agv h (fun _ h=>?_) | refine Oq h (fun _ h=>?_)))
      | ((with_reducible show Ff _ _ _); (first | refine Mz ?_ | refine M0 ?_))
      | ((with_reducible show Vp _ _ _); refine Se h (fun _ h=>?_))
      | ((with_reducible show Vk _ _ _ _); refine Sc h (fun _ h=>?_))
      | ((with_reducible show Vl _ _ _); refine Sd h (fun _ h=>?_))
      | ((with_reducible show Vn _ _ _ _); refine Af0 h (fun _ h=>?_))
      | ((with_reducible show Vm _ _ _ _); refine Af1 h (fun _ h=>?_))
      | ((with_reducible show Vo _ _ _ _); refine Aap h (fun _ _ _ _ h=>?_))
      | ((with_reducible show Vq _ _); refine Fu h (fun h=>?_))
      | ((with_reducible show Vr _ _ _ _ _); refine Afu h (fun _ h=>?_))
      | ((with_reducible show Vs _ _ _ _); refine Afv h (fun _ h=>?_)))
    | (have h:=Option.some.inj h; subst h; exact rfl)
    | (cases h; (repeat refine ⟨rfl,?_⟩); exact trivial)
    | (cases h; done)
):P:=h
end Go.Ab
namespace Go.Ab
open Go Go.Proofs
set_option maxRecDepth 10000
set_option linter.unusedVariables false
theorem Aqc {a0 r:List Ba} (h:B8 16 [] a0=some r):Ax Go.Proofs.Tryz.prog 65 [Aw 2 C5 a0] (Aw 2 C5 r):=by
 have h:((B8 16 [] a0).bind fun o=>some o)=some r:=by rw [h]; rfl
 refine pw {T:=Cl,an:=(fun s=>bif Nat.beq s 5 then .own else .ask),nl:=(fun s=>bif Nat.beq s 2 then [(0,2)] else [])} Tryz.func65 ?_
 refine Az ?_
 refine Cg ?_
 refine ZO ?_
 refine Az (Az ?_)
 refine Pv (fun b:Bool=>b=true->a0 = []) (fun b=>[(4,Au b)]) (fun _=>[]) (fun _=>rfl) ?_ ?_
 .intro K hK
  refine We 0 ?_
  intro v hv
  obtain ⟨p,c,rfl,hp⟩:=hv 2 (a0.map C5) rfl
  refine Cg ?_
  refine nx ?_
  refine nx ?_
  refine Ji ?_
  refine hK p.isNone _ _ _ (fun e=>?_) ⟨rfl,trivial⟩ trivial
  cases p with
  | none=>simpa using hp rfl
  | some _=>cases e
 .rintro b _ hb
  cases b with
  | true=>
   have hb:=hb rfl
   subst hb
   have h:some ([]:List Ba)=some r:=by rw [<-h]; rfl
   exact Y
  | false=>
   refine Z ?_
   exact Y
theorem Aqd {a0:List Ba} {r:List Ba×List Ba} (h:Lh 16 a0=some r):Bp Go.Proofs.Tryz.prog 65 [Aw 2 C5 a0] [] (.arr 1 r.2.length 0 r.2.length) [.rows 86 2 (r.1.map C5),.rows 86 2 (r.2.map C5)]:=by
 have h:((B8 16 [] a0).bind fun o=>some (([]:List Ba),o))=some r:=h
 refine aw {T:=Cl,an:=(fun s=>bif Nat.beq s 5 then .own else bif Nat.beq s 2 then .own else .ask),nl:=(fun _=>[])} false Tryz.func65 ?_
 refine Az ?_
 refine Cg ?_
 refine ZO ?_
 refine Az (Az ?_)
 refine Pv (fun b:Bool=>b=true->a0 = []) (fun b=>[(4,Au b)]) (fun _=>[]) (fun _=>rfl) ?_ ?_
 .intro K hK
  refine We 0 ?_
  intro v hv
  obtain ⟨p,c,rfl,hp⟩:=hv 2 (a0.map C5) rfl
  refine Cg ?_
  refine nx ?_
  refine nx ?_
  refine Ji ?_
  refine hK p.isNone _ _ _ (fun e=>?_) ⟨rfl,trivial⟩ ⟨⟨rfl,rfl⟩,trivial⟩
  cases p with
  | none=>simpa using hp rfl
  | some _=>cases e
 .rintro b _ hb
  cases b with
  | true=>
   have hb:=hb rfl
   subst hb
   have h:some (([]:List Ba),([]:List Ba))=some r:=by rw [<-h]; rfl
   cases h
   refine ZO ?_
   exact Y
  | false=>
   refine Z ?_
   refine ZO ?_
   refine Qx h (fun _ h=>?_)
   exact Y
theorem Aqe {a0:List B4} {r:List B4×List B4} (h:Lh 40 a0=some r):Bp Go.Proofs.Tryz.prog 214 [Aw 3 Eo a0] [] (.arr 1 r.2.length 0 r.2.length) [.rows 97 3 (r.1.map Eo),.rows 97 3 (r.2.map Eo)]:=by
 have h:((B8 40 [] a0).bind fun o=>some (([]:List B4),o))=some r:=h
 refine aw {T:=Cl,an:=(fun s=>bif Nat.beq s 5 then .own else bif Nat.beq s 2 then .own else .ask),nl:=(fun _=>[])} false Tryz.func214 ?_
 refine Az ?_
 refine Cg ?_
 refine ZO ?_
 refine Az (Az ?_)
 refine Pv (fun b:Bool=>b=true->a0 = []) (fun b=>[(4,Au b)]) (fun _=>[]) (fun _=>rfl) ?_ ?_
 .intro K hK
  refine We 0 ?_
  intro v hv
  obtain ⟨p,c,rfl,hp⟩:=hv 3 (a0.map Eo) rfl
  refine Cg ?_
  refine nx ?_
  refine nx ?_
  refine Ji ?_
  refine hK p.isNone _ _ _ (fun e=>?_) ⟨rfl,trivial⟩ ⟨⟨rfl,rfl⟩,trivial⟩
  cases p with
  | none=>simpa using hp rfl
  | some _=>cases e
 .rintro b _ hb
  cases b with
  | true=>
   have hb:=hb rfl
   subst hb
   have h:some (([]:List B4),([]:List B4))=some r:=by rw [<-h]; rfl
   cases h
   refine ZO ?_
   exact Y
  | false=>
   refine Z ?_
   refine ZO ?_
   refine Qx h (fun _ h=>?_)
   exact Y
theorem Aqf {a0:List A3} {r:List A3×List A3} (h:Lh 40 a0=some r):Bp Go.Proofs.Tryz.prog 220 [Aw 3 D5 a0] [] (.arr 1 r.2.length 0 r.2.length) [.rows 101 3 (r.1.map D5),.rows 101 3 (r.2.map D5)]:=by
 have h:((B8 40 [] a0).bind fun o=>some (([]:List A3),o))=some r:=h
 refine aw {T:=Cl,an:=(fun s=>bif Nat.beq s 5 then .own else bif Nat.beq s 2 then .own else .ask),nl:=(fun _=>[])} false Tryz.func220 ?_
 refine Az ?_
 refine Cg ?_
 refine ZO ?_
 refine Az (Az ?_)
 refine Pv (fun b:Bool=>b=true->a0 = []) (fun b=>[(4,Au b)]) (fun _=>[]) (fun _=>rfl) ?_ ?_
 .intro K hK
  refine We 0 ?_
  intro v hv
  obtain ⟨p,c,rfl,hp⟩:=hv 3 (a0.map D5) rfl
  refine Cg ?_
  refine nx ?_
  refine nx ?_
  refine Ji ?_
  refine hK p.isNone _ _ _ (fun e=>?_) ⟨rfl,trivial⟩ ⟨⟨rfl,rfl⟩,trivial⟩
  cases p with
  | none=>simpa using hp rfl
  | some _=>cases e
 .rintro b _ hb
  cases b with
  | true=>
   have hb:=hb rfl
   subst hb
   have h:some (([]:List A3),([]:List A3))=some r:=by rw [<-h]; rfl
   cases h
   refine ZO ?_
   exact Y
  | false=>
   refine Z ?_
   refine ZO ?_
   refine Qx h (fun _ h=>?_)
   exact Y
end Go.Ab
namespace Go.Ab
open Go Go.Proofs Go.Shelf
set_option maxRecDepth 100000
set_option linter.unusedVariables false
theorem B7.up {σ:Ao} {ι:Bn} {H:Hp} {F:Ao} {w w':World} {x:Nat} (h:B7 σ ι H F w x) (hk:∀(b:Nat) (o:Obj),w.heap[b]? = some o->w'.heap[b]? = some o):B7 σ ι H F w' x:=by
 unfold B7 at h ⊢
 cases hx:H x with
 | none=>rw [hx] at h; exact h
 | dead=>trivial
 | cells E cs=>
  rw [hx] at h
  obtain ⟨b,C,h1,h2,h3,g,f⟩:=h
  exact ⟨b,C,h1,h2,h3,hk _ _ g,f⟩
 | rows E sz xs=>
  rw [hx] at h
  obtain ⟨h0,h1,h2⟩:=h
  refine ⟨h0,h1,?_⟩
  rcases h2 with h2 | ⟨b,c,C,q,l,k,j,i⟩
  .exact .inl h2
  .exact .inr ⟨b,c,C,q,l,k,hk _ _ j,i⟩
 | map es=>
  rw [hx] at h
  obtain ⟨b,M,t,h1,h2,h3,g,f⟩:=h
  exact ⟨b,M,t,h1,h2,h3,hk _ _ g,f⟩
theorem St.growG {σ:Ao} {ι:Bn} {H:Hp} {F:Ao} {W w:World} (s:St σ ι H F W w) (k:Nat) (os:Array Obj):St σ ι H F W (Sort.grow (Sort.ahead w k) os):=by
 have hk:∀(b:Nat) (o:Obj),w.heap[b]? = some o->(Sort.grow (Sort.ahead w k) os).heap[b]? = some o:=by
  intro b o h
  have c:=(Array.getElem?_eq_some_iff.1 h).1
  show (w.heap++os)[b]? = _
  rw [Array.getElem?_append_left c]; exact h
 exact ⟨fun b o h=>hk b o (s.sto b o h),fun b o h=>⟨hk b o (s.fra b o h).1,(s.fra b o h).2⟩,fun h=>(s.obj h).up hk,s.inj,s.os,s.tape,s.output,s.glo,Nat.le_trans s.drw (Nat.le_add_right _ _)⟩
theorem Aqg {α:Type} [Inhabited α] (enc:α->Value) (w:World) (b:Nat) (d:Array α) (C:Array Value) (E:TypeId) (h:w.heap[b]? = some (.cells C E (0,0))):Sort.putRow enc w b 0 d=w.setRow b (Sort.putCells enc 0 d C):=by
 have c:(Sort.putRow enc w b 0 d).heap=(w.setRow b (Sort.putCells enc 0 d C)).heap:=by
  apply Array.ext_getElem?
  intro i
  simp only [Sort.putRow,Sort.mapBlock,World.setRow,Array.getElem?_modify]
  split
  .rename_i e; subst e
   rw [h]; simp [Sort.onCells]
  .rfl
 unfold Sort.putRow Sort.mapBlock World.setRow at c ⊢
 simp only at c
 rw [c]
end Go.Ab
namespace Go.Ab
open Go Go.Proofs Go.Shelf Go.Sort
set_option maxRecDepth 100000
set_option linter.unusedVariables false
theorem Aqh {v:Value} (h:Dn v=true):v.oneCell'=true:=by cases v <;> first | rfl | cases h
theorem Aqi {σ:Ao} {ι:Bn} {H:Hp} {f:FuncId} {v:Value} (h:Conc σ ι H (.fn f []) v):v = .func (.func f) #[] #[]:=by
 cases h with
 | cc h=>cases h
 | fn _ _ vs b _=>
  have:vs = #[]:=Array.size_eq_zero_iff.1 (by simpa using b)
  rw [this]
def Agw {α:Type} (σ:Ao) (eA:α->O) (sz:Nat) (S:List α) (x:α) (c:List Value):Prop :=
 x∈S/\(eA x).cells.length=sz/\c.length=sz/\∀(j:Nat) (a:O) (v:Value),(eA x).cells[j]? = some a->c[j]? = some v->CC σ a v/\Dn v=true
abbrev K0 {α:Type} (σ:Ao) (eA:α->O) (sz:Nat) (S:List α):Type:={p:α×List Value // Agw σ eA sz S p.1 p.2}
theorem Aqj {σ:Ao} {W w':World} (j:∀b o,W.heap[b]? = some o->σ b=some o) (s:St σ ι0 H0 (fun _=>none) W w'):∃q f,w'=grow (W.drewN q) f:=by
 have hk:∀b o,W.heap[b]? = some o->w'.heap[b]? = some o:=fun b o h=>s.sto b o (j b o h)
 have k:W.heap.size<=w'.heap.size:=by
  rcases Nat.eq_zero_or_pos W.heap.size with h | h
  .omega
  .have:=hk (W.heap.size-1) _ (Array.getElem?_eq_getElem (by omega))
   have:=(Array.getElem?_eq_some_iff.1 this).1
   omega
 refine ⟨w'.drawn-W.drawn,w'.heap.extract W.heap.size w'.heap.size,?_⟩
 have c:w'.heap=W.heap++w'.heap.extract W.heap.size w'.heap.size:=by
  apply Array.ext_getElem?
  intro i
  by_cases g:i<W.heap.size
  .rw [Array.getElem?_append_left g,Array.getElem?_eq_getElem g]
   exact hk i _ (Array.getElem?_eq_getElem g)
  .rw [Array.getElem?_append_right (by omega)]
   by_cases hj:i<w'.heap.size
   .rw [Array.getElem?_eq_getElem hj,Array.getElem?_eq_getElem (by simp; omega)]
    simp only [Array.getElem_extract]
    congr 2
    omega
   .rw [Array.getElem?_eq_none (by omega),Array.getElem?_eq_none (by simp; omega)]
 have h1:=s.os
 have h2:=s.tape
 have h3:=s.output
 have l:=s.drw
 cases w' with
 | mk heap tape drawn os output=>
  simp only at h1 h2 h3 l c
  unfold grow World.drewN
  simp only [World.mk.injEq]
  exact ⟨c,h2,by omega,h1,h3⟩
theorem Agx {ρ:Ren} {α:Type} {eA:α->O} {E:TypeId} {sz f g:Nat} {cmp:α->α->Option Int} (L:SlLaysF0.n6 Go.Proofs.Tryz.prog ρ) (hf:ρ.f 6=f) (a8:Vj Go.Proofs.Tryz.prog f)
  (aE:∀w,(isAgg (ρ.t 24)).run Go.Proofs.Tryz.prog w = .ok true w) (zE:∀w,(Go.sizeOf (ρ.t 24)).run Go.Proofs.Tryz.prog w = .ok sz w) (eg:∀args w,(callFunc g args).run Go.Proofs.Tryz.prog w = .ok (.enter g args) w)
  (az:∀x y n,cmp x y=some n->Ax Go.Proofs.Tryz.prog g [eA x,eA y] (Aa .i64 n)) (b4:∀x,∃cs,eA x = .agg cs) {l r:List α} (h:Lg cmp l=some r) (am:l≠[]) :
  Bp Go.Proofs.Tryz.prog f [.arr 0 l.length 0 l.length,.fn g []] [.rows E sz (l.map eA)] (.tup []) [.rows E sz (r.map eA)]:=by
 obtain ⟨cf,law,be,I,A⟩:=Apy h
 refine ⟨a8,fun σ F W w ι vs s ay=>?_⟩
 obtain ⟨v,v2,rfl,G,b7⟩:=Abg ay
 obtain rfl:=Aqi b7
 have hh:hp [.rows E sz (l.map eA)] 0 = .rows E sz (l.map eA):=rfl
 have S:=G.arr_inv hh (by simp)
 have hor:=s.obj 0
 unfold B7 at hor
 rw [hh] at hor
 obtain ⟨V,ap,hor⟩:=hor
 rw [List.length_map] at ap
 rcases hor with ⟨_,aj⟩ | ⟨b,X,D,hb,g1,g2,g3,g4,g5,g6⟩
 .exact (am (by simpa using aj)).elim
 rw [List.length_map] at g5
 unfold Es at S
 rw [hb] at S
 simp only [Nat.zero_mul,Nat.sub_zero] at S
 obtain ⟨ht,ac⟩:=S
 subst ac
 obtain ⟨gg,q1,q2,q3⟩:=g6
 have ab:∀(i:Nat) (x:α),l[i]? = some x->(l.map eA)[i]? = some (eA x):=fun i x hx=>by rw [List.getElem?_map,hx]; rfl
 have a6:∀(i:Nat) (J:i<l.length),Agw σ eA sz l l[i] ((List.range sz).map (gg i)):=by
  intro i J
  have hx:l[i]? = some l[i]:=List.getElem?_eq_getElem J
  refine ⟨List.getElem_mem J,q1 i _ (ab i _ hx),by simp,fun j a v ha G=>?_⟩
  rw [List.getElem?_map,Option.map_eq_some_iff] at G
  obtain ⟨k,hk,rfl⟩:=G
  have bb:k=j:=by
   have:=(List.getElem?_eq_some_iff.1 hk).2
   simpa using this.symm
  subst bb
  exact q2 i _ k a (ab i _ hx) ha
 have hpos:0<l.length:=List.length_pos_iff.2 am
 let d:Array (K0 σ eA sz l):=Array.ofFn fun i:Fin l.length=>⟨(l[i.1],(List.range sz).map (gg i.1)),a6 i.1 i.2⟩
 haveI:Inhabited (K0 σ eA sz l):=⟨⟨(l[0],(List.range sz).map (gg 0)),a6 0 hpos⟩⟩
 have B:d.size=l.length:=by simp [d]
 have bd:∀i (J:i<l.length),d[i]! = ⟨(l[i],(List.range sz).map (gg i)),a6 i J⟩:=fun i J=>by
  rw [getElem!_pos d i (by rw [B]; exact J)]; simp [d]
 let enc:K0 σ eA sz l->List Value:=fun p=>p.1.2
 have hk:∀x:K0 σ eA sz l,(enc x).length=sz:=fun x=>x.2.2.2.1
 have h1:∀x:K0 σ eA sz l,∀v∈enc x,v.oneCell'=true:=by
  intro x v G
  obtain ⟨j,hj⟩:=List.getElem?_of_mem G
  have q:=(List.getElem?_eq_some_iff.1 hj).1
  rw [hk x] at q
  have ha:(eA x.1.1).cells[j]? = some ((eA x.1.1).cells[j]'(by rw [x.2.2.1]; exact q)):=List.getElem?_eq_getElem _
  exact Aqh (x.2.2.2.2 j _ v ha hj).2
 let aa:K0 σ eA sz l->K0 σ eA sz l->Int:=fun x y=>cf x.1.1 y.1.1
 have hO:SWO (ltOf aa):=by
  constructor
  .intro x; exact decide_eq_false (law.irr x.1.1)
  .intro x y z Z Y
   exact decide_eq_true (law.trs _ _ _ (of_decide_eq_true Z) (of_decide_eq_true Y))
  .intro x y z Z Y
   exact decide_eq_false (law.ntr _ _ _ (of_decide_eq_false Z) (of_decide_eq_false Y))
 have hH:HoldsK enc sz w b 0 d:=by
  intro t a1
  rw [size_flatK,B] at a1
  have ae:t / sz<l.length:=Nat.div_lt_of_lt_mul (by rw [Nat.mul_comm]; exact a1)
  have ad:t % sz<sz:=Nat.mod_lt _ V
  rw [get_flatK _ _ _ _ (by rw [B]; exact a1),bd _ ae]
  have e:=q3 (t / sz) (t % sz) (by rw [List.length_map]; exact ae) ad
  rw [show t / sz*sz+t % sz=t by rw [Nat.mul_comm]; exact Nat.div_add_mod t sz] at e
  refine ⟨?_,?_⟩
  .rw [Nat.zero_add,Hk g3,e]
   show some _=some (id _)
   congr 1
   show gg _ _=((List.range sz).map (gg (t / sz)))[t % sz]!
   rw [getElem!_pos _ _ (by simpa using ad)]
   simp
  .simp [World.frozen?,g3]
 have hblk:b<w.heap.size:=(Array.getElem?_eq_some_iff.1 g3).1
 have hC:CmpLays Go.Proofs.Tryz.prog g #[] enc sz aa b 0 d.size w:=by
  intro m os dk hs x y
  generalize b6:sortWorldK enc sz w b 0 m dk os=U
  have ar:∀b' o,σ b'=some o->U.heap[b']? = some o:=by
   intro b' o ho
   have ak:b≠b':=by
    rintro rfl
    rw [g1] at ho; cases ho
   have e:=s.sto b' o ho
   have q:=(Array.getElem?_eq_some_iff.1 e).1
   rw [<-b6]
   show ((w.heap.modify b _)++os)[b']? = _
   rw [Array.getElem?_append_left (by simpa using q),Array.getElem?_modify,if_neg ak]; exact e
  have av:=be x.1.1 x.2.1 y.1.1 y.2.1
  have hp:=az _ _ _ av
  have s1:St ((fun b=>U.heap[b]?)) ι0 H0 (fun _=>none) U U:=⟨fun _ _ e=>e,(fun _ _ e=>by cases e),fun _=>rfl,(fun _ _ _ hl=>by cases hl),rfl,rfl,rfl,s.glo.mono ar,Nat.le_refl _⟩
  have b3:∀z:K0 σ eA sz l,Conc ((fun b=>U.heap[b]?)) ι0 H0 (eA z.1.1) (.agg (enc z).toArray):=by
   intro z
   obtain ⟨cs,ax⟩:=b4 z.1.1
   have M:(eA z.1.1).cells=cs:=by rw [ax]; rfl
   rw [ax]
   refine .cc (.agg _ _ ?_ fun i c v hc G=>?_)
   .rw [<-M,z.2.2.1]; simp [hk z]
   .rw [<-M] at hc
    exact (z.2.2.2.2 i c v hc (by simpa using G)).1.mono ar
  refine (hp.2 ((fun b=>U.heap[b]?)) (fun _=>none) U U _ s1 ⟨rfl,?_⟩).mono ?_
  .intro i a v ha G
   match i,ha,G with
   | 0,ha,G=>cases ha; cases G; exact b3 x
   | 1,ha,G=>cases ha; cases G; exact b3 y
   | n+2,ha,G=>simp at ha
  .rintro e w' ⟨v,σ',rfl,aq,b8,hc⟩
   refine ⟨?_,?_⟩
   .cases hc with
    | cc h=>cases h; rfl
   .exact Aqj (σ:=σ') (fun b o ho=>aq b o ho) b8
 have call:=AnyQ.slices_SortFunc L sz aE zE enc hk h1 aa hO g #[] b 0 X d w eg hC hH hblk (by rw [B]; omega)
 rw [hf,B] at call
 refine call.mono ?_
 rintro e w' ⟨rfl,u,n,os,ba,b9,rfl⟩
 obtain ⟨p1,p2,p3⟩:=ba
 have R:u.size=l.length:=by rw [p1,B]
 have N:∀(a:Array (K0 σ eA sz l)),a.size=l.length->(a.extract 0 l.length).toList=a.toList:=fun a ha=>by
  rw [<-ha]; simp
 rw [N u R,N d B] at p3
 have ao:d.toList.map (fun p=>p.1.1)=l:=by
  apply List.ext_getElem
  .simp [B]
  .intro i bh bg
   simp [d]
 have ai:(u.toList.map fun p=>p.1.1).Perm l:=by
  have:=p3.map fun p:K0 σ eA sz l=>p.1.1
  rwa [ao] at this
 have hR:(u.toList.map fun p=>p.1.1).Pairwise fun x y=>cf x y<0\/cf y x<0:=by
  refine ((ai.trans I.symm).pairwise_iff (fun {x y} h=>h.symm)).2 ?_
  exact A.imp fun h=>.inl h
 have hS:(u.toList.map fun p=>p.1.1).Pairwise fun x y=>cf x y<0:=by
  rw [List.pairwise_iff_getElem] at hR ⊢
  intro i j J hj au
  simp only [List.length_map,Array.length_toList] at J hj
  rcases hR i j (by simpa using J) (by simpa using hj) au with h | h
  .exact h
  .have:=b9 i j (Nat.zero_le _) au (by omega)
   rw [getElem!_pos u i J,getElem!_pos u j hj] at this
   have:=of_decide_eq_false this
   simp only [List.getElem_map,Array.getElem_toList] at h
   exact (this h).elim
 have ah:u.toList.map (fun p=>p.1.1)=r:=by
  refine List.Perm.eq_of_pairwise (le:=fun x y=>cf x y<0) (fun x y _ _ h1 h2=>(law.irr x (law.trs _ _ _ h1 h2)).elim) hS A (ai.trans I.symm)
 have ag:r.length=l.length:=I.length_eq
 have bf:(flatK enc sz u).size=l.length*sz:=by rw [size_flatK,R]
 have b5:(Sort.putCells id 0 (flatK enc sz u) D).size=X*sz:=by unfold Sort.putCells; rw [Array.size_mapIdx]; exact g4
 have af:∀(i:Nat) (x:α),r[i]? = some x->i<u.size/\(u[i]!).1.1=x:=by
  intro i x hx
  rw [<-ah,List.getElem?_map,Option.map_eq_some_iff] at hx
  obtain ⟨p,hp,rfl⟩:=hx
  have q:=(List.getElem?_eq_some_iff.1 hp).1
  simp only [Array.length_toList] at q
  refine ⟨q,?_⟩
  rw [getElem!_pos u i q]
  have:=(List.getElem?_eq_some_iff.1 hp).2
  simp only [Array.getElem_toList] at this
  rw [this]
 obtain ⟨s',le⟩:=s.setRows 0 E sz _ (r.map eA) hh b X hb (by simp [ag]) (Sort.putCells id 0 (flatK enc sz u) D) b5 (by
  refine ⟨fun i j=>(enc u[i]!)[j]!,?_,?_,?_⟩
  .intro i x hx
   rw [List.getElem?_map] at hx
   obtain ⟨z,hz,rfl⟩:=Option.map_eq_some_iff.1 hx
   obtain ⟨e1,e2⟩:=af i z hz
   rw [<-e2]; exact (u[i]!).2.2.1
  .intro i x j c hx a7
   rw [List.getElem?_map] at hx
   obtain ⟨z,hz,rfl⟩:=Option.map_eq_some_iff.1 hx
   obtain ⟨e1,e2⟩:=af i z hz
   rw [<-e2] at a7
   have q:=(List.getElem?_eq_some_iff.1 a7).1
   rw [(u[i]!).2.2.1,<-(u[i]!).2.2.2.1] at q
   have hg:(u[i]!).1.2[j]? = some ((enc u[i]!)[j]!):=by
    rw [List.getElem?_eq_getElem q,getElem!_pos (enc u[i]!) j q]
   exact (u[i]!).2.2.2.2 j c _ a7 hg
  .intro i j J hj
   rw [List.length_map,ag] at J
   have q:i*sz+j<l.length*sz:=by
    have:=Nat.mul_le_mul_right sz (show i+1<=l.length from J)
    rw [Nat.add_mul,Nat.one_mul] at this; omega
   have hD:i*sz+j<D.size:=by
    rw [g4]
    exact Nat.lt_of_lt_of_le q (Nat.mul_le_mul_right sz g5)
   unfold Sort.putCells
   rw [Array.getElem?_mapIdx,Array.getElem?_eq_getElem hD]
   simp only [Option.map_some,Nat.zero_le,true_and,Nat.zero_add,bf,q,if_true,Nat.sub_zero]
   congr 1
   show id ((flatK enc sz u)[i*sz+j]!)=_
   rw [get_flatK _ _ _ _ (by rw [R]; exact q)]
   have e1:(i*sz+j) / sz=i:=by rw [Nat.mul_comm,Nat.mul_add_div V,Nat.div_eq_of_lt hj,Nat.add_zero]
   have e2:(i*sz+j) % sz=j:=by rw [Nat.mul_comm,Nat.mul_add_mod,Nat.mod_eq_of_lt hj]
   rw [e1,e2]; rfl)
 have eH:Av (hp [.rows E sz (l.map eA)]) 0 (.rows E sz (r.map eA))=hp [.rows E sz (r.map eA)]:=by
  funext i
  match i with
  | 0=>rfl
  | i+1=>rfl
 rw [eH] at le s'
 have eW:sortWorldK enc sz w b 0 n u os=Sort.grow (Sort.ahead (w.setRow b (Sort.putCells id 0 (flatK enc sz u) D)) n) os:=by
  unfold sortWorldK putRowK
  rw [Aqg id (Sort.ahead w n) b (flatK enc sz u) D E g3]
  rfl
 rw [eW]
 exact ⟨_,σ,ι,rfl,le,s'.growG n os,.tup _ _ rfl (fun i c v h1 _=>by cases h1)⟩
def Aqk:Ren:={f:=fun x=>match x with | 6=>56 | 15=>108 | 14=>107 | 28=>177 | 29=>178 | 20=>169 | 21=>170 | 22=>171 | 23=>172 | 24=>173 | 25=>174 | 26=>175 | 27=>176 | 46=>244 | 47=>245 | 48=>246 | 49=>247 | 50=>248 | 57=>286 | n=>n,t:=fun x=>match x with | 22=>36 | 24=>72 | 25=>126 | 3=>3 | 39=>177 | 0=>0 | 53=>141 | 55=>196 | 4=>4 | 46=>245 | 45=>244 | 50=>124 | 5=>5 | 9=>9 | 66=>316 | 70=>138 | 76=>359 | 77=>360 | n=>n,g:=fun n=>n}
theorem Aql:SlLaysF0.n6 Go.Proofs.Tryz.prog Aqk:=by
 constructor
 case f6=>exact Exists.intro "slices.SortFunc[[]amortcost/api.Term,amortcost/api.Term]" ⟨by kernel_rfl,by kernel_rfl⟩
 case f14=>exact Exists.intro "slices.pdqsortCmpFunc[amortcost/api.Term]" ⟨by kernel_rfl,by kernel_rfl⟩
 case f20=>exact Exists.intro "slices.insertionSortCmpFunc[amortcost/api.Term]" ⟨by kernel_rfl,by kernel_rfl⟩
 case f21=>exact Exists.intro "slices.heapSortCmpFunc[amortcost/api.Term]" ⟨by kernel_rfl,by kernel_rfl⟩
 case f22=>exact Exists.intro "slices.breakPatternsCmpFunc[amortcost/api.Term]" ⟨by kernel_rfl,by kernel_rfl⟩
 case f23=>exact Exists.intro "slices.choosePivotCmpFunc[amortcost/api.Term]" ⟨by kernel_rfl,by kernel_rfl⟩
 case f24=>exact Exists.intro "slices.reverseRangeCmpFunc[amortcost/api.Term]" ⟨by kernel_rfl,by kernel_rfl⟩
 case f25=>exact Exists.intro "slices.partialInsertionSortCmpFunc[amortcost/api.Term]" ⟨by kernel_rfl,by kernel_rfl⟩
 case f26=>exact Exists.intro "slices.partitionEqualCmpFunc[amortcost/api.Term]" ⟨by kernel_rfl,by kernel_rfl⟩
 case f27=>exact Exists.intro "slices.partitionCmpFunc[amortcost/api.Term]" ⟨by kernel_rfl,by kernel_rfl⟩
 case f46=>exact Exists.intro "slices.siftDownCmpFunc[amortcost/api.Term]" ⟨by kernel_rfl,by kernel_rfl⟩
 case f49=>exact Exists.intro "slices.medianAdjacentCmpFunc[amortcost/api.Term]" ⟨by kernel_rfl,by kernel_rfl⟩
 case f50=>exact Exists.intro "slices.medianCmpFunc[amortcost/api.Term]" ⟨by kernel_rfl,by kernel_rfl⟩
 case f57=>exact Exists.intro "slices.order2CmpFunc[amortcost/api.Term]" ⟨by kernel_rfl,by kernel_rfl⟩
 all_goals first | kernel_rfl | (intro w; kernel_rfl)
theorem Aqm {α:Type} {eA:α->O} {g:Nat} {cmp:α->α->Option Int} (j:∀args w,(callFunc g args).run Go.Proofs.Tryz.prog w = .ok (.enter g args) w)
  (b:∀x y n,cmp x y=some n->Ax Go.Proofs.Tryz.prog g [eA x,eA y] (Aa .i64 n)) (c:∀x,∃cs,eA x = .agg cs) {f r:List α} (h:Lg cmp f=some r) (i:f≠[]) :
  Bp Go.Proofs.Tryz.prog 56 [.arr 0 f.length 0 f.length,.fn g []] [.rows 72 5 (f.map eA)] (.tup []) [.rows 72 5 (r.map eA)] :=
 Agx Aql rfl ⟨_,Tryz.func56,by kernel_rfl,by kernel_rfl⟩ (by intro w; kernel_rfl) (by intro w; kernel_rfl) j b c h i
def Aqn:Ren:={f:=fun x=>match x with | 6=>118 | 15=>108 | 14=>185 | 28=>177 | 29=>178 | 20=>250 | 21=>251 | 22=>252 | 23=>253 | 24=>254 | 25=>255 | 26=>256 | 27=>257 | 46=>287 | 47=>245 | 48=>246 | 49=>288 | 50=>289 | 57=>320 | n=>n,t:=fun x=>match x with | 22=>22 | 24=>86 | 25=>186 | 3=>3 | 39=>177 | 0=>0 | 53=>141 | 55=>196 | 4=>4 | 46=>245 | 45=>244 | 50=>124 | 5=>5 | 9=>9 | 66=>316 | 70=>138 | 76=>359 | 77=>360 | n=>n,g:=fun n=>n}
theorem Aqo:SlLaysF0.n6 Go.Proofs.Tryz.prog Aqn:=by
 constructor
 case f6=>exact Exists.intro "slices.SortFunc[[]amortcost/api.LinTerm,amortcost/api.LinTerm]" ⟨by kernel_rfl,by kernel_rfl⟩
 case f14=>exact Exists.intro "slices.pdqsortCmpFunc[amortcost/api.LinTerm]" ⟨by kernel_rfl,by kernel_rfl⟩
 case f20=>exact Exists.intro "slices.insertionSortCmpFunc[amortcost/api.LinTerm]" ⟨by kernel_rfl,by kernel_rfl⟩
 case f21=>exact Exists.intro "slices.heapSortCmpFunc[amortcost/api.LinTerm]" ⟨by kernel_rfl,by kernel_rfl⟩
 case f22=>exact Exists.intro "slices.breakPatternsCmpFunc[amortcost/api.LinTerm]" ⟨by kernel_rfl,by kernel_rfl⟩
 case f23=>exact Exists.intro "slices.choosePivotCmpFunc[amortcost/api.LinTerm]" ⟨by kernel_rfl,by kernel_rfl⟩
 case f24=>exact Exists.intro "slices.reverseRangeCmpFunc[amortcost/api.LinTerm]" ⟨by kernel_rfl,by kernel_rfl⟩
 case f25=>exact Exists.intro "slices.partialInsertionSortCmpFunc[amortcost/api.LinTerm]" ⟨by kernel_rfl,by kernel_rfl⟩
 case f26=>exact Exists.intro "slices.partitionEqualCmpFunc[amortcost/api.LinTerm]" ⟨by kernel_rfl,by kernel_rfl⟩
 case f27=>exact Exists.intro "slices.partitionCmpFunc[amortcost/api.LinTerm]" ⟨by kernel_rfl,by kernel_rfl⟩
 case f46=>exact Exists.intro "slices.siftDownCmpFunc[amortcost/api.LinTerm]" ⟨by kernel_rfl,by kernel_rfl⟩
 case f49=>exact Exists.intro "slices.medianAdjacentCmpFunc[amortcost/api.LinTerm]" ⟨by kernel_rfl,by kernel_rfl⟩
 case f50=>exact Exists.intro "slices.medianCmpFunc[amortcost/api.LinTerm]" ⟨by kernel_rfl,by kernel_rfl⟩
 case f57=>exact Exists.intro "slices.order2CmpFunc[amortcost/api.LinTerm]" ⟨by kernel_rfl,by kernel_rfl⟩
 all_goals first | kernel_rfl | (intro w; kernel_rfl)
theorem Aqp {α:Type} {eA:α->O} {g:Nat} {cmp:α->α->Option Int} (j:∀args w,(callFunc g args).run Go.Proofs.Tryz.prog w = .ok (.enter g args) w)
  (b:∀x y n,cmp x y=some n->Ax Go.Proofs.Tryz.prog g [eA x,eA y] (Aa .i64 n)) (c:∀x,∃cs,eA x = .agg cs) {f r:List α} (h:Lg cmp f=some r) (i:f≠[]) :
  Bp Go.Proofs.Tryz.prog 118 [.arr 0 f.length 0 f.length,.fn g []] [.rows 86 2 (f.map eA)] (.tup []) [.rows 86 2 (r.map eA)] :=
 Agx Aqo rfl ⟨_,Tryz.func118,by kernel_rfl,by kernel_rfl⟩ (by intro w; kernel_rfl) (by intro w; kernel_rfl) j b c h i
end Go.Ab
namespace Go.Ab
open Go Go.Proofs Go.Shelf
set_option maxRecDepth 100000
set_option linter.unusedVariables false
theorem Vf {σ:Ao} {ι:Bn} {H:Hp} {u v:Value} (h:Conc σ ι H (.val u) v):v=u:=by
 cases h with
 | cc h=>cases h; rfl
theorem Abi {ρ:Ren} {α:Type} {eA:α->O} {E:TypeId} {sz f:Nat} (L:Lays8.n4 Go.Proofs.Tryz.prog ρ) (N:ρ.f 4=f) (g:Vj Go.Proofs.Tryz.prog f) (l:TypeInfo) (z:Value) (G:Go.Proofs.Tryz.prog.info? (ρ.t 25)=some l) (D:l.zero=some z) (X:ρ.t 25=E) (U:l.size=sz) (B:z.cells.size=sz) (q:0<sz) (I:l.bytes<=1000)
  {n:Int} {r:List α} (h:Kt n=some r):Bp Go.Proofs.Tryz.prog f [.val (.slice none 0 0),Aa .i64 n] [] (.arr 0 r.length 0 r.length) [.rows E sz (r.map eA)]:=by
 have V:r = []/\0<=n/\n<=1000000:=by
  unfold Kt at h
  by_cases h1:0<=n
  .by_cases h2:n<=1000000
   .rw [decide_eq_true h1,decide_eq_true h2] at h
    have h:some ([]:List α)=some r:=h
    cases h; exact ⟨rfl,h1,h2⟩
   .rw [decide_eq_false h2,Bool.and_false] at h; cases h
  .rw [decide_eq_false h1,Bool.false_and] at h; cases h
 obtain ⟨rfl,n0,n1⟩:=V
 obtain ⟨m,rfl⟩:∃m:Nat,n=m:=⟨n.toNat,by omega⟩
 refine ⟨g,fun σ F W w ι vs s y=>?_⟩
 obtain ⟨v,u,rfl,S,hu⟩:=Abg y
 obtain rfl:=Vf S
 obtain rfl:=Vf hu
 have M:hp [] 0 = .none:=rfl
 have R:Av (hp []) 0 (.rows E sz [])=hp [.rows E sz []]:=by
  funext i
  match i with
  | 0=>rfl
  | i+1=>rfl
 by_cases h0:m=0
 .subst h0
  have call:=Any8.slices_Grow_room L none 0 0 0 w (Nat.le_refl _) (by decide) (by decide) (by decide)
  rw [N] at call
  refine call.mono ?_
  rintro e w' ⟨rfl,rfl⟩
  obtain ⟨s',le⟩:=s.newNil 0 M E sz q
  rw [R] at s' le
  refine ⟨_,σ,_,rfl,le,s',.arr 0 0 0 0 _ (by intro e; cases e) (fun Z A xs e=>?_) rfl⟩
  cases e
  refine ⟨Nat.le_refl _,fun _=>?_⟩
  unfold Es
  rw [B2]
  exact ⟨rfl,rfl,rfl⟩
 .have hb:(0+m)*l.bytes<=140737488355328:=by
   have:=Nat.mul_le_mul (show 0+m<=1000000 by omega) I
   omega
  have call:=Any8.slices_Grow_grow L l z G D (by omega) none 0 0 m [] w (Nat.le_refl _) (by omega) hb (by omega) (by simp) (fun _=>rfl) (fun a h=>by cases h)
  rw [N,X] at call
  refine call.mono ?_
  rintro e w' ⟨rfl,rfl⟩
  have hge:=U8 w (0+m) 0 E
  generalize grownCap w (0+m) 0 E=cap at hge
  have b:∀k,(Builtin.zeroCells z.cells k).size=k*sz:=by intro k; simp [Builtin.zeroCells,B]
  generalize Y:(([]:List Value).toArray++Builtin.zeroCells z.cells (0+m-0)++Builtin.zeroCells z.cells (cap-(0+m)))=C
  have J:C.size=cap*sz:=by
   rw [<-Y,Array.size_append,Array.size_append,b,b]
   simp only [List.size_toArray,List.length_nil,Nat.zero_add,Nat.sub_zero,<-Nat.add_mul]
   congr 1; omega
  obtain ⟨s',le⟩:=(s.drew (w.drawn+1)).newRows 0 E sz [] cap C (.inl M) q (by simp) (by simp) J ⟨fun _ _=>.bool false,(by intro i x h; simp at h),(by intro i x j c h; simp at h),(by intro i j h; simp at h)⟩
  rw [R] at s' le
  refine ⟨_,σ,_,rfl,le,s',.arr 0 0 0 0 _ (by intro e; cases e) (fun Z A xs e=>?_) rfl⟩
  cases e
  refine ⟨Nat.le_refl _,fun _=>?_⟩
  unfold Es
  rw [B2]
  exact ⟨Nat.zero_le _,by simp⟩
def Aqq:Ren:={f:=fun x=>match x with | 4=>120 | n=>n,t:=fun x=>match x with | 22=>22 | 25=>86 | 3=>3 | 4=>4 | 9=>9 | 20=>20 | 0=>0 | n=>n,g:=fun n=>n}
theorem Aqr:Lays8.n4 Go.Proofs.Tryz.prog Aqq:=by
 constructor
 case f4=>exact Exists.intro "slices.Grow[[]amortcost/api.LinTerm,amortcost/api.LinTerm]" ⟨by kernel_rfl,by kernel_rfl⟩
 all_goals first | kernel_rfl | (intro w; kernel_rfl)
theorem Aqs {α:Type} {eA:α->O} {n:Int} {r:List α} (h:Kt n=some r):Bp Go.Proofs.Tryz.prog 120 [.val (.slice none 0 0),Aa .i64 n] [] (.arr 0 r.length 0 r.length) [.rows 86 2 (r.map eA)] :=
 Abi Aqr rfl ⟨_,Tryz.func120,by kernel_rfl,by kernel_rfl⟩ Tryz.t86 (Tryz.t86.zero.getD .nilFunc) (by kernel_rfl) (by kernel_rfl) rfl (by kernel_rfl) (by kernel_rfl) (by decide) (of_decide_eq_true (by kernel_rfl)) h
def Aqt:Ren:={f:=fun x=>match x with | 4=>272 | n=>n,t:=fun x=>match x with | 22=>67 | 25=>97 | 3=>3 | 4=>4 | 9=>9 | 20=>20 | 0=>0 | n=>n,g:=fun n=>n}
theorem Aqu:Lays8.n4 Go.Proofs.Tryz.prog Aqt:=by
 constructor
 case f4=>exact Exists.intro "slices.Grow[[]amortcost/api.Factor,amortcost/api.Factor]" ⟨by kernel_rfl,by kernel_rfl⟩
 all_goals first | kernel_rfl | (intro w; kernel_rfl)
theorem Aqv {α:Type} {eA:α->O} {n:Int} {r:List α} (h:Kt n=some r):Bp Go.Proofs.Tryz.prog 272 [.val (.slice none 0 0),Aa .i64 n] [] (.arr 0 r.length 0 r.length) [.rows 97 3 (r.map eA)] :=
 Abi Aqu rfl ⟨_,Tryz.func272,by kernel_rfl,by kernel_rfl⟩ Tryz.t97 (Tryz.t97.zero.getD .nilFunc) (by kernel_rfl) (by kernel_rfl) rfl (by kernel_rfl) (by kernel_rfl) (by decide) (of_decide_eq_true (by kernel_rfl)) h
def Aqw:Ren:={f:=fun x=>match x with | 4=>273 | n=>n,t:=fun x=>match x with | 22=>68 | 25=>101 | 3=>3 | 4=>4 | 9=>9 | 20=>20 | 0=>0 | n=>n,g:=fun n=>n}
theorem Aqx:Lays8.n4 Go.Proofs.Tryz.prog Aqw:=by
 constructor
 case f4=>exact Exists.intro "slices.Grow[[]amortcost/api.Atom,amortcost/api.Atom]" ⟨by kernel_rfl,by kernel_rfl⟩
 all_goals first | kernel_rfl | (intro w; kernel_rfl)
theorem Aqy {α:Type} {eA:α->O} {n:Int} {r:List α} (h:Kt n=some r):Bp Go.Proofs.Tryz.prog 273 [.val (.slice none 0 0),Aa .i64 n] [] (.arr 0 r.length 0 r.length) [.rows 101 3 (r.map eA)] :=
 Abi Aqx rfl ⟨_,Tryz.func273,by kernel_rfl,by kernel_rfl⟩ Tryz.t101 (Tryz.t101.zero.getD .nilFunc) (by kernel_rfl) (by kernel_rfl) rfl (by kernel_rfl) (by kernel_rfl) (by decide) (of_decide_eq_true (by kernel_rfl)) h
end Go.Ab
